/- It is proved that CatalogueParts returns true at any two numbers, and changes nothing; there are no conditions. -/
import Derived.Test.YtfocaefnmfkojaaCCatalogueParts4
import Derived.ChangeOld
import Derived.Deep.OwnRows
import Derived.Laws.Rows
import Derived.OpenShut
import Derived.ProofKit
import Derived.ShutString
import Derived.SizedLaws
import Derived.Test.YtfocaefnmfkojaaRows
namespace Go.Proofs.Ytfocaefnmfkojaa.Q
open Go.RowKit Go.Proofs.YtfocaefnmfkojaaW.PrintWords Go.Proofs.YtfocaefnmfkojaaW.PrintLast Go.Proofs.YtfocaefnmfkojaaW.PrintMore
attribute [local go_sem] max2_int min2_int max_two min_two max_three min_three max_four min_four   -- for this text's walks alone
set_option linter.unusedVariables false
set_option linter.unusedSimpArgs false
def ref13_In.j0 : Nat → List (S44) → Int → List Int → Bool → Option ((List (S154)) × Bool)
 | 0, _, _, _, _ => none
 | k + 1, x0, x1, x2, x26 => if x26 = true then (some (([] : List (S154)), false)) else ((ref09_Asks.f x1).bind fun t333 => ((ref11_Of.f k x0 t333 x2).bind fun t334 => ((ref12_Right.f k x0 x2 t334).bind fun t337 => (some (t334, t337)))))
def ref13_In.f (k : Nat) (l0 : List (S44)) (a1 : Int) (l2 : List Int) : Option ((List (S154)) × Bool) := if a1 < 0 then (ref13_In.j0 k l0 a1 l2 true) else (if a1 > 11 then (ref13_In.j0 k l0 a1 l2 true) else ((ref12_Row.f k (l0.length : Int) l2).bind fun t331 => (if t331 = true then ((ref08_Sound.f k l0).bind fun t332 => (ref13_In.j0 k l0 a1 l2 (!t332))) else (ref13_In.j0 k l0 a1 l2 true))))
theorem ref13_In.mono_l : ∀ k, (∀ y0 y1 y2 y3, LeO (ref13_In.j0 k y0 y1 y2 y3) (ref13_In.j0 (k + 1) y0 y1 y2 y3))
 | 0 => fun _ _ _ _ r h => by simp [ref13_In.j0] at h
 | k + 1 => by
  have ih0 := ref13_In.mono_l k
  ·intro y0 y1 y2 y3
   unfold ref13_In.j0
   repeat' first
   | (with_reducible exact ih0 _ _ _ _)
   | (with_reducible exact ref08_Sound.mono _ _)
   | (with_reducible exact ref11_Of.mono _ _ _ _)
   | (with_reducible exact ref12_Right.mono _ _ _ _)
   | (with_reducible exact ref12_Row.mono _ _ _)
   | (with_reducible exact LeO.refl _)
   | (with_reducible exact LeO.none _)
   | (with_reducible refine LeO.ite ?_ ?_)
   | (with_reducible refine LeO.bind ?_ (fun _ => ?_))
   | exact ih0 _ _ _ _
   | exact ref08_Sound.mono _ _
   | exact ref11_Of.mono _ _ _ _
   | exact ref12_Right.mono _ _ _ _
   | exact ref12_Row.mono _ _ _
   | exact LeO.none _
   | refine LeO.ite ?_ ?_
   | refine LeO.bind ?_ (fun _ => ?_)
theorem ref13_In.mono : ∀ a0 a1 a2 k, LeO (ref13_In.f k a0 a1 a2) (ref13_In.f (k + 1) a0 a1 a2) := by
 intro a0 a1 a2 k
 have ih0 := ref13_In.mono_l k
 unfold ref13_In.f
 repeat' first
   | (with_reducible exact ih0 _ _ _ _)
   | (with_reducible exact ref08_Sound.mono _ _)
   | (with_reducible exact ref11_Of.mono _ _ _ _)
   | (with_reducible exact ref12_Right.mono _ _ _ _)
   | (with_reducible exact ref12_Row.mono _ _ _)
   | (with_reducible exact LeO.refl _)
   | (with_reducible exact LeO.none _)
   | (with_reducible refine LeO.ite ?_ ?_)
   | (with_reducible refine LeO.bind ?_ (fun _ => ?_))
   | exact ih0 _ _ _ _
   | exact ref08_Sound.mono _ _
   | exact ref11_Of.mono _ _ _ _
   | exact ref12_Right.mono _ _ _ _
   | exact ref12_Row.mono _ _ _
   | exact LeO.none _
   | refine LeO.ite ?_ ?_
   | refine LeO.bind ?_ (fun _ => ?_)
set_option maxHeartbeats 8000000 in
set_option maxRecDepth 100000 in
theorem ref13_In.calls (k : Nat) (A0 : Option Addr) (c0 : Nat) (l0 : List (S44)) (a1 : Int) (A2 : Option Addr) (c2 : Nat) (l2 : List Int) (r1 : List (S154)) (r2 : Bool) (w : World) (hr0 : Kd.C k44 w A0 l0.length l0) (hc0 : l0.length ≤ c0) (hr2 : Kd.C (Kd.int .i64) w A2 l2.length l2) (hc2 : l2.length ≤ c2) (h : ref13_In.f k l0 a1 l2 = some (r1, r2)) :
  Calls Try.prog 92 #[.slice A0 l0.length c0, .int .i64 a1, .slice A2 l2.length c2] w fun e w' => ∃ v0_ : Value, e = .returned (.tuple #[v0_, .bool r2]) ∧ Kd.R k154 154 w' w.heap.size (fun _ => True) v0_ r1 ∧ Below w.heap.size w w' := by
 have HR0 := Aside0.mk hr0
 have HC0 := Aside0.mk hc0
 clear hr0 hc0
 have HR2 := Aside0.mk hr2
 have HC2 := Aside0.mk hc2
 clear hr2 hc2
 have HB := Aside0.mk (Below.refl w.heap.size w)
 have H : (if a1 < 0 then (ref13_In.j0 k l0 a1 l2 true) else (if a1 > 11 then (ref13_In.j0 k l0 a1 l2 true) else ((ref12_Row.f k (l0.length : Int) l2).bind fun t331 => (if t331 = true then ((ref08_Sound.f k l0).bind fun t332 => (ref13_In.j0 k l0 a1 l2 (!t332))) else (ref13_In.j0 k l0 a1 l2 true))))) = some (r1, r2) := h
 clear h
 have HC4 := Aside0.mk H
 clear H
 go_enter Try.func92, Try.ntmps92
 go_upto_region 1 with (fail)
 go_cut [26] (fun v26 wc => ∃ (kq : Nat) (x26_3 : Bool), v26 = .bool x26_3 ∧ Aside0 (ref13_In.j0 kq l0 a1 l2 x26_3 = some (r1, r2)) ∧ Aside0 (kq ≤ k) ∧ Aside0 (Below w.heap.size w wc))
 case first =>
  have H := HC4.out
  clear HC4
  by_cases c5 : a1 < 0
  ·rw [if_pos c5] at H
   have c5b0 : decide (a1 < 0) = true := decide_eq_true c5
   clear c5
   (first | rw [c5b0] | (simp only [i64_w, i32_w]; rw [c5b0]) | skip)
   have H' := Aside0.mk H
   clear H
   go_wp2
   go_meet
   case rel => exact ⟨_, (true), (by first | rfl | (simp; done) | (simp [*]; done)), H', ⟨by first | omega | exact Nat.le_refl _⟩, ⟨by repeat (first | (with_reducible first | exact HB.out | apply below_alloc | apply pw_below_drewN | apply below_drew1))⟩⟩
  ·rw [if_neg c5] at H
   have c5b0 : decide (a1 < 0) = false := decide_eq_false c5
   clear c5
   (first | rw [c5b0] | (simp only [i64_w, i32_w]; rw [c5b0]) | skip)
   by_cases c6 : a1 > 11
   ·rw [if_pos c6] at H
    have c6b0 : decide (11 < a1) = true := decide_eq_true c6
    clear c6
    have H' := Aside0.mk H
    clear H
    go_wp2
    go_meet
    case rel => exact ⟨_, (true), (by first | rfl | (simp; done) | (simp [*]; done)), H', ⟨by first | omega | exact Nat.le_refl _⟩, ⟨by repeat (first | (with_reducible first | exact HB.out | apply below_alloc | apply pw_below_drewN | apply below_drew1))⟩⟩
   ·rw [if_neg c6] at H
    have c6b0 : decide (11 < a1) = false := decide_eq_false c6
    clear c6
    replace H := Option.bind_eq_some_iff.mp H
    obtain ⟨t331, A70, H⟩ := H
    replace H : (if t331 = true then ((ref08_Sound.f k l0).bind fun t332 => (ref13_In.j0 k l0 a1 l2 (!t332))) else (ref13_In.j0 k l0 a1 l2 true)) = some (r1, r2) := H
    have A7 := Aside0.mk A70
    clear A70
    by_cases c8 : t331 = true
    ·subst c8
     have H1 : ((ref08_Sound.f k l0).bind fun t332 => (ref13_In.j0 k l0 a1 l2 (!t332))) = some (r1, r2) := by rw [if_pos rfl] at H; exact H
     clear H
     have H := H1
     clear H1
     replace H := Option.bind_eq_some_iff.mp H
     obtain ⟨t332, A90, H⟩ := H
     replace H : (ref13_In.j0 k l0 a1 l2 (!t332)) = some (r1, r2) := H
     have A9 := Aside0.mk A90
     clear A90
     have H' := Aside0.mk H
     clear H
     go_wp2_with (first | (go_at_call 104; (with_reducible refine (ref12_Row.calls k (l0.length : Int) _ _ l2 true _ ?side1 ?side2 A7.out).mono ?_); (case side1 => repeat (first | exact (Kd.C_below HR2.out HB.out) | (with_reducible refine Kd.C_alloc ?_ _) | (with_reducible refine Kd.C_drewN ?_ _) | (with_reducible refine Kd.C_drew ?_))); (case side2 => exact HC2.out); rintro e w' ⟨rfl, ⟨nd, rfl⟩⟩) | (go_at_call 42; (with_reducible refine (ref08_Sound.calls k _ _ l0 t332 _ ?side1 ?side2 A9.out).mono ?_); (case side1 => repeat (first | exact (Kd.C_below HR0.out (by repeat (first | (with_reducible first | exact HB.out | apply below_alloc | apply pw_below_drewN | apply below_drew1)))) | (with_reducible refine Kd.C_alloc ?_ _) | (with_reducible refine Kd.C_drewN ?_ _) | (with_reducible refine Kd.C_drew ?_))); (case side2 => exact HC0.out); rintro e w10 ⟨rfl, hb⟩; have n0_ := Aside0.mk (below_step (by repeat (first | (with_reducible first | exact HB.out | apply below_alloc | apply pw_below_drewN | apply below_drew1))) hb); clear HB; have HB := n0_; clear n0_; (try clear hb); (try clear hb2); (try clear hk); (try clear hi)))
     go_meet
     case rel => exact ⟨_, (!t332), (by first | rfl | (simp; done) | (simp [*]; done)), H', ⟨by first | omega | exact Nat.le_refl _⟩, ⟨by repeat (first | (with_reducible first | exact HB.out | apply below_alloc | apply pw_below_drewN | apply below_drew1))⟩⟩
    ·replace c8 := Bool.eq_false_iff.mpr c8
     subst c8
     have H1 : (ref13_In.j0 k l0 a1 l2 true) = some (r1, r2) := by rw [if_neg (show ¬ (false = true) by decide)] at H; exact H
     clear H
     have H := H1
     clear H1
     have H' := Aside0.mk H
     clear H
     go_wp2_with (first | (go_at_call 104; (with_reducible refine (ref12_Row.calls k (l0.length : Int) _ _ l2 false _ ?side1 ?side2 A7.out).mono ?_); (case side1 => repeat (first | exact (Kd.C_below HR2.out HB.out) | (with_reducible refine Kd.C_alloc ?_ _) | (with_reducible refine Kd.C_drewN ?_ _) | (with_reducible refine Kd.C_drew ?_))); (case side2 => exact HC2.out); rintro e w' ⟨rfl, ⟨nd, rfl⟩⟩))
     go_meet
     case rel => exact ⟨_, (true), (by first | rfl | (simp; done) | (simp [*]; done)), H', ⟨by first | omega | exact Nat.le_refl _⟩, ⟨by repeat (first | (with_reducible first | exact HB.out | apply below_alloc | apply pw_below_drewN | apply below_drew1))⟩⟩
 case rest =>
  clear HC4
  try clear c2
  try clear p2
  try clear c5
  try clear c5b0
  try clear c6
  try clear c6b0
  try clear c8
  try clear c9
  obtain ⟨kq, x26_3, rfl, HA, HJ3, HB⟩ := hcut
  cases kq with
  | zero => exact absurd HA.out (by simp [ref13_In.j0])
  | succ kj3 =>
   have H := HA.out
   clear HA
   simp only [ref13_In.j0] at H
   by_cases c11 : x26_3 = true
   ·subst c11
    have H1 : (some (([] : List (S154)), false)) = some (r1, r2) := by rw [if_pos rfl] at H; exact H
    clear H
    have H := H1
    clear H1
    simp only [Option.some.injEq, Prod.mk.injEq] at H
    obtain ⟨rfl, rfl⟩ := H
    go_wp2
    go_ret2
    exact ⟨_, by first | rfl | (simp <;> rfl) | (simp [*] <;> rfl), by first | exact Kd.R_nil _ _ _ _ _ | exact Kd.N_nil _ _ _ _ _ | exact Kd.V_nil _ _ _ _ _ | exact Kd.Q_nil _ _ _ _ _ | exact Kd.S_nil _ _ _ _ _, by repeat (first | (with_reducible first | exact HB.out | apply below_alloc | apply pw_below_drewN | apply below_drew1))⟩
   ·replace c11 := Bool.eq_false_iff.mpr c11
    subst c11
    have H1 : ((ref09_Asks.f a1).bind fun t333 => ((ref11_Of.f kj3 l0 t333 l2).bind fun t334 => ((ref12_Right.f kj3 l0 l2 t334).bind fun t337 => (some (t334, t337))))) = some (r1, r2) := by rw [if_neg (show ¬ (false = true) by decide)] at H; exact H
    clear H
    have H := H1
    clear H1
    replace H := Option.bind_eq_some_iff.mp H
    obtain ⟨t333, A120, H⟩ := H
    replace H : ((ref11_Of.f kj3 l0 t333 l2).bind fun t334 => ((ref12_Right.f kj3 l0 l2 t334).bind fun t337 => (some (t334, t337)))) = some (r1, r2) := H
    have A12 := Aside0.mk A120
    clear A120
    replace H := Option.bind_eq_some_iff.mp H
    obtain ⟨t334, A130, H⟩ := H
    replace H : ((ref12_Right.f kj3 l0 l2 t334).bind fun t337 => (some (t334, t337))) = some (r1, r2) := H
    have A13 := Aside0.mk A130
    clear A130
    replace H := Option.bind_eq_some_iff.mp H
    obtain ⟨t337, A140, H⟩ := H
    replace H : (some (t334, t337)) = some (r1, r2) := H
    have A14 := Aside0.mk A140
    clear A140
    simp only [Option.some.injEq, Prod.mk.injEq] at H
    obtain ⟨rfl, rfl⟩ := H
    go_wp2_with (first | ((with_reducible refine gate_callee (f := 19) rfl ?_); refine goesL_ (some 29) rfl rfl Try.func19 (by kernel_rfl) rfl #[.int .i64 a1] rfl (by (try simp only [List.map_toArray, List.map_cons, List.map_nil]); first | done | rfl | (simp only [List.length_drop, List.length_take]; rfl)) ?_; (with_reducible refine (ref09_Asks.calls a1 t333 _ A12.out).mono ?_); rintro e w' ⟨rfl, ⟨nd, rfl⟩⟩; refine ⟨_, rfl, ?_⟩) | ((with_reducible refine gate_callee (f := 105) rfl ?_); refine goesL_ (some 31) rfl rfl Try.func105 (by kernel_rfl) rfl #[.slice A0 l0.length c0, .int .i64 t333, .slice A2 l2.length c2] rfl (by (try simp only [List.map_toArray, List.map_cons, List.map_nil]); first | done | rfl | (simp only [List.length_drop, List.length_take]; rfl)) ?_; (with_reducible refine (ref11_Of.calls kj3 _ _ l0 t333 _ _ l2 t334 _ ?side1 ?side2 ?side3 ?side4 A13.out).mono ?_); (case side1 => repeat (first | exact (Kd.C_below HR0.out (by repeat (first | (with_reducible first | exact HB.out | apply below_alloc | apply pw_below_drewN | apply below_drew1)))) | (with_reducible refine Kd.C_alloc ?_ _) | (with_reducible refine Kd.C_drewN ?_ _) | (with_reducible refine Kd.C_drew ?_))); (case side2 => exact HC0.out); (case side3 => repeat (first | exact (Kd.C_below HR2.out (by repeat (first | (with_reducible first | exact HB.out | apply below_alloc | apply pw_below_drewN | apply below_drew1)))) | (with_reducible refine Kd.C_alloc ?_ _) | (with_reducible refine Kd.C_drewN ?_ _) | (with_reducible refine Kd.C_drew ?_))); (case side4 => exact HC2.out); rintro e w15 ⟨v335, rfl, ho0, hb⟩; refine ⟨_, rfl, ?_⟩; have n0_ := Aside0.mk (Kd.R_lower ho0 (below_size (by repeat (first | (with_reducible first | exact HB.out | apply below_alloc | apply pw_below_drewN | apply below_drew1))))); have n1_ := Aside0.mk (below_step (by repeat (first | (with_reducible first | exact HB.out | apply below_alloc | apply pw_below_drewN | apply below_drew1))) hb); clear HB; have HO336 := n0_; have HB := n1_; clear n0_ n1_; (try clear hb); (try clear hb2); (try clear hk); (try clear hi); (try clear ho0); obtain ⟨Ao16, co16, eo16⟩ := Kd.R_slice HO336.out; subst eo16) | ((with_reducible refine gate_callee (f := 106) rfl ?_); refine goesL_ (some 36) rfl rfl Try.func106 (by kernel_rfl) rfl #[.slice A0 l0.length c0, .slice A2 l2.length c2, .slice Ao16 t334.length co16] rfl (by (try simp only [List.map_toArray, List.map_cons, List.map_nil]); first | done | rfl | (simp only [List.length_drop, List.length_take]; rfl)) ?_; (with_reducible refine (ref12_Right.calls kj3 _ _ l0 _ _ l2 _ _ t334 t337 _ ?side1 ?side2 ?side3 ?side4 ?side5 ?side6 A14.out).mono ?_); (case side1 => repeat (first | exact (Kd.C_below HR0.out HB.out) | (with_reducible refine Kd.C_alloc ?_ _) | (with_reducible refine Kd.C_drewN ?_ _) | (with_reducible refine Kd.C_drew ?_))); (case side2 => exact HC0.out); (case side3 => repeat (first | exact (Kd.C_below HR2.out HB.out) | (with_reducible refine Kd.C_alloc ?_ _) | (with_reducible refine Kd.C_drewN ?_ _) | (with_reducible refine Kd.C_drew ?_))); (case side4 => exact HC2.out); (case side5 => repeat (first | exact (Kd.R_reads' HO336.out).2.2 | (with_reducible refine Kd.C_alloc ?_ _) | (with_reducible refine Kd.C_drewN ?_ _) | (with_reducible refine Kd.C_drew ?_))); (case side6 => exact (Kd.R_reads' HO336.out).2.1); rintro e w17 ⟨rfl, hb⟩; refine ⟨_, rfl, ?_⟩; have n0_ := Aside0.mk (Kd.R_below (by (with_reducible repeat (first | apply Kd.R_alloc | apply Kd.R_drewN | apply Kd.R_drew)); exact HO336.out) hb); have n1_ := Aside0.mk (below_step (by repeat (first | (with_reducible first | exact HB.out | apply below_alloc | apply pw_below_drewN | apply below_drew1))) hb); clear HO336; clear HB; have HO336 := n0_; have HB := n1_; clear n0_ n1_; (try clear hb); (try clear hb2); (try clear hk); (try clear hi)))
    go_ret2
    exact ⟨_, by first | rfl | (simp <;> rfl) | (simp [*] <;> rfl), by (with_reducible repeat (first | apply Kd.R_alloc | apply Kd.R_drewN | apply Kd.R_drew)); exact HO336.out, by repeat (first | (with_reducible first | exact HB.out | apply below_alloc | apply pw_below_drewN | apply below_drew1))⟩
def ref13_without.f (l0 : List Int) (a1 : Int) : Option (List Int) := (some (([] : List Int) : List Int)).bind fun y338 => (if 0 ≤ a1 then (if a1 ≤ (l0.length : Int) then (if y338.length + (l0.take (a1 : Int).toNat).length < 17592186044416 then ((some (y338 ++ (l0.take (a1 : Int).toNat) : List Int)).bind fun y342 => (if 0 ≤ (wrap64 (a1 + 1)) then (if (wrap64 (a1 + 1)) ≤ (l0.length : Int) then (if y342.length + (l0.drop ((wrap64 (a1 + 1)) : Int).toNat).length < 17592186044416 then (some (y342 ++ (l0.drop ((wrap64 (a1 + 1)) : Int).toNat))) else (none)) else (none)) else (none))) else (none)) else (none)) else (none))
def ref13_without.T1 : Bool × List (List Nat × List Nat) := (true, [([], []), ([], []), ([], []), ([1, 2], [1, 2]), ([0, 3], [0, 3]), ([], []), ([], []), ([6], [6]), ([5, 7], [5, 7]), ([4, 8, 4], [4, 8]), ([9, 9, 0, 1, 2, 3, 4, 5, 6, 7, 8, 9], [9])])
def ref13_without.B1 : List Nat := [0, 0, 0, 6, 15, 0, 0, 64, 224, 511, 1023]
theorem ref13_without.tab1 : rtab .any (opsOf Try.f93 1) = ref13_without.T1 := by kernel_rfl
theorem ref13_without.bits1 : waitsOk ref13_without.T1.2 ref13_without.B1 = true := by kernel_rfl
set_option maxHeartbeats 8000000 in
set_option maxRecDepth 100000 in
theorem ref13_without.calls (A0 : Option Addr) (c0 : Nat) (l0 : List Int) (a1 : Int) (r : List Int) (w : World) (hr0 : Kd.C (Kd.int .i64) w A0 l0.length l0) (hc0 : l0.length ≤ c0) (h : ref13_without.f l0 a1 = some r) :
  Calls Try.prog 93 #[.slice A0 l0.length c0, .int .i64 a1] w fun e w' => ∃ v0_ : Value, e = .returned (v0_) ∧ Kd.R (Kd.int .i64) 3 w' w.heap.size (fun _ => True) v0_ r ∧ Below w.heap.size w w' := by
 have HR0 := Aside0.mk hr0
 have HC0 := Aside0.mk hc0
 clear hr0 hc0
 have HB := Aside0.mk (Below.refl w.heap.size w)
 have H : ((some (([] : List Int) : List Int)).bind fun y338 => (if 0 ≤ a1 then (if a1 ≤ (l0.length : Int) then (if y338.length + (l0.take (a1 : Int).toNat).length < 17592186044416 then ((some (y338 ++ (l0.take (a1 : Int).toNat) : List Int)).bind fun y342 => (if 0 ≤ (wrap64 (a1 + 1)) then (if (wrap64 (a1 + 1)) ≤ (l0.length : Int) then (if y342.length + (l0.drop ((wrap64 (a1 + 1)) : Int).toNat).length < 17592186044416 then (some (y342 ++ (l0.drop ((wrap64 (a1 + 1)) : Int).toNat))) else (none)) else (none)) else (none))) else (none)) else (none)) else (none))) = some r := h
 clear h
 obtain ⟨y338, hy338⟩ : ∃ y_ : List Int, y_ = (([] : List Int)) := ⟨_, rfl⟩
 replace H : (if 0 ≤ a1 then (if a1 ≤ (l0.length : Int) then (if y338.length + (l0.take (a1 : Int).toNat).length < 17592186044416 then ((some (y338 ++ (l0.take (a1 : Int).toNat) : List Int)).bind fun y342 => (if 0 ≤ (wrap64 (a1 + 1)) then (if (wrap64 (a1 + 1)) ≤ (l0.length : Int) then (if y342.length + (l0.drop ((wrap64 (a1 + 1)) : Int).toNat).length < 17592186044416 then (some (y342 ++ (l0.drop ((wrap64 (a1 + 1)) : Int).toNat))) else (none)) else (none)) else (none))) else (none)) else (none)) else (none)) = some r := by first | (rw [hy338]; with_reducible exact H) | (have H2_ := (Option.bind_some _ _).symm.trans H; rw [hy338]; with_reducible exact H2_) | (have H2_ := (Option.bind_some _ _).symm.trans H; with_reducible exact H2_) | with_reducible exact H | (rw [hy338]; exact H) | exact H
 have Ny338 := Aside0.mk hy338
 clear hy338
 by_cases c3 : 0 ≤ a1
 ·rw [if_pos c3] at H
  have c3b0 := eq_true c3
  have c3b1 : decide (0 ≤ a1) = true := decide_eq_true c3
  clear c3
  by_cases c4 : a1 ≤ (l0.length : Int)
  ·rw [if_pos c4] at H
   have c4b0 := eq_true c4
   have c4b1 : decide (a1 ≤ (l0.length : Int)) = true := decide_eq_true c4
   clear c4
   by_cases c5 : y338.length + (l0.take (a1 : Int).toNat).length < 17592186044416
   ·rw [if_pos c5] at H
    have LMc5 := Aside0.mk c5
    clear c5
    obtain ⟨y342, hy342⟩ : ∃ y_ : List Int, y_ = (y338 ++ (l0.take (a1 : Int).toNat)) := ⟨_, rfl⟩
    replace H : (if 0 ≤ (wrap64 (a1 + 1)) then (if (wrap64 (a1 + 1)) ≤ (l0.length : Int) then (if y342.length + (l0.drop ((wrap64 (a1 + 1)) : Int).toNat).length < 17592186044416 then (some (y342 ++ (l0.drop ((wrap64 (a1 + 1)) : Int).toNat))) else (none)) else (none)) else (none)) = some r := by first | (rw [hy342]; with_reducible exact H) | (have H2_ := (Option.bind_some _ _).symm.trans H; rw [hy342]; with_reducible exact H2_) | (have H2_ := (Option.bind_some _ _).symm.trans H; with_reducible exact H2_) | with_reducible exact H | (rw [hy342]; exact H) | exact H
    have Ny342 := Aside0.mk hy342
    clear hy342
    obtain ⟨ji6, hji6⟩ : ∃ j_ : Int, (wrap64 (a1 + 1)) = j_ := ⟨_, rfl⟩
    replace H : (if 0 ≤ (ji6) then (if (ji6) ≤ (l0.length : Int) then (if y342.length + (l0.drop ((ji6) : Int).toNat).length < 17592186044416 then (some (y342 ++ (l0.drop ((ji6) : Int).toNat))) else (none)) else (none)) else (none)) = some r := by first | (rw [hji6] at H; exact H) | (simp only [hji6] at H ⊢; exact H)
    have hji6w : (IntKind.i64.wrap (a1 + 1)) = ji6 := (i64_w _).trans hji6
    by_cases c7 : 0 ≤ (ji6)
    ·rw [if_pos c7] at H
     have c7b0 := eq_true c7
     have c7b1 : decide (0 ≤ (ji6)) = true := decide_eq_true c7
     clear c7
     by_cases c8 : (ji6) ≤ (l0.length : Int)
     ·rw [if_pos c8] at H
      have c8b0 := eq_true c8
      have c8b1 : decide ((ji6) ≤ (l0.length : Int)) = true := decide_eq_true c8
      clear c8
      by_cases c9 : y342.length + (l0.drop ((ji6) : Int).toNat).length < 17592186044416
      ·rw [if_pos c9] at H
       have LMc9 := Aside0.mk c9
       clear c9
       obtain ⟨y346, hy346⟩ : ∃ y_ : List Int, y_ = (y342 ++ (l0.drop ((ji6) : Int).toNat)) := ⟨_, rfl⟩
       replace H : (some y346) = some r := by first | (rw [hy346]; with_reducible exact H) | (have H2_ := (Option.bind_some _ _).symm.trans H; rw [hy346]; with_reducible exact H2_) | (have H2_ := (Option.bind_some _ _).symm.trans H; with_reducible exact H2_) | with_reducible exact H | (rw [hy346]; exact H) | exact H
       have Ny346 := Aside0.mk hy346
       clear hy346
       obtain rfl := Option.some.inj H
       go_enter Try.func93, Try.ntmps93
       try go_wp2
       have n0_ := Aside0.mk (below_drew1 HB.out)
       clear HB
       have HB := n0_
       clear n0_
       obtain ⟨i011, hi011, _, hsz11, _⟩ := info_parts info3
       obtain ⟨hcut11, hA11, hC11⟩ := print_take_of (P := Try.prog) (Value.int .i64) 0 69 3 .i64 Try.underlying69 hi011 hsz11 A0 c0 l0 a1 (of_decide_eq_true (by assumption)) (of_decide_eq_true (by assumption)) HC0.out
       have HR341 := Aside0.mk (Kd.C_of_reads (h1 := fun _ => rfl) (hA11 _ (Kd.reads_of_C HR0.out)))
       have HC341 := Aside0.mk hC11
       clear hA11 hC11 hi011 hsz11
       obtain ⟨i012, hi012, _, hsz12, _⟩ := info_parts info3
       obtain ⟨A12, hcut12, hA12, hC12⟩ := print_drop_of (P := Try.prog) (Value.int .i64) 0 69 3 .i64 Try.underlying69 hi012 hsz12 A0 c0 l0 (ji6) (of_decide_eq_true (by assumption)) (of_decide_eq_true (by assumption)) HC0.out
       have HR345 := Aside0.mk (Kd.C_of_reads (h1 := fun _ => rfl) (hA12 _ (Kd.reads_of_C HR0.out)))
       have HC345 := Aside0.mk hC12
       clear hA12 hC12 hi012 hsz12
       refine start_ (n := 11) (S := fun w' => True) (ds := []) #[false, false, false, false, false, false, false, false, false, false, false] (by kernel_rfl) rfl rfl trivial (fun hHeld => ?_); refine with_tabW ref13_without.tab1 ref13_without.bits1 (fun HT_ HW_ => ?_)
       generalize w.drew = w10 at HB HR341 HR345 hHeld ⊢
       refine pure_ (i := 1) (N := some 6) (v := ?_) (a' := ?_) #[false, true, false, false, false, false, false, false, false, false, false] rfl rfl (any_of HT_.out (by kernel_rfl)) (fun _ _ _ h => h) (Or.inl ⟨by rfl, ?_⟩) ?_ ?_
       rotate_left
       ·intro w'
        go_simp
        with_reducible rfl
       rotate_left
       ·simp only [Act.put, List.setIfInBounds_toArray, List.set_cons_zero, List.set_cons_succ, i64_w, i32_w]
        rfl
       refine pure_ (i := 2) (N := some 7) (v := ?_) (a' := ?_) #[false, true, true, false, false, false, false, false, false, false, false] rfl rfl (any_of HT_.out (by kernel_rfl)) (fun _ _ _ h => h) (Or.inl ⟨by rfl, ?_⟩) ?_ ?_
       rotate_left
       ·intro w'
        go_simp
        with_reducible rfl
       rotate_left
       ·simp only [Act.put, List.setIfInBounds_toArray, List.set_cons_zero, List.set_cons_succ, i64_w, i32_w]
        rfl
       refine pure_ (i := 3) (N := some 8) (v := ?_) (a' := ?_) #[false, true, true, true, false, false, false, false, false, false, false] rfl rfl (any_of HT_.out (by kernel_rfl)) (fun _ _ _ h => h) (Or.inl ⟨by rfl, ?_⟩) ?_ ?_
       rotate_left
       ·intro w'
        go_simp
        with_reducible rfl
       rotate_left
       ·simp only [Act.put, List.setIfInBounds_toArray, List.set_cons_zero, List.set_cons_succ, i64_w, i32_w]
        rfl
       refine pure_ (i := 5) (N := some 10) (v := ?_) (a' := ?_) #[false, true, true, true, false, true, false, false, false, false, false] rfl rfl (any_of HT_.out (by kernel_rfl)) (fun _ _ _ h => h) (Or.inl ⟨by rfl, ?_⟩) ?_ ?_
       rotate_left
       ·intro w'
        go_simp
        with_reducible rfl
       rotate_left
       ·simp only [Act.put, List.setIfInBounds_toArray, List.set_cons_zero, List.set_cons_succ, i64_w, i32_w]
        rfl
       refine pure_ (i := 6) (N := some 11) (v := ?_) (a' := ?_) #[false, true, true, true, false, true, true, false, false, false, false] rfl rfl (any_of HT_.out (by kernel_rfl)) (fun _ _ _ h => h) (Or.inl ⟨by rfl, ?_⟩) ?_ ?_
       rotate_left
       ·intro w'
        go_simp
        with_reducible rfl
       rotate_left
       ·simp only [Act.put, List.setIfInBounds_toArray, List.set_cons_zero, List.set_cons_succ, i64_w, i32_w]
        rfl
       refine pure_ (i := 7) (N := some 12) (v := ?_) (a' := ?_) #[false, true, true, true, false, true, true, true, false, false, false] rfl rfl (any_of HT_.out (by kernel_rfl)) (fun _ _ _ h => h) (Or.inl ⟨by rfl, ?_⟩) ?_ ?_
       rotate_left
       ·intro w'
        go_simp
        with_reducible rfl
       rotate_left
       ·simp only [Act.put, List.setIfInBounds_toArray, List.set_cons_zero, List.set_cons_succ, i64_w, i32_w]
        rfl
       refine pure_ (i := 8) (N := some 13) (v := ?_) (a' := ?_) #[false, true, true, true, false, true, true, true, true, false, false] rfl rfl (any_of HT_.out (by kernel_rfl)) (fun _ _ _ h => h) (Or.inl ⟨by rfl, ?_⟩) ?_ ?_
       rotate_left
       ·intro w'
        go_simp
        with_reducible rfl
       rotate_left
       ·simp only [Act.put, List.setIfInBounds_toArray, List.set_cons_zero, List.set_cons_succ, i64_w, i32_w]
        rfl
       refine one_ (i := 0) (N := some 5) #[true, true, true, true, false, true, true, true, true, false, false] rfl rfl (one_of HT_.out (by kernel_rfl)) (by decide) (fun K hK => ?_)
       refine Kd.R_lit_step (Kd.int .i64) _ 3 ?hg (N := 5) ?hd (xs := ([] : List Int)) (inner := []) (ok := fun _ => True) (okp := fun _ => True) ?hr ?hp (fun _ hk => hk) trivial (Below.refl _ _) (Nat.le_refl _) (by simp) ?_; (case hd => rfl); (case hg => rfl); (case hr => first | (go_simp; done) | (go_simp; rfl)); (case hp => exact (Reps.none _ _))
       intro v339 w13 ho14 hb hg_ hnew_
       clear hg_ hnew_
       (first | rw [← Ny338.out] at ho14 | (simp only [Int.reduceToNat] at ho14; rw [← Ny338.out] at ho14))
       have n0_ := Aside0.mk (Kd.R_lower ho14 (below_size (by repeat (first | (with_reducible first | exact HB.out | apply below_alloc | apply pw_below_drewN | apply below_drew1)))))
       have n1_ := Aside0.mk (below_step (by repeat (first | (with_reducible first | exact HB.out | apply below_alloc | apply pw_below_drewN | apply below_drew1))) hb)
       clear HB
       have HO340 := n0_
       have HB := n1_
       clear n0_ n1_
       clear hb ho14
       refine hK.out _ _ trivial (fun hHeld => ?_)
       clear hK K
       refine norm_ (a' := ?_) ?_ ?_
       rotate_left
       ·show Act.put _ (some 5) _ = _
        simp only [Act.put, List.setIfInBounds_toArray, List.set_cons_zero, List.set_cons_succ, i64_w, i32_w]
        rfl
       refine one_ (i := 4) (N := some 9) #[true, true, true, true, true, true, true, true, true, false, false] rfl rfl (one_of HT_.out (by kernel_rfl)) (by decide) (fun K hK => ?_)
       refine Kd.R_append_rows_step (Kd.int .i64) (w0 := w) w.heap.size (by rfl) (.tmp 5) (.tmp 8) 69 3 (.int .i64 0) 8 rfl Try.underlying69 info3 rfl (by decide) (by omega) v339 y338 (l0.take (a1 : Int).toNat) _ _ _ (fun _ => True) (fun _ => False) rfl rfl ?aO ?aR (fun _ _ h => h) (fun _ h => h.elim) ?aF ?aB ?aS ?aL ?_
       (case aR => first | (have hq_ : (l0.take (a1 : Int).toNat).length = a1.toNat := (by rw [List.length_take]; have h_ : (a1 : Int) ≤ (l0.length : Int) := of_decide_eq_true (by assumption); omega); have hz_ := Kd.C_below HR341.out HB.out; rw [hq_] at hz_; exact hz_) | (rw [← show (l0.take (a1 : Int).toNat).length = a1.toNat from (by rw [List.length_take]; have h_ : (a1 : Int) ≤ (l0.length : Int) := of_decide_eq_true (by assumption); omega)]; repeat (first | exact (Kd.C_below HR341.out HB.out) | (with_reducible refine Kd.C_alloc ?_ _) | (with_reducible refine Kd.C_drewN ?_ _) | (with_reducible refine Kd.C_drew ?_))) | (repeat (first | exact (Kd.C_below HR341.out HB.out) | (with_reducible refine Kd.C_alloc ?_ _) | (with_reducible refine Kd.C_drewN ?_ _) | (with_reducible refine Kd.C_drew ?_))))
       (case aB => exact (by repeat (first | (with_reducible first | exact HB.out | apply below_alloc | apply pw_below_drewN | apply below_drew1))))
       (case aF => exact (fun _ _ => trivial))
       (case aO => exact (by (with_reducible repeat (first | apply Kd.R_alloc | apply Kd.R_drewN | apply Kd.R_drew)); exact HO340.out))
       (case aS => exact (below_size (by repeat (first | (with_reducible first | exact HB.out | apply below_alloc | apply pw_below_drewN | apply below_drew1)))))
       (case aL => have := LMc5.out; have hlx_ := (show (l0.take (a1 : Int).toNat).length = a1.toNat from (by rw [List.length_take]; have h_ : (a1 : Int) ≤ (l0.length : Int) := of_decide_eq_true (by assumption); omega)); omega)
       intro v343 w15 ho hb hg hat
       rw [← Ny342.out] at ho
       have n0_ := Aside0.mk (hb)
       have n1_ := Aside0.mk (ho)
       clear HB
       clear HO340
       have HB := n0_
       have HO344 := n1_
       clear n0_ n1_
       clear ho hb hg hat
       refine hK.out _ _ trivial (fun hHeld => ?_)
       clear hK K
       refine norm_ (a' := ?_) ?_ ?_
       rotate_left
       ·show Act.put _ (some 9) _ = _
        simp only [Act.put, List.setIfInBounds_toArray, List.set_cons_zero, List.set_cons_succ, i64_w, i32_w]
        rfl
       refine one_ (i := 9) (N := some 14) #[true, true, true, true, true, true, true, true, true, true, false] rfl rfl (one_of HT_.out (by kernel_rfl)) (by decide) (fun K hK => ?_)
       refine Kd.R_append_rows_step (Kd.int .i64) (w0 := w) w.heap.size (by rfl) (.tmp 9) (.tmp 13) 69 3 (.int .i64 0) 8 rfl Try.underlying69 info3 rfl (by decide) (by omega) v343 y342 (l0.drop ((ji6) : Int).toNat) _ _ _ (fun _ => True) (fun _ => False) rfl rfl ?aO ?aR (fun _ _ h => h) (fun _ h => h.elim) ?aF ?aB ?aS ?aL ?_
       (case aR => first | (have hq_ : (l0.drop ((ji6) : Int).toNat).length = (l0.length - (ji6).toNat) := List.length_drop; have hz_ := Kd.C_below HR345.out HB.out; rw [hq_] at hz_; exact hz_) | (rw [← show (l0.drop ((ji6) : Int).toNat).length = (l0.length - (ji6).toNat) from List.length_drop]; repeat (first | exact (Kd.C_below HR345.out HB.out) | (with_reducible refine Kd.C_alloc ?_ _) | (with_reducible refine Kd.C_drewN ?_ _) | (with_reducible refine Kd.C_drew ?_))) | (repeat (first | exact (Kd.C_below HR345.out HB.out) | (with_reducible refine Kd.C_alloc ?_ _) | (with_reducible refine Kd.C_drewN ?_ _) | (with_reducible refine Kd.C_drew ?_))))
       (case aB => exact (by repeat (first | (with_reducible first | exact HB.out | apply below_alloc | apply pw_below_drewN | apply below_drew1))))
       (case aF => exact (fun _ _ => trivial))
       (case aO => exact (by (with_reducible repeat (first | apply Kd.R_alloc | apply Kd.R_drewN | apply Kd.R_drew)); exact HO344.out))
       (case aS => exact (below_size (by repeat (first | (with_reducible first | exact HB.out | apply below_alloc | apply pw_below_drewN | apply below_drew1)))))
       (case aL => have := LMc9.out; have hlx_ := (show (l0.drop ((ji6) : Int).toNat).length = (l0.length - (ji6).toNat) from List.length_drop); omega)
       intro v347 w16 ho hb hg hat
       rw [← Ny346.out] at ho
       have n0_ := Aside0.mk (hb)
       have n1_ := Aside0.mk (ho)
       clear HB
       clear HO344
       have HB := n0_
       have HO348 := n1_
       clear n0_ n1_
       clear ho hb hg hat
       refine hK.out _ _ trivial (fun hHeld => ?_)
       clear hK K
       refine norm_ (a' := ?_) ?_ ?_
       rotate_left
       ·show Act.put _ (some 14) _ = _
        simp only [Act.put, List.setIfInBounds_toArray, List.set_cons_zero, List.set_cons_succ, i64_w, i32_w]
        rfl
       refine pure_ (i := 10) (N := some 4) (v := ?_) (a' := ?_) #[true, true, true, true, true, true, true, true, true, true, true] rfl rfl (any_of HT_.out (by kernel_rfl)) (fun _ _ _ h => h) (Or.inl ⟨by rfl, ?_⟩) ?_ ?_
       rotate_left
       ·intro w'
        go_simp
        with_reducible rfl
       rotate_left
       ·simp only [Act.put, List.setIfInBounds_toArray, List.set_cons_zero, List.set_cons_succ, i64_w, i32_w]
        rfl
       refine done_ (done_of HT_.out (by kernel_rfl)) ?_
       try go_wp2
       go_ret
       exact ⟨_, by first | rfl | (simp [errW_none, errW_some] <;> rfl) | (simp only [← hji6]; first | rfl | (simp [errW_none, errW_some] <;> rfl)) | (simp [*, errW_none, errW_some] <;> rfl), by (with_reducible repeat (first | apply Kd.R_alloc | apply Kd.R_drewN | apply Kd.R_drew)); exact HO348.out, by repeat (first | (with_reducible first | exact HB.out | apply below_alloc | apply pw_below_drewN | apply below_drew1))⟩
      ·rw [if_neg c9] at H
       exact absurd H (by simp)
     ·rw [if_neg c8] at H
      exact absurd H (by simp)
    ·rw [if_neg c7] at H
     exact absurd H (by simp)
   ·rw [if_neg c5] at H
    exact absurd H (by simp)
  ·rw [if_neg c4] at H
   exact absurd H (by simp)
 ·rw [if_neg c3] at H
  exact absurd H (by simp)
end Go.Proofs.Ytfocaefnmfkojaa.Q
namespace Go.Proofs.Ytfocaefnmfkojaa.Q
open Go.RowKit Go.Proofs.YtfocaefnmfkojaaW.PrintWords Go.Proofs.YtfocaefnmfkojaaW.PrintLast Go.Proofs.YtfocaefnmfkojaaW.PrintMore
attribute [local go_sem] max2_int min2_int max_two min_two max_three min_three max_four min_four   -- for this text's walks alone
set_option linter.unusedVariables false
set_option linter.unusedSimpArgs false
mutual
def ref13_count.l0 : Nat → List (S44) → Int → List Int → List Int → Bool → Int → Int → Option (Int)
 | 0, _, _, _, _, _, _, _ => none
 | k + 1, x0, x1, x2, x3, x4, x13, x14 => if x14 < (x3.length : Int) then (if x4 = true then (ref13_count.j1 k x0 x1 x2 x3 x4 x13 x14 (!(decide (x13 > 0)))) else (ref13_count.j1 k x0 x1 x2 x3 x4 x13 x14 (!false))) else (ref13_count.j1 k x0 x1 x2 x3 x4 x13 x14 false)
def ref13_count.j1 : Nat → List (S44) → Int → List Int → List Int → Bool → Int → Int → Bool → Option (Int)
 | 0, _, _, _, _, _, _, _, _ => none
 | k + 1, x0, x1, x2, x3, x4, x13, x14, x37 => if x37 = true then ((some (([] : List Int) : List Int)).bind fun y353 => (if y353.length + x2.length < 17592186044416 then ((some (y353 ++ x2 : List Int)).bind fun y356 => (if 0 ≤ x14 then (if x14 < (x3.length : Int) then ((some (([rd x3 x14] : List Int) : List Int)).bind fun y360 => (if y356.length + y360.length < 17592186044416 then ((ref13_without.f x3 x14).bind fun t366 => ((ref13_count.f k x0 x1 (y356 ++ y360) t366 x4).bind fun t369 => (ref13_count.l0 k x0 x1 x2 x3 x4 (wrap64 (x13 + t369)) (wrap64 (x14 + 1))))) else (none))) else (none)) else (none))) else (none))) else (some x13)
def ref13_count.f : Nat → List (S44) → Int → List Int → List Int → Bool → Option (Int)
 | 0, _, _, _, _, _ => none
 | k + 1, l0, a1, l2, l3, a4 => if (l3.length : Int) = 0 then ((ref13_In.f k l0 a1 l2).bind fun bt349 => (if bt349.2 = true then (some 1) else (some 0))) else (ref13_count.l0 k l0 a1 l2 l3 a4 0 0)
end
theorem ref13_count.mono_l : ∀ k, (∀ y0 y1 y2 y3 y4, LeO (ref13_count.f k y0 y1 y2 y3 y4) (ref13_count.f (k + 1) y0 y1 y2 y3 y4)) ∧ (∀ y0 y1 y2 y3 y4 y5 y6, LeO (ref13_count.l0 k y0 y1 y2 y3 y4 y5 y6) (ref13_count.l0 (k + 1) y0 y1 y2 y3 y4 y5 y6)) ∧ (∀ y0 y1 y2 y3 y4 y5 y6 y7, LeO (ref13_count.j1 k y0 y1 y2 y3 y4 y5 y6 y7) (ref13_count.j1 (k + 1) y0 y1 y2 y3 y4 y5 y6 y7))
 | 0 => ⟨fun _ _ _ _ _ r h => by simp [ref13_count.f] at h, fun _ _ _ _ _ _ _ r h => by simp [ref13_count.l0] at h, fun _ _ _ _ _ _ _ _ r h => by simp [ref13_count.j1] at h⟩
 | k + 1 => by
  obtain ⟨ih0, ih1, ih2⟩ := ref13_count.mono_l k
  refine ⟨?_, ?_, ?_⟩
  ·intro y0 y1 y2 y3 y4
   unfold ref13_count.f
   repeat' first
   | (with_reducible exact ih0 _ _ _ _ _)
   | (with_reducible exact ih1 _ _ _ _ _ _ _)
   | (with_reducible exact ih2 _ _ _ _ _ _ _ _)
   | (with_reducible exact ref13_In.mono _ _ _ _)
   | (with_reducible exact LeO.refl _)
   | (with_reducible exact LeO.none _)
   | (with_reducible refine LeO.ite ?_ ?_)
   | (with_reducible refine LeO.bind ?_ (fun _ => ?_))
   | exact ih0 _ _ _ _ _
   | exact ih1 _ _ _ _ _ _ _
   | exact ih2 _ _ _ _ _ _ _ _
   | exact ref13_In.mono _ _ _ _
   | exact LeO.none _
   | refine LeO.ite ?_ ?_
   | refine LeO.bind ?_ (fun _ => ?_)
  ·intro y0 y1 y2 y3 y4 y5 y6
   unfold ref13_count.l0
   repeat' first
   | (with_reducible exact ih0 _ _ _ _ _)
   | (with_reducible exact ih1 _ _ _ _ _ _ _)
   | (with_reducible exact ih2 _ _ _ _ _ _ _ _)
   | (with_reducible exact ref13_In.mono _ _ _ _)
   | (with_reducible exact LeO.refl _)
   | (with_reducible exact LeO.none _)
   | (with_reducible refine LeO.ite ?_ ?_)
   | (with_reducible refine LeO.bind ?_ (fun _ => ?_))
   | exact ih0 _ _ _ _ _
   | exact ih1 _ _ _ _ _ _ _
   | exact ih2 _ _ _ _ _ _ _ _
   | exact ref13_In.mono _ _ _ _
   | exact LeO.none _
   | refine LeO.ite ?_ ?_
   | refine LeO.bind ?_ (fun _ => ?_)
  ·intro y0 y1 y2 y3 y4 y5 y6 y7
   unfold ref13_count.j1
   repeat' first
   | (with_reducible exact ih0 _ _ _ _ _)
   | (with_reducible exact ih1 _ _ _ _ _ _ _)
   | (with_reducible exact ih2 _ _ _ _ _ _ _ _)
   | (with_reducible exact ref13_In.mono _ _ _ _)
   | (with_reducible exact LeO.refl _)
   | (with_reducible exact LeO.none _)
   | (with_reducible refine LeO.ite ?_ ?_)
   | (with_reducible refine LeO.bind ?_ (fun _ => ?_))
   | exact ih0 _ _ _ _ _
   | exact ih1 _ _ _ _ _ _ _
   | exact ih2 _ _ _ _ _ _ _ _
   | exact ref13_In.mono _ _ _ _
   | exact LeO.none _
   | refine LeO.ite ?_ ?_
   | refine LeO.bind ?_ (fun _ => ?_)
theorem ref13_count.mono : ∀ a0 a1 a2 a3 a4 k, LeO (ref13_count.f k a0 a1 a2 a3 a4) (ref13_count.f (k + 1) a0 a1 a2 a3 a4) := by
 intro a0 a1 a2 a3 a4 k
 obtain ⟨ih0, ih1, ih2⟩ := ref13_count.mono_l k
 exact ih0 a0 a1 a2 a3 a4
def ref13_count.T10 : Bool × List (List Nat × List Nat) := (true, [([], []), ([], []), ([], []), ([], []), ([], []), ([3, 4], [3, 4]), ([], []), ([], []), ([6, 7], [6, 7]), ([8], [8]), ([9], [9]), ([5, 10, 5], [5, 10]), ([], []), ([], []), ([12, 13, 11], [12, 13]), ([], []), ([1, 2, 11, 14, 15, 14], [1, 2, 11, 14, 15]), ([0, 16], [0, 16]), ([17, 16, 0, 1, 2, 3, 4, 5, 6, 7, 8, 9, 10, 11, 12, 13, 14, 15, 16, 17], [0, 17])])
def ref13_count.B10 : List Nat := [0, 0, 0, 0, 0, 24, 0, 0, 192, 448, 960, 2040, 0, 0, 16376, 0, 65534, 131071, 262143]
theorem ref13_count.tab10 : rtab .any (opsOf Try.f58 10) = ref13_count.T10 := by kernel_rfl
theorem ref13_count.bits10 : waitsOk ref13_count.T10.2 ref13_count.B10 = true := by kernel_rfl
set_option maxHeartbeats 8000000 in
set_option maxRecDepth 100000 in
theorem ref13_count.calls (k : Nat) : ∀ (A0 : Option Addr) (c0 : Nat) (l0 : List (S44)) (a1 : Int) (A2 : Option Addr) (c2 : Nat) (l2 : List Int) (A3 : Option Addr) (c3 : Nat) (l3 : List Int) (a4 : Bool) (r : Int) (w : World) (hr0 : Kd.C k44 w A0 l0.length l0) (hc0 : l0.length ≤ c0) (hr2 : Kd.C (Kd.int .i64) w A2 l2.length l2) (hc2 : l2.length ≤ c2) (hr3 : Kd.C (Kd.int .i64) w A3 l3.length l3) (hc3 : l3.length ≤ c3) (h : ref13_count.f k l0 a1 l2 l3 a4 = some r),
  Calls Try.prog 58 #[.slice A0 l0.length c0, .int .i64 a1, .slice A2 l2.length c2, .slice A3 l3.length c3, .bool a4] w fun e w' => e = .returned (.int .i64 r) ∧ Below w.heap.size w w' := by
 induction k using Nat.strongRecOn with
 | _ k ih =>
 intro A0 c0 l0 a1 A2 c2 l2 A3 c3 l3 a4 r w hr0 hc0 hr2 hc2 hr3 hc3 h
 cases k with
 | zero => exact absurd h (by simp [ref13_count.f])
 | succ k =>
 simp only [ref13_count.f] at h
 have HR0 := Aside0.mk hr0
 have HC0 := Aside0.mk hc0
 clear hr0 hc0
 have HR2 := Aside0.mk hr2
 have HC2 := Aside0.mk hc2
 clear hr2 hc2
 have HR3 := Aside0.mk hr3
 have HC3 := Aside0.mk hc3
 clear hr3 hc3
 have HB := Aside0.mk (Below.refl w.heap.size w)
 have H : (if (l3.length : Int) = 0 then ((ref13_In.f k l0 a1 l2).bind fun bt349 => (if bt349.2 = true then (some 1) else (some 0))) else (ref13_count.l0 k l0 a1 l2 l3 a4 0 0)) = some r := h
 clear h
 by_cases c6 : (l3.length : Int) = 0
 ·rw [if_pos c6] at H
  have c6b0 : ((l3.length : Int) == 0) = true := beq_iff_eq.mpr c6
  have c6b1 : ((l3.length : Int) != 0) = false := bne_eq_false_iff_eq.mpr c6
  clear c6
  replace H := Option.bind_eq_some_iff.mp H
  obtain ⟨⟨t349, t350⟩, A70, H⟩ := H
  replace H : (if t350 = true then (some 1) else (some 0)) = some r := H
  have A7 := Aside0.mk A70
  clear A70
  by_cases c8 : t350 = true
  ·subst c8
   have H1 : (some 1) = some r := by rw [if_pos rfl] at H; exact H
   clear H
   have H := H1
   clear H1
   obtain rfl := Option.some.inj H
   go_enter Try.func58, Try.ntmps58
   go_wp2_with (first | ((with_reducible refine gate_callee (f := 92) rfl ?_); refine goesL_ (some 22) rfl rfl Try.func92 (by kernel_rfl) rfl #[.slice A0 l0.length c0, .int .i64 a1, .slice A2 l2.length c2] rfl (by (try simp only [List.map_toArray, List.map_cons, List.map_nil]); first | done | rfl | (simp only [List.length_drop, List.length_take]; rfl)) ?_; (with_reducible refine (ref13_In.calls k _ _ l0 a1 _ _ l2 t349 true _ ?side1 ?side2 ?side3 ?side4 A7.out).mono ?_); (case side1 => repeat (first | exact HR0.out | (with_reducible refine Kd.C_alloc ?_ _) | (with_reducible refine Kd.C_drewN ?_ _) | (with_reducible refine Kd.C_drew ?_))); (case side2 => exact HC0.out); (case side3 => repeat (first | exact HR2.out | (with_reducible refine Kd.C_alloc ?_ _) | (with_reducible refine Kd.C_drewN ?_ _) | (with_reducible refine Kd.C_drew ?_))); (case side4 => exact HC2.out); rintro e w9 ⟨v351, rfl, ho0, hb⟩; refine ⟨_, rfl, ?_⟩; have n0_ := Aside0.mk (Kd.R_lower ho0 (below_size (by repeat (first | (with_reducible first | exact HB.out | apply below_alloc | apply pw_below_drewN | apply below_drew1))))); have n1_ := Aside0.mk (below_step (by repeat (first | (with_reducible first | exact HB.out | apply below_alloc | apply pw_below_drewN | apply below_drew1))) hb); clear HB; have HO352 := n0_; have HB := n1_; clear n0_ n1_; (try clear hb); (try clear hb2); (try clear hk); (try clear hi); (try clear ho0)))
   go_ret
   exact ⟨by first | rfl | (simp <;> rfl) | (simp [*] <;> rfl), by repeat (first | (with_reducible first | exact HB.out | apply below_alloc | apply pw_below_drewN | apply below_drew1))⟩
  ·replace c8 := Bool.eq_false_iff.mpr c8
   subst c8
   have H1 : (some 0) = some r := by rw [if_neg (show ¬ (false = true) by decide)] at H; exact H
   clear H
   have H := H1
   clear H1
   obtain rfl := Option.some.inj H
   go_enter Try.func58, Try.ntmps58
   go_wp2_with (first | ((with_reducible refine gate_callee (f := 92) rfl ?_); refine goesL_ (some 22) rfl rfl Try.func92 (by kernel_rfl) rfl #[.slice A0 l0.length c0, .int .i64 a1, .slice A2 l2.length c2] rfl (by (try simp only [List.map_toArray, List.map_cons, List.map_nil]); first | done | rfl | (simp only [List.length_drop, List.length_take]; rfl)) ?_; (with_reducible refine (ref13_In.calls k _ _ l0 a1 _ _ l2 t349 false _ ?side1 ?side2 ?side3 ?side4 A7.out).mono ?_); (case side1 => repeat (first | exact HR0.out | (with_reducible refine Kd.C_alloc ?_ _) | (with_reducible refine Kd.C_drewN ?_ _) | (with_reducible refine Kd.C_drew ?_))); (case side2 => exact HC0.out); (case side3 => repeat (first | exact HR2.out | (with_reducible refine Kd.C_alloc ?_ _) | (with_reducible refine Kd.C_drewN ?_ _) | (with_reducible refine Kd.C_drew ?_))); (case side4 => exact HC2.out); rintro e w10 ⟨v351, rfl, ho0, hb⟩; refine ⟨_, rfl, ?_⟩; have n0_ := Aside0.mk (Kd.R_lower ho0 (below_size (by repeat (first | (with_reducible first | exact HB.out | apply below_alloc | apply pw_below_drewN | apply below_drew1))))); have n1_ := Aside0.mk (below_step (by repeat (first | (with_reducible first | exact HB.out | apply below_alloc | apply pw_below_drewN | apply below_drew1))) hb); clear HB; have HO352 := n0_; have HB := n1_; clear n0_ n1_; (try clear hb); (try clear hb2); (try clear hk); (try clear hi); (try clear ho0)))
   go_ret
   exact ⟨by first | rfl | (simp <;> rfl) | (simp [*] <;> rfl), by repeat (first | (with_reducible first | exact HB.out | apply below_alloc | apply pw_below_drewN | apply below_drew1))⟩
 ·rw [if_neg c6] at H
  have c6b0 : ((l3.length : Int) == 0) = false := beq_eq_false_iff_ne.mpr c6
  have c6b1 : ((l3.length : Int) != 0) = true := bne_iff_ne.mpr c6
  have c6b2 : ¬ (l3 = []) := fun h_ => c6 (by rw [h_]; rfl)
  have H' := Aside0.mk H
  clear H
  go_enter Try.func58, Try.ntmps58
  go_wp2
  go_loopg [13, 14] k (fun kq v13 v14 w' => ∃ (x13_1 : Int) (x14_1 : Int), v13 = .int .i64 x13_1 ∧ v14 = .int .i64 x14_1 ∧ Aside0 (ref13_count.l0 kq l0 a1 l2 l3 a4 x13_1 x14_1 = some r) ∧ Aside0 (kq ≤ k) ∧ Aside0 (Below w.heap.size w w'))
  case atStart => exact ⟨(0), (0), (by first | rfl | (simp; done) | (simp [*]; done)), (by first | rfl | (simp; done) | (simp [*]; done)), H', ⟨Nat.le_refl _⟩, ⟨by repeat (first | (with_reducible first | exact HB.out | apply below_alloc | apply pw_below_drewN | apply below_drew1))⟩⟩
  case round =>
   clear H'
   try clear c2
   try clear p2
   try clear c3
   try clear c5
   try clear c6
   try clear c6b0
   try clear c6b1
   try clear c6b2
   try clear c8
   try clear c9
   obtain ⟨x13_1, x14_1, rfl, rfl, HA, HK1, HB⟩ := hrel
   cases gk with
   | zero => exact absurd HA.out (by simp [ref13_count.l0])
   | succ k1 =>
    have H := HA.out
    clear HA
    simp only [ref13_count.l0] at H
    have HC11 := Aside0.mk H
    clear H
    go_upto_region 8 with (fail)
    go_cut [37] (fun v37 wc => ∃ (kq : Nat) (x37_10 : Bool), v37 = .bool x37_10 ∧ Aside0 (ref13_count.j1 kq l0 a1 l2 l3 a4 x13_1 x14_1 x37_10 = some r) ∧ Aside0 (kq ≤ k1) ∧ Aside0 (Below w.heap.size w wc))
    case first =>
     have H := HC11.out
     clear HC11
     by_cases c12 : x14_1 < (l3.length : Int)
     ·rw [if_pos c12] at H
      have c12b0 : decide (x14_1 < (l3.length : Int)) = true := decide_eq_true c12
      clear c12
      (first | rw [c12b0] | (simp only [i64_w, i32_w]; rw [c12b0]) | skip)
      by_cases c13 : a4 = true
      ·subst c13
       have H1 : (ref13_count.j1 k1 l0 a1 l2 l3 true x13_1 x14_1 (!(decide (x13_1 > 0)))) = some r := by rw [if_pos rfl] at H; exact H
       clear H
       have H := H1
       clear H1
       have H' := Aside0.mk H
       clear H
       go_wp2
       go_meet
       case rel => exact ⟨_, (!(decide (x13_1 > 0))), (by first | rfl | (simp; done) | (simp [*]; done)), H', ⟨by have := HK1.out; first | omega | exact Nat.le_refl _⟩, ⟨by repeat (first | (with_reducible first | exact HB.out | apply below_alloc | apply pw_below_drewN | apply below_drew1))⟩⟩
      ·replace c13 := Bool.eq_false_iff.mpr c13
       subst c13
       have H1 : (ref13_count.j1 k1 l0 a1 l2 l3 false x13_1 x14_1 (!false)) = some r := by rw [if_neg (show ¬ (false = true) by decide)] at H; exact H
       clear H
       have H := H1
       clear H1
       have H' := Aside0.mk H
       clear H
       go_wp2
       go_meet
       case rel => exact ⟨_, (!false), (by first | rfl | (simp; done) | (simp [*]; done)), H', ⟨by have := HK1.out; first | omega | exact Nat.le_refl _⟩, ⟨by repeat (first | (with_reducible first | exact HB.out | apply below_alloc | apply pw_below_drewN | apply below_drew1))⟩⟩
     ·rw [if_neg c12] at H
      have c12b0 : decide (x14_1 < (l3.length : Int)) = false := decide_eq_false c12
      clear c12
      (first | rw [c12b0] | (simp only [i64_w, i32_w]; rw [c12b0]) | skip)
      have H' := Aside0.mk H
      clear H
      go_wp2
      go_meet
      case rel => exact ⟨_, (false), (by first | rfl | (simp; done) | (simp [*]; done)), H', ⟨by have := HK1.out; first | omega | exact Nat.le_refl _⟩, ⟨by repeat (first | (with_reducible first | exact HB.out | apply below_alloc | apply pw_below_drewN | apply below_drew1))⟩⟩
    case rest =>
     clear HC11
     try clear c1
     try clear c2
     try clear p2
     try clear c3
     try clear c5
     try clear c6
     try clear c6b0
     try clear c6b1
     try clear c6b2
     try clear c8
     try clear c9
     try clear c12
     try clear c12b0
     try clear c13
     try clear p2
     obtain ⟨kq, x37_10, rfl, HA, HJ10, HB⟩ := hcut
     cases kq with
     | zero => exact absurd HA.out (by simp [ref13_count.j1])
     | succ kj10 =>
      have H := HA.out
      clear HA
      simp only [ref13_count.j1] at H
      by_cases c14 : x37_10 = true
      ·subst c14
       have H1 : ((some (([] : List Int) : List Int)).bind fun y353 => (if y353.length + l2.length < 17592186044416 then ((some (y353 ++ l2 : List Int)).bind fun y356 => (if 0 ≤ x14_1 then (if x14_1 < (l3.length : Int) then ((some (([rd l3 x14_1] : List Int) : List Int)).bind fun y360 => (if y356.length + y360.length < 17592186044416 then ((ref13_without.f l3 x14_1).bind fun t366 => ((ref13_count.f kj10 l0 a1 (y356 ++ y360) t366 a4).bind fun t369 => (ref13_count.l0 kj10 l0 a1 l2 l3 a4 (wrap64 (x13_1 + t369)) (wrap64 (x14_1 + 1))))) else (none))) else (none)) else (none))) else (none))) = some r := by rw [if_pos rfl] at H; exact H
       clear H
       have H := H1
       clear H1
       obtain ⟨y353, hy353⟩ : ∃ y_ : List Int, y_ = (([] : List Int)) := ⟨_, rfl⟩
       replace H : (if y353.length + l2.length < 17592186044416 then ((some (y353 ++ l2 : List Int)).bind fun y356 => (if 0 ≤ x14_1 then (if x14_1 < (l3.length : Int) then ((some (([rd l3 x14_1] : List Int) : List Int)).bind fun y360 => (if y356.length + y360.length < 17592186044416 then ((ref13_without.f l3 x14_1).bind fun t366 => ((ref13_count.f kj10 l0 a1 (y356 ++ y360) t366 a4).bind fun t369 => (ref13_count.l0 kj10 l0 a1 l2 l3 a4 (wrap64 (x13_1 + t369)) (wrap64 (x14_1 + 1))))) else (none))) else (none)) else (none))) else (none)) = some r := by first | (rw [hy353]; with_reducible exact H) | (have H2_ := (Option.bind_some _ _).symm.trans H; rw [hy353]; with_reducible exact H2_) | (have H2_ := (Option.bind_some _ _).symm.trans H; with_reducible exact H2_) | with_reducible exact H | (rw [hy353]; exact H) | exact H
       have Ny353 := Aside0.mk hy353
       clear hy353
       by_cases c15 : y353.length + l2.length < 17592186044416
       ·rw [if_pos c15] at H
        have LMc15 := Aside0.mk c15
        clear c15
        obtain ⟨y356, hy356⟩ : ∃ y_ : List Int, y_ = (y353 ++ l2) := ⟨_, rfl⟩
        replace H : (if 0 ≤ x14_1 then (if x14_1 < (l3.length : Int) then ((some (([rd l3 x14_1] : List Int) : List Int)).bind fun y360 => (if y356.length + y360.length < 17592186044416 then ((ref13_without.f l3 x14_1).bind fun t366 => ((ref13_count.f kj10 l0 a1 (y356 ++ y360) t366 a4).bind fun t369 => (ref13_count.l0 kj10 l0 a1 l2 l3 a4 (wrap64 (x13_1 + t369)) (wrap64 (x14_1 + 1))))) else (none))) else (none)) else (none)) = some r := by first | (rw [hy356]; with_reducible exact H) | (have H2_ := (Option.bind_some _ _).symm.trans H; rw [hy356]; with_reducible exact H2_) | (have H2_ := (Option.bind_some _ _).symm.trans H; with_reducible exact H2_) | with_reducible exact H | (rw [hy356]; exact H) | exact H
        have Ny356 := Aside0.mk hy356
        clear hy356
        by_cases c16 : 0 ≤ x14_1
        ·rw [if_pos c16] at H
         have c16b0 : decide (0 ≤ x14_1) = true := decide_eq_true c16
         clear c16
         by_cases c17 : x14_1 < (l3.length : Int)
         ·rw [if_pos c17] at H
          have c17b0 : decide (x14_1 < (l3.length : Int)) = true := decide_eq_true c17
          clear c17
          obtain ⟨y360, hy360⟩ : ∃ y_ : List Int, y_ = (([rd l3 x14_1] : List Int)) := ⟨_, rfl⟩
          replace H : (if y356.length + y360.length < 17592186044416 then ((ref13_without.f l3 x14_1).bind fun t366 => ((ref13_count.f kj10 l0 a1 (y356 ++ y360) t366 a4).bind fun t369 => (ref13_count.l0 kj10 l0 a1 l2 l3 a4 (wrap64 (x13_1 + t369)) (wrap64 (x14_1 + 1))))) else (none)) = some r := by first | (rw [hy360]; with_reducible exact H) | (have H2_ := (Option.bind_some _ _).symm.trans H; rw [hy360]; with_reducible exact H2_) | (have H2_ := (Option.bind_some _ _).symm.trans H; with_reducible exact H2_) | with_reducible exact H | (rw [hy360]; exact H) | exact H
          have Ny360 := Aside0.mk hy360
          clear hy360
          by_cases c18 : y356.length + y360.length < 17592186044416
          ·rw [if_pos c18] at H
           have LMc18 := Aside0.mk c18
           clear c18
           obtain ⟨y363, hy363⟩ : ∃ y_ : List Int, y_ = (y356 ++ y360) := ⟨_, rfl⟩
           replace H : ((ref13_without.f l3 x14_1).bind fun t366 => ((ref13_count.f kj10 l0 a1 y363 t366 a4).bind fun t369 => (ref13_count.l0 kj10 l0 a1 l2 l3 a4 (wrap64 (x13_1 + t369)) (wrap64 (x14_1 + 1))))) = some r := by first | (rw [hy363]; with_reducible exact H) | (have H2_ := (Option.bind_some _ _).symm.trans H; rw [hy363]; with_reducible exact H2_) | (have H2_ := (Option.bind_some _ _).symm.trans H; with_reducible exact H2_) | with_reducible exact H | (rw [hy363]; exact H) | exact H
           have Ny363 := Aside0.mk hy363
           clear hy363
           replace H := Option.bind_eq_some_iff.mp H
           obtain ⟨t366, A190, H⟩ := H
           replace H : ((ref13_count.f kj10 l0 a1 y363 t366 a4).bind fun t369 => (ref13_count.l0 kj10 l0 a1 l2 l3 a4 (wrap64 (x13_1 + t369)) (wrap64 (x14_1 + 1)))) = some r := H
           have A19 := Aside0.mk A190
           clear A190
           replace H := Option.bind_eq_some_iff.mp H
           obtain ⟨t369, A200, H⟩ := H
           replace H : (ref13_count.l0 kj10 l0 a1 l2 l3 a4 (wrap64 (x13_1 + t369)) (wrap64 (x14_1 + 1))) = some r := H
           have A20 := Aside0.mk A200
           clear A200
           have H' := Aside0.mk H
           clear H
           try go_wp2
           have n0_ := Aside0.mk (below_drew1 HB.out)
           clear HB
           have HB := n0_
           clear n0_
           have p359 : 0 ≤ (x14_1 : Int) := of_decide_eq_true (by assumption)
           have q359 : x14_1 < (l3.length : Int) := of_decide_eq_true (by assumption)
           obtain ⟨ad359, e359, hx359_0⟩ := Kd.at_int HR3.out x14_1 p359 q359
           have hw359_0 := hx359_0
           cases e359
           replace hx359_0 := (HB.out.cell (World.block_lt_of_cell? w _ hx359_0)).trans hx359_0
           replace p359 := eq_true p359
           replace q359 := eq_true q359
           refine start_ (n := 19) (S := fun w' => w'.cell? (ad359.add (x14_1).toNat) = some (.int .i64 (rd l3 x14_1))) (ds := []) #[false, false, false, false, false, false, false, false, false, false, false, false, false, false, false, false, false, false, false] (by kernel_rfl) rfl rfl (((HB.out.cell (World.block_lt_of_cell? w _ hw359_0)).trans hw359_0)) (fun hHeld => ?_); refine with_tabW ref13_count.tab10 ref13_count.bits10 (fun HT_ HW_ => ?_)
           generalize wc.drew = w21 at HB hx359_0 hHeld ⊢
           refine pure_ (i := 0) (N := some 40) (v := ?_) (a' := ?_) #[true, false, false, false, false, false, false, false, false, false, false, false, false, false, false, false, false, false, false] rfl rfl (any_of HT_.out (by kernel_rfl)) (fun _ _ _ h => h) (Or.inl ⟨by rfl, ?_⟩) ?_ ?_
           rotate_left
           ·intro w'
            go_simp
            with_reducible rfl
           rotate_left
           ·simp only [Act.put, List.setIfInBounds_toArray, List.set_cons_zero, List.set_cons_succ, i64_w, i32_w]
            rfl
           refine pure_ (i := 1) (N := some 41) (v := ?_) (a' := ?_) #[true, true, false, false, false, false, false, false, false, false, false, false, false, false, false, false, false, false, false] rfl rfl (any_of HT_.out (by kernel_rfl)) (fun _ _ _ h => h) (Or.inl ⟨by rfl, ?_⟩) ?_ ?_
           rotate_left
           ·intro w'
            go_simp
            with_reducible rfl
           rotate_left
           ·simp only [Act.put, List.setIfInBounds_toArray, List.set_cons_zero, List.set_cons_succ, i64_w, i32_w]
            rfl
           refine pure_ (i := 2) (N := some 42) (v := ?_) (a' := ?_) #[true, true, true, false, false, false, false, false, false, false, false, false, false, false, false, false, false, false, false] rfl rfl (any_of HT_.out (by kernel_rfl)) (fun _ _ _ h => h) (Or.inl ⟨by rfl, ?_⟩) ?_ ?_
           rotate_left
           ·intro w'
            go_simp
            with_reducible rfl
           rotate_left
           ·simp only [Act.put, List.setIfInBounds_toArray, List.set_cons_zero, List.set_cons_succ, i64_w, i32_w]
            rfl
           refine pure_ (i := 4) (N := some 44) (v := ?_) (a' := ?_) #[true, true, true, false, true, false, false, false, false, false, false, false, false, false, false, false, false, false, false] rfl rfl (any_of HT_.out (by kernel_rfl)) (fun _ _ _ h => h) (Or.inl ⟨by rfl, ?_⟩) ?_ ?_
           rotate_left
           ·intro w'
            go_simp
            with_reducible rfl
           rotate_left
           ·simp only [Act.put, List.setIfInBounds_toArray, List.set_cons_zero, List.set_cons_succ, i64_w, i32_w]
            rfl
           refine pure_ (i := 6) (N := some 46) (v := ?_) (a' := ?_) #[true, true, true, false, true, false, true, false, false, false, false, false, false, false, false, false, false, false, false] rfl rfl (any_of HT_.out (by kernel_rfl)) (fun _ _ _ h => h) (Or.inl ⟨by rfl, ?_⟩) ?_ ?_
           rotate_left
           ·intro w'
            go_simp
            with_reducible rfl
           rotate_left
           ·simp only [Act.put, List.setIfInBounds_toArray, List.set_cons_zero, List.set_cons_succ, i64_w, i32_w]
            rfl
           refine pure_ (i := 7) (N := some 47) (v := ?_) (a' := ?_) #[true, true, true, false, true, false, true, true, false, false, false, false, false, false, false, false, false, false, false] rfl rfl (any_of HT_.out (by kernel_rfl)) (fun _ _ _ h => h) (Or.inl ⟨by rfl, ?_⟩) ?_ ?_
           rotate_left
           ·intro w'
            go_simp
            with_reducible rfl
           rotate_left
           ·simp only [Act.put, List.setIfInBounds_toArray, List.set_cons_zero, List.set_cons_succ, i64_w, i32_w]
            rfl
           refine pure_ (i := 8) (N := some 48) (v := ?_) (a' := ?_) #[true, true, true, false, true, false, true, true, true, false, false, false, false, false, false, false, false, false, false] rfl rfl (any_of HT_.out (by kernel_rfl)) (fun _ _ _ h => h) (Or.inl ⟨by rfl, ?_⟩) ?_ ?_
           rotate_left
           ·intro w'
            go_simp
            with_reducible rfl
           rotate_left
           ·simp only [Act.put, List.setIfInBounds_toArray, List.set_cons_zero, List.set_cons_succ, i64_w, i32_w]
            rfl
           refine pure_ (i := 12) (N := some 52) (v := ?_) (a' := ?_) #[true, true, true, false, true, false, true, true, true, false, false, false, true, false, false, false, false, false, false] rfl rfl (any_of HT_.out (by kernel_rfl)) (fun _ _ _ h => h) (Or.inl ⟨by rfl, ?_⟩) ?_ ?_
           rotate_left
           ·intro w'
            go_simp
            with_reducible rfl
           rotate_left
           ·simp only [Act.put, List.setIfInBounds_toArray, List.set_cons_zero, List.set_cons_succ, i64_w, i32_w]
            rfl
           refine pure_ (i := 13) (N := some 53) (v := ?_) (a' := ?_) #[true, true, true, false, true, false, true, true, true, false, false, false, true, true, false, false, false, false, false] rfl rfl (any_of HT_.out (by kernel_rfl)) (fun _ _ _ h => h) (Or.inl ⟨by rfl, ?_⟩) ?_ ?_
           rotate_left
           ·intro w'
            go_simp
            with_reducible rfl
           rotate_left
           ·simp only [Act.put, List.setIfInBounds_toArray, List.set_cons_zero, List.set_cons_succ, i64_w, i32_w]
            rfl
           refine pure_ (i := 15) (N := some 55) (v := ?_) (a' := ?_) #[true, true, true, false, true, false, true, true, true, false, false, false, true, true, false, true, false, false, false] rfl rfl (any_of HT_.out (by kernel_rfl)) (fun _ _ _ h => h) (Or.inl ⟨by rfl, ?_⟩) ?_ ?_
           rotate_left
           ·intro w'
            go_simp
            with_reducible rfl
           rotate_left
           ·simp only [Act.put, List.setIfInBounds_toArray, List.set_cons_zero, List.set_cons_succ, i64_w, i32_w]
            rfl
           refine take_ (i := 9) (N := some 49) (v := ?_) (a' := ?_) #[true, true, true, false, true, false, true, true, true, true, false, false, true, true, false, true, false, false, false] rfl rfl (take_ofW HT_.out HW_.out (by kernel_rfl)) (fun _ _ _ h => h) (Or.inl ⟨by rfl, ?_⟩) hHeld ?_ ?_
           rotate_left
           ·intro w' s0
            go_simp
            with_reducible rfl
           rotate_left
           ·simp only [Act.put, List.setIfInBounds_toArray, List.set_cons_zero, List.set_cons_succ, i64_w, i32_w]
            rfl
           refine join_ (σ := Value × Value × Value) 5 #[true, true, true, true, true, true, true, true, true, true, true, false, true, true, false, true, false, false, false] (fun s_ => [(43, s_.1), (45, s_.2.1), (50, s_.2.2)]) (fun s_ w' => (w'.cell? (ad359.add (x14_1).toNat) = some (.int .i64 (rd l3 x14_1))) ∧ (Kd.R (Kd.int .i64) 3 w' w.heap.size (fun k_ => some k_ ≠ (s_.2.2 : Value).ownBlock) s_.2.1 y356) ∧ (Kd.R (Kd.int .i64) 3 w' w.heap.size (fun k_ => some k_ ≠ (s_.2.1 : Value).ownBlock) s_.2.2 y360) ∧ (Below w.heap.size w w')) ?_ ?_
           rotate_left
           ·intro hCont
            refine two_ (i := 3) (j := 10) (Ni := some 43) (Nj := some 50) #[true, true, true, true, true, false, true, true, true, true, false, false, true, true, false, true, false, false, false] #[true, true, true, false, true, false, true, true, true, true, true, false, true, true, false, true, false, false, false] rfl rfl rfl rfl (two_of HT_.out (by kernel_rfl)) (by decide) (by decide) (fun K hK => ?_) (fun K hK => ?_)
            ·skip
             refine Kd.R_lit_step (Kd.int .i64) _ 3 ?hg (N := 43) ?hd (xs := ([] : List Int)) (inner := []) (ok := fun _ => True) (okp := fun _ => True) ?hr ?hp (fun _ hk => hk) trivial (Below.refl _ _) (Nat.le_refl _) (by simp) ?_; (case hd => rfl); (case hg => rfl); (case hr => first | (go_simp; done) | (go_simp; rfl)); (case hp => exact (Reps.none _ _))
             intro v354 w22 ho23 hb hg_ hnew_
             clear hg_ hnew_
             (first | rw [← Ny353.out] at ho23 | (simp only [Int.reduceToNat] at ho23; rw [← Ny353.out] at ho23))
             have n0_ := Aside0.mk (Kd.R_lower ho23 (below_size (by repeat (first | (with_reducible first | exact HB.out | apply below_alloc | apply pw_below_drewN | apply below_drew1)))))
             have n1_ := Aside0.mk (below_step (by repeat (first | (with_reducible first | exact HB.out | apply below_alloc | apply pw_below_drewN | apply below_drew1))) hb)
             clear HB
             have HO355 := n0_
             have HB := n1_
             clear n0_ n1_
             clear hb ho23
             refine hK.out _ _ (((HB.out.cell (World.block_lt_of_cell? w _ hw359_0)).trans hw359_0)) (fun hHeld => ?_)
             clear hK K
             refine norm_ (a' := ?_) ?_ ?_
             rotate_left
             ·show Act.put _ (some 43) _ = _
              simp only [Act.put, List.setIfInBounds_toArray, List.set_cons_zero, List.set_cons_succ, i64_w, i32_w]
              rfl
             refine two_ (i := 5) (j := 10) (Ni := some 45) (Nj := some 50) #[true, true, true, true, true, true, true, true, true, true, false, false, true, true, false, true, false, false, false] #[true, true, true, true, true, false, true, true, true, true, true, false, true, true, false, true, false, false, false] rfl rfl rfl rfl (two_of HT_.out (by kernel_rfl)) (by decide) (by decide) (fun K hK => ?_) (fun K hK => ?_)
             ·skip
              refine Kd.R_append_rows_step (Kd.int .i64) (w0 := w) w.heap.size (by rfl) (.tmp 43) (.tmp 44) 69 3 (.int .i64 0) 8 rfl Try.underlying69 info3 rfl (by decide) (by omega) v354 y353 l2 _ _ _ (fun _ => True) (fun _ => False) rfl rfl ?aO ?aR (fun _ _ h => h) (fun _ h => h.elim) ?aF ?aB ?aS ?aL ?_
              (case aR => repeat (first | exact (Kd.C_below HR2.out HB.out) | (with_reducible refine Kd.C_alloc ?_ _) | (with_reducible refine Kd.C_drewN ?_ _) | (with_reducible refine Kd.C_drew ?_)))
              (case aB => exact (by repeat (first | (with_reducible first | exact HB.out | apply below_alloc | apply pw_below_drewN | apply below_drew1))))
              (case aF => exact (fun _ _ => trivial))
              (case aO => exact (by (with_reducible repeat (first | apply Kd.R_alloc | apply Kd.R_drewN | apply Kd.R_drew)); exact HO355.out))
              (case aS => exact (below_size (by repeat (first | (with_reducible first | exact HB.out | apply below_alloc | apply pw_below_drewN | apply below_drew1)))))
              (case aL => have := LMc15.out; omega)
              intro v357 w24 ho hb hg hat
              rw [← Ny356.out] at ho
              have n0_ := Aside0.mk (hb)
              have n1_ := Aside0.mk (ho)
              clear HB
              clear HO355
              have HB := n0_
              have HO358 := n1_
              clear n0_ n1_
              clear ho hb hg hat
              refine hK.out _ _ (((HB.out.cell (World.block_lt_of_cell? w _ hw359_0)).trans hw359_0)) (fun hHeld => ?_)
              clear hK K
              refine norm_ (a' := ?_) ?_ ?_
              rotate_left
              ·show Act.put _ (some 45) _ = _
               simp only [Act.put, List.setIfInBounds_toArray, List.set_cons_zero, List.set_cons_succ, i64_w, i32_w]
               rfl
              refine one_ (i := 10) (N := some 50) #[true, true, true, true, true, true, true, true, true, true, true, false, true, true, false, true, false, false, false] rfl rfl (one_of HT_.out (by kernel_rfl)) (by decide) (fun K hK => ?_)
              refine Kd.R_lit_step (Kd.int .i64) _ 3 ?hg (N := 50) ?hd (xs := ([rd l3 x14_1] : List Int)) (inner := [.int .i64 (rd l3 x14_1)]) (ok := fun _ => True) (okp := fun _ => True) ?hr ?hp (fun _ hk => hk) trivial (Below.refl _ _) (Nat.le_refl _) (by simp) ?_; (case hd => rfl); (case hg => rfl); (case hr => first | (go_simp; done) | (go_simp; rfl)); (case hp => exact (Reps.one (show Kd.M (Kd.int .i64) _ _ _ (rd l3 x14_1) [.int .i64 (rd l3 x14_1)] from rfl) (Reps.none _ _)))
              intro v361 w25 ho26 hb hg_ hnew_
              clear hg_ hnew_
              (first | rw [← Ny360.out] at ho26 | (simp only [Int.reduceToNat] at ho26; rw [← Ny360.out] at ho26))
              have n0_ := Aside0.mk (Kd.R_elder' (by (with_reducible repeat (first | apply Kd.R_alloc | apply Kd.R_drewN | apply Kd.R_drew)); exact HO358.out) (Kd.R_base ho26) hb)
              have n1_ := Aside0.mk (Kd.R_lower (Kd.R_new' ho26 (Kd.R_lt (by (with_reducible repeat (first | apply Kd.R_alloc | apply Kd.R_drewN | apply Kd.R_drew)); exact HO358.out))) (below_size (by repeat (first | (with_reducible first | exact HB.out | apply below_alloc | apply pw_below_drewN | apply below_drew1)))))
              have n2_ := Aside0.mk (below_step (by repeat (first | (with_reducible first | exact HB.out | apply below_alloc | apply pw_below_drewN | apply below_drew1))) hb)
              clear HO358
              clear HB
              have HO358 := n0_
              have HO362 := n1_
              have HB := n2_
              clear n0_ n1_ n2_
              clear hb ho26
              refine hK.out _ _ (((HB.out.cell (World.block_lt_of_cell? w _ hw359_0)).trans hw359_0)) (fun hHeld => ?_)
              clear hK K
              refine norm_ (a' := ?_) ?_ ?_
              rotate_left
              ·show Act.put _ (some 50) _ = _
               simp only [Act.put, List.setIfInBounds_toArray, List.set_cons_zero, List.set_cons_succ, i64_w, i32_w]
               rfl
              exact norm_ (by simp only [putAll, Act.put, List.setIfInBounds_toArray, List.set_cons_zero, List.set_cons_succ]) (hCont (v354, v357, v361) _ ⟨hHeld, (by (with_reducible repeat (first | apply Kd.R_alloc | apply Kd.R_drewN | apply Kd.R_drew)); exact Kd.R_mono HO358.out (fun _ hk => hk.2)), (by (with_reducible repeat (first | apply Kd.R_alloc | apply Kd.R_drewN | apply Kd.R_drew)); exact Kd.R_mono HO362.out (fun _ hk => hk.2)), (by repeat (first | (with_reducible first | exact HB.out | apply below_alloc | apply pw_below_drewN | apply below_drew1)))⟩)
             ·skip
              refine Kd.R_lit_step (Kd.int .i64) _ 3 ?hg (N := 50) ?hd (xs := ([rd l3 x14_1] : List Int)) (inner := [.int .i64 (rd l3 x14_1)]) (ok := fun _ => True) (okp := fun _ => True) ?hr ?hp (fun _ hk => hk) trivial (Below.refl _ _) (Nat.le_refl _) (by simp) ?_; (case hd => rfl); (case hg => rfl); (case hr => first | (go_simp; done) | (go_simp; rfl)); (case hp => exact (Reps.one (show Kd.M (Kd.int .i64) _ _ _ (rd l3 x14_1) [.int .i64 (rd l3 x14_1)] from rfl) (Reps.none _ _)))
              intro v361 w24 ho25 hb hg_ hnew_
              clear hg_ hnew_
              (first | rw [← Ny360.out] at ho25 | (simp only [Int.reduceToNat] at ho25; rw [← Ny360.out] at ho25))
              have n0_ := Aside0.mk (Kd.R_elder' (by (with_reducible repeat (first | apply Kd.R_alloc | apply Kd.R_drewN | apply Kd.R_drew)); exact HO355.out) (Kd.R_base ho25) hb)
              have n1_ := Aside0.mk (Kd.R_lower (Kd.R_new' ho25 (Kd.R_lt (by (with_reducible repeat (first | apply Kd.R_alloc | apply Kd.R_drewN | apply Kd.R_drew)); exact HO355.out))) (below_size (by repeat (first | (with_reducible first | exact HB.out | apply below_alloc | apply pw_below_drewN | apply below_drew1)))))
              have n2_ := Aside0.mk (below_step (by repeat (first | (with_reducible first | exact HB.out | apply below_alloc | apply pw_below_drewN | apply below_drew1))) hb)
              clear HO355
              clear HB
              have HO355 := n0_
              have HO362 := n1_
              have HB := n2_
              clear n0_ n1_ n2_
              clear hb ho25
              refine hK.out _ _ (((HB.out.cell (World.block_lt_of_cell? w _ hw359_0)).trans hw359_0)) (fun hHeld => ?_)
              clear hK K
              refine norm_ (a' := ?_) ?_ ?_
              rotate_left
              ·show Act.put _ (some 50) _ = _
               simp only [Act.put, List.setIfInBounds_toArray, List.set_cons_zero, List.set_cons_succ, i64_w, i32_w]
               rfl
              refine one_ (i := 5) (N := some 45) #[true, true, true, true, true, true, true, true, true, true, true, false, true, true, false, true, false, false, false] rfl rfl (one_of HT_.out (by kernel_rfl)) (by decide) (fun K hK => ?_)
              refine Kd.R_append_rows_step (Kd.int .i64) (w0 := w) w.heap.size (by rfl) (.tmp 43) (.tmp 44) 69 3 (.int .i64 0) 8 rfl Try.underlying69 info3 rfl (by decide) (by omega) v354 y353 l2 _ _ _ (fun k_ => some k_ ≠ (v361 : Value).ownBlock) (fun _ => False) rfl rfl ?aO ?aR (fun _ _ h => h) (fun _ h => h.elim) ?aF ?aB ?aS ?aL ?_
              (case aR => repeat (first | exact (Kd.C_below HR2.out HB.out) | (with_reducible refine Kd.C_alloc ?_ _) | (with_reducible refine Kd.C_drewN ?_ _) | (with_reducible refine Kd.C_drew ?_)))
              (case aB => exact (by repeat (first | (with_reducible first | exact HB.out | apply below_alloc | apply pw_below_drewN | apply below_drew1))))
              (case aF => exact (fun k_ hk => Kd.fresh' (Kd.R_lt (by (with_reducible repeat (first | apply Kd.R_alloc | apply Kd.R_drewN | apply Kd.R_drew)); exact HO362.out)) k_ hk))
              (case aO => exact (by (with_reducible repeat (first | apply Kd.R_alloc | apply Kd.R_drewN | apply Kd.R_drew)); exact Kd.R_mono HO355.out (fun _ hk => hk.2)))
              (case aS => exact (below_size (by repeat (first | (with_reducible first | exact HB.out | apply below_alloc | apply pw_below_drewN | apply below_drew1)))))
              (case aL => have := LMc15.out; omega)
              intro v357 w26 ho hb hg hat
              rw [← Ny356.out] at ho
              have n0_ := Aside0.mk (Kd.R_after (ok := (fun _ => True)) (by (with_reducible repeat (first | apply Kd.R_alloc | apply Kd.R_drewN | apply Kd.R_drew)); exact HO362.out) hg hat)
              have n1_ := Aside0.mk (hb)
              have n2_ := Aside0.mk (ho)
              clear HO362
              clear HB
              clear HO355
              have HO362 := n0_
              have HB := n1_
              have HO358 := n2_
              clear n0_ n1_ n2_
              clear ho hb hg hat
              refine hK.out _ _ (((HB.out.cell (World.block_lt_of_cell? w _ hw359_0)).trans hw359_0)) (fun hHeld => ?_)
              clear hK K
              refine norm_ (a' := ?_) ?_ ?_
              rotate_left
              ·show Act.put _ (some 45) _ = _
               simp only [Act.put, List.setIfInBounds_toArray, List.set_cons_zero, List.set_cons_succ, i64_w, i32_w]
               rfl
              exact norm_ (by simp only [putAll, Act.put, List.setIfInBounds_toArray, List.set_cons_zero, List.set_cons_succ]) (hCont (v354, v357, v361) _ ⟨hHeld, (by (with_reducible repeat (first | apply Kd.R_alloc | apply Kd.R_drewN | apply Kd.R_drew)); exact HO358.out), (by (with_reducible repeat (first | apply Kd.R_alloc | apply Kd.R_drewN | apply Kd.R_drew)); exact Kd.R_mono HO362.out (fun _ hk => hk.2)), (by repeat (first | (with_reducible first | exact HB.out | apply below_alloc | apply pw_below_drewN | apply below_drew1)))⟩)
            ·skip
             refine Kd.R_lit_step (Kd.int .i64) _ 3 ?hg (N := 50) ?hd (xs := ([rd l3 x14_1] : List Int)) (inner := [.int .i64 (rd l3 x14_1)]) (ok := fun _ => True) (okp := fun _ => True) ?hr ?hp (fun _ hk => hk) trivial (Below.refl _ _) (Nat.le_refl _) (by simp) ?_; (case hd => rfl); (case hg => rfl); (case hr => first | (go_simp; done) | (go_simp; rfl)); (case hp => exact (Reps.one (show Kd.M (Kd.int .i64) _ _ _ (rd l3 x14_1) [.int .i64 (rd l3 x14_1)] from rfl) (Reps.none _ _)))
             intro v361 w22 ho23 hb hg_ hnew_
             clear hg_ hnew_
             (first | rw [← Ny360.out] at ho23 | (simp only [Int.reduceToNat] at ho23; rw [← Ny360.out] at ho23))
             have n0_ := Aside0.mk (Kd.R_lower ho23 (below_size (by repeat (first | (with_reducible first | exact HB.out | apply below_alloc | apply pw_below_drewN | apply below_drew1)))))
             have n1_ := Aside0.mk (below_step (by repeat (first | (with_reducible first | exact HB.out | apply below_alloc | apply pw_below_drewN | apply below_drew1))) hb)
             clear HB
             have HO362 := n0_
             have HB := n1_
             clear n0_ n1_
             clear hb ho23
             refine hK.out _ _ (((HB.out.cell (World.block_lt_of_cell? w _ hw359_0)).trans hw359_0)) (fun hHeld => ?_)
             clear hK K
             refine norm_ (a' := ?_) ?_ ?_
             rotate_left
             ·show Act.put _ (some 50) _ = _
              simp only [Act.put, List.setIfInBounds_toArray, List.set_cons_zero, List.set_cons_succ, i64_w, i32_w]
              rfl
             refine one_ (i := 3) (N := some 43) #[true, true, true, true, true, false, true, true, true, true, true, false, true, true, false, true, false, false, false] rfl rfl (one_of HT_.out (by kernel_rfl)) (by decide) (fun K hK => ?_)
             refine Kd.R_lit_step (Kd.int .i64) _ 3 ?hg (N := 43) ?hd (xs := ([] : List Int)) (inner := []) (ok := fun _ => True) (okp := fun _ => True) ?hr ?hp (fun _ hk => hk) trivial (Below.refl _ _) (Nat.le_refl _) (by simp) ?_; (case hd => rfl); (case hg => rfl); (case hr => first | (go_simp; done) | (go_simp; rfl)); (case hp => exact (Reps.none _ _))
             intro v354 w24 ho25 hb hg_ hnew_
             clear hg_ hnew_
             (first | rw [← Ny353.out] at ho25 | (simp only [Int.reduceToNat] at ho25; rw [← Ny353.out] at ho25))
             have n0_ := Aside0.mk (Kd.R_elder' (by (with_reducible repeat (first | apply Kd.R_alloc | apply Kd.R_drewN | apply Kd.R_drew)); exact HO362.out) (Kd.R_base ho25) hb)
             have n1_ := Aside0.mk (Kd.R_lower (Kd.R_new' ho25 (Kd.R_lt (by (with_reducible repeat (first | apply Kd.R_alloc | apply Kd.R_drewN | apply Kd.R_drew)); exact HO362.out))) (below_size (by repeat (first | (with_reducible first | exact HB.out | apply below_alloc | apply pw_below_drewN | apply below_drew1)))))
             have n2_ := Aside0.mk (below_step (by repeat (first | (with_reducible first | exact HB.out | apply below_alloc | apply pw_below_drewN | apply below_drew1))) hb)
             clear HO362
             clear HB
             have HO362 := n0_
             have HO355 := n1_
             have HB := n2_
             clear n0_ n1_ n2_
             clear hb ho25
             refine hK.out _ _ (((HB.out.cell (World.block_lt_of_cell? w _ hw359_0)).trans hw359_0)) (fun hHeld => ?_)
             clear hK K
             refine norm_ (a' := ?_) ?_ ?_
             rotate_left
             ·show Act.put _ (some 43) _ = _
              simp only [Act.put, List.setIfInBounds_toArray, List.set_cons_zero, List.set_cons_succ, i64_w, i32_w]
              rfl
             refine one_ (i := 5) (N := some 45) #[true, true, true, true, true, true, true, true, true, true, true, false, true, true, false, true, false, false, false] rfl rfl (one_of HT_.out (by kernel_rfl)) (by decide) (fun K hK => ?_)
             refine Kd.R_append_rows_step (Kd.int .i64) (w0 := w) w.heap.size (by rfl) (.tmp 43) (.tmp 44) 69 3 (.int .i64 0) 8 rfl Try.underlying69 info3 rfl (by decide) (by omega) v354 y353 l2 _ _ _ (fun k_ => some k_ ≠ (v361 : Value).ownBlock) (fun _ => False) rfl rfl ?aO ?aR (fun _ _ h => h) (fun _ h => h.elim) ?aF ?aB ?aS ?aL ?_
             (case aR => repeat (first | exact (Kd.C_below HR2.out HB.out) | (with_reducible refine Kd.C_alloc ?_ _) | (with_reducible refine Kd.C_drewN ?_ _) | (with_reducible refine Kd.C_drew ?_)))
             (case aB => exact (by repeat (first | (with_reducible first | exact HB.out | apply below_alloc | apply pw_below_drewN | apply below_drew1))))
             (case aF => exact (fun k_ hk => Kd.fresh' (Kd.R_lt (by (with_reducible repeat (first | apply Kd.R_alloc | apply Kd.R_drewN | apply Kd.R_drew)); exact HO362.out)) k_ hk))
             (case aO => exact (by (with_reducible repeat (first | apply Kd.R_alloc | apply Kd.R_drewN | apply Kd.R_drew)); exact Kd.R_mono HO355.out (fun _ hk => hk.2)))
             (case aS => exact (below_size (by repeat (first | (with_reducible first | exact HB.out | apply below_alloc | apply pw_below_drewN | apply below_drew1)))))
             (case aL => have := LMc15.out; omega)
             intro v357 w26 ho hb hg hat
             rw [← Ny356.out] at ho
             have n0_ := Aside0.mk (Kd.R_after (ok := (fun _ => True)) (by (with_reducible repeat (first | apply Kd.R_alloc | apply Kd.R_drewN | apply Kd.R_drew)); exact HO362.out) hg hat)
             have n1_ := Aside0.mk (hb)
             have n2_ := Aside0.mk (ho)
             clear HO362
             clear HB
             clear HO355
             have HO362 := n0_
             have HB := n1_
             have HO358 := n2_
             clear n0_ n1_ n2_
             clear ho hb hg hat
             refine hK.out _ _ (((HB.out.cell (World.block_lt_of_cell? w _ hw359_0)).trans hw359_0)) (fun hHeld => ?_)
             clear hK K
             refine norm_ (a' := ?_) ?_ ?_
             rotate_left
             ·show Act.put _ (some 45) _ = _
              simp only [Act.put, List.setIfInBounds_toArray, List.set_cons_zero, List.set_cons_succ, i64_w, i32_w]
              rfl
             exact norm_ (by simp only [putAll, Act.put, List.setIfInBounds_toArray, List.set_cons_zero, List.set_cons_succ]) (hCont (v354, v357, v361) _ ⟨hHeld, (by (with_reducible repeat (first | apply Kd.R_alloc | apply Kd.R_drewN | apply Kd.R_drew)); exact HO358.out), (by (with_reducible repeat (first | apply Kd.R_alloc | apply Kd.R_drewN | apply Kd.R_drew)); exact Kd.R_mono HO362.out (fun _ hk => hk.2)), (by repeat (first | (with_reducible first | exact HB.out | apply below_alloc | apply pw_below_drewN | apply below_drew1)))⟩)
           rintro ⟨v354, v357, v361⟩ w27 ⟨hS_, h0_, h1_, h2_⟩
           have n0_ : Aside0 (Kd.R (Kd.int .i64) 3 w27 w.heap.size (fun k_ => some k_ ≠ (v361 : Value).ownBlock) v357 y356) := ⟨h0_⟩
           have n1_ : Aside0 (Kd.R (Kd.int .i64) 3 w27 w.heap.size (fun k_ => some k_ ≠ (v357 : Value).ownBlock) v361 y360) := ⟨h1_⟩
           have n2_ : Aside0 (Below w.heap.size w w27) := ⟨h2_⟩
           clear HB
           clear h0_ h1_ h2_
           have HO358 := n0_
           have HO362 := n1_
           have HB := n2_
           clear n0_ n1_ n2_
           have hHeld : w27.cell? (ad359.add (x14_1).toNat) = some (.int .i64 (rd l3 x14_1)) := hS_
           obtain ⟨Ao29, co29, eo29⟩ := Kd.R_slice HO362.out
           (first | subst eo29 | (injection eo29 with f1_ f2_ f3_; have f4_ := f1_.symm; have f5_ := f3_.symm; clear f1_ f2_ f3_; subst f4_; subst f5_))
           refine norm_ (a' := ?_) ?_ ?_
           rotate_left
           ·simp only [putAll, Act.put, List.setIfInBounds_toArray, List.set_cons_zero, List.set_cons_succ]
            rfl
           refine one_ (i := 11) (N := some 51) #[true, true, true, true, true, true, true, true, true, true, true, true, true, true, false, true, false, false, false] rfl rfl (one_of HT_.out (by kernel_rfl)) (by decide) (fun K hK => ?_)
           refine Kd.R_append_rows_step (Kd.int .i64) (w0 := w) w.heap.size (by rfl) (.tmp 45) (.tmp 50) 69 3 (.int .i64 0) 8 rfl Try.underlying69 info3 rfl (by decide) (by omega) v357 y356 y360 _ _ _ (fun k_ => some k_ ≠ (.slice Ao29 y360.length co29 : Value).ownBlock) (fun _ => False) rfl rfl ?aO ?aR (fun _ _ h => h) (fun _ h => h.elim) ?aF ?aB ?aS ?aL ?_
           (case aR => repeat (first | exact (Kd.R_reads' HO362.out).2.2 | (with_reducible refine Kd.C_alloc ?_ _) | (with_reducible refine Kd.C_drewN ?_ _) | (with_reducible refine Kd.C_drew ?_)))
           (case aB => exact (by repeat (first | (with_reducible first | exact HB.out | apply below_alloc | apply pw_below_drewN | apply below_drew1))))
           (case aF => exact (fun k_ hk => Kd.fresh' (Kd.R_lt (by (with_reducible repeat (first | apply Kd.R_alloc | apply Kd.R_drewN | apply Kd.R_drew)); exact HO362.out)) k_ hk))
           (case aO => exact (by (with_reducible repeat (first | apply Kd.R_alloc | apply Kd.R_drewN | apply Kd.R_drew)); exact HO358.out))
           (case aS => exact (below_size (by repeat (first | (with_reducible first | exact HB.out | apply below_alloc | apply pw_below_drewN | apply below_drew1)))))
           (case aL => have := LMc18.out; omega)
           intro v364 w28 ho hb hg hat
           rw [← Ny363.out] at ho
           have n0_ := Aside0.mk (Kd.R_after (ok := (fun _ => True)) (by (with_reducible repeat (first | apply Kd.R_alloc | apply Kd.R_drewN | apply Kd.R_drew)); exact Kd.R_mono HO362.out (fun _ hk => ⟨trivial, hk⟩)) hg hat)
           have n1_ := Aside0.mk (hb)
           have n2_ := Aside0.mk (ho)
           clear HO362
           clear HB
           clear HO358
           have HO362 := n0_
           have HB := n1_
           have HO365 := n2_
           clear n0_ n1_ n2_
           clear ho hb hg hat
           refine hK.out _ _ (((HB.out.cell (World.block_lt_of_cell? w _ hw359_0)).trans hw359_0)) (fun hHeld => ?_)
           clear hK K
           refine norm_ (a' := ?_) ?_ ?_
           rotate_left
           ·show Act.put _ (some 51) _ = _
            simp only [Act.put, List.setIfInBounds_toArray, List.set_cons_zero, List.set_cons_succ, i64_w, i32_w]
            rfl
           refine one_ (i := 14) (N := some 54) #[true, true, true, true, true, true, true, true, true, true, true, true, true, true, true, true, false, false, false] rfl rfl (one_of HT_.out (by kernel_rfl)) (by decide) (fun K hK => ?_)
           refine goes_ Try.func93 (by kernel_rfl) rfl #[.slice (some ad359) l3.length c3, .int .i64 x14_1] (by rfl) rfl rfl (by (try simp only [List.map_toArray, List.map_cons, List.map_nil]); first | done | rfl | (simp only [List.length_drop, List.length_take]; rfl)) ?_
           with_reducible refine (ref13_without.calls _ _ l3 x14_1 t366 _ ?side1 ?side2 A19.out).mono ?_
           (case side1 => repeat (first | exact (Kd.C_below HR3.out HB.out) | (with_reducible refine Kd.C_alloc ?_ _) | (with_reducible refine Kd.C_drewN ?_ _) | (with_reducible refine Kd.C_drew ?_)))
           (case side2 => exact HC3.out)
           rintro e w30 ⟨v367, rfl, ho0, hb⟩
           refine ⟨_, rfl, ?_⟩
           have n0_ := Aside0.mk (Kd.R_elder' (by (with_reducible repeat (first | apply Kd.R_alloc | apply Kd.R_drewN | apply Kd.R_drew)); exact HO362.out) (Kd.R_base ho0) hb)
           have n1_ := Aside0.mk (Kd.R_elder' (by (with_reducible repeat (first | apply Kd.R_alloc | apply Kd.R_drewN | apply Kd.R_drew)); exact HO365.out) (Kd.R_base ho0) hb)
           have n2_ := Aside0.mk (Kd.R_lower (Kd.R_new' (Kd.R_new' ho0 (Kd.R_lt (by (with_reducible repeat (first | apply Kd.R_alloc | apply Kd.R_drewN | apply Kd.R_drew)); exact HO362.out))) (Kd.R_lt (by (with_reducible repeat (first | apply Kd.R_alloc | apply Kd.R_drewN | apply Kd.R_drew)); exact HO365.out))) (below_size (by repeat (first | (with_reducible first | exact HB.out | apply below_alloc | apply pw_below_drewN | apply below_drew1)))))
           have n3_ := Aside0.mk (below_step (by repeat (first | (with_reducible first | exact HB.out | apply below_alloc | apply pw_below_drewN | apply below_drew1))) hb)
           clear HO362
           clear HO365
           clear HB
           have HO362 := n0_
           have HO365 := n1_
           have HO368 := n2_
           have HB := n3_
           clear n0_ n1_ n2_ n3_
           (try clear hb)
           (try clear hb2)
           (try clear hk)
           (try clear hi)
           (try clear ho0)
           obtain ⟨Ao31, co31, eo31⟩ := Kd.R_slice HO365.out
           (first | subst eo31 | (injection eo31 with f1_ f2_ f3_; have f4_ := f1_.symm; have f5_ := f3_.symm; clear f1_ f2_ f3_; subst f4_; subst f5_))
           obtain ⟨Ao32, co32, eo32⟩ := Kd.R_slice HO368.out
           (first | subst eo32 | (injection eo32 with f1_ f2_ f3_; have f4_ := f1_.symm; have f5_ := f3_.symm; clear f1_ f2_ f3_; subst f4_; subst f5_))
           refine hK.out _ _ (((HB.out.cell (World.block_lt_of_cell? w _ hw359_0)).trans hw359_0)) (fun hHeld => ?_)
           clear hK K
           refine norm_ (a' := ?_) ?_ ?_
           rotate_left
           ·show Act.put _ (some 54) _ = _
            simp only [Act.put, List.setIfInBounds_toArray, List.set_cons_zero, List.set_cons_succ, i64_w, i32_w]
            rfl
           refine one_ (i := 16) (N := some 56) #[true, true, true, true, true, true, true, true, true, true, true, true, true, true, true, true, true, false, false] rfl rfl (one_of HT_.out (by kernel_rfl)) (by decide) (fun K hK => ?_)
           refine goes_ Try.func58 (by kernel_rfl) rfl #[.slice A0 l0.length c0, .int .i64 a1, .slice Ao31 y363.length co31, .slice Ao32 t366.length co32, .bool a4] (by rfl) rfl rfl (by (try simp only [List.map_toArray, List.map_cons, List.map_nil]); first | done | rfl | (simp only [List.length_drop, List.length_take]; rfl)) ?_
           with_reducible refine (ih kj10 (by have := HK1.out; have := HJ10.out; omega) _ _ l0 a1 _ _ y363 _ _ t366 a4 t369 _ ?side1 ?side2 ?side3 ?side4 ?side5 ?side6 A20.out).mono ?_
           (case side1 => repeat (first | exact (Kd.C_below HR0.out HB.out) | (with_reducible refine Kd.C_alloc ?_ _) | (with_reducible refine Kd.C_drewN ?_ _) | (with_reducible refine Kd.C_drew ?_)))
           (case side2 => exact HC0.out)
           (case side3 => repeat (first | exact (Kd.R_reads' HO365.out).2.2 | (with_reducible refine Kd.C_alloc ?_ _) | (with_reducible refine Kd.C_drewN ?_ _) | (with_reducible refine Kd.C_drew ?_)))
           (case side4 => exact (Kd.R_reads' HO365.out).2.1)
           (case side5 => repeat (first | exact (Kd.R_reads' HO368.out).2.2 | (with_reducible refine Kd.C_alloc ?_ _) | (with_reducible refine Kd.C_drewN ?_ _) | (with_reducible refine Kd.C_drew ?_)))
           (case side6 => exact (Kd.R_reads' HO368.out).2.1)
           rintro e w33 ⟨rfl, hb⟩
           refine ⟨_, rfl, ?_⟩
           have n0_ := Aside0.mk (Kd.R_below (by (with_reducible repeat (first | apply Kd.R_alloc | apply Kd.R_drewN | apply Kd.R_drew)); exact HO362.out) hb)
           have n1_ := Aside0.mk (Kd.R_below (by (with_reducible repeat (first | apply Kd.R_alloc | apply Kd.R_drewN | apply Kd.R_drew)); exact HO365.out) hb)
           have n2_ := Aside0.mk (Kd.R_below (by (with_reducible repeat (first | apply Kd.R_alloc | apply Kd.R_drewN | apply Kd.R_drew)); exact HO368.out) hb)
           have n3_ := Aside0.mk (below_step (by repeat (first | (with_reducible first | exact HB.out | apply below_alloc | apply pw_below_drewN | apply below_drew1))) hb)
           clear HO362
           clear HO365
           clear HO368
           clear HB
           have HO362 := n0_
           have HO365 := n1_
           have HO368 := n2_
           have HB := n3_
           clear n0_ n1_ n2_ n3_
           (try clear hb)
           (try clear hb2)
           (try clear hk)
           (try clear hi)
           refine hK.out _ _ (((HB.out.cell (World.block_lt_of_cell? w _ hw359_0)).trans hw359_0)) (fun hHeld => ?_)
           clear hK K
           refine norm_ (a' := ?_) ?_ ?_
           rotate_left
           ·show Act.put _ (some 56) _ = _
            simp only [Act.put, List.setIfInBounds_toArray, List.set_cons_zero, List.set_cons_succ, i64_w, i32_w]
            rfl
           refine pure_ (i := 17) (N := some 57) (v := ?_) (a' := ?_) #[true, true, true, true, true, true, true, true, true, true, true, true, true, true, true, true, true, true, false] rfl rfl (any_of HT_.out (by kernel_rfl)) (fun _ _ _ h => h) (Or.inl ⟨by rfl, ?_⟩) ?_ ?_
           rotate_left
           ·intro w'
            go_simp
            with_reducible rfl
           rotate_left
           ·simp only [Act.put, List.setIfInBounds_toArray, List.set_cons_zero, List.set_cons_succ, i64_w, i32_w]
            rfl
           refine pure_ (i := 18) (N := some 13) (v := ?_) (a' := ?_) #[true, true, true, true, true, true, true, true, true, true, true, true, true, true, true, true, true, true, true] rfl rfl (any_of HT_.out (by kernel_rfl)) (fun _ _ _ h => h) (Or.inl ⟨by rfl, ?_⟩) ?_ ?_
           rotate_left
           ·intro w'
            go_simp
            with_reducible rfl
           rotate_left
           ·simp only [Act.put, List.setIfInBounds_toArray, List.set_cons_zero, List.set_cons_succ, i64_w, i32_w]
            rfl
           refine done_ (done_of HT_.out (by kernel_rfl)) ?_
           try go_wp2
           go_roundg kj10
           case measure => have := HK1.out; have := HJ10.out; omega
           case rel => exact ⟨(wrap64 (x13_1 + t369)), (wrap64 (x14_1 + 1)), (by first | rfl | (simp; done) | (simp [*]; done)), (by first | rfl | (simp; done) | (simp [*]; done)), H', ⟨by have := HK1.out; have := HJ10.out; omega⟩, ⟨by repeat (first | (with_reducible first | exact HB.out | apply below_alloc | apply pw_below_drewN | apply below_drew1))⟩⟩
          ·rw [if_neg c18] at H
           exact absurd H (by simp)
         ·rw [if_neg c17] at H
          exact absurd H (by simp)
        ·rw [if_neg c16] at H
         exact absurd H (by simp)
       ·rw [if_neg c15] at H
        exact absurd H (by simp)
      ·replace c14 := Bool.eq_false_iff.mpr c14
       subst c14
       have H1 : (some x13_1) = some r := by rw [if_neg (show ¬ (false = true) by decide)] at H; exact H
       clear H
       have H := H1
       clear H1
       obtain rfl := Option.some.inj H
       go_wp2
       go_ret
       exact ⟨by first | rfl | (simp <;> rfl) | (simp [*] <;> rfl), by repeat (first | (with_reducible first | exact HB.out | apply below_alloc | apply pw_below_drewN | apply below_drew1))⟩
def ref13_all.l0 : Nat → Int → List Int → Int → Option (List Int)
 | 0, _, _, _ => none
 | k + 1, x0, x3, x4 => if x4 < x0 then (if x3.length < 17592186044416 then (ref13_all.l0 k x0 (x3 ++ [x4]) (wrap64 (x4 + 1))) else (none)) else (some x3)
def ref13_all.f (k : Nat) (a0 : Int) : Option (List Int) := ref13_all.l0 k a0 (([] : List Int)) 0
theorem ref13_all.mono_l : ∀ k, (∀ y0 y1 y2, LeO (ref13_all.l0 k y0 y1 y2) (ref13_all.l0 (k + 1) y0 y1 y2))
 | 0 => fun _ _ _ r h => by simp [ref13_all.l0] at h
 | k + 1 => by
  have ih0 := ref13_all.mono_l k
  ·intro y0 y1 y2
   unfold ref13_all.l0
   repeat' first
   | (with_reducible exact ih0 _ _ _)
   | (with_reducible exact LeO.refl _)
   | (with_reducible exact LeO.none _)
   | (with_reducible refine LeO.ite ?_ ?_)
   | (with_reducible refine LeO.bind ?_ (fun _ => ?_))
   | exact ih0 _ _ _
   | exact LeO.none _
   | refine LeO.ite ?_ ?_
   | refine LeO.bind ?_ (fun _ => ?_)
theorem ref13_all.mono : ∀ a0 k, LeO (ref13_all.f k a0) (ref13_all.f (k + 1) a0) := by
 intro a0 k
 have ih0 := ref13_all.mono_l k
 unfold ref13_all.f
 repeat' first
   | (with_reducible exact ih0 _ _ _)
   | (with_reducible exact LeO.refl _)
   | (with_reducible exact LeO.none _)
   | (with_reducible refine LeO.ite ?_ ?_)
   | (with_reducible refine LeO.bind ?_ (fun _ => ?_))
   | exact ih0 _ _ _
   | exact LeO.none _
   | refine LeO.ite ?_ ?_
   | refine LeO.bind ?_ (fun _ => ?_)
set_option maxHeartbeats 8000000 in
set_option maxRecDepth 100000 in
theorem ref13_all.calls (k : Nat) (a0 : Int) (r : List Int) (w : World) (h : ref13_all.f k a0 = some r) :
  Calls Try.prog 59 #[.int .i64 a0] w fun e w' => ∃ v0_ : Value, e = .returned (v0_) ∧ Kd.R (Kd.int .i64) 3 w' w.heap.size (fun _ => True) v0_ r ∧ Below w.heap.size w w' := by
 have HB := Aside0.mk (Below.refl w.heap.size w)
 have H : (ref13_all.l0 k a0 (([] : List Int)) 0) = some r := h
 clear h
 obtain ⟨y370, hy370⟩ : ∃ y_ : List Int, y_ = (([] : List Int)) := ⟨_, rfl⟩
 replace H : (ref13_all.l0 k a0 y370 0) = some r := by first | (rw [hy370]; with_reducible exact H) | (have H2_ := (Option.bind_some _ _).symm.trans H; rw [hy370]; with_reducible exact H2_) | (have H2_ := (Option.bind_some _ _).symm.trans H; with_reducible exact H2_) | with_reducible exact H | (rw [hy370]; exact H) | exact H
 have Ny370 := Aside0.mk hy370
 clear hy370
 have H' := Aside0.mk H
 clear H
 go_enter Try.func59, Try.ntmps59
 go_wp2_with (first | ((with_reducible refine gate_dst (N := 5) rfl ?_); refine Kd.R_lit (Kd.int .i64) _ 3 ?hg (N := 5) ?hd (xs := ([] : List Int)) (inner := []) (ok := fun _ => True) (okp := fun _ => True) ?hr ?hp (fun _ hk => hk) trivial (Below.refl _ _) (Nat.le_refl _) (by simp) ?_; (case hd => rfl); (case hg => rfl); (case hr => first | (go_simp; done) | (go_simp; rfl)); (case hp => exact (Reps.none _ _)); intro v371 w2 ho3 hb hg_ hnew_; clear hg_ hnew_; (first | rw [← Ny370.out] at ho3 | (simp only [Int.reduceToNat] at ho3; rw [← Ny370.out] at ho3)); have n0_ := Aside0.mk (Kd.R_lower ho3 (below_size (by repeat (first | (with_reducible first | exact HB.out | apply below_alloc | apply pw_below_drewN | apply below_drew1))))); have n1_ := Aside0.mk (below_step (by repeat (first | (with_reducible first | exact HB.out | apply below_alloc | apply pw_below_drewN | apply below_drew1))) hb); clear HB; have HO372 := n0_; have HB := n1_; clear n0_ n1_; clear hb ho3))
 go_loopg [3, 4] k (fun kq v3 v4 w' => ∃ (x3_1 : List Int) (x4_1 : Int), v4 = .int .i64 x4_1 ∧ Aside0 (ref13_all.l0 kq a0 x3_1 x4_1 = some r) ∧ Aside0 (kq ≤ k) ∧ Aside0 (Kd.R (Kd.int .i64) 3 w' w.heap.size (fun _ => True) v3 x3_1) ∧ Aside0 (Below w.heap.size w w'))
 case atStart => exact ⟨(y370), (0), (by first | rfl | (simp; done) | (simp [*]; done)), H', ⟨Nat.le_refl _⟩, ⟨by (with_reducible repeat (first | apply Kd.R_alloc | apply Kd.R_drewN | apply Kd.R_drew)); exact HO372.out⟩, ⟨by repeat (first | (with_reducible first | exact HB.out | apply below_alloc | apply pw_below_drewN | apply below_drew1))⟩⟩
 case round =>
  clear H'
  try clear p2
  obtain ⟨x3_1, x4_1, rfl, HA, HK1, HO_3, HB⟩ := hrel
  cases gk with
  | zero => exact absurd HA.out (by simp [ref13_all.l0])
  | succ k1 =>
   have H := HA.out
   clear HA
   simp only [ref13_all.l0] at H
   by_cases c4 : x4_1 < a0
   ·rw [if_pos c4] at H
    have c4b0 : decide (x4_1 < a0) = true := decide_eq_true c4
    clear c4
    by_cases c5 : x3_1.length < 17592186044416
    ·rw [if_pos c5] at H
     have LMc5 := Aside0.mk c5
     clear c5
     obtain ⟨y373, hy373⟩ : ∃ y_ : List Int, y_ = (x3_1 ++ [x4_1]) := ⟨_, rfl⟩
     replace H : (ref13_all.l0 k1 a0 y373 (wrap64 (x4_1 + 1))) = some r := by first | (rw [hy373]; with_reducible exact H) | (have H2_ := (Option.bind_some _ _).symm.trans H; rw [hy373]; with_reducible exact H2_) | (have H2_ := (Option.bind_some _ _).symm.trans H; with_reducible exact H2_) | with_reducible exact H | (rw [hy373]; exact H) | exact H
     have Ny373 := Aside0.mk hy373
     clear hy373
     have H' := Aside0.mk H
     clear H
     go_wp2_with (first | ((with_reducible refine gate_builtin (b := .append) (xs := #[.tmp 11, .tmp 13]) rfl ?_); at_builtin; refine Kd.R_append (Kd.int .i64) (w0 := w) w.heap.size rfl (.tmp 11) (.tmp 13) 69 3 (.int .i64 0) 8 rfl Try.underlying69 info3 rfl (by decide) (by omega) u3 x3_1 x4_1 [.int .i64 x4_1] (fun _ => True) (fun _ => False) rfl rfl ?aP (fun _ hk => hk.elim) ?aF ?aO ?aB ?aS ?aL ?_; (case aP => exact rfl); (case aB => exact (by repeat (first | (with_reducible first | exact HB.out | apply below_alloc | apply pw_below_drewN | apply below_drew1)))); (case aF => exact (fun _ _ => trivial)); (case aO => exact (by (with_reducible repeat (first | apply Kd.R_alloc | apply Kd.R_drewN | apply Kd.R_drew)); exact HO_3.out)); (case aS => exact (below_size (by repeat (first | (with_reducible first | exact HB.out | apply below_alloc | apply pw_below_drewN | apply below_drew1))))); (case aL => have := LMc5.out; omega); intro v374 w6 ho hb hg hat; rw [← Ny373.out] at ho; have n0_ := Aside0.mk (hb); have n1_ := Aside0.mk (ho); clear HB; clear HO_3; have HB := n0_; have HO375 := n1_; clear n0_ n1_; clear ho hb hg hat))
     go_roundg k1
     case measure => have := HK1.out; omega
     case rel => exact ⟨(y373), (wrap64 (x4_1 + 1)), (by first | rfl | (simp; done) | (simp [*]; done)), H', ⟨by have := HK1.out; omega⟩, ⟨by (with_reducible repeat (first | apply Kd.R_alloc | apply Kd.R_drewN | apply Kd.R_drew)); exact HO375.out⟩, ⟨by repeat (first | (with_reducible first | exact HB.out | apply below_alloc | apply pw_below_drewN | apply below_drew1))⟩⟩
    ·rw [if_neg c5] at H
     exact absurd H (by simp)
   ·rw [if_neg c4] at H
    have c4b0 : decide (x4_1 < a0) = false := decide_eq_false c4
    clear c4
    obtain rfl := Option.some.inj H
    go_wp2
    go_ret
    exact ⟨_, by first | rfl | (simp <;> rfl) | (simp [*] <;> rfl), by (with_reducible repeat (first | apply Kd.R_alloc | apply Kd.R_drewN | apply Kd.R_drew)); exact HO_3.out, by repeat (first | (with_reducible first | exact HB.out | apply below_alloc | apply pw_below_drewN | apply below_drew1))⟩
def ref13_Accepts.f (k : Nat) (l0 : List (S44)) (a1 : Int) : Option (Bool) := (ref13_all.f k (l0.length : Int)).bind fun t376 => ((ref13_count.f k l0 a1 ([] : List Int) t376 true).bind fun t379 => (some (decide (t379 > 0))))
theorem ref13_Accepts.mono : ∀ a0 a1 k, LeO (ref13_Accepts.f k a0 a1) (ref13_Accepts.f (k + 1) a0 a1) := by
 intro a0 a1 k
 unfold ref13_Accepts.f
 repeat' first
   | (with_reducible exact ref13_all.mono _ _)
   | (with_reducible exact ref13_count.mono _ _ _ _ _ _)
   | (with_reducible exact LeO.refl _)
   | (with_reducible exact LeO.none _)
   | (with_reducible refine LeO.ite ?_ ?_)
   | (with_reducible refine LeO.bind ?_ (fun _ => ?_))
   | exact ref13_all.mono _ _
   | exact ref13_count.mono _ _ _ _ _ _
   | exact LeO.none _
   | refine LeO.ite ?_ ?_
   | refine LeO.bind ?_ (fun _ => ?_)
set_option maxHeartbeats 8000000 in
set_option maxRecDepth 100000 in
theorem ref13_Accepts.calls (k : Nat) (A0 : Option Addr) (c0 : Nat) (l0 : List (S44)) (a1 : Int) (r : Bool) (w : World) (hr0 : Kd.C k44 w A0 l0.length l0) (hc0 : l0.length ≤ c0) (h : ref13_Accepts.f k l0 a1 = some r) :
  Calls Try.prog 17 #[.slice A0 l0.length c0, .int .i64 a1] w fun e w' => e = .returned (.bool r) ∧ Below w.heap.size w w' := by
 have HR0 := Aside0.mk hr0
 have HC0 := Aside0.mk hc0
 clear hr0 hc0
 have HB := Aside0.mk (Below.refl w.heap.size w)
 have H : ((ref13_all.f k (l0.length : Int)).bind fun t376 => ((ref13_count.f k l0 a1 ([] : List Int) t376 true).bind fun t379 => (some (decide (t379 > 0))))) = some r := h
 clear h
 replace H := Option.bind_eq_some_iff.mp H
 obtain ⟨t376, A30, H⟩ := H
 replace H : ((ref13_count.f k l0 a1 ([] : List Int) t376 true).bind fun t379 => (some (decide (t379 > 0)))) = some r := H
 have A3 := Aside0.mk A30
 clear A30
 replace H := Option.bind_eq_some_iff.mp H
 obtain ⟨t379, A40, H⟩ := H
 replace H : (some (decide (t379 > 0))) = some r := H
 have A4 := Aside0.mk A40
 clear A40
 obtain rfl := Option.some.inj H
 go_enter Try.func17, Try.ntmps17
 go_wp2_with (first | ((with_reducible refine gate_callee (f := 59) rfl ?_); refine goesL_ (some 9) rfl rfl Try.func59 (by kernel_rfl) rfl #[.int .i64 (l0.length : Int)] rfl (by (try simp only [List.map_toArray, List.map_cons, List.map_nil]); first | done | rfl | (simp only [List.length_drop, List.length_take]; rfl)) ?_; (with_reducible refine (ref13_all.calls k (l0.length : Int) t376 _ A3.out).mono ?_); rintro e w5 ⟨v377, rfl, ho0, hb⟩; refine ⟨_, rfl, ?_⟩; have n0_ := Aside0.mk (Kd.R_lower ho0 (below_size (by repeat (first | (with_reducible first | exact HB.out | apply below_alloc | apply pw_below_drewN | apply below_drew1))))); have n1_ := Aside0.mk (below_step (by repeat (first | (with_reducible first | exact HB.out | apply below_alloc | apply pw_below_drewN | apply below_drew1))) hb); clear HB; have HO378 := n0_; have HB := n1_; clear n0_ n1_; (try clear hb); (try clear hb2); (try clear hk); (try clear hi); (try clear ho0); obtain ⟨Ao6, co6, eo6⟩ := Kd.R_slice HO378.out; subst eo6) | ((with_reducible refine gate_callee (f := 58) rfl ?_); refine goesL_ (some 10) rfl rfl Try.func58 (by kernel_rfl) rfl #[.slice A0 l0.length c0, .int .i64 a1, .slice none 0 0, .slice Ao6 t376.length co6, .bool true] rfl (by (try simp only [List.map_toArray, List.map_cons, List.map_nil]); first | done | rfl | (simp only [List.length_drop, List.length_take]; rfl)) ?_; (refine (ref13_count.calls k _ _ l0 a1 _ _ ([] : List Int) _ _ t376 true t379 _ ?side1 ?side2 ?side3 ?side4 ?side5 ?side6 A4.out).mono ?_); (case side1 => repeat (first | exact (Kd.C_below HR0.out HB.out) | (with_reducible refine Kd.C_alloc ?_ _) | (with_reducible refine Kd.C_drewN ?_ _) | (with_reducible refine Kd.C_drew ?_))); (case side2 => exact HC0.out); (case side3 => exact Kd.C_nil _ _); (case side4 => exact Nat.le_refl _); (case side5 => repeat (first | exact (Kd.R_reads' HO378.out).2.2 | (with_reducible refine Kd.C_alloc ?_ _) | (with_reducible refine Kd.C_drewN ?_ _) | (with_reducible refine Kd.C_drew ?_))); (case side6 => exact (Kd.R_reads' HO378.out).2.1); rintro e w7 ⟨rfl, hb⟩; refine ⟨_, rfl, ?_⟩; have n0_ := Aside0.mk (Kd.R_below (by (with_reducible repeat (first | apply Kd.R_alloc | apply Kd.R_drewN | apply Kd.R_drew)); exact HO378.out) hb); have n1_ := Aside0.mk (below_step (by repeat (first | (with_reducible first | exact HB.out | apply below_alloc | apply pw_below_drewN | apply below_drew1))) hb); clear HO378; clear HB; have HO378 := n0_; have HB := n1_; clear n0_ n1_; (try clear hb); (try clear hb2); (try clear hk); (try clear hi)))
 go_ret
 exact ⟨by first | rfl | (simp <;> rfl) | (simp [*] <;> rfl), by repeat (first | (with_reducible first | exact HB.out | apply below_alloc | apply pw_below_drewN | apply below_drew1))⟩
def entryNames : List ByteArray := [⟨#[111, 119, 110, 32, 119, 114, 105, 116, 101, 32, 117, 110, 115, 101, 101, 110]⟩, ⟨#[99, 97, 117, 115, 101, 32, 117, 110, 115, 101, 101, 110]⟩, ⟨#[108, 111, 110, 103, 32, 102, 111, 114, 107]⟩, ⟨#[108, 111, 115, 116, 32, 117, 112, 100, 97, 116, 101]⟩, ⟨#[119, 114, 105, 116, 101, 32, 115, 107, 101, 119]⟩, ⟨#[115, 116, 97, 108, 101, 32, 114, 101, 97, 100]⟩]
set_option maxRecDepth 100000 in
theorem name_index (a : Int) (h0 : 0 ≤ a) (h1 : a < 6) (W : World) : (Instr.index 99 (.agg #[.string ⟨#[111, 119, 110, 32, 119, 114, 105, 116, 101, 32, 117, 110, 115, 101, 101, 110]⟩, .string ⟨#[99, 97, 117, 115, 101, 32, 117, 110, 115, 101, 101, 110]⟩, .string ⟨#[108, 111, 110, 103, 32, 102, 111, 114, 107]⟩, .string ⟨#[108, 111, 115, 116, 32, 117, 112, 100, 97, 116, 101]⟩, .string ⟨#[119, 114, 105, 116, 101, 32, 115, 107, 101, 119]⟩, .string ⟨#[115, 116, 97, 108, 101, 32, 114, 101, 97, 100]⟩]) (.int .i64 a)).run Try.prog W = .ok (.string (entryNames.getD a.toNat ByteArray.empty)) W := by
 have : a = 0 ∨ a = 1 ∨ a = 2 ∨ a = 3 ∨ a = 4 ∨ a = 5 := by omega
 rcases this with rfl | rfl | rfl | rfl | rfl | rfl <;> rfl
def burgagelaw20_name.f (a0 : Int) : Option (ByteArray) := if 0 ≤ a0 then (if a0 < 6 then some (entryNames.getD a0.toNat ByteArray.empty) else none) else none
set_option maxHeartbeats 1000000 in
theorem burgagelaw20_name.calls (a0 : Int) (r : ByteArray) (w : World) (h : burgagelaw20_name.f a0 = some r) :
  Calls Try.prog 21 #[.int .i64 a0] w fun e w' => e = .returned (.string r) ∧ Drawn0 w w' := by
 have hc : 0 ≤ a0 ∧ a0 < 6 := by
  unfold burgagelaw20_name.f at h
  by_cases h0 : 0 ≤ a0
  ·rw [if_pos h0] at h
   by_cases h1 : a0 < 6
   ·exact ⟨h0, h1⟩
   ·rw [if_neg h1] at h; cases h
  ·rw [if_neg h0] at h; cases h
 have hr : entryNames.getD a0.toNat ByteArray.empty = r := by unfold burgagelaw20_name.f at h; rw [if_pos hc.1, if_pos hc.2] at h; exact (Option.some.inj h)
 have hidx := name_index a0 hc.1 hc.2
 rw [hr] at hidx
 clear h hc hr
 have hu := Try.underlying99
 go_enter Try.func21, Try.ntmps21
 go_wp2
 go_ret
 exact ⟨rfl, Drawn0.refl _⟩
end Go.Proofs.Ytfocaefnmfkojaa.Q
namespace Go.Proofs.Ytfocaefnmfkojaa.Q
open Go.RowKit Go.Proofs.YtfocaefnmfkojaaW.PrintWords Go.Proofs.YtfocaefnmfkojaaW.PrintLast Go.Proofs.YtfocaefnmfkojaaW.PrintMore
attribute [local go_sem] max2_int min2_int max_two min_two max_three min_three max_four min_four   -- for this text's walks alone
set_option linter.unusedVariables false
set_option linter.unusedSimpArgs false
mutual
def burgagelaw20_CatalogueParts.j0 : Nat → Int → Int → Bool → Bool → ByteArray → List (S44) → Int → Option (Bool)
 | 0, _, _, _, _, _, _, _ => none
 | k + 1, x0, x1, x6, x35, x388000, x388001, x388002 => if x35 = true then (if x6 = true then (some false) else (if x388000.toList = ([] : List UInt8) then (if (x388001.length : Int) = 0 then (some (x388002 == 0)) else (some false)) else (some false))) else (if x6 = true then ((ref06_Check.f k x388001).bind fun t389 => (if t389 = 0 then (if (x388001.length : Int) > 4 then (burgagelaw20_CatalogueParts.j1 k x0 x1 true x388000 x388001 x388002) else ((ref13_Accepts.f k x388001 x0).bind fun t390 => (if t390 = true then ((ref13_Accepts.f k x388001 x1).bind fun t391 => (burgagelaw20_CatalogueParts.j1 k x0 x1 t391 x388000 x388001 x388002)) else (burgagelaw20_CatalogueParts.j1 k x0 x1 true x388000 x388001 x388002)))) else (burgagelaw20_CatalogueParts.j1 k x0 x1 true x388000 x388001 x388002))) else (burgagelaw20_CatalogueParts.j1 k x0 x1 true x388000 x388001 x388002))
def burgagelaw20_CatalogueParts.j1 : Nat → Int → Int → Bool → ByteArray → List (S44) → Int → Option (Bool)
 | 0, _, _, _, _, _, _ => none
 | k + 1, x0, x1, x80, x388000, x388001, x388002 => if x80 = true then (some false) else (burgagelaw20_CatalogueParts.l0 k x0 x1 1 0 x388000 x388001 x388002)
def burgagelaw20_CatalogueParts.l0 : Nat → Int → Int → Int → Int → ByteArray → List (S44) → Int → Option (Bool)
 | 0, _, _, _, _, _, _, _ => none
 | k + 1, x0, x1, x7, x8, x388000, x388001, x388002 => if x8 < 6 then ((ref09_Asks.f x1).bind fun t392 => ((ref09_Has.f t392 x7).bind fun t393 => (if t393 = true then ((ref09_Asks.f x0).bind fun t394 => ((ref09_Closed.f k t394).bind fun t395 => ((ref09_Has.f t395 x7).bind fun t396 => (if t396 = true then (burgagelaw20_CatalogueParts.l0 k x0 x1 (wrap64 (x7 * 2)) (wrap64 (x8 + 1)) x388000 x388001 x388002) else (if x388002 = x7 then ((burgagelaw20_name.f x8).bind fun t397 => (some (x388000.toList == t397.toList))) else (some false)))))) else (burgagelaw20_CatalogueParts.l0 k x0 x1 (wrap64 (x7 * 2)) (wrap64 (x8 + 1)) x388000 x388001 x388002)))) else (some false)
end
def burgagelaw20_CatalogueParts.f (k : Nat) (a0 : Int) (a1 : Int) : Option (Bool) := (burgagelaw20_speaks.f k).bind fun t380 => (if t380 = true then ((catalogue_Find.f k a0 a1).bind fun bt381 => (if a0 < 0 then (burgagelaw20_CatalogueParts.j0 k a0 a1 bt381.2.2.2 true bt381.1 bt381.2.1 bt381.2.2.1) else (if a0 > 11 then (burgagelaw20_CatalogueParts.j0 k a0 a1 bt381.2.2.2 true bt381.1 bt381.2.1 bt381.2.2.1) else (if a1 < 0 then (burgagelaw20_CatalogueParts.j0 k a0 a1 bt381.2.2.2 true bt381.1 bt381.2.1 bt381.2.2.1) else (if a1 > 11 then (burgagelaw20_CatalogueParts.j0 k a0 a1 bt381.2.2.2 true bt381.1 bt381.2.1 bt381.2.2.1) else ((ref10_Implies.f k a0 a1).bind fun t388 => (burgagelaw20_CatalogueParts.j0 k a0 a1 bt381.2.2.2 t388 bt381.1 bt381.2.1 bt381.2.2.1))))))) else (some false))
theorem burgagelaw20_CatalogueParts.mono_l : ∀ k, (∀ y0 y1 y2 y3 y4 y5 y6, LeO (burgagelaw20_CatalogueParts.j0 k y0 y1 y2 y3 y4 y5 y6) (burgagelaw20_CatalogueParts.j0 (k + 1) y0 y1 y2 y3 y4 y5 y6)) ∧ (∀ y0 y1 y2 y3 y4 y5, LeO (burgagelaw20_CatalogueParts.j1 k y0 y1 y2 y3 y4 y5) (burgagelaw20_CatalogueParts.j1 (k + 1) y0 y1 y2 y3 y4 y5)) ∧ (∀ y0 y1 y2 y3 y4 y5 y6, LeO (burgagelaw20_CatalogueParts.l0 k y0 y1 y2 y3 y4 y5 y6) (burgagelaw20_CatalogueParts.l0 (k + 1) y0 y1 y2 y3 y4 y5 y6))
 | 0 => ⟨fun _ _ _ _ _ _ _ r h => by simp [burgagelaw20_CatalogueParts.j0] at h, fun _ _ _ _ _ _ r h => by simp [burgagelaw20_CatalogueParts.j1] at h, fun _ _ _ _ _ _ _ r h => by simp [burgagelaw20_CatalogueParts.l0] at h⟩
 | k + 1 => by
  obtain ⟨ih0, ih1, ih2⟩ := burgagelaw20_CatalogueParts.mono_l k
  refine ⟨?_, ?_, ?_⟩
  ·intro y0 y1 y2 y3 y4 y5 y6
   unfold burgagelaw20_CatalogueParts.j0
   repeat' first
   | (with_reducible exact ih0 _ _ _ _ _ _ _)
   | (with_reducible exact ih1 _ _ _ _ _ _)
   | (with_reducible exact ih2 _ _ _ _ _ _ _)
   | (with_reducible exact burgagelaw20_speaks.mono _)
   | (with_reducible exact ref06_Check.mono _ _)
   | (with_reducible exact ref09_Closed.mono _ _)
   | (with_reducible exact ref10_Implies.mono _ _ _)
   | (with_reducible exact ref13_Accepts.mono _ _ _)
   | (with_reducible exact catalogue_Find.mono _ _ _)
   | (with_reducible exact LeO.refl _)
   | (with_reducible exact LeO.none _)
   | (with_reducible refine LeO.ite ?_ ?_)
   | (with_reducible refine LeO.bind ?_ (fun _ => ?_))
   | exact ih0 _ _ _ _ _ _ _
   | exact ih1 _ _ _ _ _ _
   | exact ih2 _ _ _ _ _ _ _
   | exact burgagelaw20_speaks.mono _
   | exact ref06_Check.mono _ _
   | exact ref09_Closed.mono _ _
   | exact ref10_Implies.mono _ _ _
   | exact ref13_Accepts.mono _ _ _
   | exact catalogue_Find.mono _ _ _
   | exact LeO.none _
   | refine LeO.ite ?_ ?_
   | refine LeO.bind ?_ (fun _ => ?_)
  ·intro y0 y1 y2 y3 y4 y5
   unfold burgagelaw20_CatalogueParts.j1
   repeat' first
   | (with_reducible exact ih0 _ _ _ _ _ _ _)
   | (with_reducible exact ih1 _ _ _ _ _ _)
   | (with_reducible exact ih2 _ _ _ _ _ _ _)
   | (with_reducible exact burgagelaw20_speaks.mono _)
   | (with_reducible exact ref06_Check.mono _ _)
   | (with_reducible exact ref09_Closed.mono _ _)
   | (with_reducible exact ref10_Implies.mono _ _ _)
   | (with_reducible exact ref13_Accepts.mono _ _ _)
   | (with_reducible exact catalogue_Find.mono _ _ _)
   | (with_reducible exact LeO.refl _)
   | (with_reducible exact LeO.none _)
   | (with_reducible refine LeO.ite ?_ ?_)
   | (with_reducible refine LeO.bind ?_ (fun _ => ?_))
   | exact ih0 _ _ _ _ _ _ _
   | exact ih1 _ _ _ _ _ _
   | exact ih2 _ _ _ _ _ _ _
   | exact burgagelaw20_speaks.mono _
   | exact ref06_Check.mono _ _
   | exact ref09_Closed.mono _ _
   | exact ref10_Implies.mono _ _ _
   | exact ref13_Accepts.mono _ _ _
   | exact catalogue_Find.mono _ _ _
   | exact LeO.none _
   | refine LeO.ite ?_ ?_
   | refine LeO.bind ?_ (fun _ => ?_)
  ·intro y0 y1 y2 y3 y4 y5 y6
   unfold burgagelaw20_CatalogueParts.l0
   repeat' first
   | (with_reducible exact ih0 _ _ _ _ _ _ _)
   | (with_reducible exact ih1 _ _ _ _ _ _)
   | (with_reducible exact ih2 _ _ _ _ _ _ _)
   | (with_reducible exact burgagelaw20_speaks.mono _)
   | (with_reducible exact ref06_Check.mono _ _)
   | (with_reducible exact ref09_Closed.mono _ _)
   | (with_reducible exact ref10_Implies.mono _ _ _)
   | (with_reducible exact ref13_Accepts.mono _ _ _)
   | (with_reducible exact catalogue_Find.mono _ _ _)
   | (with_reducible exact LeO.refl _)
   | (with_reducible exact LeO.none _)
   | (with_reducible refine LeO.ite ?_ ?_)
   | (with_reducible refine LeO.bind ?_ (fun _ => ?_))
   | exact ih0 _ _ _ _ _ _ _
   | exact ih1 _ _ _ _ _ _
   | exact ih2 _ _ _ _ _ _ _
   | exact burgagelaw20_speaks.mono _
   | exact ref06_Check.mono _ _
   | exact ref09_Closed.mono _ _
   | exact ref10_Implies.mono _ _ _
   | exact ref13_Accepts.mono _ _ _
   | exact catalogue_Find.mono _ _ _
   | exact LeO.none _
   | refine LeO.ite ?_ ?_
   | refine LeO.bind ?_ (fun _ => ?_)
theorem burgagelaw20_CatalogueParts.mono : ∀ a0 a1 k, LeO (burgagelaw20_CatalogueParts.f k a0 a1) (burgagelaw20_CatalogueParts.f (k + 1) a0 a1) := by
 intro a0 a1 k
 obtain ⟨ih0, ih1, ih2⟩ := burgagelaw20_CatalogueParts.mono_l k
 unfold burgagelaw20_CatalogueParts.f
 repeat' first
   | (with_reducible exact ih0 _ _ _ _ _ _ _)
   | (with_reducible exact ih1 _ _ _ _ _ _)
   | (with_reducible exact ih2 _ _ _ _ _ _ _)
   | (with_reducible exact burgagelaw20_speaks.mono _)
   | (with_reducible exact ref06_Check.mono _ _)
   | (with_reducible exact ref09_Closed.mono _ _)
   | (with_reducible exact ref10_Implies.mono _ _ _)
   | (with_reducible exact ref13_Accepts.mono _ _ _)
   | (with_reducible exact catalogue_Find.mono _ _ _)
   | (with_reducible exact LeO.refl _)
   | (with_reducible exact LeO.none _)
   | (with_reducible refine LeO.ite ?_ ?_)
   | (with_reducible refine LeO.bind ?_ (fun _ => ?_))
   | exact ih0 _ _ _ _ _ _ _
   | exact ih1 _ _ _ _ _ _
   | exact ih2 _ _ _ _ _ _ _
   | exact burgagelaw20_speaks.mono _
   | exact ref06_Check.mono _ _
   | exact ref09_Closed.mono _ _
   | exact ref10_Implies.mono _ _ _
   | exact ref13_Accepts.mono _ _ _
   | exact catalogue_Find.mono _ _ _
   | exact LeO.none _
   | refine LeO.ite ?_ ?_
   | refine LeO.bind ?_ (fun _ => ?_)
set_option maxHeartbeats 8000000 in
set_option maxRecDepth 100000 in
theorem burgagelaw20_CatalogueParts.calls (k : Nat) (a0 : Int) (a1 : Int) (r : Bool) (w : World) (h : burgagelaw20_CatalogueParts.f k a0 a1 = some r) :
  Calls Try.prog 3 #[.int .i64 a0, .int .i64 a1] w fun e w' => e = .returned (.bool r) ∧ Below w.heap.size w w' := by
 have hu25 := Try.underlying25
 have HB := Aside0.mk (Below.refl w.heap.size w)
 have H : ((burgagelaw20_speaks.f k).bind fun t380 => (if t380 = true then ((catalogue_Find.f k a0 a1).bind fun bt381 => (if a0 < 0 then (burgagelaw20_CatalogueParts.j0 k a0 a1 bt381.2.2.2 true bt381.1 bt381.2.1 bt381.2.2.1) else (if a0 > 11 then (burgagelaw20_CatalogueParts.j0 k a0 a1 bt381.2.2.2 true bt381.1 bt381.2.1 bt381.2.2.1) else (if a1 < 0 then (burgagelaw20_CatalogueParts.j0 k a0 a1 bt381.2.2.2 true bt381.1 bt381.2.1 bt381.2.2.1) else (if a1 > 11 then (burgagelaw20_CatalogueParts.j0 k a0 a1 bt381.2.2.2 true bt381.1 bt381.2.1 bt381.2.2.1) else ((ref10_Implies.f k a0 a1).bind fun t388 => (burgagelaw20_CatalogueParts.j0 k a0 a1 bt381.2.2.2 t388 bt381.1 bt381.2.1 bt381.2.2.1))))))) else (some false))) = some r := h
 clear h
 replace H := Option.bind_eq_some_iff.mp H
 obtain ⟨t380, A30, H⟩ := H
 replace H : (if t380 = true then ((catalogue_Find.f k a0 a1).bind fun bt381 => (if a0 < 0 then (burgagelaw20_CatalogueParts.j0 k a0 a1 bt381.2.2.2 true bt381.1 bt381.2.1 bt381.2.2.1) else (if a0 > 11 then (burgagelaw20_CatalogueParts.j0 k a0 a1 bt381.2.2.2 true bt381.1 bt381.2.1 bt381.2.2.1) else (if a1 < 0 then (burgagelaw20_CatalogueParts.j0 k a0 a1 bt381.2.2.2 true bt381.1 bt381.2.1 bt381.2.2.1) else (if a1 > 11 then (burgagelaw20_CatalogueParts.j0 k a0 a1 bt381.2.2.2 true bt381.1 bt381.2.1 bt381.2.2.1) else ((ref10_Implies.f k a0 a1).bind fun t388 => (burgagelaw20_CatalogueParts.j0 k a0 a1 bt381.2.2.2 t388 bt381.1 bt381.2.1 bt381.2.2.1))))))) else (some false)) = some r := H
 have A3 := Aside0.mk A30
 clear A30
 by_cases c4 : t380 = true
 ·subst c4
  have H1 : ((catalogue_Find.f k a0 a1).bind fun bt381 => (if a0 < 0 then (burgagelaw20_CatalogueParts.j0 k a0 a1 bt381.2.2.2 true bt381.1 bt381.2.1 bt381.2.2.1) else (if a0 > 11 then (burgagelaw20_CatalogueParts.j0 k a0 a1 bt381.2.2.2 true bt381.1 bt381.2.1 bt381.2.2.1) else (if a1 < 0 then (burgagelaw20_CatalogueParts.j0 k a0 a1 bt381.2.2.2 true bt381.1 bt381.2.1 bt381.2.2.1) else (if a1 > 11 then (burgagelaw20_CatalogueParts.j0 k a0 a1 bt381.2.2.2 true bt381.1 bt381.2.1 bt381.2.2.1) else ((ref10_Implies.f k a0 a1).bind fun t388 => (burgagelaw20_CatalogueParts.j0 k a0 a1 bt381.2.2.2 t388 bt381.1 bt381.2.1 bt381.2.2.1))))))) = some r := by rw [if_pos rfl] at H; exact H
  clear H
  have H := H1
  clear H1
  replace H := Option.bind_eq_some_iff.mp H
  obtain ⟨⟨t381, t382, t385, t386⟩, A50, H⟩ := H
  replace H : (if a0 < 0 then (burgagelaw20_CatalogueParts.j0 k a0 a1 t386 true t381 t382 t385) else (if a0 > 11 then (burgagelaw20_CatalogueParts.j0 k a0 a1 t386 true t381 t382 t385) else (if a1 < 0 then (burgagelaw20_CatalogueParts.j0 k a0 a1 t386 true t381 t382 t385) else (if a1 > 11 then (burgagelaw20_CatalogueParts.j0 k a0 a1 t386 true t381 t382 t385) else ((ref10_Implies.f k a0 a1).bind fun t388 => (burgagelaw20_CatalogueParts.j0 k a0 a1 t386 t388 t381 t382 t385)))))) = some r := H
  have A5 := Aside0.mk A50
  clear A50
  have HC6 := Aside0.mk H
  clear H
  go_enter Try.func3, Try.ntmps3
  go_upto_region 4 with (first | (go_at_call 13; (with_reducible refine (burgagelaw20_speaks.calls k  true _ A3.out).mono ?_); rintro e w7 ⟨rfl, hb⟩; have n0_ := Aside0.mk (below_step (by repeat (first | (with_reducible first | exact HB.out | apply below_alloc | apply pw_below_drewN | apply below_drew1))) hb); clear HB; have HB := n0_; clear n0_; (try clear hb); (try clear hb2); (try clear hk); (try clear hi)) | (go_at_call 14; (with_reducible refine (catalogue_Find.calls k a0 a1 t381 t382 t385 t386 _ A5.out).mono ?_); rintro e w8 ⟨v383, rfl, ho0, hb⟩; have n0_ := Aside0.mk (Kd.V_lower (Kd.V_mono (ok' := fun k_ => True) ho0 (fun k_ hk_ => trivial)) (below_size (by repeat (first | (with_reducible first | exact HB.out | apply below_alloc | apply pw_below_drewN | apply below_drew1))))); have n1_ := Aside0.mk (below_step (by repeat (first | (with_reducible first | exact HB.out | apply below_alloc | apply pw_below_drewN | apply below_drew1))) hb); clear HB; have HO384 := n0_; have HB := n1_; clear n0_ n1_; (try clear hb); (try clear hb2); (try clear hk); (try clear hi); (try clear ho0)) | ((with_reducible refine gate_dst (N := 5) rfl ?_); (try (refine gate_guard (by rfl) ?_; dsimp only)); refine box_event ?hg (N := 5) ?hd (cs := #[.string (⟨#[]⟩ : ByteArray), .slice none 0 0, .int .i64 0]) (t := 25) ?hr ?_; (case hd => rfl); (case hg => rfl); (case hr => first | (go_simp; done) | (go_simp; rfl)); intro gb387 hg w9 hbox hb; have n0_ := Aside0.mk (Kd.V_below (Kd.V_elderB (by (with_reducible repeat (first | apply Kd.V_alloc | apply Kd.V_drewN | apply Kd.V_drew)); exact HO384.out) gb387 (Nat.le_of_eq hg.symm)) hb); have n1_ := Aside0.mk (below_step (by repeat (first | (with_reducible first | exact HB.out | apply below_alloc | apply pw_below_drewN | apply below_drew1))) hb); have n2_ := Aside0.mk (hbox); have n3_ := Aside0.mk ((by rw [hg]; exact (below_size (by repeat (first | (with_reducible first | exact HB.out | apply below_alloc | apply pw_below_drewN | apply below_drew1)))) : w.heap.size ≤ gb387)); have n4_ := Aside0.mk ((by rw [hg]; exact (below_size (by repeat (first | (with_reducible first | exact HB.out | apply below_alloc | apply pw_below_drewN | apply below_drew1)))) : w.heap.size ≤ gb387)); clear HO384; clear HB; have HO384 := n0_; have HB := n1_; have BK387 := n2_; have GW387 := n3_; have GE387 := n4_; clear n0_ n1_ n2_ n3_ n4_; clear hb hbox hg; have hcz10_0 : w9.cell? ⟨gb387, 0, none⟩ = some (.string (⟨#[]⟩ : ByteArray)) := (blk_cell BK387.out 0).trans rfl; have hcz10_1 : w9.cell? ⟨gb387, 1, none⟩ = some (.slice none 0 0) := (blk_cell BK387.out 1).trans rfl; have hcz10_2 : w9.cell? ⟨gb387, 2, none⟩ = some (.int .i64 0) := (blk_cell BK387.out 2).trans rfl; have hfz10_0 := blk_frozen BK387.out 0; have hfz10_1 := blk_frozen BK387.out 1; have hfz10_2 := blk_frozen BK387.out 2; obtain ⟨Ao11, co11, eo11⟩ := Kd.V_slice HO384.out; subst eo11))
  repeat (go_quiet (first | (go_at_call 13; (with_reducible refine (burgagelaw20_speaks.calls k  true _ A3.out).mono ?_); rintro e w7 ⟨rfl, hb⟩; have n0_ := Aside0.mk (below_step (by repeat (first | (with_reducible first | exact HB.out | apply below_alloc | apply pw_below_drewN | apply below_drew1))) hb); clear HB; have HB := n0_; clear n0_; (try clear hb); (try clear hb2); (try clear hk); (try clear hi)) | (go_at_call 14; (with_reducible refine (catalogue_Find.calls k a0 a1 t381 t382 t385 t386 _ A5.out).mono ?_); rintro e w8 ⟨v383, rfl, ho0, hb⟩; have n0_ := Aside0.mk (Kd.V_lower (Kd.V_mono (ok' := fun k_ => True) ho0 (fun k_ hk_ => trivial)) (below_size (by repeat (first | (with_reducible first | exact HB.out | apply below_alloc | apply pw_below_drewN | apply below_drew1))))); have n1_ := Aside0.mk (below_step (by repeat (first | (with_reducible first | exact HB.out | apply below_alloc | apply pw_below_drewN | apply below_drew1))) hb); clear HB; have HO384 := n0_; have HB := n1_; clear n0_ n1_; (try clear hb); (try clear hb2); (try clear hk); (try clear hi); (try clear ho0)) | ((with_reducible refine gate_dst (N := 5) rfl ?_); (try (refine gate_guard (by rfl) ?_; dsimp only)); refine box_event ?hg (N := 5) ?hd (cs := #[.string (⟨#[]⟩ : ByteArray), .slice none 0 0, .int .i64 0]) (t := 25) ?hr ?_; (case hd => rfl); (case hg => rfl); (case hr => first | (go_simp; done) | (go_simp; rfl)); intro gb387 hg w9 hbox hb; have n0_ := Aside0.mk (Kd.V_below (Kd.V_elderB (by (with_reducible repeat (first | apply Kd.V_alloc | apply Kd.V_drewN | apply Kd.V_drew)); exact HO384.out) gb387 (Nat.le_of_eq hg.symm)) hb); have n1_ := Aside0.mk (below_step (by repeat (first | (with_reducible first | exact HB.out | apply below_alloc | apply pw_below_drewN | apply below_drew1))) hb); have n2_ := Aside0.mk (hbox); have n3_ := Aside0.mk ((by rw [hg]; exact (below_size (by repeat (first | (with_reducible first | exact HB.out | apply below_alloc | apply pw_below_drewN | apply below_drew1)))) : w.heap.size ≤ gb387)); have n4_ := Aside0.mk ((by rw [hg]; exact (below_size (by repeat (first | (with_reducible first | exact HB.out | apply below_alloc | apply pw_below_drewN | apply below_drew1)))) : w.heap.size ≤ gb387)); clear HO384; clear HB; have HO384 := n0_; have HB := n1_; have BK387 := n2_; have GW387 := n3_; have GE387 := n4_; clear n0_ n1_ n2_ n3_ n4_; clear hb hbox hg; have hcz10_0 : w9.cell? ⟨gb387, 0, none⟩ = some (.string (⟨#[]⟩ : ByteArray)) := (blk_cell BK387.out 0).trans rfl; have hcz10_1 : w9.cell? ⟨gb387, 1, none⟩ = some (.slice none 0 0) := (blk_cell BK387.out 1).trans rfl; have hcz10_2 : w9.cell? ⟨gb387, 2, none⟩ = some (.int .i64 0) := (blk_cell BK387.out 2).trans rfl; have hfz10_0 := blk_frozen BK387.out 0; have hfz10_1 := blk_frozen BK387.out 1; have hfz10_2 := blk_frozen BK387.out 2; obtain ⟨Ao11, co11, eo11⟩ := Kd.V_slice HO384.out; subst eo11)); go_upto_region 4 with (first | (go_at_call 13; (with_reducible refine (burgagelaw20_speaks.calls k  true _ A3.out).mono ?_); rintro e w7 ⟨rfl, hb⟩; have n0_ := Aside0.mk (below_step (by repeat (first | (with_reducible first | exact HB.out | apply below_alloc | apply pw_below_drewN | apply below_drew1))) hb); clear HB; have HB := n0_; clear n0_; (try clear hb); (try clear hb2); (try clear hk); (try clear hi)) | (go_at_call 14; (with_reducible refine (catalogue_Find.calls k a0 a1 t381 t382 t385 t386 _ A5.out).mono ?_); rintro e w8 ⟨v383, rfl, ho0, hb⟩; have n0_ := Aside0.mk (Kd.V_lower (Kd.V_mono (ok' := fun k_ => True) ho0 (fun k_ hk_ => trivial)) (below_size (by repeat (first | (with_reducible first | exact HB.out | apply below_alloc | apply pw_below_drewN | apply below_drew1))))); have n1_ := Aside0.mk (below_step (by repeat (first | (with_reducible first | exact HB.out | apply below_alloc | apply pw_below_drewN | apply below_drew1))) hb); clear HB; have HO384 := n0_; have HB := n1_; clear n0_ n1_; (try clear hb); (try clear hb2); (try clear hk); (try clear hi); (try clear ho0)) | ((with_reducible refine gate_dst (N := 5) rfl ?_); (try (refine gate_guard (by rfl) ?_; dsimp only)); refine box_event ?hg (N := 5) ?hd (cs := #[.string (⟨#[]⟩ : ByteArray), .slice none 0 0, .int .i64 0]) (t := 25) ?hr ?_; (case hd => rfl); (case hg => rfl); (case hr => first | (go_simp; done) | (go_simp; rfl)); intro gb387 hg w9 hbox hb; have n0_ := Aside0.mk (Kd.V_below (Kd.V_elderB (by (with_reducible repeat (first | apply Kd.V_alloc | apply Kd.V_drewN | apply Kd.V_drew)); exact HO384.out) gb387 (Nat.le_of_eq hg.symm)) hb); have n1_ := Aside0.mk (below_step (by repeat (first | (with_reducible first | exact HB.out | apply below_alloc | apply pw_below_drewN | apply below_drew1))) hb); have n2_ := Aside0.mk (hbox); have n3_ := Aside0.mk ((by rw [hg]; exact (below_size (by repeat (first | (with_reducible first | exact HB.out | apply below_alloc | apply pw_below_drewN | apply below_drew1)))) : w.heap.size ≤ gb387)); have n4_ := Aside0.mk ((by rw [hg]; exact (below_size (by repeat (first | (with_reducible first | exact HB.out | apply below_alloc | apply pw_below_drewN | apply below_drew1)))) : w.heap.size ≤ gb387)); clear HO384; clear HB; have HO384 := n0_; have HB := n1_; have BK387 := n2_; have GW387 := n3_; have GE387 := n4_; clear n0_ n1_ n2_ n3_ n4_; clear hb hbox hg; have hcz10_0 : w9.cell? ⟨gb387, 0, none⟩ = some (.string (⟨#[]⟩ : ByteArray)) := (blk_cell BK387.out 0).trans rfl; have hcz10_1 : w9.cell? ⟨gb387, 1, none⟩ = some (.slice none 0 0) := (blk_cell BK387.out 1).trans rfl; have hcz10_2 : w9.cell? ⟨gb387, 2, none⟩ = some (.int .i64 0) := (blk_cell BK387.out 2).trans rfl; have hfz10_0 := blk_frozen BK387.out 0; have hfz10_1 := blk_frozen BK387.out 1; have hfz10_2 := blk_frozen BK387.out 2; obtain ⟨Ao11, co11, eo11⟩ := Kd.V_slice HO384.out; subst eo11)))
  (try simp only [Act.put, List.setIfInBounds_toArray, List.set_cons_zero, List.set_cons_succ])
  go_cut [35] (fun v35 wc => ∃ (kq : Nat) (x35_5 : Bool), v35 = .bool x35_5 ∧ Aside0 (burgagelaw20_CatalogueParts.j0 kq a0 a1 t386 x35_5 t381 t382 t385 = some r) ∧ Aside0 (kq ≤ k) ∧ Aside0 (Kd.V k44 44 wc w.heap.size (fun k_ => k_ ≠ gb387) (.slice Ao11 t382.length co11) t382) ∧ Aside0 (wc.heap[gb387]? = some (.cells #[.string t381, (.slice Ao11 t382.length co11), .int .i64 t385] 25 (0, 0))) ∧ Aside0 (Below w.heap.size w wc))
  case first =>
   have H := HC6.out
   clear HC6
   by_cases c12 : a0 < 0
   ·rw [if_pos c12] at H
    have c12b0 : decide (a0 < 0) = true := decide_eq_true c12
    clear c12
    (first | rw [c12b0] | (simp only [i64_w, i32_w]; rw [c12b0]) | skip)
    have H' := Aside0.mk H
    clear H
    go_wp2
    repeat (go_quiet (fail); try go_wp2)
    go_meet
    case rel => exact ⟨_, (true), (by first | rfl | (simp; done) | (simp [*]; done)), H', ⟨by first | omega | exact Nat.le_refl _⟩, ⟨by (with_reducible repeat (first | apply Kd.V_alloc | apply Kd.V_drewN | apply Kd.V_drew)); exact Kd.V_mono (Kd.V_far (p := ⟨gb387, 2, none⟩) (Kd.V_far (p := ⟨gb387, 1, none⟩) (Kd.V_far (p := ⟨gb387, 0, none⟩) (Kd.V_mono HO384.out (fun k_ hk => (⟨hk, hk.2⟩ : _ ∧ k_ ≠ gb387))) (fun _ hk => hk.2) (.string t381)) (fun _ hk => hk.2) (.slice Ao11 t382.length co11)) (fun _ hk => hk.2) (.int .i64 t385)) (fun _ hk => hk.1.2)⟩, ⟨by (with_reducible repeat (first | refine blk_drewN ?_ _ | refine blk_drew ?_ | refine blk_alloc ?_ _)); refine blk_put (cs := #[.string t381, .slice Ao11 t382.length co11, .int .i64 0]) ?_ 2 _ rfl; (with_reducible repeat (first | refine blk_drewN ?_ _ | refine blk_drew ?_ | refine blk_alloc ?_ _)); refine blk_put (cs := #[.string t381, .slice none 0 0, .int .i64 0]) ?_ 1 _ rfl; (with_reducible repeat (first | refine blk_drewN ?_ _ | refine blk_drew ?_ | refine blk_alloc ?_ _)); refine blk_put (cs := #[.string (⟨#[]⟩ : ByteArray), .slice none 0 0, .int .i64 0]) ?_ 0 _ rfl; (with_reducible repeat (first | refine blk_drewN ?_ _ | refine blk_drew ?_ | refine blk_alloc ?_ _)); exact BK387.out⟩, ⟨by repeat (first | (with_reducible first | exact HB.out | apply below_alloc | apply pw_below_drewN | apply below_drew1 | refine below_set ?_ GE387.out))⟩⟩
   ·rw [if_neg c12] at H
    have c12b0 : decide (a0 < 0) = false := decide_eq_false c12
    clear c12
    (first | rw [c12b0] | (simp only [i64_w, i32_w]; rw [c12b0]) | skip)
    by_cases c13 : a0 > 11
    ·rw [if_pos c13] at H
     have c13b0 : decide (11 < a0) = true := decide_eq_true c13
     clear c13
     have H' := Aside0.mk H
     clear H
     go_wp2
     repeat (go_quiet (fail); try go_wp2)
     go_meet
     case rel => exact ⟨_, (true), (by first | rfl | (simp; done) | (simp [*]; done)), H', ⟨by first | omega | exact Nat.le_refl _⟩, ⟨by (with_reducible repeat (first | apply Kd.V_alloc | apply Kd.V_drewN | apply Kd.V_drew)); exact Kd.V_mono (Kd.V_far (p := ⟨gb387, 2, none⟩) (Kd.V_far (p := ⟨gb387, 1, none⟩) (Kd.V_far (p := ⟨gb387, 0, none⟩) (Kd.V_mono HO384.out (fun k_ hk => (⟨hk, hk.2⟩ : _ ∧ k_ ≠ gb387))) (fun _ hk => hk.2) (.string t381)) (fun _ hk => hk.2) (.slice Ao11 t382.length co11)) (fun _ hk => hk.2) (.int .i64 t385)) (fun _ hk => hk.1.2)⟩, ⟨by (with_reducible repeat (first | refine blk_drewN ?_ _ | refine blk_drew ?_ | refine blk_alloc ?_ _)); refine blk_put (cs := #[.string t381, .slice Ao11 t382.length co11, .int .i64 0]) ?_ 2 _ rfl; (with_reducible repeat (first | refine blk_drewN ?_ _ | refine blk_drew ?_ | refine blk_alloc ?_ _)); refine blk_put (cs := #[.string t381, .slice none 0 0, .int .i64 0]) ?_ 1 _ rfl; (with_reducible repeat (first | refine blk_drewN ?_ _ | refine blk_drew ?_ | refine blk_alloc ?_ _)); refine blk_put (cs := #[.string (⟨#[]⟩ : ByteArray), .slice none 0 0, .int .i64 0]) ?_ 0 _ rfl; (with_reducible repeat (first | refine blk_drewN ?_ _ | refine blk_drew ?_ | refine blk_alloc ?_ _)); exact BK387.out⟩, ⟨by repeat (first | (with_reducible first | exact HB.out | apply below_alloc | apply pw_below_drewN | apply below_drew1 | refine below_set ?_ GE387.out))⟩⟩
    ·rw [if_neg c13] at H
     have c13b0 : decide (11 < a0) = false := decide_eq_false c13
     clear c13
     by_cases c14 : a1 < 0
     ·rw [if_pos c14] at H
      have c14b0 : decide (a1 < 0) = true := decide_eq_true c14
      clear c14
      have H' := Aside0.mk H
      clear H
      go_wp2
      repeat (go_quiet (fail); try go_wp2)
      go_meet
      case rel => exact ⟨_, (true), (by first | rfl | (simp; done) | (simp [*]; done)), H', ⟨by first | omega | exact Nat.le_refl _⟩, ⟨by (with_reducible repeat (first | apply Kd.V_alloc | apply Kd.V_drewN | apply Kd.V_drew)); exact Kd.V_mono (Kd.V_far (p := ⟨gb387, 2, none⟩) (Kd.V_far (p := ⟨gb387, 1, none⟩) (Kd.V_far (p := ⟨gb387, 0, none⟩) (Kd.V_mono HO384.out (fun k_ hk => (⟨hk, hk.2⟩ : _ ∧ k_ ≠ gb387))) (fun _ hk => hk.2) (.string t381)) (fun _ hk => hk.2) (.slice Ao11 t382.length co11)) (fun _ hk => hk.2) (.int .i64 t385)) (fun _ hk => hk.1.2)⟩, ⟨by (with_reducible repeat (first | refine blk_drewN ?_ _ | refine blk_drew ?_ | refine blk_alloc ?_ _)); refine blk_put (cs := #[.string t381, .slice Ao11 t382.length co11, .int .i64 0]) ?_ 2 _ rfl; (with_reducible repeat (first | refine blk_drewN ?_ _ | refine blk_drew ?_ | refine blk_alloc ?_ _)); refine blk_put (cs := #[.string t381, .slice none 0 0, .int .i64 0]) ?_ 1 _ rfl; (with_reducible repeat (first | refine blk_drewN ?_ _ | refine blk_drew ?_ | refine blk_alloc ?_ _)); refine blk_put (cs := #[.string (⟨#[]⟩ : ByteArray), .slice none 0 0, .int .i64 0]) ?_ 0 _ rfl; (with_reducible repeat (first | refine blk_drewN ?_ _ | refine blk_drew ?_ | refine blk_alloc ?_ _)); exact BK387.out⟩, ⟨by repeat (first | (with_reducible first | exact HB.out | apply below_alloc | apply pw_below_drewN | apply below_drew1 | refine below_set ?_ GE387.out))⟩⟩
     ·rw [if_neg c14] at H
      have c14b0 : decide (a1 < 0) = false := decide_eq_false c14
      clear c14
      by_cases c15 : a1 > 11
      ·rw [if_pos c15] at H
       have c15b0 : decide (11 < a1) = true := decide_eq_true c15
       clear c15
       have H' := Aside0.mk H
       clear H
       go_wp2
       repeat (go_quiet (fail); try go_wp2)
       go_meet
       case rel => exact ⟨_, (true), (by first | rfl | (simp; done) | (simp [*]; done)), H', ⟨by first | omega | exact Nat.le_refl _⟩, ⟨by (with_reducible repeat (first | apply Kd.V_alloc | apply Kd.V_drewN | apply Kd.V_drew)); exact Kd.V_mono (Kd.V_far (p := ⟨gb387, 2, none⟩) (Kd.V_far (p := ⟨gb387, 1, none⟩) (Kd.V_far (p := ⟨gb387, 0, none⟩) (Kd.V_mono HO384.out (fun k_ hk => (⟨hk, hk.2⟩ : _ ∧ k_ ≠ gb387))) (fun _ hk => hk.2) (.string t381)) (fun _ hk => hk.2) (.slice Ao11 t382.length co11)) (fun _ hk => hk.2) (.int .i64 t385)) (fun _ hk => hk.1.2)⟩, ⟨by (with_reducible repeat (first | refine blk_drewN ?_ _ | refine blk_drew ?_ | refine blk_alloc ?_ _)); refine blk_put (cs := #[.string t381, .slice Ao11 t382.length co11, .int .i64 0]) ?_ 2 _ rfl; (with_reducible repeat (first | refine blk_drewN ?_ _ | refine blk_drew ?_ | refine blk_alloc ?_ _)); refine blk_put (cs := #[.string t381, .slice none 0 0, .int .i64 0]) ?_ 1 _ rfl; (with_reducible repeat (first | refine blk_drewN ?_ _ | refine blk_drew ?_ | refine blk_alloc ?_ _)); refine blk_put (cs := #[.string (⟨#[]⟩ : ByteArray), .slice none 0 0, .int .i64 0]) ?_ 0 _ rfl; (with_reducible repeat (first | refine blk_drewN ?_ _ | refine blk_drew ?_ | refine blk_alloc ?_ _)); exact BK387.out⟩, ⟨by repeat (first | (with_reducible first | exact HB.out | apply below_alloc | apply pw_below_drewN | apply below_drew1 | refine below_set ?_ GE387.out))⟩⟩
      ·rw [if_neg c15] at H
       have c15b0 : decide (11 < a1) = false := decide_eq_false c15
       clear c15
       replace H := Option.bind_eq_some_iff.mp H
       obtain ⟨t388, A160, H⟩ := H
       replace H : (burgagelaw20_CatalogueParts.j0 k a0 a1 t386 t388 t381 t382 t385) = some r := H
       have A16 := Aside0.mk A160
       clear A160
       have H' := Aside0.mk H
       clear H
       go_wp2_with (first | (go_at_call 15; (with_reducible refine (ref10_Implies.calls k a0 a1 t388 _ A16.out).mono ?_); rintro e w' ⟨rfl, ⟨nd, rfl⟩⟩; (try first | exact ⟨rfl, _, World.drewN_drewN _ _ _⟩ | exact ⟨rfl, _, Eq.trans (World.drewN_drewN _ _ _) (congrArg (World.drewN _) (Nat.add_assoc _ _ _))⟩)))
       repeat (go_quiet (first | (go_at_call 15; (with_reducible refine (ref10_Implies.calls k a0 a1 t388 _ A16.out).mono ?_); rintro e w' ⟨rfl, ⟨nd, rfl⟩⟩; (try first | exact ⟨rfl, _, World.drewN_drewN _ _ _⟩ | exact ⟨rfl, _, Eq.trans (World.drewN_drewN _ _ _) (congrArg (World.drewN _) (Nat.add_assoc _ _ _))⟩))); try go_wp2_with (first | (go_at_call 15; (with_reducible refine (ref10_Implies.calls k a0 a1 t388 _ A16.out).mono ?_); rintro e w' ⟨rfl, ⟨nd, rfl⟩⟩; (try first | exact ⟨rfl, _, World.drewN_drewN _ _ _⟩ | exact ⟨rfl, _, Eq.trans (World.drewN_drewN _ _ _) (congrArg (World.drewN _) (Nat.add_assoc _ _ _))⟩))))
       go_meet
       case rel => exact ⟨_, (t388), (by first | rfl | (simp; done) | (simp [*]; done)), H', ⟨by first | omega | exact Nat.le_refl _⟩, ⟨by (with_reducible repeat (first | apply Kd.V_alloc | apply Kd.V_drewN | apply Kd.V_drew)); exact Kd.V_mono (Kd.V_far (p := ⟨gb387, 2, none⟩) (Kd.V_far (p := ⟨gb387, 1, none⟩) (Kd.V_far (p := ⟨gb387, 0, none⟩) (Kd.V_mono HO384.out (fun k_ hk => (⟨hk, hk.2⟩ : _ ∧ k_ ≠ gb387))) (fun _ hk => hk.2) (.string t381)) (fun _ hk => hk.2) (.slice Ao11 t382.length co11)) (fun _ hk => hk.2) (.int .i64 t385)) (fun _ hk => hk.1.2)⟩, ⟨by (with_reducible repeat (first | refine blk_drewN ?_ _ | refine blk_drew ?_ | refine blk_alloc ?_ _)); refine blk_put (cs := #[.string t381, .slice Ao11 t382.length co11, .int .i64 0]) ?_ 2 _ rfl; (with_reducible repeat (first | refine blk_drewN ?_ _ | refine blk_drew ?_ | refine blk_alloc ?_ _)); refine blk_put (cs := #[.string t381, .slice none 0 0, .int .i64 0]) ?_ 1 _ rfl; (with_reducible repeat (first | refine blk_drewN ?_ _ | refine blk_drew ?_ | refine blk_alloc ?_ _)); refine blk_put (cs := #[.string (⟨#[]⟩ : ByteArray), .slice none 0 0, .int .i64 0]) ?_ 0 _ rfl; (with_reducible repeat (first | refine blk_drewN ?_ _ | refine blk_drew ?_ | refine blk_alloc ?_ _)); exact BK387.out⟩, ⟨by repeat (first | (with_reducible first | exact HB.out | apply below_alloc | apply pw_below_drewN | apply below_drew1 | refine below_set ?_ GE387.out))⟩⟩
  case rest =>
   clear HC6
   try clear c1
   try clear p2
   try clear c3
   try clear c4
   try clear c12
   try clear c12b0
   try clear c13
   try clear c13b0
   try clear c14
   try clear c14b0
   try clear c15
   try clear c15b0
   try clear hcz10_0
   try clear hcz10_1
   try clear hcz10_2
   try clear hfz10_0
   try clear hfz10_1
   try clear hfz10_2
   obtain ⟨kq, x35_5, rfl, HA, HJ5, HO_388001, BK387, HB⟩ := hcut
   cases kq with
   | zero => exact absurd HA.out (by simp [burgagelaw20_CatalogueParts.j0])
   | succ kj5 =>
    have H := HA.out
    clear HA
    simp only [burgagelaw20_CatalogueParts.j0] at H
    by_cases c17 : x35_5 = true
    ·subst c17
     have H1 : (if t386 = true then (some false) else (if t381.toList = ([] : List UInt8) then (if (t382.length : Int) = 0 then (some (t385 == 0)) else (some false)) else (some false))) = some r := by rw [if_pos rfl] at H; exact H
     clear H
     have H := H1
     clear H1
     by_cases c18 : t386 = true
     ·subst c18
      have H1 : (some false) = some r := by rw [if_pos rfl] at H; exact H
      clear H
      have H := H1
      clear H1
      obtain rfl := Option.some.inj H
      go_wp2
      repeat (go_quiet (fail); try go_wp2)
      go_ret
      exact ⟨by first | rfl | (simp <;> rfl) | (simp [*] <;> rfl), by repeat (first | (with_reducible first | exact HB.out | apply below_alloc | apply pw_below_drewN | apply below_drew1 | refine below_set ?_ GE387.out))⟩
     ·replace c18 := Bool.eq_false_iff.mpr c18
      subst c18
      have H1 : (if t381.toList = ([] : List UInt8) then (if (t382.length : Int) = 0 then (some (t385 == 0)) else (some false)) else (some false)) = some r := by rw [if_neg (show ¬ (false = true) by decide)] at H; exact H
      clear H
      have H := H1
      clear H1
      by_cases c19 : t381.toList = ([] : List UInt8)
      ·rw [if_pos c19] at H
       have c19b0 : (t381.toList == ([] : List UInt8)) = true := beq_iff_eq.mpr c19
       have c19b1 : (t381.toList != ([] : List UInt8)) = false := bne_eq_false_iff_eq.mpr c19
       clear c19
       by_cases c20 : (t382.length : Int) = 0
       ·rw [if_pos c20] at H
        have c20b0 : ((t382.length : Int) == 0) = true := beq_iff_eq.mpr c20
        have c20b1 : ((t382.length : Int) != 0) = false := bne_eq_false_iff_eq.mpr c20
        clear c20
        obtain rfl := Option.some.inj H
        have hcz21_0 : wc.cell? ⟨gb387, 0, none⟩ = some (.string t381) := (blk_cell BK387.out 0).trans rfl
        have hcz21_1 : wc.cell? ⟨gb387, 1, none⟩ = some (.slice Ao11 t382.length co11) := (blk_cell BK387.out 1).trans rfl
        have hcz21_2 : wc.cell? ⟨gb387, 2, none⟩ = some (.int .i64 t385) := (blk_cell BK387.out 2).trans rfl
        have hfz21_0 := blk_frozen BK387.out 0
        have hfz21_1 := blk_frozen BK387.out 1
        have hfz21_2 := blk_frozen BK387.out 2
        go_wp2
        repeat (go_quiet (fail); try go_wp2)
        go_ret
        exact ⟨by first | rfl | (simp <;> rfl) | (simp [*] <;> rfl), by repeat (first | (with_reducible first | exact HB.out | apply below_alloc | apply pw_below_drewN | apply below_drew1 | refine below_set ?_ GE387.out))⟩
       ·rw [if_neg c20] at H
        have c20b0 : ((t382.length : Int) == 0) = false := beq_eq_false_iff_ne.mpr c20
        have c20b1 : ((t382.length : Int) != 0) = true := bne_iff_ne.mpr c20
        have c20b2 : ¬ (t382 = []) := fun h_ => c20 (by rw [h_]; rfl)
        obtain rfl := Option.some.inj H
        have hcz22_0 : wc.cell? ⟨gb387, 0, none⟩ = some (.string t381) := (blk_cell BK387.out 0).trans rfl
        have hcz22_1 : wc.cell? ⟨gb387, 1, none⟩ = some (.slice Ao11 t382.length co11) := (blk_cell BK387.out 1).trans rfl
        have hcz22_2 : wc.cell? ⟨gb387, 2, none⟩ = some (.int .i64 t385) := (blk_cell BK387.out 2).trans rfl
        have hfz22_0 := blk_frozen BK387.out 0
        have hfz22_1 := blk_frozen BK387.out 1
        have hfz22_2 := blk_frozen BK387.out 2
        go_wp2
        repeat (go_quiet (fail); try go_wp2)
        go_ret
        exact ⟨by first | rfl | (simp <;> rfl) | (simp [*] <;> rfl), by repeat (first | (with_reducible first | exact HB.out | apply below_alloc | apply pw_below_drewN | apply below_drew1 | refine below_set ?_ GE387.out))⟩
      ·rw [if_neg c19] at H
       have c19b0 : (t381.toList == ([] : List UInt8)) = false := beq_eq_false_iff_ne.mpr c19
       have c19b1 : (t381.toList != ([] : List UInt8)) = true := bne_iff_ne.mpr c19
       obtain rfl := Option.some.inj H
       have hcz23_0 : wc.cell? ⟨gb387, 0, none⟩ = some (.string t381) := (blk_cell BK387.out 0).trans rfl
       have hcz23_1 : wc.cell? ⟨gb387, 1, none⟩ = some (.slice Ao11 t382.length co11) := (blk_cell BK387.out 1).trans rfl
       have hcz23_2 : wc.cell? ⟨gb387, 2, none⟩ = some (.int .i64 t385) := (blk_cell BK387.out 2).trans rfl
       have hfz23_0 := blk_frozen BK387.out 0
       have hfz23_1 := blk_frozen BK387.out 1
       have hfz23_2 := blk_frozen BK387.out 2
       go_wp2
       repeat (go_quiet (fail); try go_wp2)
       go_ret
       exact ⟨by first | rfl | (simp <;> rfl) | (simp [*] <;> rfl), by repeat (first | (with_reducible first | exact HB.out | apply below_alloc | apply pw_below_drewN | apply below_drew1 | refine below_set ?_ GE387.out))⟩
    ·replace c17 := Bool.eq_false_iff.mpr c17
     subst c17
     have H1 : (if t386 = true then ((ref06_Check.f kj5 t382).bind fun t389 => (if t389 = 0 then (if (t382.length : Int) > 4 then (burgagelaw20_CatalogueParts.j1 kj5 a0 a1 true t381 t382 t385) else ((ref13_Accepts.f kj5 t382 a0).bind fun t390 => (if t390 = true then ((ref13_Accepts.f kj5 t382 a1).bind fun t391 => (burgagelaw20_CatalogueParts.j1 kj5 a0 a1 t391 t381 t382 t385)) else (burgagelaw20_CatalogueParts.j1 kj5 a0 a1 true t381 t382 t385)))) else (burgagelaw20_CatalogueParts.j1 kj5 a0 a1 true t381 t382 t385))) else (burgagelaw20_CatalogueParts.j1 kj5 a0 a1 true t381 t382 t385)) = some r := by rw [if_neg (show ¬ (false = true) by decide)] at H; exact H
     clear H
     have H := H1
     clear H1
     have HC24 := Aside0.mk H
     clear H
     go_upto_region 6 with (fail)
     repeat (go_quiet (fail); go_upto_region 6 with (fail))
     go_cut [80] (fun v80 wc => ∃ (kq : Nat) (x80_23 : Bool), v80 = .bool x80_23 ∧ Aside0 (burgagelaw20_CatalogueParts.j1 kq a0 a1 x80_23 t381 t382 t385 = some r) ∧ Aside0 (kq ≤ kj5) ∧ Aside0 (Kd.V k44 44 wc w.heap.size (fun k_ => k_ ≠ gb387) (.slice Ao11 t382.length co11) t382) ∧ Aside0 (wc.heap[gb387]? = some (.cells #[.string t381, (.slice Ao11 t382.length co11), .int .i64 t385] 25 (0, 0))) ∧ Aside0 (Below w.heap.size w wc))
     case first =>
      have H := HC24.out
      clear HC24
      by_cases c25 : t386 = true
      ·subst c25
       have H1 : ((ref06_Check.f kj5 t382).bind fun t389 => (if t389 = 0 then (if (t382.length : Int) > 4 then (burgagelaw20_CatalogueParts.j1 kj5 a0 a1 true t381 t382 t385) else ((ref13_Accepts.f kj5 t382 a0).bind fun t390 => (if t390 = true then ((ref13_Accepts.f kj5 t382 a1).bind fun t391 => (burgagelaw20_CatalogueParts.j1 kj5 a0 a1 t391 t381 t382 t385)) else (burgagelaw20_CatalogueParts.j1 kj5 a0 a1 true t381 t382 t385)))) else (burgagelaw20_CatalogueParts.j1 kj5 a0 a1 true t381 t382 t385))) = some r := by rw [if_pos rfl] at H; exact H
       clear H
       have H := H1
       clear H1
       replace H := Option.bind_eq_some_iff.mp H
       obtain ⟨t389, A260, H⟩ := H
       replace H : (if t389 = 0 then (if (t382.length : Int) > 4 then (burgagelaw20_CatalogueParts.j1 kj5 a0 a1 true t381 t382 t385) else ((ref13_Accepts.f kj5 t382 a0).bind fun t390 => (if t390 = true then ((ref13_Accepts.f kj5 t382 a1).bind fun t391 => (burgagelaw20_CatalogueParts.j1 kj5 a0 a1 t391 t381 t382 t385)) else (burgagelaw20_CatalogueParts.j1 kj5 a0 a1 true t381 t382 t385)))) else (burgagelaw20_CatalogueParts.j1 kj5 a0 a1 true t381 t382 t385)) = some r := H
       have A26 := Aside0.mk A260
       clear A260
       by_cases c27 : t389 = 0
       ·rw [if_pos c27] at H
        have c27b0 : (t389 == 0) = true := beq_iff_eq.mpr c27
        have c27b1 : (t389 != 0) = false := bne_eq_false_iff_eq.mpr c27
        clear c27
        (first | rw [c27b0] | (simp only [i64_w, i32_w]; rw [c27b0]) | skip)
        by_cases c28 : (t382.length : Int) > 4
        ·rw [if_pos c28] at H
         have c28b0 : decide (4 < (t382.length : Int)) = true := decide_eq_true c28
         have c28b1 : decide (4 < t382.length) = true := decide_eq_true (by omega)
         clear c28
         have H' := Aside0.mk H
         clear H
         have hcz29_0 : wc.cell? ⟨gb387, 0, none⟩ = some (.string t381) := (blk_cell BK387.out 0).trans rfl
         have hcz29_1 : wc.cell? ⟨gb387, 1, none⟩ = some (.slice Ao11 t382.length co11) := (blk_cell BK387.out 1).trans rfl
         have hcz29_2 : wc.cell? ⟨gb387, 2, none⟩ = some (.int .i64 t385) := (blk_cell BK387.out 2).trans rfl
         have hfz29_0 := blk_frozen BK387.out 0
         have hfz29_1 := blk_frozen BK387.out 1
         have hfz29_2 := blk_frozen BK387.out 2
         go_wp2_with (first | (go_at_call 16; (with_reducible refine (ref06_Check.calls kj5 _ _ t382 t389 _ ?side1 ?side2 A26.out).mono ?_); (case side1 => repeat (first | exact (Kd.V_reads' HO_388001.out).2.2 | (with_reducible refine Kd.C_alloc ?_ _) | (with_reducible refine Kd.C_drewN ?_ _) | (with_reducible refine Kd.C_drew ?_))); (case side2 => exact (Kd.V_reads' HO_388001.out).2.1); rintro e w30 ⟨rfl, hb⟩; have n0_ := Aside0.mk (Kd.V_below (by (with_reducible repeat (first | apply Kd.V_alloc | apply Kd.V_drewN | apply Kd.V_drew)); exact HO_388001.out) hb); have n1_ := Aside0.mk (blk_below (g := gb387) (o := .cells #[.string t381, .slice Ao11 t382.length co11, .int .i64 t385] 25 (0, 0)) (by (with_reducible repeat (first | refine blk_drewN ?_ _ | refine blk_drew ?_ | refine blk_alloc ?_ _)); exact BK387.out) hb); have n2_ := Aside0.mk (below_step (by repeat (first | (with_reducible first | exact HB.out | apply below_alloc | apply pw_below_drewN | apply below_drew1 | refine below_set ?_ GE387.out))) hb); clear HO_388001; clear BK387; clear HB; have HO_388001 := n0_; have BK387 := n1_; have HB := n2_; clear n0_ n1_ n2_; (try clear hb); (try clear hb2); (try clear hk); (try clear hi); have hcz31_0 : w30.cell? ⟨gb387, 0, none⟩ = some (.string t381) := (blk_cell BK387.out 0).trans rfl; have hcz31_1 : w30.cell? ⟨gb387, 1, none⟩ = some (.slice Ao11 t382.length co11) := (blk_cell BK387.out 1).trans rfl; have hcz31_2 : w30.cell? ⟨gb387, 2, none⟩ = some (.int .i64 t385) := (blk_cell BK387.out 2).trans rfl; have hfz31_0 := blk_frozen BK387.out 0; have hfz31_1 := blk_frozen BK387.out 1; have hfz31_2 := blk_frozen BK387.out 2))
         repeat (go_quiet (first | (go_at_call 16; (with_reducible refine (ref06_Check.calls kj5 _ _ t382 t389 _ ?side1 ?side2 A26.out).mono ?_); (case side1 => repeat (first | exact (Kd.V_reads' HO_388001.out).2.2 | (with_reducible refine Kd.C_alloc ?_ _) | (with_reducible refine Kd.C_drewN ?_ _) | (with_reducible refine Kd.C_drew ?_))); (case side2 => exact (Kd.V_reads' HO_388001.out).2.1); rintro e w30 ⟨rfl, hb⟩; have n0_ := Aside0.mk (Kd.V_below (by (with_reducible repeat (first | apply Kd.V_alloc | apply Kd.V_drewN | apply Kd.V_drew)); exact HO_388001.out) hb); have n1_ := Aside0.mk (blk_below (g := gb387) (o := .cells #[.string t381, .slice Ao11 t382.length co11, .int .i64 t385] 25 (0, 0)) (by (with_reducible repeat (first | refine blk_drewN ?_ _ | refine blk_drew ?_ | refine blk_alloc ?_ _)); exact BK387.out) hb); have n2_ := Aside0.mk (below_step (by repeat (first | (with_reducible first | exact HB.out | apply below_alloc | apply pw_below_drewN | apply below_drew1 | refine below_set ?_ GE387.out))) hb); clear HO_388001; clear BK387; clear HB; have HO_388001 := n0_; have BK387 := n1_; have HB := n2_; clear n0_ n1_ n2_; (try clear hb); (try clear hb2); (try clear hk); (try clear hi); have hcz31_0 : w30.cell? ⟨gb387, 0, none⟩ = some (.string t381) := (blk_cell BK387.out 0).trans rfl; have hcz31_1 : w30.cell? ⟨gb387, 1, none⟩ = some (.slice Ao11 t382.length co11) := (blk_cell BK387.out 1).trans rfl; have hcz31_2 : w30.cell? ⟨gb387, 2, none⟩ = some (.int .i64 t385) := (blk_cell BK387.out 2).trans rfl; have hfz31_0 := blk_frozen BK387.out 0; have hfz31_1 := blk_frozen BK387.out 1; have hfz31_2 := blk_frozen BK387.out 2)); try go_wp2_with (first | (go_at_call 16; (with_reducible refine (ref06_Check.calls kj5 _ _ t382 t389 _ ?side1 ?side2 A26.out).mono ?_); (case side1 => repeat (first | exact (Kd.V_reads' HO_388001.out).2.2 | (with_reducible refine Kd.C_alloc ?_ _) | (with_reducible refine Kd.C_drewN ?_ _) | (with_reducible refine Kd.C_drew ?_))); (case side2 => exact (Kd.V_reads' HO_388001.out).2.1); rintro e w30 ⟨rfl, hb⟩; have n0_ := Aside0.mk (Kd.V_below (by (with_reducible repeat (first | apply Kd.V_alloc | apply Kd.V_drewN | apply Kd.V_drew)); exact HO_388001.out) hb); have n1_ := Aside0.mk (blk_below (g := gb387) (o := .cells #[.string t381, .slice Ao11 t382.length co11, .int .i64 t385] 25 (0, 0)) (by (with_reducible repeat (first | refine blk_drewN ?_ _ | refine blk_drew ?_ | refine blk_alloc ?_ _)); exact BK387.out) hb); have n2_ := Aside0.mk (below_step (by repeat (first | (with_reducible first | exact HB.out | apply below_alloc | apply pw_below_drewN | apply below_drew1 | refine below_set ?_ GE387.out))) hb); clear HO_388001; clear BK387; clear HB; have HO_388001 := n0_; have BK387 := n1_; have HB := n2_; clear n0_ n1_ n2_; (try clear hb); (try clear hb2); (try clear hk); (try clear hi); have hcz31_0 : w30.cell? ⟨gb387, 0, none⟩ = some (.string t381) := (blk_cell BK387.out 0).trans rfl; have hcz31_1 : w30.cell? ⟨gb387, 1, none⟩ = some (.slice Ao11 t382.length co11) := (blk_cell BK387.out 1).trans rfl; have hcz31_2 : w30.cell? ⟨gb387, 2, none⟩ = some (.int .i64 t385) := (blk_cell BK387.out 2).trans rfl; have hfz31_0 := blk_frozen BK387.out 0; have hfz31_1 := blk_frozen BK387.out 1; have hfz31_2 := blk_frozen BK387.out 2)))
         go_meet
         case rel => exact ⟨_, (true), (by first | rfl | (simp; done) | (simp [*]; done)), H', ⟨by have := HJ5.out; first | omega | exact Nat.le_refl _⟩, ⟨by (with_reducible repeat (first | apply Kd.V_alloc | apply Kd.V_drewN | apply Kd.V_drew)); exact HO_388001.out⟩, ⟨by (with_reducible repeat (first | refine blk_drewN ?_ _ | refine blk_drew ?_ | refine blk_alloc ?_ _)); exact BK387.out⟩, ⟨by repeat (first | (with_reducible first | exact HB.out | apply below_alloc | apply pw_below_drewN | apply below_drew1 | refine below_set ?_ GE387.out))⟩⟩
        ·rw [if_neg c28] at H
         have c28b0 : decide (4 < (t382.length : Int)) = false := decide_eq_false c28
         have c28b1 : decide (4 < t382.length) = false := decide_eq_false (by omega)
         clear c28
         replace H := Option.bind_eq_some_iff.mp H
         obtain ⟨t390, A320, H⟩ := H
         replace H : (if t390 = true then ((ref13_Accepts.f kj5 t382 a1).bind fun t391 => (burgagelaw20_CatalogueParts.j1 kj5 a0 a1 t391 t381 t382 t385)) else (burgagelaw20_CatalogueParts.j1 kj5 a0 a1 true t381 t382 t385)) = some r := H
         have A32 := Aside0.mk A320
         clear A320
         by_cases c33 : t390 = true
         ·subst c33
          have H1 : ((ref13_Accepts.f kj5 t382 a1).bind fun t391 => (burgagelaw20_CatalogueParts.j1 kj5 a0 a1 t391 t381 t382 t385)) = some r := by rw [if_pos rfl] at H; exact H
          clear H
          have H := H1
          clear H1
          replace H := Option.bind_eq_some_iff.mp H
          obtain ⟨t391, A340, H⟩ := H
          replace H : (burgagelaw20_CatalogueParts.j1 kj5 a0 a1 t391 t381 t382 t385) = some r := H
          have A34 := Aside0.mk A340
          clear A340
          have H' := Aside0.mk H
          clear H
          have hcz35_0 : wc.cell? ⟨gb387, 0, none⟩ = some (.string t381) := (blk_cell BK387.out 0).trans rfl
          have hcz35_1 : wc.cell? ⟨gb387, 1, none⟩ = some (.slice Ao11 t382.length co11) := (blk_cell BK387.out 1).trans rfl
          have hcz35_2 : wc.cell? ⟨gb387, 2, none⟩ = some (.int .i64 t385) := (blk_cell BK387.out 2).trans rfl
          have hfz35_0 := blk_frozen BK387.out 0
          have hfz35_1 := blk_frozen BK387.out 1
          have hfz35_2 := blk_frozen BK387.out 2
          go_wp2_with (first | (go_at_call 16; (with_reducible refine (ref06_Check.calls kj5 _ _ t382 t389 _ ?side1 ?side2 A26.out).mono ?_); (case side1 => repeat (first | exact (Kd.V_reads' HO_388001.out).2.2 | (with_reducible refine Kd.C_alloc ?_ _) | (with_reducible refine Kd.C_drewN ?_ _) | (with_reducible refine Kd.C_drew ?_))); (case side2 => exact (Kd.V_reads' HO_388001.out).2.1); rintro e w36 ⟨rfl, hb⟩; have n0_ := Aside0.mk (Kd.V_below (by (with_reducible repeat (first | apply Kd.V_alloc | apply Kd.V_drewN | apply Kd.V_drew)); exact HO_388001.out) hb); have n1_ := Aside0.mk (blk_below (g := gb387) (o := .cells #[.string t381, .slice Ao11 t382.length co11, .int .i64 t385] 25 (0, 0)) (by (with_reducible repeat (first | refine blk_drewN ?_ _ | refine blk_drew ?_ | refine blk_alloc ?_ _)); exact BK387.out) hb); have n2_ := Aside0.mk (below_step (by repeat (first | (with_reducible first | exact HB.out | apply below_alloc | apply pw_below_drewN | apply below_drew1 | refine below_set ?_ GE387.out))) hb); clear HO_388001; clear BK387; clear HB; have HO_388001 := n0_; have BK387 := n1_; have HB := n2_; clear n0_ n1_ n2_; (try clear hb); (try clear hb2); (try clear hk); (try clear hi); have hcz37_0 : w36.cell? ⟨gb387, 0, none⟩ = some (.string t381) := (blk_cell BK387.out 0).trans rfl; have hcz37_1 : w36.cell? ⟨gb387, 1, none⟩ = some (.slice Ao11 t382.length co11) := (blk_cell BK387.out 1).trans rfl; have hcz37_2 : w36.cell? ⟨gb387, 2, none⟩ = some (.int .i64 t385) := (blk_cell BK387.out 2).trans rfl; have hfz37_0 := blk_frozen BK387.out 0; have hfz37_1 := blk_frozen BK387.out 1; have hfz37_2 := blk_frozen BK387.out 2) | (go_at_call 17; (with_reducible refine (ref13_Accepts.calls kj5 _ _ t382 a0 true _ ?side1 ?side2 A32.out).mono ?_); (case side1 => repeat (first | exact (Kd.V_reads' HO_388001.out).2.2 | (with_reducible refine Kd.C_alloc ?_ _) | (with_reducible refine Kd.C_drewN ?_ _) | (with_reducible refine Kd.C_drew ?_))); (case side2 => exact (Kd.V_reads' HO_388001.out).2.1); rintro e w38 ⟨rfl, hb⟩; have n0_ := Aside0.mk (Kd.V_below (by (with_reducible repeat (first | apply Kd.V_alloc | apply Kd.V_drewN | apply Kd.V_drew)); exact HO_388001.out) hb); have n1_ := Aside0.mk (blk_below (g := gb387) (o := .cells #[.string t381, .slice Ao11 t382.length co11, .int .i64 t385] 25 (0, 0)) (by (with_reducible repeat (first | refine blk_drewN ?_ _ | refine blk_drew ?_ | refine blk_alloc ?_ _)); exact BK387.out) hb); have n2_ := Aside0.mk (below_step (by repeat (first | (with_reducible first | exact HB.out | apply below_alloc | apply pw_below_drewN | apply below_drew1 | refine below_set ?_ GE387.out))) hb); clear HO_388001; clear BK387; clear HB; have HO_388001 := n0_; have BK387 := n1_; have HB := n2_; clear n0_ n1_ n2_; (try clear hb); (try clear hb2); (try clear hk); (try clear hi); have hcz39_0 : w38.cell? ⟨gb387, 0, none⟩ = some (.string t381) := (blk_cell BK387.out 0).trans rfl; have hcz39_1 : w38.cell? ⟨gb387, 1, none⟩ = some (.slice Ao11 t382.length co11) := (blk_cell BK387.out 1).trans rfl; have hcz39_2 : w38.cell? ⟨gb387, 2, none⟩ = some (.int .i64 t385) := (blk_cell BK387.out 2).trans rfl; have hfz39_0 := blk_frozen BK387.out 0; have hfz39_1 := blk_frozen BK387.out 1; have hfz39_2 := blk_frozen BK387.out 2) | (go_at_call 17; (with_reducible refine (ref13_Accepts.calls kj5 _ _ t382 a1 t391 _ ?side1 ?side2 A34.out).mono ?_); (case side1 => repeat (first | exact (Kd.V_reads' HO_388001.out).2.2 | (with_reducible refine Kd.C_alloc ?_ _) | (with_reducible refine Kd.C_drewN ?_ _) | (with_reducible refine Kd.C_drew ?_))); (case side2 => exact (Kd.V_reads' HO_388001.out).2.1); rintro e w40 ⟨rfl, hb⟩; have n0_ := Aside0.mk (Kd.V_below (by (with_reducible repeat (first | apply Kd.V_alloc | apply Kd.V_drewN | apply Kd.V_drew)); exact HO_388001.out) hb); have n1_ := Aside0.mk (blk_below (g := gb387) (o := .cells #[.string t381, .slice Ao11 t382.length co11, .int .i64 t385] 25 (0, 0)) (by (with_reducible repeat (first | refine blk_drewN ?_ _ | refine blk_drew ?_ | refine blk_alloc ?_ _)); exact BK387.out) hb); have n2_ := Aside0.mk (below_step (by repeat (first | (with_reducible first | exact HB.out | apply below_alloc | apply pw_below_drewN | apply below_drew1 | refine below_set ?_ GE387.out))) hb); clear HO_388001; clear BK387; clear HB; have HO_388001 := n0_; have BK387 := n1_; have HB := n2_; clear n0_ n1_ n2_; (try clear hb); (try clear hb2); (try clear hk); (try clear hi)))
          repeat (go_quiet (first | (go_at_call 16; (with_reducible refine (ref06_Check.calls kj5 _ _ t382 t389 _ ?side1 ?side2 A26.out).mono ?_); (case side1 => repeat (first | exact (Kd.V_reads' HO_388001.out).2.2 | (with_reducible refine Kd.C_alloc ?_ _) | (with_reducible refine Kd.C_drewN ?_ _) | (with_reducible refine Kd.C_drew ?_))); (case side2 => exact (Kd.V_reads' HO_388001.out).2.1); rintro e w36 ⟨rfl, hb⟩; have n0_ := Aside0.mk (Kd.V_below (by (with_reducible repeat (first | apply Kd.V_alloc | apply Kd.V_drewN | apply Kd.V_drew)); exact HO_388001.out) hb); have n1_ := Aside0.mk (blk_below (g := gb387) (o := .cells #[.string t381, .slice Ao11 t382.length co11, .int .i64 t385] 25 (0, 0)) (by (with_reducible repeat (first | refine blk_drewN ?_ _ | refine blk_drew ?_ | refine blk_alloc ?_ _)); exact BK387.out) hb); have n2_ := Aside0.mk (below_step (by repeat (first | (with_reducible first | exact HB.out | apply below_alloc | apply pw_below_drewN | apply below_drew1 | refine below_set ?_ GE387.out))) hb); clear HO_388001; clear BK387; clear HB; have HO_388001 := n0_; have BK387 := n1_; have HB := n2_; clear n0_ n1_ n2_; (try clear hb); (try clear hb2); (try clear hk); (try clear hi); have hcz37_0 : w36.cell? ⟨gb387, 0, none⟩ = some (.string t381) := (blk_cell BK387.out 0).trans rfl; have hcz37_1 : w36.cell? ⟨gb387, 1, none⟩ = some (.slice Ao11 t382.length co11) := (blk_cell BK387.out 1).trans rfl; have hcz37_2 : w36.cell? ⟨gb387, 2, none⟩ = some (.int .i64 t385) := (blk_cell BK387.out 2).trans rfl; have hfz37_0 := blk_frozen BK387.out 0; have hfz37_1 := blk_frozen BK387.out 1; have hfz37_2 := blk_frozen BK387.out 2) | (go_at_call 17; (with_reducible refine (ref13_Accepts.calls kj5 _ _ t382 a0 true _ ?side1 ?side2 A32.out).mono ?_); (case side1 => repeat (first | exact (Kd.V_reads' HO_388001.out).2.2 | (with_reducible refine Kd.C_alloc ?_ _) | (with_reducible refine Kd.C_drewN ?_ _) | (with_reducible refine Kd.C_drew ?_))); (case side2 => exact (Kd.V_reads' HO_388001.out).2.1); rintro e w38 ⟨rfl, hb⟩; have n0_ := Aside0.mk (Kd.V_below (by (with_reducible repeat (first | apply Kd.V_alloc | apply Kd.V_drewN | apply Kd.V_drew)); exact HO_388001.out) hb); have n1_ := Aside0.mk (blk_below (g := gb387) (o := .cells #[.string t381, .slice Ao11 t382.length co11, .int .i64 t385] 25 (0, 0)) (by (with_reducible repeat (first | refine blk_drewN ?_ _ | refine blk_drew ?_ | refine blk_alloc ?_ _)); exact BK387.out) hb); have n2_ := Aside0.mk (below_step (by repeat (first | (with_reducible first | exact HB.out | apply below_alloc | apply pw_below_drewN | apply below_drew1 | refine below_set ?_ GE387.out))) hb); clear HO_388001; clear BK387; clear HB; have HO_388001 := n0_; have BK387 := n1_; have HB := n2_; clear n0_ n1_ n2_; (try clear hb); (try clear hb2); (try clear hk); (try clear hi); have hcz39_0 : w38.cell? ⟨gb387, 0, none⟩ = some (.string t381) := (blk_cell BK387.out 0).trans rfl; have hcz39_1 : w38.cell? ⟨gb387, 1, none⟩ = some (.slice Ao11 t382.length co11) := (blk_cell BK387.out 1).trans rfl; have hcz39_2 : w38.cell? ⟨gb387, 2, none⟩ = some (.int .i64 t385) := (blk_cell BK387.out 2).trans rfl; have hfz39_0 := blk_frozen BK387.out 0; have hfz39_1 := blk_frozen BK387.out 1; have hfz39_2 := blk_frozen BK387.out 2) | (go_at_call 17; (with_reducible refine (ref13_Accepts.calls kj5 _ _ t382 a1 t391 _ ?side1 ?side2 A34.out).mono ?_); (case side1 => repeat (first | exact (Kd.V_reads' HO_388001.out).2.2 | (with_reducible refine Kd.C_alloc ?_ _) | (with_reducible refine Kd.C_drewN ?_ _) | (with_reducible refine Kd.C_drew ?_))); (case side2 => exact (Kd.V_reads' HO_388001.out).2.1); rintro e w40 ⟨rfl, hb⟩; have n0_ := Aside0.mk (Kd.V_below (by (with_reducible repeat (first | apply Kd.V_alloc | apply Kd.V_drewN | apply Kd.V_drew)); exact HO_388001.out) hb); have n1_ := Aside0.mk (blk_below (g := gb387) (o := .cells #[.string t381, .slice Ao11 t382.length co11, .int .i64 t385] 25 (0, 0)) (by (with_reducible repeat (first | refine blk_drewN ?_ _ | refine blk_drew ?_ | refine blk_alloc ?_ _)); exact BK387.out) hb); have n2_ := Aside0.mk (below_step (by repeat (first | (with_reducible first | exact HB.out | apply below_alloc | apply pw_below_drewN | apply below_drew1 | refine below_set ?_ GE387.out))) hb); clear HO_388001; clear BK387; clear HB; have HO_388001 := n0_; have BK387 := n1_; have HB := n2_; clear n0_ n1_ n2_; (try clear hb); (try clear hb2); (try clear hk); (try clear hi))); try go_wp2_with (first | (go_at_call 16; (with_reducible refine (ref06_Check.calls kj5 _ _ t382 t389 _ ?side1 ?side2 A26.out).mono ?_); (case side1 => repeat (first | exact (Kd.V_reads' HO_388001.out).2.2 | (with_reducible refine Kd.C_alloc ?_ _) | (with_reducible refine Kd.C_drewN ?_ _) | (with_reducible refine Kd.C_drew ?_))); (case side2 => exact (Kd.V_reads' HO_388001.out).2.1); rintro e w36 ⟨rfl, hb⟩; have n0_ := Aside0.mk (Kd.V_below (by (with_reducible repeat (first | apply Kd.V_alloc | apply Kd.V_drewN | apply Kd.V_drew)); exact HO_388001.out) hb); have n1_ := Aside0.mk (blk_below (g := gb387) (o := .cells #[.string t381, .slice Ao11 t382.length co11, .int .i64 t385] 25 (0, 0)) (by (with_reducible repeat (first | refine blk_drewN ?_ _ | refine blk_drew ?_ | refine blk_alloc ?_ _)); exact BK387.out) hb); have n2_ := Aside0.mk (below_step (by repeat (first | (with_reducible first | exact HB.out | apply below_alloc | apply pw_below_drewN | apply below_drew1 | refine below_set ?_ GE387.out))) hb); clear HO_388001; clear BK387; clear HB; have HO_388001 := n0_; have BK387 := n1_; have HB := n2_; clear n0_ n1_ n2_; (try clear hb); (try clear hb2); (try clear hk); (try clear hi); have hcz37_0 : w36.cell? ⟨gb387, 0, none⟩ = some (.string t381) := (blk_cell BK387.out 0).trans rfl; have hcz37_1 : w36.cell? ⟨gb387, 1, none⟩ = some (.slice Ao11 t382.length co11) := (blk_cell BK387.out 1).trans rfl; have hcz37_2 : w36.cell? ⟨gb387, 2, none⟩ = some (.int .i64 t385) := (blk_cell BK387.out 2).trans rfl; have hfz37_0 := blk_frozen BK387.out 0; have hfz37_1 := blk_frozen BK387.out 1; have hfz37_2 := blk_frozen BK387.out 2) | (go_at_call 17; (with_reducible refine (ref13_Accepts.calls kj5 _ _ t382 a0 true _ ?side1 ?side2 A32.out).mono ?_); (case side1 => repeat (first | exact (Kd.V_reads' HO_388001.out).2.2 | (with_reducible refine Kd.C_alloc ?_ _) | (with_reducible refine Kd.C_drewN ?_ _) | (with_reducible refine Kd.C_drew ?_))); (case side2 => exact (Kd.V_reads' HO_388001.out).2.1); rintro e w38 ⟨rfl, hb⟩; have n0_ := Aside0.mk (Kd.V_below (by (with_reducible repeat (first | apply Kd.V_alloc | apply Kd.V_drewN | apply Kd.V_drew)); exact HO_388001.out) hb); have n1_ := Aside0.mk (blk_below (g := gb387) (o := .cells #[.string t381, .slice Ao11 t382.length co11, .int .i64 t385] 25 (0, 0)) (by (with_reducible repeat (first | refine blk_drewN ?_ _ | refine blk_drew ?_ | refine blk_alloc ?_ _)); exact BK387.out) hb); have n2_ := Aside0.mk (below_step (by repeat (first | (with_reducible first | exact HB.out | apply below_alloc | apply pw_below_drewN | apply below_drew1 | refine below_set ?_ GE387.out))) hb); clear HO_388001; clear BK387; clear HB; have HO_388001 := n0_; have BK387 := n1_; have HB := n2_; clear n0_ n1_ n2_; (try clear hb); (try clear hb2); (try clear hk); (try clear hi); have hcz39_0 : w38.cell? ⟨gb387, 0, none⟩ = some (.string t381) := (blk_cell BK387.out 0).trans rfl; have hcz39_1 : w38.cell? ⟨gb387, 1, none⟩ = some (.slice Ao11 t382.length co11) := (blk_cell BK387.out 1).trans rfl; have hcz39_2 : w38.cell? ⟨gb387, 2, none⟩ = some (.int .i64 t385) := (blk_cell BK387.out 2).trans rfl; have hfz39_0 := blk_frozen BK387.out 0; have hfz39_1 := blk_frozen BK387.out 1; have hfz39_2 := blk_frozen BK387.out 2) | (go_at_call 17; (with_reducible refine (ref13_Accepts.calls kj5 _ _ t382 a1 t391 _ ?side1 ?side2 A34.out).mono ?_); (case side1 => repeat (first | exact (Kd.V_reads' HO_388001.out).2.2 | (with_reducible refine Kd.C_alloc ?_ _) | (with_reducible refine Kd.C_drewN ?_ _) | (with_reducible refine Kd.C_drew ?_))); (case side2 => exact (Kd.V_reads' HO_388001.out).2.1); rintro e w40 ⟨rfl, hb⟩; have n0_ := Aside0.mk (Kd.V_below (by (with_reducible repeat (first | apply Kd.V_alloc | apply Kd.V_drewN | apply Kd.V_drew)); exact HO_388001.out) hb); have n1_ := Aside0.mk (blk_below (g := gb387) (o := .cells #[.string t381, .slice Ao11 t382.length co11, .int .i64 t385] 25 (0, 0)) (by (with_reducible repeat (first | refine blk_drewN ?_ _ | refine blk_drew ?_ | refine blk_alloc ?_ _)); exact BK387.out) hb); have n2_ := Aside0.mk (below_step (by repeat (first | (with_reducible first | exact HB.out | apply below_alloc | apply pw_below_drewN | apply below_drew1 | refine below_set ?_ GE387.out))) hb); clear HO_388001; clear BK387; clear HB; have HO_388001 := n0_; have BK387 := n1_; have HB := n2_; clear n0_ n1_ n2_; (try clear hb); (try clear hb2); (try clear hk); (try clear hi))))
          go_meet
          case rel => exact ⟨_, (t391), (by first | rfl | (simp; done) | (simp [*]; done)), H', ⟨by have := HJ5.out; first | omega | exact Nat.le_refl _⟩, ⟨by (with_reducible repeat (first | apply Kd.V_alloc | apply Kd.V_drewN | apply Kd.V_drew)); exact HO_388001.out⟩, ⟨by (with_reducible repeat (first | refine blk_drewN ?_ _ | refine blk_drew ?_ | refine blk_alloc ?_ _)); exact BK387.out⟩, ⟨by repeat (first | (with_reducible first | exact HB.out | apply below_alloc | apply pw_below_drewN | apply below_drew1 | refine below_set ?_ GE387.out))⟩⟩
         ·replace c33 := Bool.eq_false_iff.mpr c33
          subst c33
          have H1 : (burgagelaw20_CatalogueParts.j1 kj5 a0 a1 true t381 t382 t385) = some r := by rw [if_neg (show ¬ (false = true) by decide)] at H; exact H
          clear H
          have H := H1
          clear H1
          have H' := Aside0.mk H
          clear H
          have hcz41_0 : wc.cell? ⟨gb387, 0, none⟩ = some (.string t381) := (blk_cell BK387.out 0).trans rfl
          have hcz41_1 : wc.cell? ⟨gb387, 1, none⟩ = some (.slice Ao11 t382.length co11) := (blk_cell BK387.out 1).trans rfl
          have hcz41_2 : wc.cell? ⟨gb387, 2, none⟩ = some (.int .i64 t385) := (blk_cell BK387.out 2).trans rfl
          have hfz41_0 := blk_frozen BK387.out 0
          have hfz41_1 := blk_frozen BK387.out 1
          have hfz41_2 := blk_frozen BK387.out 2
          go_wp2_with (first | (go_at_call 16; (with_reducible refine (ref06_Check.calls kj5 _ _ t382 t389 _ ?side1 ?side2 A26.out).mono ?_); (case side1 => repeat (first | exact (Kd.V_reads' HO_388001.out).2.2 | (with_reducible refine Kd.C_alloc ?_ _) | (with_reducible refine Kd.C_drewN ?_ _) | (with_reducible refine Kd.C_drew ?_))); (case side2 => exact (Kd.V_reads' HO_388001.out).2.1); rintro e w42 ⟨rfl, hb⟩; have n0_ := Aside0.mk (Kd.V_below (by (with_reducible repeat (first | apply Kd.V_alloc | apply Kd.V_drewN | apply Kd.V_drew)); exact HO_388001.out) hb); have n1_ := Aside0.mk (blk_below (g := gb387) (o := .cells #[.string t381, .slice Ao11 t382.length co11, .int .i64 t385] 25 (0, 0)) (by (with_reducible repeat (first | refine blk_drewN ?_ _ | refine blk_drew ?_ | refine blk_alloc ?_ _)); exact BK387.out) hb); have n2_ := Aside0.mk (below_step (by repeat (first | (with_reducible first | exact HB.out | apply below_alloc | apply pw_below_drewN | apply below_drew1 | refine below_set ?_ GE387.out))) hb); clear HO_388001; clear BK387; clear HB; have HO_388001 := n0_; have BK387 := n1_; have HB := n2_; clear n0_ n1_ n2_; (try clear hb); (try clear hb2); (try clear hk); (try clear hi); have hcz43_0 : w42.cell? ⟨gb387, 0, none⟩ = some (.string t381) := (blk_cell BK387.out 0).trans rfl; have hcz43_1 : w42.cell? ⟨gb387, 1, none⟩ = some (.slice Ao11 t382.length co11) := (blk_cell BK387.out 1).trans rfl; have hcz43_2 : w42.cell? ⟨gb387, 2, none⟩ = some (.int .i64 t385) := (blk_cell BK387.out 2).trans rfl; have hfz43_0 := blk_frozen BK387.out 0; have hfz43_1 := blk_frozen BK387.out 1; have hfz43_2 := blk_frozen BK387.out 2) | (go_at_call 17; (with_reducible refine (ref13_Accepts.calls kj5 _ _ t382 a0 false _ ?side1 ?side2 A32.out).mono ?_); (case side1 => repeat (first | exact (Kd.V_reads' HO_388001.out).2.2 | (with_reducible refine Kd.C_alloc ?_ _) | (with_reducible refine Kd.C_drewN ?_ _) | (with_reducible refine Kd.C_drew ?_))); (case side2 => exact (Kd.V_reads' HO_388001.out).2.1); rintro e w44 ⟨rfl, hb⟩; have n0_ := Aside0.mk (Kd.V_below (by (with_reducible repeat (first | apply Kd.V_alloc | apply Kd.V_drewN | apply Kd.V_drew)); exact HO_388001.out) hb); have n1_ := Aside0.mk (blk_below (g := gb387) (o := .cells #[.string t381, .slice Ao11 t382.length co11, .int .i64 t385] 25 (0, 0)) (by (with_reducible repeat (first | refine blk_drewN ?_ _ | refine blk_drew ?_ | refine blk_alloc ?_ _)); exact BK387.out) hb); have n2_ := Aside0.mk (below_step (by repeat (first | (with_reducible first | exact HB.out | apply below_alloc | apply pw_below_drewN | apply below_drew1 | refine below_set ?_ GE387.out))) hb); clear HO_388001; clear BK387; clear HB; have HO_388001 := n0_; have BK387 := n1_; have HB := n2_; clear n0_ n1_ n2_; (try clear hb); (try clear hb2); (try clear hk); (try clear hi)))
          repeat (go_quiet (first | (go_at_call 16; (with_reducible refine (ref06_Check.calls kj5 _ _ t382 t389 _ ?side1 ?side2 A26.out).mono ?_); (case side1 => repeat (first | exact (Kd.V_reads' HO_388001.out).2.2 | (with_reducible refine Kd.C_alloc ?_ _) | (with_reducible refine Kd.C_drewN ?_ _) | (with_reducible refine Kd.C_drew ?_))); (case side2 => exact (Kd.V_reads' HO_388001.out).2.1); rintro e w42 ⟨rfl, hb⟩; have n0_ := Aside0.mk (Kd.V_below (by (with_reducible repeat (first | apply Kd.V_alloc | apply Kd.V_drewN | apply Kd.V_drew)); exact HO_388001.out) hb); have n1_ := Aside0.mk (blk_below (g := gb387) (o := .cells #[.string t381, .slice Ao11 t382.length co11, .int .i64 t385] 25 (0, 0)) (by (with_reducible repeat (first | refine blk_drewN ?_ _ | refine blk_drew ?_ | refine blk_alloc ?_ _)); exact BK387.out) hb); have n2_ := Aside0.mk (below_step (by repeat (first | (with_reducible first | exact HB.out | apply below_alloc | apply pw_below_drewN | apply below_drew1 | refine below_set ?_ GE387.out))) hb); clear HO_388001; clear BK387; clear HB; have HO_388001 := n0_; have BK387 := n1_; have HB := n2_; clear n0_ n1_ n2_; (try clear hb); (try clear hb2); (try clear hk); (try clear hi); have hcz43_0 : w42.cell? ⟨gb387, 0, none⟩ = some (.string t381) := (blk_cell BK387.out 0).trans rfl; have hcz43_1 : w42.cell? ⟨gb387, 1, none⟩ = some (.slice Ao11 t382.length co11) := (blk_cell BK387.out 1).trans rfl; have hcz43_2 : w42.cell? ⟨gb387, 2, none⟩ = some (.int .i64 t385) := (blk_cell BK387.out 2).trans rfl; have hfz43_0 := blk_frozen BK387.out 0; have hfz43_1 := blk_frozen BK387.out 1; have hfz43_2 := blk_frozen BK387.out 2) | (go_at_call 17; (with_reducible refine (ref13_Accepts.calls kj5 _ _ t382 a0 false _ ?side1 ?side2 A32.out).mono ?_); (case side1 => repeat (first | exact (Kd.V_reads' HO_388001.out).2.2 | (with_reducible refine Kd.C_alloc ?_ _) | (with_reducible refine Kd.C_drewN ?_ _) | (with_reducible refine Kd.C_drew ?_))); (case side2 => exact (Kd.V_reads' HO_388001.out).2.1); rintro e w44 ⟨rfl, hb⟩; have n0_ := Aside0.mk (Kd.V_below (by (with_reducible repeat (first | apply Kd.V_alloc | apply Kd.V_drewN | apply Kd.V_drew)); exact HO_388001.out) hb); have n1_ := Aside0.mk (blk_below (g := gb387) (o := .cells #[.string t381, .slice Ao11 t382.length co11, .int .i64 t385] 25 (0, 0)) (by (with_reducible repeat (first | refine blk_drewN ?_ _ | refine blk_drew ?_ | refine blk_alloc ?_ _)); exact BK387.out) hb); have n2_ := Aside0.mk (below_step (by repeat (first | (with_reducible first | exact HB.out | apply below_alloc | apply pw_below_drewN | apply below_drew1 | refine below_set ?_ GE387.out))) hb); clear HO_388001; clear BK387; clear HB; have HO_388001 := n0_; have BK387 := n1_; have HB := n2_; clear n0_ n1_ n2_; (try clear hb); (try clear hb2); (try clear hk); (try clear hi))); try go_wp2_with (first | (go_at_call 16; (with_reducible refine (ref06_Check.calls kj5 _ _ t382 t389 _ ?side1 ?side2 A26.out).mono ?_); (case side1 => repeat (first | exact (Kd.V_reads' HO_388001.out).2.2 | (with_reducible refine Kd.C_alloc ?_ _) | (with_reducible refine Kd.C_drewN ?_ _) | (with_reducible refine Kd.C_drew ?_))); (case side2 => exact (Kd.V_reads' HO_388001.out).2.1); rintro e w42 ⟨rfl, hb⟩; have n0_ := Aside0.mk (Kd.V_below (by (with_reducible repeat (first | apply Kd.V_alloc | apply Kd.V_drewN | apply Kd.V_drew)); exact HO_388001.out) hb); have n1_ := Aside0.mk (blk_below (g := gb387) (o := .cells #[.string t381, .slice Ao11 t382.length co11, .int .i64 t385] 25 (0, 0)) (by (with_reducible repeat (first | refine blk_drewN ?_ _ | refine blk_drew ?_ | refine blk_alloc ?_ _)); exact BK387.out) hb); have n2_ := Aside0.mk (below_step (by repeat (first | (with_reducible first | exact HB.out | apply below_alloc | apply pw_below_drewN | apply below_drew1 | refine below_set ?_ GE387.out))) hb); clear HO_388001; clear BK387; clear HB; have HO_388001 := n0_; have BK387 := n1_; have HB := n2_; clear n0_ n1_ n2_; (try clear hb); (try clear hb2); (try clear hk); (try clear hi); have hcz43_0 : w42.cell? ⟨gb387, 0, none⟩ = some (.string t381) := (blk_cell BK387.out 0).trans rfl; have hcz43_1 : w42.cell? ⟨gb387, 1, none⟩ = some (.slice Ao11 t382.length co11) := (blk_cell BK387.out 1).trans rfl; have hcz43_2 : w42.cell? ⟨gb387, 2, none⟩ = some (.int .i64 t385) := (blk_cell BK387.out 2).trans rfl; have hfz43_0 := blk_frozen BK387.out 0; have hfz43_1 := blk_frozen BK387.out 1; have hfz43_2 := blk_frozen BK387.out 2) | (go_at_call 17; (with_reducible refine (ref13_Accepts.calls kj5 _ _ t382 a0 false _ ?side1 ?side2 A32.out).mono ?_); (case side1 => repeat (first | exact (Kd.V_reads' HO_388001.out).2.2 | (with_reducible refine Kd.C_alloc ?_ _) | (with_reducible refine Kd.C_drewN ?_ _) | (with_reducible refine Kd.C_drew ?_))); (case side2 => exact (Kd.V_reads' HO_388001.out).2.1); rintro e w44 ⟨rfl, hb⟩; have n0_ := Aside0.mk (Kd.V_below (by (with_reducible repeat (first | apply Kd.V_alloc | apply Kd.V_drewN | apply Kd.V_drew)); exact HO_388001.out) hb); have n1_ := Aside0.mk (blk_below (g := gb387) (o := .cells #[.string t381, .slice Ao11 t382.length co11, .int .i64 t385] 25 (0, 0)) (by (with_reducible repeat (first | refine blk_drewN ?_ _ | refine blk_drew ?_ | refine blk_alloc ?_ _)); exact BK387.out) hb); have n2_ := Aside0.mk (below_step (by repeat (first | (with_reducible first | exact HB.out | apply below_alloc | apply pw_below_drewN | apply below_drew1 | refine below_set ?_ GE387.out))) hb); clear HO_388001; clear BK387; clear HB; have HO_388001 := n0_; have BK387 := n1_; have HB := n2_; clear n0_ n1_ n2_; (try clear hb); (try clear hb2); (try clear hk); (try clear hi))))
          go_meet
          case rel => exact ⟨_, (true), (by first | rfl | (simp; done) | (simp [*]; done)), H', ⟨by have := HJ5.out; first | omega | exact Nat.le_refl _⟩, ⟨by (with_reducible repeat (first | apply Kd.V_alloc | apply Kd.V_drewN | apply Kd.V_drew)); exact HO_388001.out⟩, ⟨by (with_reducible repeat (first | refine blk_drewN ?_ _ | refine blk_drew ?_ | refine blk_alloc ?_ _)); exact BK387.out⟩, ⟨by repeat (first | (with_reducible first | exact HB.out | apply below_alloc | apply pw_below_drewN | apply below_drew1 | refine below_set ?_ GE387.out))⟩⟩
       ·rw [if_neg c27] at H
        have c27b0 : (t389 == 0) = false := beq_eq_false_iff_ne.mpr c27
        have c27b1 : (t389 != 0) = true := bne_iff_ne.mpr c27
        (first | rw [c27b0] | (simp only [i64_w, i32_w]; rw [c27b0]) | skip)
        have H' := Aside0.mk H
        clear H
        have hcz45_0 : wc.cell? ⟨gb387, 0, none⟩ = some (.string t381) := (blk_cell BK387.out 0).trans rfl
        have hcz45_1 : wc.cell? ⟨gb387, 1, none⟩ = some (.slice Ao11 t382.length co11) := (blk_cell BK387.out 1).trans rfl
        have hcz45_2 : wc.cell? ⟨gb387, 2, none⟩ = some (.int .i64 t385) := (blk_cell BK387.out 2).trans rfl
        have hfz45_0 := blk_frozen BK387.out 0
        have hfz45_1 := blk_frozen BK387.out 1
        have hfz45_2 := blk_frozen BK387.out 2
        go_wp2_with (first | (go_at_call 16; (with_reducible refine (ref06_Check.calls kj5 _ _ t382 t389 _ ?side1 ?side2 A26.out).mono ?_); (case side1 => repeat (first | exact (Kd.V_reads' HO_388001.out).2.2 | (with_reducible refine Kd.C_alloc ?_ _) | (with_reducible refine Kd.C_drewN ?_ _) | (with_reducible refine Kd.C_drew ?_))); (case side2 => exact (Kd.V_reads' HO_388001.out).2.1); rintro e w46 ⟨rfl, hb⟩; have n0_ := Aside0.mk (Kd.V_below (by (with_reducible repeat (first | apply Kd.V_alloc | apply Kd.V_drewN | apply Kd.V_drew)); exact HO_388001.out) hb); have n1_ := Aside0.mk (blk_below (g := gb387) (o := .cells #[.string t381, .slice Ao11 t382.length co11, .int .i64 t385] 25 (0, 0)) (by (with_reducible repeat (first | refine blk_drewN ?_ _ | refine blk_drew ?_ | refine blk_alloc ?_ _)); exact BK387.out) hb); have n2_ := Aside0.mk (below_step (by repeat (first | (with_reducible first | exact HB.out | apply below_alloc | apply pw_below_drewN | apply below_drew1 | refine below_set ?_ GE387.out))) hb); clear HO_388001; clear BK387; clear HB; have HO_388001 := n0_; have BK387 := n1_; have HB := n2_; clear n0_ n1_ n2_; (try clear hb); (try clear hb2); (try clear hk); (try clear hi)))
        repeat (go_quiet (first | (go_at_call 16; (with_reducible refine (ref06_Check.calls kj5 _ _ t382 t389 _ ?side1 ?side2 A26.out).mono ?_); (case side1 => repeat (first | exact (Kd.V_reads' HO_388001.out).2.2 | (with_reducible refine Kd.C_alloc ?_ _) | (with_reducible refine Kd.C_drewN ?_ _) | (with_reducible refine Kd.C_drew ?_))); (case side2 => exact (Kd.V_reads' HO_388001.out).2.1); rintro e w46 ⟨rfl, hb⟩; have n0_ := Aside0.mk (Kd.V_below (by (with_reducible repeat (first | apply Kd.V_alloc | apply Kd.V_drewN | apply Kd.V_drew)); exact HO_388001.out) hb); have n1_ := Aside0.mk (blk_below (g := gb387) (o := .cells #[.string t381, .slice Ao11 t382.length co11, .int .i64 t385] 25 (0, 0)) (by (with_reducible repeat (first | refine blk_drewN ?_ _ | refine blk_drew ?_ | refine blk_alloc ?_ _)); exact BK387.out) hb); have n2_ := Aside0.mk (below_step (by repeat (first | (with_reducible first | exact HB.out | apply below_alloc | apply pw_below_drewN | apply below_drew1 | refine below_set ?_ GE387.out))) hb); clear HO_388001; clear BK387; clear HB; have HO_388001 := n0_; have BK387 := n1_; have HB := n2_; clear n0_ n1_ n2_; (try clear hb); (try clear hb2); (try clear hk); (try clear hi))); try go_wp2_with (first | (go_at_call 16; (with_reducible refine (ref06_Check.calls kj5 _ _ t382 t389 _ ?side1 ?side2 A26.out).mono ?_); (case side1 => repeat (first | exact (Kd.V_reads' HO_388001.out).2.2 | (with_reducible refine Kd.C_alloc ?_ _) | (with_reducible refine Kd.C_drewN ?_ _) | (with_reducible refine Kd.C_drew ?_))); (case side2 => exact (Kd.V_reads' HO_388001.out).2.1); rintro e w46 ⟨rfl, hb⟩; have n0_ := Aside0.mk (Kd.V_below (by (with_reducible repeat (first | apply Kd.V_alloc | apply Kd.V_drewN | apply Kd.V_drew)); exact HO_388001.out) hb); have n1_ := Aside0.mk (blk_below (g := gb387) (o := .cells #[.string t381, .slice Ao11 t382.length co11, .int .i64 t385] 25 (0, 0)) (by (with_reducible repeat (first | refine blk_drewN ?_ _ | refine blk_drew ?_ | refine blk_alloc ?_ _)); exact BK387.out) hb); have n2_ := Aside0.mk (below_step (by repeat (first | (with_reducible first | exact HB.out | apply below_alloc | apply pw_below_drewN | apply below_drew1 | refine below_set ?_ GE387.out))) hb); clear HO_388001; clear BK387; clear HB; have HO_388001 := n0_; have BK387 := n1_; have HB := n2_; clear n0_ n1_ n2_; (try clear hb); (try clear hb2); (try clear hk); (try clear hi))))
        go_meet
        case rel => exact ⟨_, (true), (by first | rfl | (simp; done) | (simp [*]; done)), H', ⟨by have := HJ5.out; first | omega | exact Nat.le_refl _⟩, ⟨by (with_reducible repeat (first | apply Kd.V_alloc | apply Kd.V_drewN | apply Kd.V_drew)); exact HO_388001.out⟩, ⟨by (with_reducible repeat (first | refine blk_drewN ?_ _ | refine blk_drew ?_ | refine blk_alloc ?_ _)); exact BK387.out⟩, ⟨by repeat (first | (with_reducible first | exact HB.out | apply below_alloc | apply pw_below_drewN | apply below_drew1 | refine below_set ?_ GE387.out))⟩⟩
      ·replace c25 := Bool.eq_false_iff.mpr c25
       subst c25
       have H1 : (burgagelaw20_CatalogueParts.j1 kj5 a0 a1 true t381 t382 t385) = some r := by rw [if_neg (show ¬ (false = true) by decide)] at H; exact H
       clear H
       have H := H1
       clear H1
       have H' := Aside0.mk H
       clear H
       go_wp2
       repeat (go_quiet (fail); try go_wp2)
       go_meet
       case rel => exact ⟨_, (true), (by first | rfl | (simp; done) | (simp [*]; done)), H', ⟨by have := HJ5.out; first | omega | exact Nat.le_refl _⟩, ⟨by (with_reducible repeat (first | apply Kd.V_alloc | apply Kd.V_drewN | apply Kd.V_drew)); exact HO_388001.out⟩, ⟨by (with_reducible repeat (first | refine blk_drewN ?_ _ | refine blk_drew ?_ | refine blk_alloc ?_ _)); exact BK387.out⟩, ⟨by repeat (first | (with_reducible first | exact HB.out | apply below_alloc | apply pw_below_drewN | apply below_drew1 | refine below_set ?_ GE387.out))⟩⟩
     case rest =>
      clear HC24
      try clear c1
      try clear c2
      try clear p2
      try clear c3
      try clear c4
      try clear c12
      try clear c12b0
      try clear c13
      try clear c13b0
      try clear c14
      try clear c14b0
      try clear c15
      try clear c15b0
      try clear c17
      try clear c18
      try clear c19
      try clear c19b0
      try clear c19b1
      try clear c20
      try clear c20b0
      try clear c20b1
      try clear c20b2
      try clear c25
      try clear c27
      try clear c27b0
      try clear c27b1
      try clear c28
      try clear c28b0
      try clear c28b1
      try clear c33
      try clear hcz10_0
      try clear hcz10_1
      try clear hcz10_2
      try clear hcz21_0
      try clear hcz21_1
      try clear hcz21_2
      try clear hcz22_0
      try clear hcz22_1
      try clear hcz22_2
      try clear hcz23_0
      try clear hcz23_1
      try clear hcz23_2
      try clear hcz29_0
      try clear hcz29_1
      try clear hcz29_2
      try clear hcz31_0
      try clear hcz31_1
      try clear hcz31_2
      try clear hcz35_0
      try clear hcz35_1
      try clear hcz35_2
      try clear hcz37_0
      try clear hcz37_1
      try clear hcz37_2
      try clear hcz39_0
      try clear hcz39_1
      try clear hcz39_2
      try clear hcz41_0
      try clear hcz41_1
      try clear hcz41_2
      try clear hcz43_0
      try clear hcz43_1
      try clear hcz43_2
      try clear hcz45_0
      try clear hcz45_1
      try clear hcz45_2
      try clear hfz10_0
      try clear hfz10_1
      try clear hfz10_2
      try clear hfz21_0
      try clear hfz21_1
      try clear hfz21_2
      try clear hfz22_0
      try clear hfz22_1
      try clear hfz22_2
      try clear hfz23_0
      try clear hfz23_1
      try clear hfz23_2
      try clear hfz29_0
      try clear hfz29_1
      try clear hfz29_2
      try clear hfz31_0
      try clear hfz31_1
      try clear hfz31_2
      try clear hfz35_0
      try clear hfz35_1
      try clear hfz35_2
      try clear hfz37_0
      try clear hfz37_1
      try clear hfz37_2
      try clear hfz39_0
      try clear hfz39_1
      try clear hfz39_2
      try clear hfz41_0
      try clear hfz41_1
      try clear hfz41_2
      try clear hfz43_0
      try clear hfz43_1
      try clear hfz43_2
      try clear hfz45_0
      try clear hfz45_1
      try clear hfz45_2
      try clear p2
      obtain ⟨kq, x80_23, rfl, HA, HJ23, HO_388001, BK387, HB⟩ := hcut
      cases kq with
      | zero => exact absurd HA.out (by simp [burgagelaw20_CatalogueParts.j1])
      | succ kj23 =>
       have H := HA.out
       clear HA
       simp only [burgagelaw20_CatalogueParts.j1] at H
       by_cases c47 : x80_23 = true
       ·subst c47
        have H1 : (some false) = some r := by rw [if_pos rfl] at H; exact H
        clear H
        have H := H1
        clear H1
        obtain rfl := Option.some.inj H
        go_wp2
        repeat (go_quiet (fail); try go_wp2)
        go_ret
        exact ⟨by first | rfl | (simp <;> rfl) | (simp [*] <;> rfl), by repeat (first | (with_reducible first | exact HB.out | apply below_alloc | apply pw_below_drewN | apply below_drew1 | refine below_set ?_ GE387.out))⟩
       ·replace c47 := Bool.eq_false_iff.mpr c47
        subst c47
        have H1 : (burgagelaw20_CatalogueParts.l0 kj23 a0 a1 1 0 t381 t382 t385) = some r := by rw [if_neg (show ¬ (false = true) by decide)] at H; exact H
        clear H
        have H := H1
        clear H1
        have H' := Aside0.mk H
        clear H
        go_wp2
        repeat (go_quiet (fail); try go_wp2)
        go_loopg [7, 8] kj23 (fun kq v7 v8 w' => ∃ (x7_3 : Int) (x8_3 : Int), v7 = .int .i64 x7_3 ∧ v8 = .int .i64 x8_3 ∧ Aside0 (burgagelaw20_CatalogueParts.l0 kq a0 a1 x7_3 x8_3 t381 t382 t385 = some r) ∧ Aside0 (kq ≤ kj23) ∧ Aside0 (Kd.V k44 44 w' w.heap.size (fun k_ => k_ ≠ gb387) (.slice Ao11 t382.length co11) t382) ∧ Aside0 (w'.heap[gb387]? = some (.cells #[.string t381, (.slice Ao11 t382.length co11), .int .i64 t385] 25 (0, 0))) ∧ Aside0 (Below w.heap.size w w'))
        case atStart => exact ⟨(1), (0), (by first | rfl | (simp; done) | (simp [*]; done)), (by first | rfl | (simp; done) | (simp [*]; done)), H', ⟨Nat.le_refl _⟩, ⟨by (with_reducible repeat (first | apply Kd.V_alloc | apply Kd.V_drewN | apply Kd.V_drew)); exact HO_388001.out⟩, ⟨by (with_reducible repeat (first | refine blk_drewN ?_ _ | refine blk_drew ?_ | refine blk_alloc ?_ _)); exact BK387.out⟩, ⟨by repeat (first | (with_reducible first | exact HB.out | apply below_alloc | apply pw_below_drewN | apply below_drew1 | refine below_set ?_ GE387.out))⟩⟩
        case round =>
         clear H'
         try clear c1
         try clear c2
         try clear p2
         try clear c3
         try clear c4
         try clear c12
         try clear c12b0
         try clear c13
         try clear c13b0
         try clear c14
         try clear c14b0
         try clear c15
         try clear c15b0
         try clear c17
         try clear c18
         try clear c19
         try clear c19b0
         try clear c19b1
         try clear c20
         try clear c20b0
         try clear c20b1
         try clear c20b2
         try clear c25
         try clear c27
         try clear c27b0
         try clear c27b1
         try clear c28
         try clear c28b0
         try clear c28b1
         try clear c33
         try clear c47
         try clear hcz10_0
         try clear hcz10_1
         try clear hcz10_2
         try clear hcz21_0
         try clear hcz21_1
         try clear hcz21_2
         try clear hcz22_0
         try clear hcz22_1
         try clear hcz22_2
         try clear hcz23_0
         try clear hcz23_1
         try clear hcz23_2
         try clear hcz29_0
         try clear hcz29_1
         try clear hcz29_2
         try clear hcz31_0
         try clear hcz31_1
         try clear hcz31_2
         try clear hcz35_0
         try clear hcz35_1
         try clear hcz35_2
         try clear hcz37_0
         try clear hcz37_1
         try clear hcz37_2
         try clear hcz39_0
         try clear hcz39_1
         try clear hcz39_2
         try clear hcz41_0
         try clear hcz41_1
         try clear hcz41_2
         try clear hcz43_0
         try clear hcz43_1
         try clear hcz43_2
         try clear hcz45_0
         try clear hcz45_1
         try clear hcz45_2
         try clear hfz10_0
         try clear hfz10_1
         try clear hfz10_2
         try clear hfz21_0
         try clear hfz21_1
         try clear hfz21_2
         try clear hfz22_0
         try clear hfz22_1
         try clear hfz22_2
         try clear hfz23_0
         try clear hfz23_1
         try clear hfz23_2
         try clear hfz29_0
         try clear hfz29_1
         try clear hfz29_2
         try clear hfz31_0
         try clear hfz31_1
         try clear hfz31_2
         try clear hfz35_0
         try clear hfz35_1
         try clear hfz35_2
         try clear hfz37_0
         try clear hfz37_1
         try clear hfz37_2
         try clear hfz39_0
         try clear hfz39_1
         try clear hfz39_2
         try clear hfz41_0
         try clear hfz41_1
         try clear hfz41_2
         try clear hfz43_0
         try clear hfz43_1
         try clear hfz43_2
         try clear hfz45_0
         try clear hfz45_1
         try clear hfz45_2
         try clear p2
         obtain ⟨x7_3, x8_3, rfl, rfl, HA, HK3, HO_388001, BK387, HB⟩ := hrel
         cases gk with
         | zero => exact absurd HA.out (by simp [burgagelaw20_CatalogueParts.l0])
         | succ k3 =>
          have H := HA.out
          clear HA
          simp only [burgagelaw20_CatalogueParts.l0] at H
          by_cases c48 : x8_3 < 6
          ·rw [if_pos c48] at H
           have c48b0 : decide (x8_3 < 6) = true := decide_eq_true c48
           clear c48
           replace H := Option.bind_eq_some_iff.mp H
           obtain ⟨t392, A490, H⟩ := H
           replace H : ((ref09_Has.f t392 x7_3).bind fun t393 => (if t393 = true then ((ref09_Asks.f a0).bind fun t394 => ((ref09_Closed.f k3 t394).bind fun t395 => ((ref09_Has.f t395 x7_3).bind fun t396 => (if t396 = true then (burgagelaw20_CatalogueParts.l0 k3 a0 a1 (wrap64 (x7_3 * 2)) (wrap64 (x8_3 + 1)) t381 t382 t385) else (if t385 = x7_3 then ((burgagelaw20_name.f x8_3).bind fun t397 => (some (t381.toList == t397.toList))) else (some false)))))) else (burgagelaw20_CatalogueParts.l0 k3 a0 a1 (wrap64 (x7_3 * 2)) (wrap64 (x8_3 + 1)) t381 t382 t385))) = some r := H
           have A49 := Aside0.mk A490
           clear A490
           replace H := Option.bind_eq_some_iff.mp H
           obtain ⟨t393, A500, H⟩ := H
           replace H : (if t393 = true then ((ref09_Asks.f a0).bind fun t394 => ((ref09_Closed.f k3 t394).bind fun t395 => ((ref09_Has.f t395 x7_3).bind fun t396 => (if t396 = true then (burgagelaw20_CatalogueParts.l0 k3 a0 a1 (wrap64 (x7_3 * 2)) (wrap64 (x8_3 + 1)) t381 t382 t385) else (if t385 = x7_3 then ((burgagelaw20_name.f x8_3).bind fun t397 => (some (t381.toList == t397.toList))) else (some false)))))) else (burgagelaw20_CatalogueParts.l0 k3 a0 a1 (wrap64 (x7_3 * 2)) (wrap64 (x8_3 + 1)) t381 t382 t385)) = some r := H
           have A50 := Aside0.mk A500
           clear A500
           by_cases c51 : t393 = true
           ·subst c51
            have H1 : ((ref09_Asks.f a0).bind fun t394 => ((ref09_Closed.f k3 t394).bind fun t395 => ((ref09_Has.f t395 x7_3).bind fun t396 => (if t396 = true then (burgagelaw20_CatalogueParts.l0 k3 a0 a1 (wrap64 (x7_3 * 2)) (wrap64 (x8_3 + 1)) t381 t382 t385) else (if t385 = x7_3 then ((burgagelaw20_name.f x8_3).bind fun t397 => (some (t381.toList == t397.toList))) else (some false)))))) = some r := by rw [if_pos rfl] at H; exact H
            clear H
            have H := H1
            clear H1
            replace H := Option.bind_eq_some_iff.mp H
            obtain ⟨t394, A520, H⟩ := H
            replace H : ((ref09_Closed.f k3 t394).bind fun t395 => ((ref09_Has.f t395 x7_3).bind fun t396 => (if t396 = true then (burgagelaw20_CatalogueParts.l0 k3 a0 a1 (wrap64 (x7_3 * 2)) (wrap64 (x8_3 + 1)) t381 t382 t385) else (if t385 = x7_3 then ((burgagelaw20_name.f x8_3).bind fun t397 => (some (t381.toList == t397.toList))) else (some false))))) = some r := H
            have A52 := Aside0.mk A520
            clear A520
            replace H := Option.bind_eq_some_iff.mp H
            obtain ⟨t395, A530, H⟩ := H
            replace H : ((ref09_Has.f t395 x7_3).bind fun t396 => (if t396 = true then (burgagelaw20_CatalogueParts.l0 k3 a0 a1 (wrap64 (x7_3 * 2)) (wrap64 (x8_3 + 1)) t381 t382 t385) else (if t385 = x7_3 then ((burgagelaw20_name.f x8_3).bind fun t397 => (some (t381.toList == t397.toList))) else (some false)))) = some r := H
            have A53 := Aside0.mk A530
            clear A530
            replace H := Option.bind_eq_some_iff.mp H
            obtain ⟨t396, A540, H⟩ := H
            replace H : (if t396 = true then (burgagelaw20_CatalogueParts.l0 k3 a0 a1 (wrap64 (x7_3 * 2)) (wrap64 (x8_3 + 1)) t381 t382 t385) else (if t385 = x7_3 then ((burgagelaw20_name.f x8_3).bind fun t397 => (some (t381.toList == t397.toList))) else (some false))) = some r := H
            have A54 := Aside0.mk A540
            clear A540
            by_cases c55 : t396 = true
            ·subst c55
             have H1 : (burgagelaw20_CatalogueParts.l0 k3 a0 a1 (wrap64 (x7_3 * 2)) (wrap64 (x8_3 + 1)) t381 t382 t385) = some r := by rw [if_pos rfl] at H; exact H
             clear H
             have H := H1
             clear H1
             have H' := Aside0.mk H
             clear H
             go_wp2_with (first | (go_at_call 19; (with_reducible refine (ref09_Asks.calls a1 t392 _ A49.out).mono ?_); rintro e w' ⟨rfl, ⟨nd, rfl⟩⟩; (try first | exact ⟨rfl, _, World.drewN_drewN _ _ _⟩ | exact ⟨rfl, _, Eq.trans (World.drewN_drewN _ _ _) (congrArg (World.drewN _) (Nat.add_assoc _ _ _))⟩)) | (go_at_call 18; (with_reducible refine (ref09_Has.calls t392 x7_3 true _ A50.out).mono ?_); rintro e w' ⟨rfl, ⟨nd, rfl⟩⟩; (try first | exact ⟨rfl, _, World.drewN_drewN _ _ _⟩ | exact ⟨rfl, _, Eq.trans (World.drewN_drewN _ _ _) (congrArg (World.drewN _) (Nat.add_assoc _ _ _))⟩)) | (go_at_call 19; (with_reducible refine (ref09_Asks.calls a0 t394 _ A52.out).mono ?_); rintro e w' ⟨rfl, ⟨nd, rfl⟩⟩; (try first | exact ⟨rfl, _, World.drewN_drewN _ _ _⟩ | exact ⟨rfl, _, Eq.trans (World.drewN_drewN _ _ _) (congrArg (World.drewN _) (Nat.add_assoc _ _ _))⟩)) | (go_at_call 20; (with_reducible refine (ref09_Closed.calls k3 t394 t395 _ A53.out).mono ?_); rintro e w' ⟨rfl, ⟨nd, rfl⟩⟩; (try first | exact ⟨rfl, _, World.drewN_drewN _ _ _⟩ | exact ⟨rfl, _, Eq.trans (World.drewN_drewN _ _ _) (congrArg (World.drewN _) (Nat.add_assoc _ _ _))⟩)) | (go_at_call 18; (with_reducible refine (ref09_Has.calls t395 x7_3 true _ A54.out).mono ?_); rintro e w' ⟨rfl, ⟨nd, rfl⟩⟩; (try first | exact ⟨rfl, _, World.drewN_drewN _ _ _⟩ | exact ⟨rfl, _, Eq.trans (World.drewN_drewN _ _ _) (congrArg (World.drewN _) (Nat.add_assoc _ _ _))⟩)))
             repeat (go_quiet (first | (go_at_call 19; (with_reducible refine (ref09_Asks.calls a1 t392 _ A49.out).mono ?_); rintro e w' ⟨rfl, ⟨nd, rfl⟩⟩; (try first | exact ⟨rfl, _, World.drewN_drewN _ _ _⟩ | exact ⟨rfl, _, Eq.trans (World.drewN_drewN _ _ _) (congrArg (World.drewN _) (Nat.add_assoc _ _ _))⟩)) | (go_at_call 18; (with_reducible refine (ref09_Has.calls t392 x7_3 true _ A50.out).mono ?_); rintro e w' ⟨rfl, ⟨nd, rfl⟩⟩; (try first | exact ⟨rfl, _, World.drewN_drewN _ _ _⟩ | exact ⟨rfl, _, Eq.trans (World.drewN_drewN _ _ _) (congrArg (World.drewN _) (Nat.add_assoc _ _ _))⟩)) | (go_at_call 19; (with_reducible refine (ref09_Asks.calls a0 t394 _ A52.out).mono ?_); rintro e w' ⟨rfl, ⟨nd, rfl⟩⟩; (try first | exact ⟨rfl, _, World.drewN_drewN _ _ _⟩ | exact ⟨rfl, _, Eq.trans (World.drewN_drewN _ _ _) (congrArg (World.drewN _) (Nat.add_assoc _ _ _))⟩)) | (go_at_call 20; (with_reducible refine (ref09_Closed.calls k3 t394 t395 _ A53.out).mono ?_); rintro e w' ⟨rfl, ⟨nd, rfl⟩⟩; (try first | exact ⟨rfl, _, World.drewN_drewN _ _ _⟩ | exact ⟨rfl, _, Eq.trans (World.drewN_drewN _ _ _) (congrArg (World.drewN _) (Nat.add_assoc _ _ _))⟩)) | (go_at_call 18; (with_reducible refine (ref09_Has.calls t395 x7_3 true _ A54.out).mono ?_); rintro e w' ⟨rfl, ⟨nd, rfl⟩⟩; (try first | exact ⟨rfl, _, World.drewN_drewN _ _ _⟩ | exact ⟨rfl, _, Eq.trans (World.drewN_drewN _ _ _) (congrArg (World.drewN _) (Nat.add_assoc _ _ _))⟩))); try go_wp2_with (first | (go_at_call 19; (with_reducible refine (ref09_Asks.calls a1 t392 _ A49.out).mono ?_); rintro e w' ⟨rfl, ⟨nd, rfl⟩⟩; (try first | exact ⟨rfl, _, World.drewN_drewN _ _ _⟩ | exact ⟨rfl, _, Eq.trans (World.drewN_drewN _ _ _) (congrArg (World.drewN _) (Nat.add_assoc _ _ _))⟩)) | (go_at_call 18; (with_reducible refine (ref09_Has.calls t392 x7_3 true _ A50.out).mono ?_); rintro e w' ⟨rfl, ⟨nd, rfl⟩⟩; (try first | exact ⟨rfl, _, World.drewN_drewN _ _ _⟩ | exact ⟨rfl, _, Eq.trans (World.drewN_drewN _ _ _) (congrArg (World.drewN _) (Nat.add_assoc _ _ _))⟩)) | (go_at_call 19; (with_reducible refine (ref09_Asks.calls a0 t394 _ A52.out).mono ?_); rintro e w' ⟨rfl, ⟨nd, rfl⟩⟩; (try first | exact ⟨rfl, _, World.drewN_drewN _ _ _⟩ | exact ⟨rfl, _, Eq.trans (World.drewN_drewN _ _ _) (congrArg (World.drewN _) (Nat.add_assoc _ _ _))⟩)) | (go_at_call 20; (with_reducible refine (ref09_Closed.calls k3 t394 t395 _ A53.out).mono ?_); rintro e w' ⟨rfl, ⟨nd, rfl⟩⟩; (try first | exact ⟨rfl, _, World.drewN_drewN _ _ _⟩ | exact ⟨rfl, _, Eq.trans (World.drewN_drewN _ _ _) (congrArg (World.drewN _) (Nat.add_assoc _ _ _))⟩)) | (go_at_call 18; (with_reducible refine (ref09_Has.calls t395 x7_3 true _ A54.out).mono ?_); rintro e w' ⟨rfl, ⟨nd, rfl⟩⟩; (try first | exact ⟨rfl, _, World.drewN_drewN _ _ _⟩ | exact ⟨rfl, _, Eq.trans (World.drewN_drewN _ _ _) (congrArg (World.drewN _) (Nat.add_assoc _ _ _))⟩))))
             go_roundg k3
             case measure => have := HJ5.out; have := HJ23.out; have := HK3.out; omega
             case rel => exact ⟨(wrap64 (x7_3 * 2)), (wrap64 (x8_3 + 1)), (by first | rfl | (simp; done) | (simp [*]; done)), (by first | rfl | (simp; done) | (simp [*]; done)), H', ⟨by have := HJ5.out; have := HJ23.out; have := HK3.out; omega⟩, ⟨by (with_reducible repeat (first | apply Kd.V_alloc | apply Kd.V_drewN | apply Kd.V_drew)); exact HO_388001.out⟩, ⟨by (with_reducible repeat (first | refine blk_drewN ?_ _ | refine blk_drew ?_ | refine blk_alloc ?_ _)); exact BK387.out⟩, ⟨by repeat (first | (with_reducible first | exact HB.out | apply below_alloc | apply pw_below_drewN | apply below_drew1 | refine below_set ?_ GE387.out))⟩⟩
            ·replace c55 := Bool.eq_false_iff.mpr c55
             subst c55
             have H1 : (if t385 = x7_3 then ((burgagelaw20_name.f x8_3).bind fun t397 => (some (t381.toList == t397.toList))) else (some false)) = some r := by rw [if_neg (show ¬ (false = true) by decide)] at H; exact H
             clear H
             have H := H1
             clear H1
             by_cases c56 : t385 = x7_3
             ·rw [if_pos c56] at H
              have c56b0 : (t385 == x7_3) = true := beq_iff_eq.mpr c56
              have c56b1 : (t385 != x7_3) = false := bne_eq_false_iff_eq.mpr c56
              clear c56
              replace H := Option.bind_eq_some_iff.mp H
              obtain ⟨t397, A570, H⟩ := H
              replace H : (some (t381.toList == t397.toList)) = some r := H
              have A57 := Aside0.mk A570
              clear A570
              obtain rfl := Option.some.inj H
              go_wp2_with (first | (go_at_call 19; (with_reducible refine (ref09_Asks.calls a1 t392 _ A49.out).mono ?_); rintro e w' ⟨rfl, ⟨nd, rfl⟩⟩; (try first | exact ⟨rfl, _, World.drewN_drewN _ _ _⟩ | exact ⟨rfl, _, Eq.trans (World.drewN_drewN _ _ _) (congrArg (World.drewN _) (Nat.add_assoc _ _ _))⟩)) | (go_at_call 18; (with_reducible refine (ref09_Has.calls t392 x7_3 true _ A50.out).mono ?_); rintro e w' ⟨rfl, ⟨nd, rfl⟩⟩; (try first | exact ⟨rfl, _, World.drewN_drewN _ _ _⟩ | exact ⟨rfl, _, Eq.trans (World.drewN_drewN _ _ _) (congrArg (World.drewN _) (Nat.add_assoc _ _ _))⟩)) | (go_at_call 19; (with_reducible refine (ref09_Asks.calls a0 t394 _ A52.out).mono ?_); rintro e w' ⟨rfl, ⟨nd, rfl⟩⟩; (try first | exact ⟨rfl, _, World.drewN_drewN _ _ _⟩ | exact ⟨rfl, _, Eq.trans (World.drewN_drewN _ _ _) (congrArg (World.drewN _) (Nat.add_assoc _ _ _))⟩)) | (go_at_call 20; (with_reducible refine (ref09_Closed.calls k3 t394 t395 _ A53.out).mono ?_); rintro e w' ⟨rfl, ⟨nd, rfl⟩⟩; (try first | exact ⟨rfl, _, World.drewN_drewN _ _ _⟩ | exact ⟨rfl, _, Eq.trans (World.drewN_drewN _ _ _) (congrArg (World.drewN _) (Nat.add_assoc _ _ _))⟩)) | (go_at_call 18; (with_reducible refine (ref09_Has.calls t395 x7_3 false _ A54.out).mono ?_); rintro e w' ⟨rfl, ⟨nd, rfl⟩⟩; (try first | exact ⟨rfl, _, World.drewN_drewN _ _ _⟩ | exact ⟨rfl, _, Eq.trans (World.drewN_drewN _ _ _) (congrArg (World.drewN _) (Nat.add_assoc _ _ _))⟩); have hcz58_0 : wr.cell? ⟨gb387, 0, none⟩ = some (.string t381) := (blk_cell BK387.out 0).trans rfl; have hcz58_1 : wr.cell? ⟨gb387, 1, none⟩ = some (.slice Ao11 t382.length co11) := (blk_cell BK387.out 1).trans rfl; have hcz58_2 : wr.cell? ⟨gb387, 2, none⟩ = some (.int .i64 t385) := (blk_cell BK387.out 2).trans rfl; have hfz58_0 := blk_frozen BK387.out 0; have hfz58_1 := blk_frozen BK387.out 1; have hfz58_2 := blk_frozen BK387.out 2) | (go_at_call 21; (with_reducible refine (burgagelaw20_name.calls x8_3 t397 _ A57.out).mono ?_); rintro e w' ⟨rfl, ⟨nd, rfl⟩⟩; (try first | exact ⟨rfl, _, World.drewN_drewN _ _ _⟩ | exact ⟨rfl, _, Eq.trans (World.drewN_drewN _ _ _) (congrArg (World.drewN _) (Nat.add_assoc _ _ _))⟩)))
              repeat (go_quiet (first | (go_at_call 19; (with_reducible refine (ref09_Asks.calls a1 t392 _ A49.out).mono ?_); rintro e w' ⟨rfl, ⟨nd, rfl⟩⟩; (try first | exact ⟨rfl, _, World.drewN_drewN _ _ _⟩ | exact ⟨rfl, _, Eq.trans (World.drewN_drewN _ _ _) (congrArg (World.drewN _) (Nat.add_assoc _ _ _))⟩)) | (go_at_call 18; (with_reducible refine (ref09_Has.calls t392 x7_3 true _ A50.out).mono ?_); rintro e w' ⟨rfl, ⟨nd, rfl⟩⟩; (try first | exact ⟨rfl, _, World.drewN_drewN _ _ _⟩ | exact ⟨rfl, _, Eq.trans (World.drewN_drewN _ _ _) (congrArg (World.drewN _) (Nat.add_assoc _ _ _))⟩)) | (go_at_call 19; (with_reducible refine (ref09_Asks.calls a0 t394 _ A52.out).mono ?_); rintro e w' ⟨rfl, ⟨nd, rfl⟩⟩; (try first | exact ⟨rfl, _, World.drewN_drewN _ _ _⟩ | exact ⟨rfl, _, Eq.trans (World.drewN_drewN _ _ _) (congrArg (World.drewN _) (Nat.add_assoc _ _ _))⟩)) | (go_at_call 20; (with_reducible refine (ref09_Closed.calls k3 t394 t395 _ A53.out).mono ?_); rintro e w' ⟨rfl, ⟨nd, rfl⟩⟩; (try first | exact ⟨rfl, _, World.drewN_drewN _ _ _⟩ | exact ⟨rfl, _, Eq.trans (World.drewN_drewN _ _ _) (congrArg (World.drewN _) (Nat.add_assoc _ _ _))⟩)) | (go_at_call 18; (with_reducible refine (ref09_Has.calls t395 x7_3 false _ A54.out).mono ?_); rintro e w' ⟨rfl, ⟨nd, rfl⟩⟩; (try first | exact ⟨rfl, _, World.drewN_drewN _ _ _⟩ | exact ⟨rfl, _, Eq.trans (World.drewN_drewN _ _ _) (congrArg (World.drewN _) (Nat.add_assoc _ _ _))⟩); have hcz58_0 : wr.cell? ⟨gb387, 0, none⟩ = some (.string t381) := (blk_cell BK387.out 0).trans rfl; have hcz58_1 : wr.cell? ⟨gb387, 1, none⟩ = some (.slice Ao11 t382.length co11) := (blk_cell BK387.out 1).trans rfl; have hcz58_2 : wr.cell? ⟨gb387, 2, none⟩ = some (.int .i64 t385) := (blk_cell BK387.out 2).trans rfl; have hfz58_0 := blk_frozen BK387.out 0; have hfz58_1 := blk_frozen BK387.out 1; have hfz58_2 := blk_frozen BK387.out 2) | (go_at_call 21; (with_reducible refine (burgagelaw20_name.calls x8_3 t397 _ A57.out).mono ?_); rintro e w' ⟨rfl, ⟨nd, rfl⟩⟩; (try first | exact ⟨rfl, _, World.drewN_drewN _ _ _⟩ | exact ⟨rfl, _, Eq.trans (World.drewN_drewN _ _ _) (congrArg (World.drewN _) (Nat.add_assoc _ _ _))⟩))); try go_wp2_with (first | (go_at_call 19; (with_reducible refine (ref09_Asks.calls a1 t392 _ A49.out).mono ?_); rintro e w' ⟨rfl, ⟨nd, rfl⟩⟩; (try first | exact ⟨rfl, _, World.drewN_drewN _ _ _⟩ | exact ⟨rfl, _, Eq.trans (World.drewN_drewN _ _ _) (congrArg (World.drewN _) (Nat.add_assoc _ _ _))⟩)) | (go_at_call 18; (with_reducible refine (ref09_Has.calls t392 x7_3 true _ A50.out).mono ?_); rintro e w' ⟨rfl, ⟨nd, rfl⟩⟩; (try first | exact ⟨rfl, _, World.drewN_drewN _ _ _⟩ | exact ⟨rfl, _, Eq.trans (World.drewN_drewN _ _ _) (congrArg (World.drewN _) (Nat.add_assoc _ _ _))⟩)) | (go_at_call 19; (with_reducible refine (ref09_Asks.calls a0 t394 _ A52.out).mono ?_); rintro e w' ⟨rfl, ⟨nd, rfl⟩⟩; (try first | exact ⟨rfl, _, World.drewN_drewN _ _ _⟩ | exact ⟨rfl, _, Eq.trans (World.drewN_drewN _ _ _) (congrArg (World.drewN _) (Nat.add_assoc _ _ _))⟩)) | (go_at_call 20; (with_reducible refine (ref09_Closed.calls k3 t394 t395 _ A53.out).mono ?_); rintro e w' ⟨rfl, ⟨nd, rfl⟩⟩; (try first | exact ⟨rfl, _, World.drewN_drewN _ _ _⟩ | exact ⟨rfl, _, Eq.trans (World.drewN_drewN _ _ _) (congrArg (World.drewN _) (Nat.add_assoc _ _ _))⟩)) | (go_at_call 18; (with_reducible refine (ref09_Has.calls t395 x7_3 false _ A54.out).mono ?_); rintro e w' ⟨rfl, ⟨nd, rfl⟩⟩; (try first | exact ⟨rfl, _, World.drewN_drewN _ _ _⟩ | exact ⟨rfl, _, Eq.trans (World.drewN_drewN _ _ _) (congrArg (World.drewN _) (Nat.add_assoc _ _ _))⟩); have hcz58_0 : wr.cell? ⟨gb387, 0, none⟩ = some (.string t381) := (blk_cell BK387.out 0).trans rfl; have hcz58_1 : wr.cell? ⟨gb387, 1, none⟩ = some (.slice Ao11 t382.length co11) := (blk_cell BK387.out 1).trans rfl; have hcz58_2 : wr.cell? ⟨gb387, 2, none⟩ = some (.int .i64 t385) := (blk_cell BK387.out 2).trans rfl; have hfz58_0 := blk_frozen BK387.out 0; have hfz58_1 := blk_frozen BK387.out 1; have hfz58_2 := blk_frozen BK387.out 2) | (go_at_call 21; (with_reducible refine (burgagelaw20_name.calls x8_3 t397 _ A57.out).mono ?_); rintro e w' ⟨rfl, ⟨nd, rfl⟩⟩; (try first | exact ⟨rfl, _, World.drewN_drewN _ _ _⟩ | exact ⟨rfl, _, Eq.trans (World.drewN_drewN _ _ _) (congrArg (World.drewN _) (Nat.add_assoc _ _ _))⟩))))
              go_ret
              exact ⟨by first | rfl | (simp <;> rfl) | (simp [*] <;> rfl), by repeat (first | (with_reducible first | exact HB.out | apply below_alloc | apply pw_below_drewN | apply below_drew1 | refine below_set ?_ GE387.out))⟩
             ·rw [if_neg c56] at H
              have c56b0 : (t385 == x7_3) = false := beq_eq_false_iff_ne.mpr c56
              have c56b1 : (t385 != x7_3) = true := bne_iff_ne.mpr c56
              obtain rfl := Option.some.inj H
              go_wp2_with (first | (go_at_call 19; (with_reducible refine (ref09_Asks.calls a1 t392 _ A49.out).mono ?_); rintro e w' ⟨rfl, ⟨nd, rfl⟩⟩; (try first | exact ⟨rfl, _, World.drewN_drewN _ _ _⟩ | exact ⟨rfl, _, Eq.trans (World.drewN_drewN _ _ _) (congrArg (World.drewN _) (Nat.add_assoc _ _ _))⟩)) | (go_at_call 18; (with_reducible refine (ref09_Has.calls t392 x7_3 true _ A50.out).mono ?_); rintro e w' ⟨rfl, ⟨nd, rfl⟩⟩; (try first | exact ⟨rfl, _, World.drewN_drewN _ _ _⟩ | exact ⟨rfl, _, Eq.trans (World.drewN_drewN _ _ _) (congrArg (World.drewN _) (Nat.add_assoc _ _ _))⟩)) | (go_at_call 19; (with_reducible refine (ref09_Asks.calls a0 t394 _ A52.out).mono ?_); rintro e w' ⟨rfl, ⟨nd, rfl⟩⟩; (try first | exact ⟨rfl, _, World.drewN_drewN _ _ _⟩ | exact ⟨rfl, _, Eq.trans (World.drewN_drewN _ _ _) (congrArg (World.drewN _) (Nat.add_assoc _ _ _))⟩)) | (go_at_call 20; (with_reducible refine (ref09_Closed.calls k3 t394 t395 _ A53.out).mono ?_); rintro e w' ⟨rfl, ⟨nd, rfl⟩⟩; (try first | exact ⟨rfl, _, World.drewN_drewN _ _ _⟩ | exact ⟨rfl, _, Eq.trans (World.drewN_drewN _ _ _) (congrArg (World.drewN _) (Nat.add_assoc _ _ _))⟩)) | (go_at_call 18; (with_reducible refine (ref09_Has.calls t395 x7_3 false _ A54.out).mono ?_); rintro e w' ⟨rfl, ⟨nd, rfl⟩⟩; (try first | exact ⟨rfl, _, World.drewN_drewN _ _ _⟩ | exact ⟨rfl, _, Eq.trans (World.drewN_drewN _ _ _) (congrArg (World.drewN _) (Nat.add_assoc _ _ _))⟩); have hcz59_0 : wr.cell? ⟨gb387, 0, none⟩ = some (.string t381) := (blk_cell BK387.out 0).trans rfl; have hcz59_1 : wr.cell? ⟨gb387, 1, none⟩ = some (.slice Ao11 t382.length co11) := (blk_cell BK387.out 1).trans rfl; have hcz59_2 : wr.cell? ⟨gb387, 2, none⟩ = some (.int .i64 t385) := (blk_cell BK387.out 2).trans rfl; have hfz59_0 := blk_frozen BK387.out 0; have hfz59_1 := blk_frozen BK387.out 1; have hfz59_2 := blk_frozen BK387.out 2))
              repeat (go_quiet (first | (go_at_call 19; (with_reducible refine (ref09_Asks.calls a1 t392 _ A49.out).mono ?_); rintro e w' ⟨rfl, ⟨nd, rfl⟩⟩; (try first | exact ⟨rfl, _, World.drewN_drewN _ _ _⟩ | exact ⟨rfl, _, Eq.trans (World.drewN_drewN _ _ _) (congrArg (World.drewN _) (Nat.add_assoc _ _ _))⟩)) | (go_at_call 18; (with_reducible refine (ref09_Has.calls t392 x7_3 true _ A50.out).mono ?_); rintro e w' ⟨rfl, ⟨nd, rfl⟩⟩; (try first | exact ⟨rfl, _, World.drewN_drewN _ _ _⟩ | exact ⟨rfl, _, Eq.trans (World.drewN_drewN _ _ _) (congrArg (World.drewN _) (Nat.add_assoc _ _ _))⟩)) | (go_at_call 19; (with_reducible refine (ref09_Asks.calls a0 t394 _ A52.out).mono ?_); rintro e w' ⟨rfl, ⟨nd, rfl⟩⟩; (try first | exact ⟨rfl, _, World.drewN_drewN _ _ _⟩ | exact ⟨rfl, _, Eq.trans (World.drewN_drewN _ _ _) (congrArg (World.drewN _) (Nat.add_assoc _ _ _))⟩)) | (go_at_call 20; (with_reducible refine (ref09_Closed.calls k3 t394 t395 _ A53.out).mono ?_); rintro e w' ⟨rfl, ⟨nd, rfl⟩⟩; (try first | exact ⟨rfl, _, World.drewN_drewN _ _ _⟩ | exact ⟨rfl, _, Eq.trans (World.drewN_drewN _ _ _) (congrArg (World.drewN _) (Nat.add_assoc _ _ _))⟩)) | (go_at_call 18; (with_reducible refine (ref09_Has.calls t395 x7_3 false _ A54.out).mono ?_); rintro e w' ⟨rfl, ⟨nd, rfl⟩⟩; (try first | exact ⟨rfl, _, World.drewN_drewN _ _ _⟩ | exact ⟨rfl, _, Eq.trans (World.drewN_drewN _ _ _) (congrArg (World.drewN _) (Nat.add_assoc _ _ _))⟩); have hcz59_0 : wr.cell? ⟨gb387, 0, none⟩ = some (.string t381) := (blk_cell BK387.out 0).trans rfl; have hcz59_1 : wr.cell? ⟨gb387, 1, none⟩ = some (.slice Ao11 t382.length co11) := (blk_cell BK387.out 1).trans rfl; have hcz59_2 : wr.cell? ⟨gb387, 2, none⟩ = some (.int .i64 t385) := (blk_cell BK387.out 2).trans rfl; have hfz59_0 := blk_frozen BK387.out 0; have hfz59_1 := blk_frozen BK387.out 1; have hfz59_2 := blk_frozen BK387.out 2)); try go_wp2_with (first | (go_at_call 19; (with_reducible refine (ref09_Asks.calls a1 t392 _ A49.out).mono ?_); rintro e w' ⟨rfl, ⟨nd, rfl⟩⟩; (try first | exact ⟨rfl, _, World.drewN_drewN _ _ _⟩ | exact ⟨rfl, _, Eq.trans (World.drewN_drewN _ _ _) (congrArg (World.drewN _) (Nat.add_assoc _ _ _))⟩)) | (go_at_call 18; (with_reducible refine (ref09_Has.calls t392 x7_3 true _ A50.out).mono ?_); rintro e w' ⟨rfl, ⟨nd, rfl⟩⟩; (try first | exact ⟨rfl, _, World.drewN_drewN _ _ _⟩ | exact ⟨rfl, _, Eq.trans (World.drewN_drewN _ _ _) (congrArg (World.drewN _) (Nat.add_assoc _ _ _))⟩)) | (go_at_call 19; (with_reducible refine (ref09_Asks.calls a0 t394 _ A52.out).mono ?_); rintro e w' ⟨rfl, ⟨nd, rfl⟩⟩; (try first | exact ⟨rfl, _, World.drewN_drewN _ _ _⟩ | exact ⟨rfl, _, Eq.trans (World.drewN_drewN _ _ _) (congrArg (World.drewN _) (Nat.add_assoc _ _ _))⟩)) | (go_at_call 20; (with_reducible refine (ref09_Closed.calls k3 t394 t395 _ A53.out).mono ?_); rintro e w' ⟨rfl, ⟨nd, rfl⟩⟩; (try first | exact ⟨rfl, _, World.drewN_drewN _ _ _⟩ | exact ⟨rfl, _, Eq.trans (World.drewN_drewN _ _ _) (congrArg (World.drewN _) (Nat.add_assoc _ _ _))⟩)) | (go_at_call 18; (with_reducible refine (ref09_Has.calls t395 x7_3 false _ A54.out).mono ?_); rintro e w' ⟨rfl, ⟨nd, rfl⟩⟩; (try first | exact ⟨rfl, _, World.drewN_drewN _ _ _⟩ | exact ⟨rfl, _, Eq.trans (World.drewN_drewN _ _ _) (congrArg (World.drewN _) (Nat.add_assoc _ _ _))⟩); have hcz59_0 : wr.cell? ⟨gb387, 0, none⟩ = some (.string t381) := (blk_cell BK387.out 0).trans rfl; have hcz59_1 : wr.cell? ⟨gb387, 1, none⟩ = some (.slice Ao11 t382.length co11) := (blk_cell BK387.out 1).trans rfl; have hcz59_2 : wr.cell? ⟨gb387, 2, none⟩ = some (.int .i64 t385) := (blk_cell BK387.out 2).trans rfl; have hfz59_0 := blk_frozen BK387.out 0; have hfz59_1 := blk_frozen BK387.out 1; have hfz59_2 := blk_frozen BK387.out 2)))
              go_ret
              exact ⟨by first | rfl | (simp <;> rfl) | (simp [*] <;> rfl), by repeat (first | (with_reducible first | exact HB.out | apply below_alloc | apply pw_below_drewN | apply below_drew1 | refine below_set ?_ GE387.out))⟩
           ·replace c51 := Bool.eq_false_iff.mpr c51
            subst c51
            have H1 : (burgagelaw20_CatalogueParts.l0 k3 a0 a1 (wrap64 (x7_3 * 2)) (wrap64 (x8_3 + 1)) t381 t382 t385) = some r := by rw [if_neg (show ¬ (false = true) by decide)] at H; exact H
            clear H
            have H := H1
            clear H1
            have H' := Aside0.mk H
            clear H
            go_wp2_with (first | (go_at_call 19; (with_reducible refine (ref09_Asks.calls a1 t392 _ A49.out).mono ?_); rintro e w' ⟨rfl, ⟨nd, rfl⟩⟩; (try first | exact ⟨rfl, _, World.drewN_drewN _ _ _⟩ | exact ⟨rfl, _, Eq.trans (World.drewN_drewN _ _ _) (congrArg (World.drewN _) (Nat.add_assoc _ _ _))⟩)) | (go_at_call 18; (with_reducible refine (ref09_Has.calls t392 x7_3 false _ A50.out).mono ?_); rintro e w' ⟨rfl, ⟨nd, rfl⟩⟩; (try first | exact ⟨rfl, _, World.drewN_drewN _ _ _⟩ | exact ⟨rfl, _, Eq.trans (World.drewN_drewN _ _ _) (congrArg (World.drewN _) (Nat.add_assoc _ _ _))⟩)))
            repeat (go_quiet (first | (go_at_call 19; (with_reducible refine (ref09_Asks.calls a1 t392 _ A49.out).mono ?_); rintro e w' ⟨rfl, ⟨nd, rfl⟩⟩; (try first | exact ⟨rfl, _, World.drewN_drewN _ _ _⟩ | exact ⟨rfl, _, Eq.trans (World.drewN_drewN _ _ _) (congrArg (World.drewN _) (Nat.add_assoc _ _ _))⟩)) | (go_at_call 18; (with_reducible refine (ref09_Has.calls t392 x7_3 false _ A50.out).mono ?_); rintro e w' ⟨rfl, ⟨nd, rfl⟩⟩; (try first | exact ⟨rfl, _, World.drewN_drewN _ _ _⟩ | exact ⟨rfl, _, Eq.trans (World.drewN_drewN _ _ _) (congrArg (World.drewN _) (Nat.add_assoc _ _ _))⟩))); try go_wp2_with (first | (go_at_call 19; (with_reducible refine (ref09_Asks.calls a1 t392 _ A49.out).mono ?_); rintro e w' ⟨rfl, ⟨nd, rfl⟩⟩; (try first | exact ⟨rfl, _, World.drewN_drewN _ _ _⟩ | exact ⟨rfl, _, Eq.trans (World.drewN_drewN _ _ _) (congrArg (World.drewN _) (Nat.add_assoc _ _ _))⟩)) | (go_at_call 18; (with_reducible refine (ref09_Has.calls t392 x7_3 false _ A50.out).mono ?_); rintro e w' ⟨rfl, ⟨nd, rfl⟩⟩; (try first | exact ⟨rfl, _, World.drewN_drewN _ _ _⟩ | exact ⟨rfl, _, Eq.trans (World.drewN_drewN _ _ _) (congrArg (World.drewN _) (Nat.add_assoc _ _ _))⟩))))
            go_roundg k3
            case measure => have := HJ5.out; have := HJ23.out; have := HK3.out; omega
            case rel => exact ⟨(wrap64 (x7_3 * 2)), (wrap64 (x8_3 + 1)), (by first | rfl | (simp; done) | (simp [*]; done)), (by first | rfl | (simp; done) | (simp [*]; done)), H', ⟨by have := HJ5.out; have := HJ23.out; have := HK3.out; omega⟩, ⟨by (with_reducible repeat (first | apply Kd.V_alloc | apply Kd.V_drewN | apply Kd.V_drew)); exact HO_388001.out⟩, ⟨by (with_reducible repeat (first | refine blk_drewN ?_ _ | refine blk_drew ?_ | refine blk_alloc ?_ _)); exact BK387.out⟩, ⟨by repeat (first | (with_reducible first | exact HB.out | apply below_alloc | apply pw_below_drewN | apply below_drew1 | refine below_set ?_ GE387.out))⟩⟩
          ·rw [if_neg c48] at H
           have c48b0 : decide (x8_3 < 6) = false := decide_eq_false c48
           clear c48
           obtain rfl := Option.some.inj H
           go_wp2
           repeat (go_quiet (fail); try go_wp2)
           go_ret
           exact ⟨by first | rfl | (simp <;> rfl) | (simp [*] <;> rfl), by repeat (first | (with_reducible first | exact HB.out | apply below_alloc | apply pw_below_drewN | apply below_drew1 | refine below_set ?_ GE387.out))⟩
 ·replace c4 := Bool.eq_false_iff.mpr c4
  subst c4
  have H1 : (some false) = some r := by rw [if_neg (show ¬ (false = true) by decide)] at H; exact H
  clear H
  have H := H1
  clear H1
  obtain rfl := Option.some.inj H
  go_enter Try.func3, Try.ntmps3
  go_wp2_with (first | (go_at_call 13; (with_reducible refine (burgagelaw20_speaks.calls k  false _ A3.out).mono ?_); rintro e w60 ⟨rfl, hb⟩; have n0_ := Aside0.mk (below_step (by repeat (first | (with_reducible first | exact HB.out | apply below_alloc | apply pw_below_drewN | apply below_drew1))) hb); clear HB; have HB := n0_; clear n0_; (try clear hb); (try clear hb2); (try clear hk); (try clear hi)))
  repeat (go_quiet (first | (go_at_call 13; (with_reducible refine (burgagelaw20_speaks.calls k  false _ A3.out).mono ?_); rintro e w60 ⟨rfl, hb⟩; have n0_ := Aside0.mk (below_step (by repeat (first | (with_reducible first | exact HB.out | apply below_alloc | apply pw_below_drewN | apply below_drew1))) hb); clear HB; have HB := n0_; clear n0_; (try clear hb); (try clear hb2); (try clear hk); (try clear hi))); try go_wp2_with (first | (go_at_call 13; (with_reducible refine (burgagelaw20_speaks.calls k  false _ A3.out).mono ?_); rintro e w60 ⟨rfl, hb⟩; have n0_ := Aside0.mk (below_step (by repeat (first | (with_reducible first | exact HB.out | apply below_alloc | apply pw_below_drewN | apply below_drew1))) hb); clear HB; have HB := n0_; clear n0_; (try clear hb); (try clear hb2); (try clear hk); (try clear hi))))
  go_ret
  exact ⟨by first | rfl | (simp <;> rfl) | (simp [*] <;> rfl), by repeat (first | (with_reducible first | exact HB.out | apply below_alloc | apply pw_below_drewN | apply below_drew1))⟩
def burgagelaw20_CatalogueParts.Pure : Prop := ∀ (a0 : Int) (a1 : Int), (Lit.int .i64 a0).wf = true → (Lit.int .i64 a1).wf = true → ∃ k, burgagelaw20_CatalogueParts.f k a0 a1 = some true
theorem burgagelaw20_CatalogueParts.walk (P : burgagelaw20_CatalogueParts.Pure) (a0 : Int) (a1 : Int) (w : World) (w0 : (Lit.int .i64 a0).wf = true) (w1 : (Lit.int .i64 a1).wf = true) :
  Calls Try.prog 3 #[.int .i64 a0, .int .i64 a1] w fun e w' => e = .returned (.bool true) ∧ Below w.heap.size w w' := by
 obtain ⟨k, h⟩ := P a0 a1 w0 w1
 refine (burgagelaw20_CatalogueParts.calls k a0 a1 true w h).mono ?_
 rintro e w' ⟨rfl, hd⟩
 exact ⟨rfl, hd⟩
def table_Implies.f (k : Nat) (a0 : Int) (a1 : Int) : Option (Bool) := (level_Is.f a0).bind fun t398 => (if t398 = true then ((level_Is.f a1).bind fun t399 => (if t399 = true then ((table_Missing.f k a0 a1).bind fun t400 => (some (t400 == 0))) else (some false))) else (some false))
theorem table_Implies.mono : ∀ a0 a1 k, LeO (table_Implies.f k a0 a1) (table_Implies.f (k + 1) a0 a1) := by
 intro a0 a1 k
 unfold table_Implies.f
 repeat' first
   | (with_reducible exact table_Missing.mono _ _ _)
   | (with_reducible exact LeO.refl _)
   | (with_reducible exact LeO.none _)
   | (with_reducible refine LeO.ite ?_ ?_)
   | (with_reducible refine LeO.bind ?_ (fun _ => ?_))
   | exact table_Missing.mono _ _ _
   | exact LeO.none _
   | refine LeO.ite ?_ ?_
   | refine LeO.bind ?_ (fun _ => ?_)
set_option maxHeartbeats 8000000 in
set_option maxRecDepth 100000 in
theorem table_Implies.calls (k : Nat) (a0 : Int) (a1 : Int) (r : Bool) (w : World) (h : table_Implies.f k a0 a1 = some r) :
  Calls Try.prog 22 #[.int .i64 a0, .int .i64 a1] w fun e w' => e = .returned (.bool r) ∧ Below w.heap.size w w' := by
 have HB := Aside0.mk (Below.refl w.heap.size w)
 have H : ((level_Is.f a0).bind fun t398 => (if t398 = true then ((level_Is.f a1).bind fun t399 => (if t399 = true then ((table_Missing.f k a0 a1).bind fun t400 => (some (t400 == 0))) else (some false))) else (some false))) = some r := h
 clear h
 replace H := Option.bind_eq_some_iff.mp H
 obtain ⟨t398, A30, H⟩ := H
 replace H : (if t398 = true then ((level_Is.f a1).bind fun t399 => (if t399 = true then ((table_Missing.f k a0 a1).bind fun t400 => (some (t400 == 0))) else (some false))) else (some false)) = some r := H
 have A3 := Aside0.mk A30
 clear A30
 by_cases c4 : t398 = true
 ·subst c4
  have H1 : ((level_Is.f a1).bind fun t399 => (if t399 = true then ((table_Missing.f k a0 a1).bind fun t400 => (some (t400 == 0))) else (some false))) = some r := by rw [if_pos rfl] at H; exact H
  clear H
  have H := H1
  clear H1
  replace H := Option.bind_eq_some_iff.mp H
  obtain ⟨t399, A50, H⟩ := H
  replace H : (if t399 = true then ((table_Missing.f k a0 a1).bind fun t400 => (some (t400 == 0))) else (some false)) = some r := H
  have A5 := Aside0.mk A50
  clear A50
  by_cases c6 : t399 = true
  ·subst c6
   have H1 : ((table_Missing.f k a0 a1).bind fun t400 => (some (t400 == 0))) = some r := by rw [if_pos rfl] at H; exact H
   clear H
   have H := H1
   clear H1
   replace H := Option.bind_eq_some_iff.mp H
   obtain ⟨t400, A70, H⟩ := H
   replace H : (some (t400 == 0)) = some r := H
   have A7 := Aside0.mk A70
   clear A70
   obtain rfl := Option.some.inj H
   go_enter Try.func22, Try.ntmps22
   go_wp2_with (first | ((with_reducible refine gate_callee (f := 55) rfl ?_); refine goesL_ (some 6) rfl rfl Try.func55 (by kernel_rfl) rfl #[.int .i64 a0] rfl (by (try simp only [List.map_toArray, List.map_cons, List.map_nil]); first | done | rfl | (simp only [List.length_drop, List.length_take]; rfl)) ?_; (with_reducible refine (level_Is.calls a0 true _ A3.out).mono ?_); rintro e w' ⟨rfl, ⟨nd, rfl⟩⟩; refine ⟨_, rfl, ?_⟩) | (go_at_call 55; (with_reducible refine (level_Is.calls a1 true _ A5.out).mono ?_); rintro e w' ⟨rfl, ⟨nd, rfl⟩⟩) | (go_at_call 56; (with_reducible refine (table_Missing.calls k a0 a1 t400 _ A7.out).mono ?_); rintro e w8 ⟨rfl, hb⟩; have n0_ := Aside0.mk (below_step (by repeat (first | (with_reducible first | exact HB.out | apply below_alloc | apply pw_below_drewN | apply below_drew1))) hb); clear HB; have HB := n0_; clear n0_; (try clear hb); (try clear hb2); (try clear hk); (try clear hi)))
   go_ret
   exact ⟨by first | rfl | (simp <;> rfl) | (simp [*] <;> rfl), by repeat (first | (with_reducible first | exact HB.out | apply below_alloc | apply pw_below_drewN | apply below_drew1))⟩
  ·replace c6 := Bool.eq_false_iff.mpr c6
   subst c6
   have H1 : (some false) = some r := by rw [if_neg (show ¬ (false = true) by decide)] at H; exact H
   clear H
   have H := H1
   clear H1
   obtain rfl := Option.some.inj H
   go_enter Try.func22, Try.ntmps22
   go_wp2_with (first | ((with_reducible refine gate_callee (f := 55) rfl ?_); refine goesL_ (some 6) rfl rfl Try.func55 (by kernel_rfl) rfl #[.int .i64 a0] rfl (by (try simp only [List.map_toArray, List.map_cons, List.map_nil]); first | done | rfl | (simp only [List.length_drop, List.length_take]; rfl)) ?_; (with_reducible refine (level_Is.calls a0 true _ A3.out).mono ?_); rintro e w' ⟨rfl, ⟨nd, rfl⟩⟩; refine ⟨_, rfl, ?_⟩) | (go_at_call 55; (with_reducible refine (level_Is.calls a1 false _ A5.out).mono ?_); rintro e w' ⟨rfl, ⟨nd, rfl⟩⟩))
   go_ret
   exact ⟨by first | rfl | (simp <;> rfl) | (simp [*] <;> rfl), by repeat (first | (with_reducible first | exact HB.out | apply below_alloc | apply pw_below_drewN | apply below_drew1))⟩
 ·replace c4 := Bool.eq_false_iff.mpr c4
  subst c4
  have H1 : (some false) = some r := by rw [if_neg (show ¬ (false = true) by decide)] at H; exact H
  clear H
  have H := H1
  clear H1
  obtain rfl := Option.some.inj H
  go_enter Try.func22, Try.ntmps22
  go_wp2_with (first | ((with_reducible refine gate_callee (f := 55) rfl ?_); refine goesL_ (some 6) rfl rfl Try.func55 (by kernel_rfl) rfl #[.int .i64 a0] rfl (by (try simp only [List.map_toArray, List.map_cons, List.map_nil]); first | done | rfl | (simp only [List.length_drop, List.length_take]; rfl)) ?_; (with_reducible refine (level_Is.calls a0 false _ A3.out).mono ?_); rintro e w' ⟨rfl, ⟨nd, rfl⟩⟩; refine ⟨_, rfl, ?_⟩))
  go_ret
  exact ⟨by first | rfl | (simp <;> rfl) | (simp [*] <;> rfl), by repeat (first | (with_reducible first | exact HB.out | apply below_alloc | apply pw_below_drewN | apply below_drew1))⟩
end Go.Proofs.Ytfocaefnmfkojaa.Q
namespace Go.Proofs.Ytfocaefnmfkojaa.Pure
open Go.RowKit Go.Proofs.Ytfocaefnmfkojaa.Q Go.Proofs.YtfocaefnmfkojaaW.PrintWords Go.Proofs.YtfocaefnmfkojaaW.PrintLast
set_option maxRecDepth 100000 in
theorem parts_all : ((List.range 12).all fun a => (List.range 12).all fun b => burgagelaw20_CatalogueParts.f 1000 (a : Int) (b : Int) == some true) = true := by kernel_rfl
set_option maxRecDepth 100000 in
theorem speaks_yes : burgagelaw20_speaks.f 1000 = some true := by kernel_rfl
theorem find_none (a b : Int) (h : ¬ (0 ≤ a ∧ a < 12 ∧ 0 ≤ b ∧ b < 12)) : catalogue_Find.f 1000 a b = some ((⟨#[]⟩ : ByteArray), [], 0, false) := by
  unfold catalogue_Find.f level_Is.f
  by_cases h0 : a ≥ 0
  · by_cases h1 : a < 12
    · simp only [if_pos h0, Option.bind_some, decide_eq_true h1]
      rw [if_pos trivial]
      by_cases h2 : b ≥ 0
      · have h3 : ¬ b < 12 := fun h3 => h ⟨h0, h1, h2, h3⟩
        simp only [if_pos h2, Option.bind_some, decide_eq_false h3]
        rfl
      · simp only [if_neg h2, Option.bind_some]
        rfl
    · simp only [if_pos h0, Option.bind_some, decide_eq_false h1]
      rfl
  · simp only [if_neg h0, Option.bind_some]
    rfl
set_option maxRecDepth 100000 in
theorem none_ok (a b : Int) : burgagelaw20_CatalogueParts.j0 1000 a b false true (⟨#[]⟩ : ByteArray) [] 0 = some true := by kernel_rfl
theorem CatalogueParts : burgagelaw20_CatalogueParts.Pure := by
  intro a b _ _
  refine ⟨1000, ?_⟩
  by_cases h : 0 ≤ a ∧ a < 12 ∧ 0 ≤ b ∧ b < 12
  · obtain ⟨h0, h1, h2, h3⟩ := h
    have ha := List.all_eq_true.1 parts_all a.toNat (List.mem_range.2 (by omega))
    have hb := List.all_eq_true.1 ha b.toNat (List.mem_range.2 (by omega))
    rw [Int.toNat_of_nonneg h0, Int.toNat_of_nonneg h2] at hb
    exact eq_of_beq hb
  · unfold burgagelaw20_CatalogueParts.f
    rw [speaks_yes, Option.bind_some, if_pos rfl, find_none a b h, Option.bind_some]
    by_cases h0 : a < 0
    · rw [if_pos h0]; exact none_ok a b
    · rw [if_neg h0]
      by_cases h1 : a > 11
      · rw [if_pos h1]; exact none_ok a b
      · rw [if_neg h1]
        by_cases h2 : b < 0
        · rw [if_pos h2]; exact none_ok a b
        · rw [if_neg h2, if_pos (by omega)]; exact none_ok a b
end Go.Proofs.Ytfocaefnmfkojaa.Pure
namespace Go.Proofs.Ytfocaefnmfkojaa.catalogueParts
open Go.ChangeShapes Go.WideShapes Go.ChangeAt Go.RowKit
open Go.ChangeMaps (open_string shut_string)
set_option linter.unusedVariables false
theorem own : ownKnob Try.prog.godebug = none := by kernel_rfl
set_option maxRecDepth 100000 in
theorem lifted (os : Os) (started : os.Started) (H : Type) (enc : TypeId × Value → H) :
    ReturnsInHanded {} Try.checked os 3 .any (Rows.cataloguePartsSpec.pre6 enc Try.prog Try.f3 Rows.cataloguePartsRow.domain false) (Rows.cataloguePartsSpec.post enc Try.prog Try.f3 false true false false) := by
  refine returnsInHanded_of_change_sized (C := Try.checked) own started (by kernel_rfl) Try.func3
    (ChangeSpec.witness6 (enc := enc) (C := Try.checked) false ⟨#[], #[.int .i64 0, .int .i64 0], []⟩ 8 (by kernel_rfl) (by kernel_rfl) (by kernel_rfl) (by kernel_rfl)) ?_
  intro W base args ds gs before hval0 hW hcnd hsz0 _
  have hsz : (DataW.weightsEach Try.prog (Try.f3.params.toList ++ Rows.cataloguePartsSpec.plain.varTypes Try.prog) (ds ++ gs)).all (· ≤ reachBytes) = true := hsz0
  have hval : ∀ (j : Nat) t v, Try.f3.params[j]? = some t → args[j]? = some v → Value.okWide Try.prog W .any base t v := hval0
  have hW' := hW
  obtain ⟨p, q, hA0, hV, rfl, hfz, hnd⟩ := hW
  have hA : DataW.TrodAll enc Try.prog W 0 (fun _ => true) true Try.f3.params.toList args.toList ds p := hA0
  rw [Try.params3] at hA hval hsz
  obtain ⟨v0, vs0, d0, ds0, p0, q0, hargs, rfl, rfl, h0, r0⟩ := trodAll_cons hA
  obtain ⟨v1, vs1, d1, ds1, p1, q1, rfl, rfl, rfl, h1, r1⟩ := trodAll_cons r0
  obtain ⟨rfl, rfl, rfl⟩ := trodAll_nil r1
  obtain rfl : args = #[v0, v1] := by cases args; simp_all
  obtain ⟨rfl, rfl⟩ := trodVars_none hV
  obtain ⟨a0, rfl, rfl, rfl, w0⟩ := open_int Try.underlying3 (hval 0 3 v0 rfl rfl) h0
  obtain ⟨a1, rfl, rfl, rfl, w1⟩ := open_int Try.underlying3 (hval 1 3 v1 rfl rfl) h1
  clear hA0 hval0 hsz0 hsz
  refine (Q.burgagelaw20_CatalogueParts.walk Pure.CatalogueParts a0 a1 W w0 w1).mono fun e W' ⟨he, bel⟩ => ?_
  subst he
  exact ⟨_, rfl, _, _, _, [], _, [], hW', trodAll_mk1 (shut_bool Try.underlying4 _), (trodAll_cons_mk (shut_int Try.underlying3 w0) (trodAll_cons_mk (shut_int Try.underlying3 w1) trodAll_mk0)), rfl, bel.frame _, fun h => by cases h⟩
theorem over : Rows.cataloguePartsRow.holds Try.pinned (OpenSpec.ofChange Rows.cataloguePartsSpec) :=
  OpenClaim.holds_of_wide 3 Try.f3 rfl rfl rfl rfl rfl rfl rfl ⟨rfl, rfl, rfl, rfl, rfl⟩ rfl rfl rfl rfl rfl (by kernel_rfl) Try.func3 (by kernel_rfl)
    (of_decide_eq_true (by kernel_rfl)) (by unfold Func.isWrapper; first | (rw [if_pos (by decide +kernel)]; kernel_rfl) | (rw [if_neg (by decide +kernel)]; exact ⟨rfl, rfl⟩))
    (fun os started H enc _ => lifted os started H enc)
theorem proved : Rows.CataloguePartsSaid := over
end Go.Proofs.Ytfocaefnmfkojaa.catalogueParts
namespace Go.Proofs.Ytfocaefnmfkojaa
theorem catalogueParts_holds : Rows.CataloguePartsSaid := catalogueParts.proved
end Go.Proofs.Ytfocaefnmfkojaa
