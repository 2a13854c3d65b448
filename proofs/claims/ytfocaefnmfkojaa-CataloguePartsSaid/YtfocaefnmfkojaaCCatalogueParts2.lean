/- A part of the proof of catalogueParts_holds: words and contracts that its last text uses. -/
import Derived.Test.YtfocaefnmfkojaaCCatalogueParts1
namespace Go.Proofs.Ytfocaefnmfkojaa.Q
open Go.RowKit Go.Proofs.YtfocaefnmfkojaaW.PrintWords Go.Proofs.YtfocaefnmfkojaaW.PrintLast Go.Proofs.YtfocaefnmfkojaaW.PrintMore
attribute [local go_sem] max2_int min2_int max_two min_two max_three min_three max_four min_four   -- for this text's walks alone
set_option linter.unusedVariables false
set_option linter.unusedSimpArgs false
mutual
def ref10_Implies.j0 : Nat → Int → Int → Bool → Option (Bool)
 | 0, _, _, _ => none
 | k + 1, x0, x1, x21 => if x21 = true then (some false) else ((ref09_Asks.f x0).bind fun t150 => ((ref09_Closed.f k t150).bind fun t151 => ((ref09_Asks.f x1).bind fun t152 => (ref10_Implies.l0 k t151 t152 1))))
def ref10_Implies.l0 : Nat → Int → Int → Int → Option (Bool)
 | 0, _, _, _ => none
 | k + 1, x5, x6, x7 => if x7 ≤ 32 then ((ref09_Has.f x6 x7).bind fun t153 => (if t153 = true then ((ref09_Has.f x5 x7).bind fun t154 => (if t154 = true then (ref10_Implies.l0 k x5 x6 (wrap64 (x7 * 2))) else (some false))) else (ref10_Implies.l0 k x5 x6 (wrap64 (x7 * 2))))) else (some true)
end
def ref10_Implies.f (k : Nat) (a0 : Int) (a1 : Int) : Option (Bool) := if a0 < 0 then (ref10_Implies.j0 k a0 a1 true) else (if a0 > 11 then (ref10_Implies.j0 k a0 a1 true) else (if a1 < 0 then (ref10_Implies.j0 k a0 a1 true) else (ref10_Implies.j0 k a0 a1 (decide (a1 > 11)))))
theorem ref10_Implies.mono_l : ∀ k, (∀ y0 y1 y2, LeO (ref10_Implies.j0 k y0 y1 y2) (ref10_Implies.j0 (k + 1) y0 y1 y2)) ∧ (∀ y0 y1 y2, LeO (ref10_Implies.l0 k y0 y1 y2) (ref10_Implies.l0 (k + 1) y0 y1 y2))
 | 0 => ⟨fun _ _ _ r h => by simp [ref10_Implies.j0] at h, fun _ _ _ r h => by simp [ref10_Implies.l0] at h⟩
 | k + 1 => by
  obtain ⟨ih0, ih1⟩ := ref10_Implies.mono_l k
  refine ⟨?_, ?_⟩
  ·intro y0 y1 y2
   unfold ref10_Implies.j0
   repeat' first
   | (with_reducible exact ih0 _ _ _)
   | (with_reducible exact ih1 _ _ _)
   | (with_reducible exact ref09_Closed.mono _ _)
   | (with_reducible exact LeO.refl _)
   | (with_reducible exact LeO.none _)
   | (with_reducible refine LeO.ite ?_ ?_)
   | (with_reducible refine LeO.bind ?_ (fun _ => ?_))
   | exact ih0 _ _ _
   | exact ih1 _ _ _
   | exact ref09_Closed.mono _ _
   | exact LeO.none _
   | refine LeO.ite ?_ ?_
   | refine LeO.bind ?_ (fun _ => ?_)
  ·intro y0 y1 y2
   unfold ref10_Implies.l0
   repeat' first
   | (with_reducible exact ih0 _ _ _)
   | (with_reducible exact ih1 _ _ _)
   | (with_reducible exact ref09_Closed.mono _ _)
   | (with_reducible exact LeO.refl _)
   | (with_reducible exact LeO.none _)
   | (with_reducible refine LeO.ite ?_ ?_)
   | (with_reducible refine LeO.bind ?_ (fun _ => ?_))
   | exact ih0 _ _ _
   | exact ih1 _ _ _
   | exact ref09_Closed.mono _ _
   | exact LeO.none _
   | refine LeO.ite ?_ ?_
   | refine LeO.bind ?_ (fun _ => ?_)
theorem ref10_Implies.mono : ∀ a0 a1 k, LeO (ref10_Implies.f k a0 a1) (ref10_Implies.f (k + 1) a0 a1) := by
 intro a0 a1 k
 obtain ⟨ih0, ih1⟩ := ref10_Implies.mono_l k
 unfold ref10_Implies.f
 repeat' first
   | (with_reducible exact ih0 _ _ _)
   | (with_reducible exact ih1 _ _ _)
   | (with_reducible exact ref09_Closed.mono _ _)
   | (with_reducible exact LeO.refl _)
   | (with_reducible exact LeO.none _)
   | (with_reducible refine LeO.ite ?_ ?_)
   | (with_reducible refine LeO.bind ?_ (fun _ => ?_))
   | exact ih0 _ _ _
   | exact ih1 _ _ _
   | exact ref09_Closed.mono _ _
   | exact LeO.none _
   | refine LeO.ite ?_ ?_
   | refine LeO.bind ?_ (fun _ => ?_)
set_option maxHeartbeats 8000000 in
set_option maxRecDepth 100000 in
theorem ref10_Implies.calls (k : Nat) (a0 : Int) (a1 : Int) (r : Bool) (w : World) (h : ref10_Implies.f k a0 a1 = some r) :
  Calls Try.prog 15 #[.int .i64 a0, .int .i64 a1] w fun e w' => e = .returned (.bool r) ∧ Drawn0 w w' := by
 have H : (if a0 < 0 then (ref10_Implies.j0 k a0 a1 true) else (if a0 > 11 then (ref10_Implies.j0 k a0 a1 true) else (if a1 < 0 then (ref10_Implies.j0 k a0 a1 true) else (ref10_Implies.j0 k a0 a1 (decide (a1 > 11)))))) = some r := h
 clear h
 have HC3 := Aside0.mk H
 clear H
 go_enter Try.func15, Try.ntmps15
 go_upto_region 1 with (fail)
 go_cut [21] (fun v21 wc => ∃ (kq : Nat) (x21_2 : Bool), v21 = .bool x21_2 ∧ Aside0 (ref10_Implies.j0 kq a0 a1 x21_2 = some r) ∧ Aside0 (kq ≤ k) ∧ Drawn0 w wc)
 case first =>
  have H := HC3.out
  clear HC3
  by_cases c4 : a0 < 0
  ·rw [if_pos c4] at H
   have c4b0 : decide (a0 < 0) = true := decide_eq_true c4
   clear c4
   (first | rw [c4b0] | (simp only [i64_w, i32_w]; rw [c4b0]) | skip)
   have H' := Aside0.mk H
   clear H
   go_wp2
   go_meet
   case rel => exact ⟨_, (true), (by first | rfl | (simp; done) | (simp [*]; done)), H', ⟨by first | omega | exact Nat.le_refl _⟩, by repeat (first | exact Drawn0.refl _ | apply Drawn0.step)⟩
  ·rw [if_neg c4] at H
   have c4b0 : decide (a0 < 0) = false := decide_eq_false c4
   clear c4
   (first | rw [c4b0] | (simp only [i64_w, i32_w]; rw [c4b0]) | skip)
   by_cases c5 : a0 > 11
   ·rw [if_pos c5] at H
    have c5b0 : decide (11 < a0) = true := decide_eq_true c5
    clear c5
    have H' := Aside0.mk H
    clear H
    go_wp2
    go_meet
    case rel => exact ⟨_, (true), (by first | rfl | (simp; done) | (simp [*]; done)), H', ⟨by first | omega | exact Nat.le_refl _⟩, by repeat (first | exact Drawn0.refl _ | apply Drawn0.step)⟩
   ·rw [if_neg c5] at H
    have c5b0 : decide (11 < a0) = false := decide_eq_false c5
    clear c5
    by_cases c6 : a1 < 0
    ·rw [if_pos c6] at H
     have c6b0 : decide (a1 < 0) = true := decide_eq_true c6
     clear c6
     have H' := Aside0.mk H
     clear H
     go_wp2
     go_meet
     case rel => exact ⟨_, (true), (by first | rfl | (simp; done) | (simp [*]; done)), H', ⟨by first | omega | exact Nat.le_refl _⟩, by repeat (first | exact Drawn0.refl _ | apply Drawn0.step)⟩
    ·rw [if_neg c6] at H
     have c6b0 : decide (a1 < 0) = false := decide_eq_false c6
     clear c6
     have H' := Aside0.mk H
     clear H
     go_wp2
     go_meet
     case rel => exact ⟨_, (decide (a1 > 11)), (by first | rfl | (simp; done) | (simp [*]; done)), H', ⟨by first | omega | exact Nat.le_refl _⟩, by repeat (first | exact Drawn0.refl _ | apply Drawn0.step)⟩
 case rest =>
  clear HC3
  try clear c1
  try clear p2
  try clear c4
  try clear c4b0
  try clear c5
  try clear c5b0
  try clear c6
  try clear c6b0
  obtain ⟨kq, x21_2, rfl, HA, HJ2, ⟨mc2, rfl⟩⟩ := hcut
  cases kq with
  | zero => exact absurd HA.out (by simp [ref10_Implies.j0])
  | succ kj2 =>
   have H := HA.out
   clear HA
   simp only [ref10_Implies.j0] at H
   by_cases c7 : x21_2 = true
   ·subst c7
    have H1 : (some false) = some r := by rw [if_pos rfl] at H; exact H
    clear H
    have H := H1
    clear H1
    obtain rfl := Option.some.inj H
    go_wp2
    go_ret
    exact ⟨by first | rfl | (simp; done) | (simp [*]; done), by repeat (first | exact Drawn0.refl _ | apply Drawn0.step)⟩
   ·replace c7 := Bool.eq_false_iff.mpr c7
    subst c7
    have H1 : ((ref09_Asks.f a0).bind fun t150 => ((ref09_Closed.f kj2 t150).bind fun t151 => ((ref09_Asks.f a1).bind fun t152 => (ref10_Implies.l0 kj2 t151 t152 1)))) = some r := by rw [if_neg (show ¬ (false = true) by decide)] at H; exact H
    clear H
    have H := H1
    clear H1
    replace H := Option.bind_eq_some_iff.mp H
    obtain ⟨t150, A80, H⟩ := H
    replace H : ((ref09_Closed.f kj2 t150).bind fun t151 => ((ref09_Asks.f a1).bind fun t152 => (ref10_Implies.l0 kj2 t151 t152 1))) = some r := H
    have A8 := Aside0.mk A80
    clear A80
    replace H := Option.bind_eq_some_iff.mp H
    obtain ⟨t151, A90, H⟩ := H
    replace H : ((ref09_Asks.f a1).bind fun t152 => (ref10_Implies.l0 kj2 t151 t152 1)) = some r := H
    have A9 := Aside0.mk A90
    clear A90
    replace H := Option.bind_eq_some_iff.mp H
    obtain ⟨t152, A100, H⟩ := H
    replace H : (ref10_Implies.l0 kj2 t151 t152 1) = some r := H
    have A10 := Aside0.mk A100
    clear A100
    have H' := Aside0.mk H
    clear H
    go_wp2_with (first | ((with_reducible refine gate_callee (f := 19) rfl ?_); refine goesL_ (some 23) rfl rfl Try.func19 (by kernel_rfl) rfl #[.int .i64 a0] rfl (by (try simp only [List.map_toArray, List.map_cons, List.map_nil]); first | done | rfl | (simp only [List.length_drop, List.length_take]; rfl)) ?_; (with_reducible refine (ref09_Asks.calls a0 t150 _ A8.out).mono ?_); rintro e w' ⟨rfl, ⟨nd, rfl⟩⟩; refine ⟨_, rfl, ?_⟩) | ((with_reducible refine gate_callee (f := 20) rfl ?_); refine goesL_ (some 24) rfl rfl Try.func20 (by kernel_rfl) rfl #[.int .i64 t150] rfl (by (try simp only [List.map_toArray, List.map_cons, List.map_nil]); first | done | rfl | (simp only [List.length_drop, List.length_take]; rfl)) ?_; (with_reducible refine (ref09_Closed.calls kj2 t150 t151 _ A9.out).mono ?_); rintro e w' ⟨rfl, ⟨nd, rfl⟩⟩; refine ⟨_, rfl, ?_⟩) | ((with_reducible refine gate_callee (f := 19) rfl ?_); refine goesL_ (some 26) rfl rfl Try.func19 (by kernel_rfl) rfl #[.int .i64 a1] rfl (by (try simp only [List.map_toArray, List.map_cons, List.map_nil]); first | done | rfl | (simp only [List.length_drop, List.length_take]; rfl)) ?_; (with_reducible refine (ref09_Asks.calls a1 t152 _ A10.out).mono ?_); rintro e w' ⟨rfl, ⟨nd, rfl⟩⟩; refine ⟨_, rfl, ?_⟩))
    go_loopg [7] kj2 (fun kq v7 w' => ∃ (x7_2 : Int), v7 = .int .i64 x7_2 ∧ Aside0 (ref10_Implies.l0 kq t151 t152 x7_2 = some r) ∧ Aside0 (kq ≤ kj2) ∧ Drawn0 w w')
    case atStart => exact ⟨(1), (by first | rfl | (simp; done) | (simp [*]; done)), H', ⟨Nat.le_refl _⟩, by repeat (first | exact Drawn0.refl _ | apply Drawn0.step)⟩
    case round =>
     clear H'
     try clear c1
     try clear c2
     try clear p2
     try clear c4
     try clear c4b0
     try clear c5
     try clear c5b0
     try clear c6
     try clear c6b0
     try clear c7
     try clear p2
     obtain ⟨x7_2, rfl, HA, HK2, ⟨m2, rfl⟩⟩ := hrel
     cases gk with
     | zero => exact absurd HA.out (by simp [ref10_Implies.l0])
     | succ k2 =>
      have H := HA.out
      clear HA
      simp only [ref10_Implies.l0] at H
      by_cases c11 : x7_2 ≤ 32
      ·rw [if_pos c11] at H
       have c11b0 : decide (x7_2 ≤ 32) = true := decide_eq_true c11
       clear c11
       replace H := Option.bind_eq_some_iff.mp H
       obtain ⟨t153, A120, H⟩ := H
       replace H : (if t153 = true then ((ref09_Has.f t151 x7_2).bind fun t154 => (if t154 = true then (ref10_Implies.l0 k2 t151 t152 (wrap64 (x7_2 * 2))) else (some false))) else (ref10_Implies.l0 k2 t151 t152 (wrap64 (x7_2 * 2)))) = some r := H
       have A12 := Aside0.mk A120
       clear A120
       by_cases c13 : t153 = true
       ·subst c13
        have H1 : ((ref09_Has.f t151 x7_2).bind fun t154 => (if t154 = true then (ref10_Implies.l0 k2 t151 t152 (wrap64 (x7_2 * 2))) else (some false))) = some r := by rw [if_pos rfl] at H; exact H
        clear H
        have H := H1
        clear H1
        replace H := Option.bind_eq_some_iff.mp H
        obtain ⟨t154, A140, H⟩ := H
        replace H : (if t154 = true then (ref10_Implies.l0 k2 t151 t152 (wrap64 (x7_2 * 2))) else (some false)) = some r := H
        have A14 := Aside0.mk A140
        clear A140
        by_cases c15 : t154 = true
        ·subst c15
         have H1 : (ref10_Implies.l0 k2 t151 t152 (wrap64 (x7_2 * 2))) = some r := by rw [if_pos rfl] at H; exact H
         clear H
         have H := H1
         clear H1
         have H' := Aside0.mk H
         clear H
         go_wp2_with (first | ((with_reducible refine gate_callee (f := 18) rfl ?_); refine goesL_ (some 33) rfl rfl Try.func18 (by kernel_rfl) rfl #[.int .i64 t152, .int .i64 x7_2] rfl (by (try simp only [List.map_toArray, List.map_cons, List.map_nil]); first | done | rfl | (simp only [List.length_drop, List.length_take]; rfl)) ?_; (with_reducible refine (ref09_Has.calls t152 x7_2 true _ A12.out).mono ?_); rintro e w' ⟨rfl, ⟨nd, rfl⟩⟩; refine ⟨_, rfl, ?_⟩) | (go_at_call 18; (with_reducible refine (ref09_Has.calls t151 x7_2 true _ A14.out).mono ?_); rintro e w' ⟨rfl, ⟨nd, rfl⟩⟩))
         go_roundg k2
         case measure => have := HJ2.out; have := HK2.out; omega
         case rel => exact ⟨(wrap64 (x7_2 * 2)), (by first | rfl | (simp; done) | (simp [*]; done)), H', ⟨by have := HJ2.out; have := HK2.out; omega⟩, by repeat (first | exact Drawn0.refl _ | apply Drawn0.step)⟩
        ·replace c15 := Bool.eq_false_iff.mpr c15
         subst c15
         have H1 : (some false) = some r := by rw [if_neg (show ¬ (false = true) by decide)] at H; exact H
         clear H
         have H := H1
         clear H1
         obtain rfl := Option.some.inj H
         go_wp2_with (first | ((with_reducible refine gate_callee (f := 18) rfl ?_); refine goesL_ (some 33) rfl rfl Try.func18 (by kernel_rfl) rfl #[.int .i64 t152, .int .i64 x7_2] rfl (by (try simp only [List.map_toArray, List.map_cons, List.map_nil]); first | done | rfl | (simp only [List.length_drop, List.length_take]; rfl)) ?_; (with_reducible refine (ref09_Has.calls t152 x7_2 true _ A12.out).mono ?_); rintro e w' ⟨rfl, ⟨nd, rfl⟩⟩; refine ⟨_, rfl, ?_⟩) | (go_at_call 18; (with_reducible refine (ref09_Has.calls t151 x7_2 false _ A14.out).mono ?_); rintro e w' ⟨rfl, ⟨nd, rfl⟩⟩))
         go_ret
         exact ⟨by first | rfl | (simp; done) | (simp [*]; done), by repeat (first | exact Drawn0.refl _ | apply Drawn0.step)⟩
       ·replace c13 := Bool.eq_false_iff.mpr c13
        subst c13
        have H1 : (ref10_Implies.l0 k2 t151 t152 (wrap64 (x7_2 * 2))) = some r := by rw [if_neg (show ¬ (false = true) by decide)] at H; exact H
        clear H
        have H := H1
        clear H1
        have H' := Aside0.mk H
        clear H
        go_wp2_with (first | ((with_reducible refine gate_callee (f := 18) rfl ?_); refine goesL_ (some 33) rfl rfl Try.func18 (by kernel_rfl) rfl #[.int .i64 t152, .int .i64 x7_2] rfl (by (try simp only [List.map_toArray, List.map_cons, List.map_nil]); first | done | rfl | (simp only [List.length_drop, List.length_take]; rfl)) ?_; (with_reducible refine (ref09_Has.calls t152 x7_2 false _ A12.out).mono ?_); rintro e w' ⟨rfl, ⟨nd, rfl⟩⟩; refine ⟨_, rfl, ?_⟩))
        go_roundg k2
        case measure => have := HJ2.out; have := HK2.out; omega
        case rel => exact ⟨(wrap64 (x7_2 * 2)), (by first | rfl | (simp; done) | (simp [*]; done)), H', ⟨by have := HJ2.out; have := HK2.out; omega⟩, by repeat (first | exact Drawn0.refl _ | apply Drawn0.step)⟩
      ·rw [if_neg c11] at H
       have c11b0 : decide (x7_2 ≤ 32) = false := decide_eq_false c11
       clear c11
       obtain rfl := Option.some.inj H
       go_wp2
       go_ret
       exact ⟨by first | rfl | (simp; done) | (simp [*]; done), by repeat (first | exact Drawn0.refl _ | apply Drawn0.step)⟩
def ref06_Count.l0 : Nat → List (S44) → Int → Int → Option (Int)
 | 0, _, _, _ => none
 | k + 1, x0, x3, x4 => if x4 < (x0.length : Int) then (if 0 ≤ x4 then (ref06_Count.l0 k x0 (wrap64 (x3 + (((rd_T44 x0 x4).f3).length : Int))) (wrap64 (x4 + 1))) else (none)) else (some x3)
def ref06_Count.f (k : Nat) (l0 : List (S44)) : Option (Int) := ref06_Count.l0 k l0 0 0
theorem ref06_Count.mono_l : ∀ k, (∀ y0 y1 y2, LeO (ref06_Count.l0 k y0 y1 y2) (ref06_Count.l0 (k + 1) y0 y1 y2))
 | 0 => fun _ _ _ r h => by simp [ref06_Count.l0] at h
 | k + 1 => by
  have ih0 := ref06_Count.mono_l k
  ·intro y0 y1 y2
   unfold ref06_Count.l0
   repeat' first
   | (with_reducible exact ih0 _ _ _)
   | (with_reducible exact LeO.refl _)
   | (with_reducible exact LeO.none _)
   | (with_reducible refine LeO.ite ?_ ?_)
   | (with_reducible refine LeO.bind ?_ (fun _ => ?_))
   | exact ih0 _ _ _
   | exact LeO.none _
   | refine LeO.ite ?_ ?_
   | refine LeO.bind ?_ (fun _ => ?_)
theorem ref06_Count.mono : ∀ a0 k, LeO (ref06_Count.f k a0) (ref06_Count.f (k + 1) a0) := by
 intro a0 k
 have ih0 := ref06_Count.mono_l k
 unfold ref06_Count.f
 repeat' first
   | (with_reducible exact ih0 _ _ _)
   | (with_reducible exact LeO.refl _)
   | (with_reducible exact LeO.none _)
   | (with_reducible refine LeO.ite ?_ ?_)
   | (with_reducible refine LeO.bind ?_ (fun _ => ?_))
   | exact ih0 _ _ _
   | exact LeO.none _
   | refine LeO.ite ?_ ?_
   | refine LeO.bind ?_ (fun _ => ?_)
set_option maxHeartbeats 8000000 in
set_option maxRecDepth 100000 in
theorem ref06_Count.calls (k : Nat) (A0 : Option Addr) (c0 : Nat) (l0 : List (S44)) (r : Int) (w : World) (hr0 : Kd.C k44 w A0 l0.length l0) (hc0 : l0.length ≤ c0) (h : ref06_Count.f k l0 = some r) :
  Calls Try.prog 27 #[.slice A0 l0.length c0] w fun e w' => e = .returned (.int .i64 r) ∧ Drawn0 w w' := by
 have HR0 := Aside0.mk hr0
 have HC0 := Aside0.mk hc0
 clear hr0 hc0
 have H : (ref06_Count.l0 k l0 0 0) = some r := h
 clear h
 have H' := Aside0.mk H
 clear H
 go_enter Try.func27, Try.ntmps27
 go_wp2
 go_loopg [3, 4] k (fun kq v3 v4 w' => ∃ (x3_1 : Int) (x4_1 : Int), v3 = .int .i64 x3_1 ∧ v4 = .int .i64 x4_1 ∧ Aside0 (ref06_Count.l0 kq l0 x3_1 x4_1 = some r) ∧ Aside0 (kq ≤ k) ∧ Drawn0 w w')
 case atStart => exact ⟨(0), (0), (by first | rfl | (simp; done) | (simp [*]; done)), (by first | rfl | (simp; done) | (simp [*]; done)), H', ⟨Nat.le_refl _⟩, by repeat (first | exact Drawn0.refl _ | apply Drawn0.step)⟩
 case round =>
  clear H'
  obtain ⟨x3_1, x4_1, rfl, rfl, HA, HK1, ⟨m1, rfl⟩⟩ := hrel
  cases gk with
  | zero => exact absurd HA.out (by simp [ref06_Count.l0])
  | succ k1 =>
   have H := HA.out
   clear HA
   simp only [ref06_Count.l0] at H
   by_cases c2 : x4_1 < (l0.length : Int)
   ·rw [if_pos c2] at H
    have c2b0 : decide (x4_1 < (l0.length : Int)) = true := decide_eq_true c2
    clear c2
    by_cases c3 : 0 ≤ x4_1
    ·rw [if_pos c3] at H
     have c3b0 : decide (0 ≤ x4_1) = true := decide_eq_true c3
     clear c3
     have H' := Aside0.mk H
     clear H
     have p155 : 0 ≤ (x4_1 : Int) := of_decide_eq_true (by assumption)
     have q155 : x4_1 < (l0.length : Int) := of_decide_eq_true (by assumption)
     obtain ⟨ad155, A155_3, c155_3, e155, hx155_0, hx155_1, hx155_2, hx155_3, hl155_3, hi155_3⟩ := at_T44 HR0.out x4_1 p155 q155
     cases e155
     have HR155_3 := Aside0.mk hi155_3
     have HC155_3 := Aside0.mk hl155_3
     clear hi155_3 hl155_3
     replace p155 := eq_true p155
     replace q155 := eq_true q155
     go_wp2
     go_roundg k1
     case measure => have := HK1.out; omega
     case rel => exact ⟨(wrap64 (x3_1 + (((rd_T44 l0 x4_1).f3).length : Int))), (wrap64 (x4_1 + 1)), (by first | rfl | (simp; done) | (simp [*]; done)), (by first | rfl | (simp; done) | (simp [*]; done)), H', ⟨by have := HK1.out; omega⟩, by repeat (first | exact Drawn0.refl _ | apply Drawn0.step)⟩
    ·rw [if_neg c3] at H
     exact absurd H (by simp)
   ·rw [if_neg c2] at H
    have c2b0 : decide (x4_1 < (l0.length : Int)) = false := decide_eq_false c2
    clear c2
    obtain rfl := Option.some.inj H
    go_wp2
    go_ret
    exact ⟨by first | rfl | (simp; done) | (simp [*]; done), by repeat (first | exact Drawn0.refl _ | apply Drawn0.step)⟩
mutual
def ref06_Writer.l0 : Nat → List (S44) → Int → Int → Int → Option (Int)
 | 0, _, _, _, _ => none
 | k + 1, x0, x1, x2, x7 => if x7 < (x0.length : Int) then (ref06_Writer.l1 k x0 x1 x2 x7 0) else (some (-1))
def ref06_Writer.l1 : Nat → List (S44) → Int → Int → Int → Int → Option (Int)
 | 0, _, _, _, _, _ => none
 | k + 1, x0, x1, x2, x7, x8 => if 0 ≤ x7 then (if x7 < (x0.length : Int) then (if x8 < (((rd_T44 x0 x7).f3).length : Int) then (if 0 ≤ x8 then (if (rd_T46 ((rd_T44 x0 x7).f3) x8).f0 = true then (if ((rd_T46 ((rd_T44 x0 x7).f3) x8).f1) = x1 then (if ((rd_T46 ((rd_T44 x0 x7).f3) x8).f2) = x2 then (some x7) else (ref06_Writer.l1 k x0 x1 x2 x7 (wrap64 (x8 + 1)))) else (ref06_Writer.l1 k x0 x1 x2 x7 (wrap64 (x8 + 1)))) else (ref06_Writer.l1 k x0 x1 x2 x7 (wrap64 (x8 + 1)))) else (none)) else (ref06_Writer.l0 k x0 x1 x2 (wrap64 (x7 + 1)))) else (none)) else (none)
end
def ref06_Writer.f (k : Nat) (l0 : List (S44)) (a1 : Int) (a2 : Int) : Option (Int) := ref06_Writer.l0 k l0 a1 a2 0
theorem ref06_Writer.mono_l : ∀ k, (∀ y0 y1 y2 y3, LeO (ref06_Writer.l0 k y0 y1 y2 y3) (ref06_Writer.l0 (k + 1) y0 y1 y2 y3)) ∧ (∀ y0 y1 y2 y3 y4, LeO (ref06_Writer.l1 k y0 y1 y2 y3 y4) (ref06_Writer.l1 (k + 1) y0 y1 y2 y3 y4))
 | 0 => ⟨fun _ _ _ _ r h => by simp [ref06_Writer.l0] at h, fun _ _ _ _ _ r h => by simp [ref06_Writer.l1] at h⟩
 | k + 1 => by
  obtain ⟨ih0, ih1⟩ := ref06_Writer.mono_l k
  refine ⟨?_, ?_⟩
  ·intro y0 y1 y2 y3
   unfold ref06_Writer.l0
   repeat' first
   | (with_reducible exact ih0 _ _ _ _)
   | (with_reducible exact ih1 _ _ _ _ _)
   | (with_reducible exact LeO.refl _)
   | (with_reducible exact LeO.none _)
   | (with_reducible refine LeO.ite ?_ ?_)
   | (with_reducible refine LeO.bind ?_ (fun _ => ?_))
   | exact ih0 _ _ _ _
   | exact ih1 _ _ _ _ _
   | exact LeO.none _
   | refine LeO.ite ?_ ?_
   | refine LeO.bind ?_ (fun _ => ?_)
  ·intro y0 y1 y2 y3 y4
   unfold ref06_Writer.l1
   repeat' first
   | (with_reducible exact ih0 _ _ _ _)
   | (with_reducible exact ih1 _ _ _ _ _)
   | (with_reducible exact LeO.refl _)
   | (with_reducible exact LeO.none _)
   | (with_reducible refine LeO.ite ?_ ?_)
   | (with_reducible refine LeO.bind ?_ (fun _ => ?_))
   | exact ih0 _ _ _ _
   | exact ih1 _ _ _ _ _
   | exact LeO.none _
   | refine LeO.ite ?_ ?_
   | refine LeO.bind ?_ (fun _ => ?_)
theorem ref06_Writer.mono : ∀ a0 a1 a2 k, LeO (ref06_Writer.f k a0 a1 a2) (ref06_Writer.f (k + 1) a0 a1 a2) := by
 intro a0 a1 a2 k
 obtain ⟨ih0, ih1⟩ := ref06_Writer.mono_l k
 unfold ref06_Writer.f
 repeat' first
   | (with_reducible exact ih0 _ _ _ _)
   | (with_reducible exact ih1 _ _ _ _ _)
   | (with_reducible exact LeO.refl _)
   | (with_reducible exact LeO.none _)
   | (with_reducible refine LeO.ite ?_ ?_)
   | (with_reducible refine LeO.bind ?_ (fun _ => ?_))
   | exact ih0 _ _ _ _
   | exact ih1 _ _ _ _ _
   | exact LeO.none _
   | refine LeO.ite ?_ ?_
   | refine LeO.bind ?_ (fun _ => ?_)
set_option maxHeartbeats 8000000 in
set_option maxRecDepth 100000 in
theorem ref06_Writer.calls (k : Nat) (A0 : Option Addr) (c0 : Nat) (l0 : List (S44)) (a1 : Int) (a2 : Int) (r : Int) (w : World) (hr0 : Kd.C k44 w A0 l0.length l0) (hc0 : l0.length ≤ c0) (h : ref06_Writer.f k l0 a1 a2 = some r) :
  Calls Try.prog 78 #[.slice A0 l0.length c0, .int .i64 a1, .int .i64 a2] w fun e w' => e = .returned (.int .i64 r) ∧ Below w.heap.size w w' := by
 have hu46 := Try.underlying46
 have HR0 := Aside0.mk hr0
 have HC0 := Aside0.mk hc0
 clear hr0 hc0
 have HB := Aside0.mk (Below.refl w.heap.size w)
 have H : (ref06_Writer.l0 k l0 a1 a2 0) = some r := h
 clear h
 have H' := Aside0.mk H
 clear H
 go_enter Try.func78, Try.ntmps78
 go_wp2
 go_loopg [7] k (fun kq v7 w' => ∃ (x7_1 : Int), v7 = .int .i64 x7_1 ∧ Aside0 (ref06_Writer.l0 kq l0 a1 a2 x7_1 = some r) ∧ Aside0 (kq ≤ k) ∧ Aside0 (Below w.heap.size w w'))
 case atStart => exact ⟨(0), (by first | rfl | (simp; done) | (simp [*]; done)), H', ⟨Nat.le_refl _⟩, ⟨by repeat (first | (with_reducible first | exact HB.out | apply below_alloc | apply pw_below_drewN | apply below_drew1))⟩⟩
 case round =>
  clear H'
  try clear p2
  obtain ⟨x7_1, rfl, HA, HK1, HB⟩ := hrel
  cases gk with
  | zero => exact absurd HA.out (by simp [ref06_Writer.l0])
  | succ k1 =>
   have H := HA.out
   clear HA
   simp only [ref06_Writer.l0] at H
   by_cases c4 : x7_1 < (l0.length : Int)
   ·rw [if_pos c4] at H
    have c4b0 : decide (x7_1 < (l0.length : Int)) = true := decide_eq_true c4
    clear c4
    have H' := Aside0.mk H
    clear H
    go_wp2
    go_loopg [8] k1 (fun kq v8 w' => ∃ (x8_2 : Int), v8 = .int .i64 x8_2 ∧ Aside0 (ref06_Writer.l1 kq l0 a1 a2 x7_1 x8_2 = some r) ∧ Aside0 (kq ≤ k1) ∧ Aside0 (Below w.heap.size w w'))
    case atStart => exact ⟨(0), (by first | rfl | (simp; done) | (simp [*]; done)), H', ⟨Nat.le_refl _⟩, ⟨by repeat (first | (with_reducible first | exact HB.out | apply below_alloc | apply pw_below_drewN | apply below_drew1))⟩⟩
    case round =>
     clear H'
     try clear p2
     try clear c4
     try clear c4b0
     try clear p2
     obtain ⟨x8_2, rfl, HA, HK2, HB⟩ := hrel
     cases gk with
     | zero => exact absurd HA.out (by simp [ref06_Writer.l1])
     | succ k2 =>
      have H := HA.out
      clear HA
      simp only [ref06_Writer.l1] at H
      by_cases c5 : 0 ≤ x7_1
      ·rw [if_pos c5] at H
       have c5b0 : decide (0 ≤ x7_1) = true := decide_eq_true c5
       clear c5
       by_cases c6 : x7_1 < (l0.length : Int)
       ·rw [if_pos c6] at H
        have c6b0 : decide (x7_1 < (l0.length : Int)) = true := decide_eq_true c6
        clear c6
        by_cases c7 : x8_2 < (((rd_T44 l0 x7_1).f3).length : Int)
        ·rw [if_pos c7] at H
         have c7b0 : decide (x8_2 < (((rd_T44 l0 x7_1).f3).length : Int)) = true := decide_eq_true c7
         clear c7
         by_cases c8 : 0 ≤ x8_2
         ·rw [if_pos c8] at H
          have c8b0 : decide (0 ≤ x8_2) = true := decide_eq_true c8
          clear c8
          obtain ⟨bq9, hbq9⟩ : ∃ b_ : Bool, b_ = ((rd_T46 ((rd_T44 l0 x7_1).f3) x8_2).f0) := ⟨_, rfl⟩
          replace H : (if bq9 = true then (if ((rd_T46 ((rd_T44 l0 x7_1).f3) x8_2).f1) = a1 then (if ((rd_T46 ((rd_T44 l0 x7_1).f3) x8_2).f2) = a2 then (some x7_1) else (ref06_Writer.l1 k2 l0 a1 a2 x7_1 (wrap64 (x8_2 + 1)))) else (ref06_Writer.l1 k2 l0 a1 a2 x7_1 (wrap64 (x8_2 + 1)))) else (ref06_Writer.l1 k2 l0 a1 a2 x7_1 (wrap64 (x8_2 + 1)))) = some r := by rw [← hbq9] at H; exact H
          have Nbq9 := Aside0.mk hbq9
          clear hbq9
          by_cases c10 : bq9 = true
          ·subst c10
           have H1 : (if ((rd_T46 ((rd_T44 l0 x7_1).f3) x8_2).f1) = a1 then (if ((rd_T46 ((rd_T44 l0 x7_1).f3) x8_2).f2) = a2 then (some x7_1) else (ref06_Writer.l1 k2 l0 a1 a2 x7_1 (wrap64 (x8_2 + 1)))) else (ref06_Writer.l1 k2 l0 a1 a2 x7_1 (wrap64 (x8_2 + 1)))) = some r := by rw [if_pos rfl] at H; exact H
           clear H
           have H := H1
           clear H1
           by_cases c11 : ((rd_T46 ((rd_T44 l0 x7_1).f3) x8_2).f1) = a1
           ·rw [if_pos c11] at H
            have c11b0 : (((rd_T46 ((rd_T44 l0 x7_1).f3) x8_2).f1) == a1) = true := beq_iff_eq.mpr c11
            have c11b1 : (((rd_T46 ((rd_T44 l0 x7_1).f3) x8_2).f1) != a1) = false := bne_eq_false_iff_eq.mpr c11
            clear c11
            by_cases c12 : ((rd_T46 ((rd_T44 l0 x7_1).f3) x8_2).f2) = a2
            ·rw [if_pos c12] at H
             have c12b0 : (((rd_T46 ((rd_T44 l0 x7_1).f3) x8_2).f2) == a2) = true := beq_iff_eq.mpr c12
             have c12b1 : (((rd_T46 ((rd_T44 l0 x7_1).f3) x8_2).f2) != a2) = false := bne_eq_false_iff_eq.mpr c12
             clear c12
             obtain rfl := Option.some.inj H
             have p156 : 0 ≤ (x7_1 : Int) := of_decide_eq_true (by assumption)
             have q156 : x7_1 < (l0.length : Int) := of_decide_eq_true (by assumption)
             obtain ⟨ad156, A156_3, c156_3, e156, hx156_0, hx156_1, hx156_2, hx156_3, hl156_3, hi156_3⟩ := at_T44 HR0.out x7_1 p156 q156
             cases e156
             replace hx156_0 := (HB.out.cell (World.block_lt_of_cell? w _ hx156_0)).trans hx156_0
             replace hx156_1 := (HB.out.cell (World.block_lt_of_cell? w _ hx156_1)).trans hx156_1
             replace hx156_2 := (HB.out.cell (World.block_lt_of_cell? w _ hx156_2)).trans hx156_2
             replace hx156_3 := (HB.out.cell (World.block_lt_of_cell? w _ hx156_3)).trans hx156_3
             have HR156_3 := Aside0.mk hi156_3
             have HC156_3 := Aside0.mk hl156_3
             clear hi156_3 hl156_3
             replace p156 := eq_true p156
             replace q156 := eq_true q156
             have p157 : 0 ≤ (x7_1 : Int) := of_decide_eq_true (by assumption)
             have q157 : x7_1 < (l0.length : Int) := of_decide_eq_true (by assumption)
             obtain ⟨ad157, A157_3, c157_3, e157, hx157_0, hx157_1, hx157_2, hx157_3, hl157_3, hi157_3⟩ := at_T44 HR0.out x7_1 p157 q157
             obtain rfl : ad156 = ad157 := (by injection e157)
             replace hx157_0 := (HB.out.cell (World.block_lt_of_cell? w _ hx157_0)).trans hx157_0
             replace hx157_1 := (HB.out.cell (World.block_lt_of_cell? w _ hx157_1)).trans hx157_1
             replace hx157_2 := (HB.out.cell (World.block_lt_of_cell? w _ hx157_2)).trans hx157_2
             replace hx157_3 := (HB.out.cell (World.block_lt_of_cell? w _ hx157_3)).trans hx157_3
             have HR157_3 := Aside0.mk hi157_3
             have HC157_3 := Aside0.mk hl157_3
             clear hi157_3 hl157_3
             replace p157 := eq_true p157
             replace q157 := eq_true q157
             have ea_ := Option.some.inj (hx156_3.symm.trans hx157_3)
             injection ea_ with ea_ en_ ec_
             subst ea_
             subst ec_
             clear en_
             have p158 : 0 ≤ (x8_2 : Int) := of_decide_eq_true (by assumption)
             have q158 : x8_2 < (((rd_T44 l0 x7_1).f3).length : Int) := of_decide_eq_true (by assumption)
             obtain ⟨ad158, e158, hx158_0, hx158_1, hx158_2⟩ := at_T46 HR157_3.out x8_2 p158 q158
             (try rw [← Nbq9.out] at hx158_0)
             cases e158
             replace hx158_0 := (HB.out.cell (World.block_lt_of_cell? w _ hx158_0)).trans hx158_0
             replace hx158_1 := (HB.out.cell (World.block_lt_of_cell? w _ hx158_1)).trans hx158_1
             replace hx158_2 := (HB.out.cell (World.block_lt_of_cell? w _ hx158_2)).trans hx158_2
             replace p158 := eq_true p158
             replace q158 := eq_true q158
             go_wp2_with (first | ((with_reducible refine gate_dst (N := 9) rfl ?_); refine box_event ?hg (N := 9) ?hd (cs := #[.bool false, .int .i64 0, .int .i64 0]) (t := 46) ?hr ?_; (case hd => rfl); (case hg => rfl); (case hr => first | (go_simp; done) | (go_simp; rfl)); intro gb159 hg w13 hbox hb; have n0_ := Aside0.mk (below_step (by repeat (first | (with_reducible first | exact HB.out | apply below_alloc | apply pw_below_drewN | apply below_drew1))) hb); have n1_ := Aside0.mk (hbox); have n2_ := Aside0.mk ((by rw [hg]; exact (below_size (by repeat (first | (with_reducible first | exact HB.out | apply below_alloc | apply pw_below_drewN | apply below_drew1)))) : w.heap.size ≤ gb159)); have n3_ := Aside0.mk ((by rw [hg]; exact (below_size (by repeat (first | (with_reducible first | exact HB.out | apply below_alloc | apply pw_below_drewN | apply below_drew1)))) : w.heap.size ≤ gb159)); clear HB; have HB := n0_; have BK159 := n1_; have GW159 := n2_; have GE159 := n3_; clear n0_ n1_ n2_ n3_; clear hb hbox hg; have hcz14_0 : w13.cell? ⟨gb159, 0, none⟩ = some (.bool false) := (blk_cell BK159.out 0).trans rfl; have hcz14_1 : w13.cell? ⟨gb159, 1, none⟩ = some (.int .i64 0) := (blk_cell BK159.out 1).trans rfl; have hcz14_2 : w13.cell? ⟨gb159, 2, none⟩ = some (.int .i64 0) := (blk_cell BK159.out 2).trans rfl; have hfz14_0 := blk_frozen BK159.out 0; have hfz14_1 := blk_frozen BK159.out 1; have hfz14_2 := blk_frozen BK159.out 2))
             go_ret
             exact ⟨by first | rfl | (simp <;> rfl) | (simp [*] <;> rfl), by repeat (first | (with_reducible first | exact HB.out | apply below_alloc | apply pw_below_drewN | apply below_drew1 | refine below_set ?_ GE159.out))⟩
            ·rw [if_neg c12] at H
             have c12b0 : (((rd_T46 ((rd_T44 l0 x7_1).f3) x8_2).f2) == a2) = false := beq_eq_false_iff_ne.mpr c12
             have c12b1 : (((rd_T46 ((rd_T44 l0 x7_1).f3) x8_2).f2) != a2) = true := bne_iff_ne.mpr c12
             have H' := Aside0.mk H
             clear H
             have p156 : 0 ≤ (x7_1 : Int) := of_decide_eq_true (by assumption)
             have q156 : x7_1 < (l0.length : Int) := of_decide_eq_true (by assumption)
             obtain ⟨ad156, A156_3, c156_3, e156, hx156_0, hx156_1, hx156_2, hx156_3, hl156_3, hi156_3⟩ := at_T44 HR0.out x7_1 p156 q156
             cases e156
             replace hx156_0 := (HB.out.cell (World.block_lt_of_cell? w _ hx156_0)).trans hx156_0
             replace hx156_1 := (HB.out.cell (World.block_lt_of_cell? w _ hx156_1)).trans hx156_1
             replace hx156_2 := (HB.out.cell (World.block_lt_of_cell? w _ hx156_2)).trans hx156_2
             replace hx156_3 := (HB.out.cell (World.block_lt_of_cell? w _ hx156_3)).trans hx156_3
             have HR156_3 := Aside0.mk hi156_3
             have HC156_3 := Aside0.mk hl156_3
             clear hi156_3 hl156_3
             replace p156 := eq_true p156
             replace q156 := eq_true q156
             have p157 : 0 ≤ (x7_1 : Int) := of_decide_eq_true (by assumption)
             have q157 : x7_1 < (l0.length : Int) := of_decide_eq_true (by assumption)
             obtain ⟨ad157, A157_3, c157_3, e157, hx157_0, hx157_1, hx157_2, hx157_3, hl157_3, hi157_3⟩ := at_T44 HR0.out x7_1 p157 q157
             obtain rfl : ad156 = ad157 := (by injection e157)
             replace hx157_0 := (HB.out.cell (World.block_lt_of_cell? w _ hx157_0)).trans hx157_0
             replace hx157_1 := (HB.out.cell (World.block_lt_of_cell? w _ hx157_1)).trans hx157_1
             replace hx157_2 := (HB.out.cell (World.block_lt_of_cell? w _ hx157_2)).trans hx157_2
             replace hx157_3 := (HB.out.cell (World.block_lt_of_cell? w _ hx157_3)).trans hx157_3
             have HR157_3 := Aside0.mk hi157_3
             have HC157_3 := Aside0.mk hl157_3
             clear hi157_3 hl157_3
             replace p157 := eq_true p157
             replace q157 := eq_true q157
             have ea_ := Option.some.inj (hx156_3.symm.trans hx157_3)
             injection ea_ with ea_ en_ ec_
             subst ea_
             subst ec_
             clear en_
             have p158 : 0 ≤ (x8_2 : Int) := of_decide_eq_true (by assumption)
             have q158 : x8_2 < (((rd_T44 l0 x7_1).f3).length : Int) := of_decide_eq_true (by assumption)
             obtain ⟨ad158, e158, hx158_0, hx158_1, hx158_2⟩ := at_T46 HR157_3.out x8_2 p158 q158
             (try rw [← Nbq9.out] at hx158_0)
             cases e158
             replace hx158_0 := (HB.out.cell (World.block_lt_of_cell? w _ hx158_0)).trans hx158_0
             replace hx158_1 := (HB.out.cell (World.block_lt_of_cell? w _ hx158_1)).trans hx158_1
             replace hx158_2 := (HB.out.cell (World.block_lt_of_cell? w _ hx158_2)).trans hx158_2
             replace p158 := eq_true p158
             replace q158 := eq_true q158
             go_wp2_with (first | ((with_reducible refine gate_dst (N := 9) rfl ?_); refine box_event ?hg (N := 9) ?hd (cs := #[.bool false, .int .i64 0, .int .i64 0]) (t := 46) ?hr ?_; (case hd => rfl); (case hg => rfl); (case hr => first | (go_simp; done) | (go_simp; rfl)); intro gb159 hg w15 hbox hb; have n0_ := Aside0.mk (below_step (by repeat (first | (with_reducible first | exact HB.out | apply below_alloc | apply pw_below_drewN | apply below_drew1))) hb); have n1_ := Aside0.mk (hbox); have n2_ := Aside0.mk ((by rw [hg]; exact (below_size (by repeat (first | (with_reducible first | exact HB.out | apply below_alloc | apply pw_below_drewN | apply below_drew1)))) : w.heap.size ≤ gb159)); have n3_ := Aside0.mk ((by rw [hg]; exact (below_size (by repeat (first | (with_reducible first | exact HB.out | apply below_alloc | apply pw_below_drewN | apply below_drew1)))) : w.heap.size ≤ gb159)); clear HB; have HB := n0_; have BK159 := n1_; have GW159 := n2_; have GE159 := n3_; clear n0_ n1_ n2_ n3_; clear hb hbox hg; have hcz16_0 : w15.cell? ⟨gb159, 0, none⟩ = some (.bool false) := (blk_cell BK159.out 0).trans rfl; have hcz16_1 : w15.cell? ⟨gb159, 1, none⟩ = some (.int .i64 0) := (blk_cell BK159.out 1).trans rfl; have hcz16_2 : w15.cell? ⟨gb159, 2, none⟩ = some (.int .i64 0) := (blk_cell BK159.out 2).trans rfl; have hfz16_0 := blk_frozen BK159.out 0; have hfz16_1 := blk_frozen BK159.out 1; have hfz16_2 := blk_frozen BK159.out 2))
             go_roundg k2
             case measure => have := HK1.out; have := HK2.out; omega
             case rel => (try rw [← Nbq9.out]); exact ⟨(wrap64 (x8_2 + 1)), (by first | rfl | (simp; done) | (simp [*]; done)), H', ⟨by have := HK1.out; have := HK2.out; omega⟩, ⟨by repeat (first | (with_reducible first | exact HB.out | apply below_alloc | apply pw_below_drewN | apply below_drew1 | refine below_set ?_ GE159.out))⟩⟩
           ·rw [if_neg c11] at H
            have c11b0 : (((rd_T46 ((rd_T44 l0 x7_1).f3) x8_2).f1) == a1) = false := beq_eq_false_iff_ne.mpr c11
            have c11b1 : (((rd_T46 ((rd_T44 l0 x7_1).f3) x8_2).f1) != a1) = true := bne_iff_ne.mpr c11
            have H' := Aside0.mk H
            clear H
            have p156 : 0 ≤ (x7_1 : Int) := of_decide_eq_true (by assumption)
            have q156 : x7_1 < (l0.length : Int) := of_decide_eq_true (by assumption)
            obtain ⟨ad156, A156_3, c156_3, e156, hx156_0, hx156_1, hx156_2, hx156_3, hl156_3, hi156_3⟩ := at_T44 HR0.out x7_1 p156 q156
            cases e156
            replace hx156_0 := (HB.out.cell (World.block_lt_of_cell? w _ hx156_0)).trans hx156_0
            replace hx156_1 := (HB.out.cell (World.block_lt_of_cell? w _ hx156_1)).trans hx156_1
            replace hx156_2 := (HB.out.cell (World.block_lt_of_cell? w _ hx156_2)).trans hx156_2
            replace hx156_3 := (HB.out.cell (World.block_lt_of_cell? w _ hx156_3)).trans hx156_3
            have HR156_3 := Aside0.mk hi156_3
            have HC156_3 := Aside0.mk hl156_3
            clear hi156_3 hl156_3
            replace p156 := eq_true p156
            replace q156 := eq_true q156
            have p157 : 0 ≤ (x7_1 : Int) := of_decide_eq_true (by assumption)
            have q157 : x7_1 < (l0.length : Int) := of_decide_eq_true (by assumption)
            obtain ⟨ad157, A157_3, c157_3, e157, hx157_0, hx157_1, hx157_2, hx157_3, hl157_3, hi157_3⟩ := at_T44 HR0.out x7_1 p157 q157
            obtain rfl : ad156 = ad157 := (by injection e157)
            replace hx157_0 := (HB.out.cell (World.block_lt_of_cell? w _ hx157_0)).trans hx157_0
            replace hx157_1 := (HB.out.cell (World.block_lt_of_cell? w _ hx157_1)).trans hx157_1
            replace hx157_2 := (HB.out.cell (World.block_lt_of_cell? w _ hx157_2)).trans hx157_2
            replace hx157_3 := (HB.out.cell (World.block_lt_of_cell? w _ hx157_3)).trans hx157_3
            have HR157_3 := Aside0.mk hi157_3
            have HC157_3 := Aside0.mk hl157_3
            clear hi157_3 hl157_3
            replace p157 := eq_true p157
            replace q157 := eq_true q157
            have ea_ := Option.some.inj (hx156_3.symm.trans hx157_3)
            injection ea_ with ea_ en_ ec_
            subst ea_
            subst ec_
            clear en_
            have p158 : 0 ≤ (x8_2 : Int) := of_decide_eq_true (by assumption)
            have q158 : x8_2 < (((rd_T44 l0 x7_1).f3).length : Int) := of_decide_eq_true (by assumption)
            obtain ⟨ad158, e158, hx158_0, hx158_1, hx158_2⟩ := at_T46 HR157_3.out x8_2 p158 q158
            (try rw [← Nbq9.out] at hx158_0)
            cases e158
            replace hx158_0 := (HB.out.cell (World.block_lt_of_cell? w _ hx158_0)).trans hx158_0
            replace hx158_1 := (HB.out.cell (World.block_lt_of_cell? w _ hx158_1)).trans hx158_1
            replace hx158_2 := (HB.out.cell (World.block_lt_of_cell? w _ hx158_2)).trans hx158_2
            replace p158 := eq_true p158
            replace q158 := eq_true q158
            go_wp2_with (first | ((with_reducible refine gate_dst (N := 9) rfl ?_); refine box_event ?hg (N := 9) ?hd (cs := #[.bool false, .int .i64 0, .int .i64 0]) (t := 46) ?hr ?_; (case hd => rfl); (case hg => rfl); (case hr => first | (go_simp; done) | (go_simp; rfl)); intro gb159 hg w17 hbox hb; have n0_ := Aside0.mk (below_step (by repeat (first | (with_reducible first | exact HB.out | apply below_alloc | apply pw_below_drewN | apply below_drew1))) hb); have n1_ := Aside0.mk (hbox); have n2_ := Aside0.mk ((by rw [hg]; exact (below_size (by repeat (first | (with_reducible first | exact HB.out | apply below_alloc | apply pw_below_drewN | apply below_drew1)))) : w.heap.size ≤ gb159)); have n3_ := Aside0.mk ((by rw [hg]; exact (below_size (by repeat (first | (with_reducible first | exact HB.out | apply below_alloc | apply pw_below_drewN | apply below_drew1)))) : w.heap.size ≤ gb159)); clear HB; have HB := n0_; have BK159 := n1_; have GW159 := n2_; have GE159 := n3_; clear n0_ n1_ n2_ n3_; clear hb hbox hg; have hcz18_0 : w17.cell? ⟨gb159, 0, none⟩ = some (.bool false) := (blk_cell BK159.out 0).trans rfl; have hcz18_1 : w17.cell? ⟨gb159, 1, none⟩ = some (.int .i64 0) := (blk_cell BK159.out 1).trans rfl; have hcz18_2 : w17.cell? ⟨gb159, 2, none⟩ = some (.int .i64 0) := (blk_cell BK159.out 2).trans rfl; have hfz18_0 := blk_frozen BK159.out 0; have hfz18_1 := blk_frozen BK159.out 1; have hfz18_2 := blk_frozen BK159.out 2))
            go_roundg k2
            case measure => have := HK1.out; have := HK2.out; omega
            case rel => (try rw [← Nbq9.out]); exact ⟨(wrap64 (x8_2 + 1)), (by first | rfl | (simp; done) | (simp [*]; done)), H', ⟨by have := HK1.out; have := HK2.out; omega⟩, ⟨by repeat (first | (with_reducible first | exact HB.out | apply below_alloc | apply pw_below_drewN | apply below_drew1 | refine below_set ?_ GE159.out))⟩⟩
          ·replace c10 := Bool.eq_false_iff.mpr c10
           subst c10
           have H1 : (ref06_Writer.l1 k2 l0 a1 a2 x7_1 (wrap64 (x8_2 + 1))) = some r := by rw [if_neg (show ¬ (false = true) by decide)] at H; exact H
           clear H
           have H := H1
           clear H1
           have H' := Aside0.mk H
           clear H
           have p156 : 0 ≤ (x7_1 : Int) := of_decide_eq_true (by assumption)
           have q156 : x7_1 < (l0.length : Int) := of_decide_eq_true (by assumption)
           obtain ⟨ad156, A156_3, c156_3, e156, hx156_0, hx156_1, hx156_2, hx156_3, hl156_3, hi156_3⟩ := at_T44 HR0.out x7_1 p156 q156
           cases e156
           replace hx156_0 := (HB.out.cell (World.block_lt_of_cell? w _ hx156_0)).trans hx156_0
           replace hx156_1 := (HB.out.cell (World.block_lt_of_cell? w _ hx156_1)).trans hx156_1
           replace hx156_2 := (HB.out.cell (World.block_lt_of_cell? w _ hx156_2)).trans hx156_2
           replace hx156_3 := (HB.out.cell (World.block_lt_of_cell? w _ hx156_3)).trans hx156_3
           have HR156_3 := Aside0.mk hi156_3
           have HC156_3 := Aside0.mk hl156_3
           clear hi156_3 hl156_3
           replace p156 := eq_true p156
           replace q156 := eq_true q156
           have p157 : 0 ≤ (x7_1 : Int) := of_decide_eq_true (by assumption)
           have q157 : x7_1 < (l0.length : Int) := of_decide_eq_true (by assumption)
           obtain ⟨ad157, A157_3, c157_3, e157, hx157_0, hx157_1, hx157_2, hx157_3, hl157_3, hi157_3⟩ := at_T44 HR0.out x7_1 p157 q157
           obtain rfl : ad156 = ad157 := (by injection e157)
           replace hx157_0 := (HB.out.cell (World.block_lt_of_cell? w _ hx157_0)).trans hx157_0
           replace hx157_1 := (HB.out.cell (World.block_lt_of_cell? w _ hx157_1)).trans hx157_1
           replace hx157_2 := (HB.out.cell (World.block_lt_of_cell? w _ hx157_2)).trans hx157_2
           replace hx157_3 := (HB.out.cell (World.block_lt_of_cell? w _ hx157_3)).trans hx157_3
           have HR157_3 := Aside0.mk hi157_3
           have HC157_3 := Aside0.mk hl157_3
           clear hi157_3 hl157_3
           replace p157 := eq_true p157
           replace q157 := eq_true q157
           have ea_ := Option.some.inj (hx156_3.symm.trans hx157_3)
           injection ea_ with ea_ en_ ec_
           subst ea_
           subst ec_
           clear en_
           have p158 : 0 ≤ (x8_2 : Int) := of_decide_eq_true (by assumption)
           have q158 : x8_2 < (((rd_T44 l0 x7_1).f3).length : Int) := of_decide_eq_true (by assumption)
           obtain ⟨ad158, e158, hx158_0, hx158_1, hx158_2⟩ := at_T46 HR157_3.out x8_2 p158 q158
           (try rw [← Nbq9.out] at hx158_0)
           cases e158
           replace hx158_0 := (HB.out.cell (World.block_lt_of_cell? w _ hx158_0)).trans hx158_0
           replace hx158_1 := (HB.out.cell (World.block_lt_of_cell? w _ hx158_1)).trans hx158_1
           replace hx158_2 := (HB.out.cell (World.block_lt_of_cell? w _ hx158_2)).trans hx158_2
           replace p158 := eq_true p158
           replace q158 := eq_true q158
           go_wp2_with (first | ((with_reducible refine gate_dst (N := 9) rfl ?_); refine box_event ?hg (N := 9) ?hd (cs := #[.bool false, .int .i64 0, .int .i64 0]) (t := 46) ?hr ?_; (case hd => rfl); (case hg => rfl); (case hr => first | (go_simp; done) | (go_simp; rfl)); intro gb159 hg w19 hbox hb; have n0_ := Aside0.mk (below_step (by repeat (first | (with_reducible first | exact HB.out | apply below_alloc | apply pw_below_drewN | apply below_drew1))) hb); have n1_ := Aside0.mk (hbox); have n2_ := Aside0.mk ((by rw [hg]; exact (below_size (by repeat (first | (with_reducible first | exact HB.out | apply below_alloc | apply pw_below_drewN | apply below_drew1)))) : w.heap.size ≤ gb159)); have n3_ := Aside0.mk ((by rw [hg]; exact (below_size (by repeat (first | (with_reducible first | exact HB.out | apply below_alloc | apply pw_below_drewN | apply below_drew1)))) : w.heap.size ≤ gb159)); clear HB; have HB := n0_; have BK159 := n1_; have GW159 := n2_; have GE159 := n3_; clear n0_ n1_ n2_ n3_; clear hb hbox hg; have hcz20_0 : w19.cell? ⟨gb159, 0, none⟩ = some (.bool false) := (blk_cell BK159.out 0).trans rfl; have hcz20_1 : w19.cell? ⟨gb159, 1, none⟩ = some (.int .i64 0) := (blk_cell BK159.out 1).trans rfl; have hcz20_2 : w19.cell? ⟨gb159, 2, none⟩ = some (.int .i64 0) := (blk_cell BK159.out 2).trans rfl; have hfz20_0 := blk_frozen BK159.out 0; have hfz20_1 := blk_frozen BK159.out 1; have hfz20_2 := blk_frozen BK159.out 2))
           go_roundg k2
           case measure => have := HK1.out; have := HK2.out; omega
           case rel => (try rw [← Nbq9.out]); exact ⟨(wrap64 (x8_2 + 1)), (by first | rfl | (simp; done) | (simp [*]; done)), H', ⟨by have := HK1.out; have := HK2.out; omega⟩, ⟨by repeat (first | (with_reducible first | exact HB.out | apply below_alloc | apply pw_below_drewN | apply below_drew1 | refine below_set ?_ GE159.out))⟩⟩
         ·rw [if_neg c8] at H
          exact absurd H (by simp)
        ·rw [if_neg c7] at H
         have c7b0 : decide (x8_2 < (((rd_T44 l0 x7_1).f3).length : Int)) = false := decide_eq_false c7
         clear c7
         have H' := Aside0.mk H
         clear H
         have p156 : 0 ≤ (x7_1 : Int) := of_decide_eq_true (by assumption)
         have q156 : x7_1 < (l0.length : Int) := of_decide_eq_true (by assumption)
         obtain ⟨ad156, A156_3, c156_3, e156, hx156_0, hx156_1, hx156_2, hx156_3, hl156_3, hi156_3⟩ := at_T44 HR0.out x7_1 p156 q156
         cases e156
         replace hx156_0 := (HB.out.cell (World.block_lt_of_cell? w _ hx156_0)).trans hx156_0
         replace hx156_1 := (HB.out.cell (World.block_lt_of_cell? w _ hx156_1)).trans hx156_1
         replace hx156_2 := (HB.out.cell (World.block_lt_of_cell? w _ hx156_2)).trans hx156_2
         replace hx156_3 := (HB.out.cell (World.block_lt_of_cell? w _ hx156_3)).trans hx156_3
         have HR156_3 := Aside0.mk hi156_3
         have HC156_3 := Aside0.mk hl156_3
         clear hi156_3 hl156_3
         replace p156 := eq_true p156
         replace q156 := eq_true q156
         go_wp2
         go_roundg k2
         case measure => have := HK1.out; have := HK2.out; omega
         case rel => exact ⟨(wrap64 (x7_1 + 1)), (by first | rfl | (simp; done) | (simp [*]; done)), H', ⟨by have := HK1.out; have := HK2.out; omega⟩, ⟨by repeat (first | (with_reducible first | exact HB.out | apply below_alloc | apply pw_below_drewN | apply below_drew1))⟩⟩
       ·rw [if_neg c6] at H
        exact absurd H (by simp)
      ·rw [if_neg c5] at H
       exact absurd H (by simp)
   ·rw [if_neg c4] at H
    have c4b0 : decide (x7_1 < (l0.length : Int)) = false := decide_eq_false c4
    clear c4
    obtain rfl := Option.some.inj H
    go_wp2
    go_ret
    exact ⟨by first | rfl | (simp <;> rfl) | (simp [*] <;> rfl), by repeat (first | (with_reducible first | exact HB.out | apply below_alloc | apply pw_below_drewN | apply below_drew1))⟩
def ref06_mayOp.f (a0_0 : Bool) (a0_1 : Int) (a0_2 : Int) : Option (Bool) := if a0_1 < 0 then (some false) else (if a0_1 > 63 then (some false) else (if a0_2 < 0 then (some false) else (if a0_2 > 2147483647 then (some false) else (if a0_0 = true then (some (a0_2 != 0)) else (some true)))))
set_option maxHeartbeats 8000000 in
set_option maxRecDepth 100000 in
theorem ref06_mayOp.calls (a0_0 : Bool) (a0_1 : Int) (a0_2 : Int) (r : Bool) (w : World) (h : ref06_mayOp.f a0_0 a0_1 a0_2 = some r) :
  Calls Try.prog 103 #[.agg #[.bool a0_0, .int .i64 a0_1, .int .i64 a0_2]] w fun e w' => e = .returned (.bool r) ∧ Below w.heap.size w w' := by
 have hu46 := Try.underlying46
 have HB := Aside0.mk (Below.refl w.heap.size w)
 have H : (if a0_1 < 0 then (some false) else (if a0_1 > 63 then (some false) else (if a0_2 < 0 then (some false) else (if a0_2 > 2147483647 then (some false) else (if a0_0 = true then (some (a0_2 != 0)) else (some true)))))) = some r := h
 clear h
 by_cases c2 : a0_1 < 0
 ·rw [if_pos c2] at H
  have c2b0 : decide (a0_1 < 0) = true := decide_eq_true c2
  clear c2
  obtain rfl := Option.some.inj H
  go_enter Try.func103, Try.ntmps103
  go_wp2_with (first | ((with_reducible refine gate_dst (N := 1) rfl ?_); refine box_event ?hg (N := 1) ?hd (cs := #[.bool a0_0, .int .i64 a0_1, .int .i64 a0_2]) (t := 46) ?hr ?_; (case hd => rfl); (case hg => rfl); (case hr => first | (go_simp; done) | (go_simp; rfl)); intro gb160 hg w3 hbox hb; have n0_ := Aside0.mk (below_step (by repeat (first | (with_reducible first | exact HB.out | apply below_alloc | apply pw_below_drewN | apply below_drew1))) hb); have n1_ := Aside0.mk (hbox); have n2_ := Aside0.mk ((by rw [hg]; exact (below_size (by repeat (first | (with_reducible first | exact HB.out | apply below_alloc | apply pw_below_drewN | apply below_drew1)))) : w.heap.size ≤ gb160)); have n3_ := Aside0.mk ((by rw [hg]; exact (below_size (by repeat (first | (with_reducible first | exact HB.out | apply below_alloc | apply pw_below_drewN | apply below_drew1)))) : w.heap.size ≤ gb160)); clear HB; have HB := n0_; have BK160 := n1_; have GW160 := n2_; have GE160 := n3_; clear n0_ n1_ n2_ n3_; clear hb hbox hg; have hcz4_0 : w3.cell? ⟨gb160, 0, none⟩ = some (.bool a0_0) := (blk_cell BK160.out 0).trans rfl; have hcz4_1 : w3.cell? ⟨gb160, 1, none⟩ = some (.int .i64 a0_1) := (blk_cell BK160.out 1).trans rfl; have hcz4_2 : w3.cell? ⟨gb160, 2, none⟩ = some (.int .i64 a0_2) := (blk_cell BK160.out 2).trans rfl; have hfz4_0 := blk_frozen BK160.out 0; have hfz4_1 := blk_frozen BK160.out 1; have hfz4_2 := blk_frozen BK160.out 2))
  go_ret
  exact ⟨by first | rfl | (simp <;> rfl) | (simp [*] <;> rfl), by repeat (first | (with_reducible first | exact HB.out | apply below_alloc | apply pw_below_drewN | apply below_drew1 | refine below_set ?_ GE160.out))⟩
 ·rw [if_neg c2] at H
  have c2b0 : decide (a0_1 < 0) = false := decide_eq_false c2
  clear c2
  by_cases c5 : a0_1 > 63
  ·rw [if_pos c5] at H
   have c5b0 : decide (63 < a0_1) = true := decide_eq_true c5
   clear c5
   obtain rfl := Option.some.inj H
   go_enter Try.func103, Try.ntmps103
   go_wp2_with (first | ((with_reducible refine gate_dst (N := 1) rfl ?_); refine box_event ?hg (N := 1) ?hd (cs := #[.bool a0_0, .int .i64 a0_1, .int .i64 a0_2]) (t := 46) ?hr ?_; (case hd => rfl); (case hg => rfl); (case hr => first | (go_simp; done) | (go_simp; rfl)); intro gb160 hg w6 hbox hb; have n0_ := Aside0.mk (below_step (by repeat (first | (with_reducible first | exact HB.out | apply below_alloc | apply pw_below_drewN | apply below_drew1))) hb); have n1_ := Aside0.mk (hbox); have n2_ := Aside0.mk ((by rw [hg]; exact (below_size (by repeat (first | (with_reducible first | exact HB.out | apply below_alloc | apply pw_below_drewN | apply below_drew1)))) : w.heap.size ≤ gb160)); have n3_ := Aside0.mk ((by rw [hg]; exact (below_size (by repeat (first | (with_reducible first | exact HB.out | apply below_alloc | apply pw_below_drewN | apply below_drew1)))) : w.heap.size ≤ gb160)); clear HB; have HB := n0_; have BK160 := n1_; have GW160 := n2_; have GE160 := n3_; clear n0_ n1_ n2_ n3_; clear hb hbox hg; have hcz7_0 : w6.cell? ⟨gb160, 0, none⟩ = some (.bool a0_0) := (blk_cell BK160.out 0).trans rfl; have hcz7_1 : w6.cell? ⟨gb160, 1, none⟩ = some (.int .i64 a0_1) := (blk_cell BK160.out 1).trans rfl; have hcz7_2 : w6.cell? ⟨gb160, 2, none⟩ = some (.int .i64 a0_2) := (blk_cell BK160.out 2).trans rfl; have hfz7_0 := blk_frozen BK160.out 0; have hfz7_1 := blk_frozen BK160.out 1; have hfz7_2 := blk_frozen BK160.out 2))
   go_ret
   exact ⟨by first | rfl | (simp <;> rfl) | (simp [*] <;> rfl), by repeat (first | (with_reducible first | exact HB.out | apply below_alloc | apply pw_below_drewN | apply below_drew1 | refine below_set ?_ GE160.out))⟩
  ·rw [if_neg c5] at H
   have c5b0 : decide (63 < a0_1) = false := decide_eq_false c5
   clear c5
   by_cases c8 : a0_2 < 0
   ·rw [if_pos c8] at H
    have c8b0 : decide (a0_2 < 0) = true := decide_eq_true c8
    clear c8
    obtain rfl := Option.some.inj H
    go_enter Try.func103, Try.ntmps103
    go_wp2_with (first | ((with_reducible refine gate_dst (N := 1) rfl ?_); refine box_event ?hg (N := 1) ?hd (cs := #[.bool a0_0, .int .i64 a0_1, .int .i64 a0_2]) (t := 46) ?hr ?_; (case hd => rfl); (case hg => rfl); (case hr => first | (go_simp; done) | (go_simp; rfl)); intro gb160 hg w9 hbox hb; have n0_ := Aside0.mk (below_step (by repeat (first | (with_reducible first | exact HB.out | apply below_alloc | apply pw_below_drewN | apply below_drew1))) hb); have n1_ := Aside0.mk (hbox); have n2_ := Aside0.mk ((by rw [hg]; exact (below_size (by repeat (first | (with_reducible first | exact HB.out | apply below_alloc | apply pw_below_drewN | apply below_drew1)))) : w.heap.size ≤ gb160)); have n3_ := Aside0.mk ((by rw [hg]; exact (below_size (by repeat (first | (with_reducible first | exact HB.out | apply below_alloc | apply pw_below_drewN | apply below_drew1)))) : w.heap.size ≤ gb160)); clear HB; have HB := n0_; have BK160 := n1_; have GW160 := n2_; have GE160 := n3_; clear n0_ n1_ n2_ n3_; clear hb hbox hg; have hcz10_0 : w9.cell? ⟨gb160, 0, none⟩ = some (.bool a0_0) := (blk_cell BK160.out 0).trans rfl; have hcz10_1 : w9.cell? ⟨gb160, 1, none⟩ = some (.int .i64 a0_1) := (blk_cell BK160.out 1).trans rfl; have hcz10_2 : w9.cell? ⟨gb160, 2, none⟩ = some (.int .i64 a0_2) := (blk_cell BK160.out 2).trans rfl; have hfz10_0 := blk_frozen BK160.out 0; have hfz10_1 := blk_frozen BK160.out 1; have hfz10_2 := blk_frozen BK160.out 2))
    go_ret
    exact ⟨by first | rfl | (simp <;> rfl) | (simp [*] <;> rfl), by repeat (first | (with_reducible first | exact HB.out | apply below_alloc | apply pw_below_drewN | apply below_drew1 | refine below_set ?_ GE160.out))⟩
   ·rw [if_neg c8] at H
    have c8b0 : decide (a0_2 < 0) = false := decide_eq_false c8
    clear c8
    by_cases c11 : a0_2 > 2147483647
    ·rw [if_pos c11] at H
     have c11b0 : decide (2147483647 < a0_2) = true := decide_eq_true c11
     clear c11
     obtain rfl := Option.some.inj H
     go_enter Try.func103, Try.ntmps103
     go_wp2_with (first | ((with_reducible refine gate_dst (N := 1) rfl ?_); refine box_event ?hg (N := 1) ?hd (cs := #[.bool a0_0, .int .i64 a0_1, .int .i64 a0_2]) (t := 46) ?hr ?_; (case hd => rfl); (case hg => rfl); (case hr => first | (go_simp; done) | (go_simp; rfl)); intro gb160 hg w12 hbox hb; have n0_ := Aside0.mk (below_step (by repeat (first | (with_reducible first | exact HB.out | apply below_alloc | apply pw_below_drewN | apply below_drew1))) hb); have n1_ := Aside0.mk (hbox); have n2_ := Aside0.mk ((by rw [hg]; exact (below_size (by repeat (first | (with_reducible first | exact HB.out | apply below_alloc | apply pw_below_drewN | apply below_drew1)))) : w.heap.size ≤ gb160)); have n3_ := Aside0.mk ((by rw [hg]; exact (below_size (by repeat (first | (with_reducible first | exact HB.out | apply below_alloc | apply pw_below_drewN | apply below_drew1)))) : w.heap.size ≤ gb160)); clear HB; have HB := n0_; have BK160 := n1_; have GW160 := n2_; have GE160 := n3_; clear n0_ n1_ n2_ n3_; clear hb hbox hg; have hcz13_0 : w12.cell? ⟨gb160, 0, none⟩ = some (.bool a0_0) := (blk_cell BK160.out 0).trans rfl; have hcz13_1 : w12.cell? ⟨gb160, 1, none⟩ = some (.int .i64 a0_1) := (blk_cell BK160.out 1).trans rfl; have hcz13_2 : w12.cell? ⟨gb160, 2, none⟩ = some (.int .i64 a0_2) := (blk_cell BK160.out 2).trans rfl; have hfz13_0 := blk_frozen BK160.out 0; have hfz13_1 := blk_frozen BK160.out 1; have hfz13_2 := blk_frozen BK160.out 2))
     go_ret
     exact ⟨by first | rfl | (simp <;> rfl) | (simp [*] <;> rfl), by repeat (first | (with_reducible first | exact HB.out | apply below_alloc | apply pw_below_drewN | apply below_drew1 | refine below_set ?_ GE160.out))⟩
    ·rw [if_neg c11] at H
     have c11b0 : decide (2147483647 < a0_2) = false := decide_eq_false c11
     clear c11
     by_cases c14 : a0_0 = true
     ·subst c14
      have H1 : (some (a0_2 != 0)) = some r := by rw [if_pos rfl] at H; exact H
      clear H
      have H := H1
      clear H1
      obtain rfl := Option.some.inj H
      go_enter Try.func103, Try.ntmps103
      go_wp2_with (first | ((with_reducible refine gate_dst (N := 1) rfl ?_); refine box_event ?hg (N := 1) ?hd (cs := #[.bool true, .int .i64 a0_1, .int .i64 a0_2]) (t := 46) ?hr ?_; (case hd => rfl); (case hg => rfl); (case hr => first | (go_simp; done) | (go_simp; rfl)); intro gb160 hg w15 hbox hb; have n0_ := Aside0.mk (below_step (by repeat (first | (with_reducible first | exact HB.out | apply below_alloc | apply pw_below_drewN | apply below_drew1))) hb); have n1_ := Aside0.mk (hbox); have n2_ := Aside0.mk ((by rw [hg]; exact (below_size (by repeat (first | (with_reducible first | exact HB.out | apply below_alloc | apply pw_below_drewN | apply below_drew1)))) : w.heap.size ≤ gb160)); have n3_ := Aside0.mk ((by rw [hg]; exact (below_size (by repeat (first | (with_reducible first | exact HB.out | apply below_alloc | apply pw_below_drewN | apply below_drew1)))) : w.heap.size ≤ gb160)); clear HB; have HB := n0_; have BK160 := n1_; have GW160 := n2_; have GE160 := n3_; clear n0_ n1_ n2_ n3_; clear hb hbox hg; have hcz16_0 : w15.cell? ⟨gb160, 0, none⟩ = some (.bool true) := (blk_cell BK160.out 0).trans rfl; have hcz16_1 : w15.cell? ⟨gb160, 1, none⟩ = some (.int .i64 a0_1) := (blk_cell BK160.out 1).trans rfl; have hcz16_2 : w15.cell? ⟨gb160, 2, none⟩ = some (.int .i64 a0_2) := (blk_cell BK160.out 2).trans rfl; have hfz16_0 := blk_frozen BK160.out 0; have hfz16_1 := blk_frozen BK160.out 1; have hfz16_2 := blk_frozen BK160.out 2))
      go_ret
      exact ⟨by first | rfl | (simp <;> rfl) | (simp [*] <;> rfl), by repeat (first | (with_reducible first | exact HB.out | apply below_alloc | apply pw_below_drewN | apply below_drew1 | refine below_set ?_ GE160.out))⟩
     ·replace c14 := Bool.eq_false_iff.mpr c14
      subst c14
      have H1 : (some true) = some r := by rw [if_neg (show ¬ (false = true) by decide)] at H; exact H
      clear H
      have H := H1
      clear H1
      obtain rfl := Option.some.inj H
      go_enter Try.func103, Try.ntmps103
      go_wp2_with (first | ((with_reducible refine gate_dst (N := 1) rfl ?_); refine box_event ?hg (N := 1) ?hd (cs := #[.bool false, .int .i64 a0_1, .int .i64 a0_2]) (t := 46) ?hr ?_; (case hd => rfl); (case hg => rfl); (case hr => first | (go_simp; done) | (go_simp; rfl)); intro gb160 hg w17 hbox hb; have n0_ := Aside0.mk (below_step (by repeat (first | (with_reducible first | exact HB.out | apply below_alloc | apply pw_below_drewN | apply below_drew1))) hb); have n1_ := Aside0.mk (hbox); have n2_ := Aside0.mk ((by rw [hg]; exact (below_size (by repeat (first | (with_reducible first | exact HB.out | apply below_alloc | apply pw_below_drewN | apply below_drew1)))) : w.heap.size ≤ gb160)); have n3_ := Aside0.mk ((by rw [hg]; exact (below_size (by repeat (first | (with_reducible first | exact HB.out | apply below_alloc | apply pw_below_drewN | apply below_drew1)))) : w.heap.size ≤ gb160)); clear HB; have HB := n0_; have BK160 := n1_; have GW160 := n2_; have GE160 := n3_; clear n0_ n1_ n2_ n3_; clear hb hbox hg; have hcz18_0 : w17.cell? ⟨gb160, 0, none⟩ = some (.bool false) := (blk_cell BK160.out 0).trans rfl; have hcz18_1 : w17.cell? ⟨gb160, 1, none⟩ = some (.int .i64 a0_1) := (blk_cell BK160.out 1).trans rfl; have hcz18_2 : w17.cell? ⟨gb160, 2, none⟩ = some (.int .i64 a0_2) := (blk_cell BK160.out 2).trans rfl; have hfz18_0 := blk_frozen BK160.out 0; have hfz18_1 := blk_frozen BK160.out 1; have hfz18_2 := blk_frozen BK160.out 2))
      go_ret
      exact ⟨by first | rfl | (simp <;> rfl) | (simp [*] <;> rfl), by repeat (first | (with_reducible first | exact HB.out | apply below_alloc | apply pw_below_drewN | apply below_drew1 | refine below_set ?_ GE160.out))⟩
end Go.Proofs.Ytfocaefnmfkojaa.Q
namespace Go.Proofs.Ytfocaefnmfkojaa.Q
open Go.RowKit Go.Proofs.YtfocaefnmfkojaaW.PrintWords Go.Proofs.YtfocaefnmfkojaaW.PrintLast Go.Proofs.YtfocaefnmfkojaaW.PrintMore
attribute [local go_sem] max2_int min2_int max_two min_two max_three min_three max_four min_four   -- for this text's walks alone
set_option linter.unusedVariables false
set_option linter.unusedSimpArgs false
mutual
def ref06_mayTxn.j0 : Nat → Bool → Int → Int → Int → List (S46) → Option (Bool)
 | 0, _, _, _, _, _ => none
 | k + 1, x40, x162000, x162001, x162002, x162003 => if x40 = true then (some false) else (ref06_mayTxn.l0 k 0 x162000 x162001 x162002 x162003)
def ref06_mayTxn.l0 : Nat → Int → Int → Int → Int → List (S46) → Option (Bool)
 | 0, _, _, _, _, _ => none
 | k + 1, x3, x162000, x162001, x162002, x162003 => if x3 < (x162003.length : Int) then (if 0 ≤ x3 then ((ref06_mayOp.f ((rd_T46 x162003 x3).f0) ((rd_T46 x162003 x3).f1) ((rd_T46 x162003 x3).f2)).bind fun t163 => (if t163 = true then (ref06_mayTxn.l0 k (wrap64 (x3 + 1)) x162000 x162001 x162002 x162003) else (some false))) else (none)) else (some true)
end
def ref06_mayTxn.f (k : Nat) (a0_0 : Int) (a0_1 : Int) (a0_2 : Int) (l0_3 : List (S46)) : Option (Bool) := if a0_0 < 0 then (ref06_mayTxn.j0 k true a0_0 a0_1 a0_2 l0_3) else (if a0_0 > 63 then (ref06_mayTxn.j0 k true a0_0 a0_1 a0_2 l0_3) else (if a0_1 < 0 then (ref06_mayTxn.j0 k true a0_0 a0_1 a0_2 l0_3) else (if a0_1 ≥ a0_2 then (ref06_mayTxn.j0 k true a0_0 a0_1 a0_2 l0_3) else (if a0_2 > 2147483647 then (ref06_mayTxn.j0 k true a0_0 a0_1 a0_2 l0_3) else (if (l0_3.length : Int) < 1 then (ref06_mayTxn.j0 k true a0_0 a0_1 a0_2 l0_3) else (ref06_mayTxn.j0 k (decide ((l0_3.length : Int) > 64)) a0_0 a0_1 a0_2 l0_3))))))
theorem ref06_mayTxn.mono_l : ∀ k, (∀ y0 y1 y2 y3 y4, LeO (ref06_mayTxn.j0 k y0 y1 y2 y3 y4) (ref06_mayTxn.j0 (k + 1) y0 y1 y2 y3 y4)) ∧ (∀ y0 y1 y2 y3 y4, LeO (ref06_mayTxn.l0 k y0 y1 y2 y3 y4) (ref06_mayTxn.l0 (k + 1) y0 y1 y2 y3 y4))
 | 0 => ⟨fun _ _ _ _ _ r h => by simp [ref06_mayTxn.j0] at h, fun _ _ _ _ _ r h => by simp [ref06_mayTxn.l0] at h⟩
 | k + 1 => by
  obtain ⟨ih0, ih1⟩ := ref06_mayTxn.mono_l k
  refine ⟨?_, ?_⟩
  ·intro y0 y1 y2 y3 y4
   unfold ref06_mayTxn.j0
   repeat' first
   | (with_reducible exact ih0 _ _ _ _ _)
   | (with_reducible exact ih1 _ _ _ _ _)
   | (with_reducible exact LeO.refl _)
   | (with_reducible exact LeO.none _)
   | (with_reducible refine LeO.ite ?_ ?_)
   | (with_reducible refine LeO.bind ?_ (fun _ => ?_))
   | exact ih0 _ _ _ _ _
   | exact ih1 _ _ _ _ _
   | exact LeO.none _
   | refine LeO.ite ?_ ?_
   | refine LeO.bind ?_ (fun _ => ?_)
  ·intro y0 y1 y2 y3 y4
   unfold ref06_mayTxn.l0
   repeat' first
   | (with_reducible exact ih0 _ _ _ _ _)
   | (with_reducible exact ih1 _ _ _ _ _)
   | (with_reducible exact LeO.refl _)
   | (with_reducible exact LeO.none _)
   | (with_reducible refine LeO.ite ?_ ?_)
   | (with_reducible refine LeO.bind ?_ (fun _ => ?_))
   | exact ih0 _ _ _ _ _
   | exact ih1 _ _ _ _ _
   | exact LeO.none _
   | refine LeO.ite ?_ ?_
   | refine LeO.bind ?_ (fun _ => ?_)
theorem ref06_mayTxn.mono : ∀ a0 a1 a2 a3 k, LeO (ref06_mayTxn.f k a0 a1 a2 a3) (ref06_mayTxn.f (k + 1) a0 a1 a2 a3) := by
 intro a0 a1 a2 a3 k
 obtain ⟨ih0, ih1⟩ := ref06_mayTxn.mono_l k
 unfold ref06_mayTxn.f
 repeat' first
   | (with_reducible exact ih0 _ _ _ _ _)
   | (with_reducible exact ih1 _ _ _ _ _)
   | (with_reducible exact LeO.refl _)
   | (with_reducible exact LeO.none _)
   | (with_reducible refine LeO.ite ?_ ?_)
   | (with_reducible refine LeO.bind ?_ (fun _ => ?_))
   | exact ih0 _ _ _ _ _
   | exact ih1 _ _ _ _ _
   | exact LeO.none _
   | refine LeO.ite ?_ ?_
   | refine LeO.bind ?_ (fun _ => ?_)
set_option maxHeartbeats 8000000 in
set_option maxRecDepth 100000 in
theorem ref06_mayTxn.calls (k : Nat) (a0_0 : Int) (a0_1 : Int) (a0_2 : Int) (A0_3 : Option Addr) (c0_3 : Nat) (l0_3 : List (S46)) (r : Bool) (w : World) (hr0_3 : Kd.C k46 w A0_3 l0_3.length l0_3) (hc0_3 : l0_3.length ≤ c0_3) (h : ref06_mayTxn.f k a0_0 a0_1 a0_2 l0_3 = some r) :
  Calls Try.prog 90 #[.agg #[.int .i64 a0_0, .int .i64 a0_1, .int .i64 a0_2, .slice A0_3 l0_3.length c0_3]] w fun e w' => e = .returned (.bool r) ∧ Below w.heap.size w w' := by
 have hu44 := Try.underlying44
 have hu46 := Try.underlying46
 have HR0_3 := Aside0.mk hr0_3
 have HC0_3 := Aside0.mk hc0_3
 clear hr0_3 hc0_3
 have HB := Aside0.mk (Below.refl w.heap.size w)
 have H : (if a0_0 < 0 then (ref06_mayTxn.j0 k true a0_0 a0_1 a0_2 l0_3) else (if a0_0 > 63 then (ref06_mayTxn.j0 k true a0_0 a0_1 a0_2 l0_3) else (if a0_1 < 0 then (ref06_mayTxn.j0 k true a0_0 a0_1 a0_2 l0_3) else (if a0_1 ≥ a0_2 then (ref06_mayTxn.j0 k true a0_0 a0_1 a0_2 l0_3) else (if a0_2 > 2147483647 then (ref06_mayTxn.j0 k true a0_0 a0_1 a0_2 l0_3) else (if (l0_3.length : Int) < 1 then (ref06_mayTxn.j0 k true a0_0 a0_1 a0_2 l0_3) else (ref06_mayTxn.j0 k (decide ((l0_3.length : Int) > 64)) a0_0 a0_1 a0_2 l0_3))))))) = some r := h
 clear h
 have HC2 := Aside0.mk H
 clear H
 go_enter Try.func90, Try.ntmps90
 go_upto_region 1 with (first | ((with_reducible refine gate_dst (N := 1) rfl ?_); (try (refine gate_guard (by rfl) ?_; dsimp only)); refine box_event ?hg (N := 1) ?hd (cs := #[.int .i64 a0_0, .int .i64 a0_1, .int .i64 a0_2, .slice A0_3 l0_3.length c0_3]) (t := 44) ?hr ?_; (case hd => rfl); (case hg => rfl); (case hr => first | (go_simp; done) | (go_simp; rfl)); intro gb161 hg w3 hbox hb; have n0_ := Aside0.mk (below_step (by repeat (first | (with_reducible first | exact HB.out | apply below_alloc | apply pw_below_drewN | apply below_drew1))) hb); have n1_ := Aside0.mk (hbox); have n2_ := Aside0.mk ((by rw [hg]; exact (below_size (by repeat (first | (with_reducible first | exact HB.out | apply below_alloc | apply pw_below_drewN | apply below_drew1)))) : w.heap.size ≤ gb161)); have n3_ := Aside0.mk ((by rw [hg]; exact (below_size (by repeat (first | (with_reducible first | exact HB.out | apply below_alloc | apply pw_below_drewN | apply below_drew1)))) : w.heap.size ≤ gb161)); clear HB; have HB := n0_; have BK161 := n1_; have GW161 := n2_; have GE161 := n3_; clear n0_ n1_ n2_ n3_; clear hb hbox hg))
 (try simp only [Act.put, List.setIfInBounds_toArray, List.set_cons_zero, List.set_cons_succ])
 go_cut [40] (fun v40 wc => ∃ (kq : Nat) (x40_1 : Bool), v40 = .bool x40_1 ∧ Aside0 (ref06_mayTxn.j0 kq x40_1 a0_0 a0_1 a0_2 l0_3 = some r) ∧ Aside0 (kq ≤ k) ∧ Aside0 (wc.heap[gb161]? = some (.cells #[.int .i64 a0_0, .int .i64 a0_1, .int .i64 a0_2, (.slice A0_3 l0_3.length c0_3)] 44 (0, 0))) ∧ Aside0 (Below w.heap.size w wc))
 case first =>
  have H := HC2.out
  clear HC2
  by_cases c4 : a0_0 < 0
  ·rw [if_pos c4] at H
   have c4b0 : decide (a0_0 < 0) = true := decide_eq_true c4
   clear c4
   (first | rw [c4b0] | (simp only [i64_w, i32_w]; rw [c4b0]) | skip)
   have H' := Aside0.mk H
   clear H
   have hcz5_0 : w3.cell? ⟨gb161, 0, none⟩ = some (.int .i64 a0_0) := (blk_cell BK161.out 0).trans rfl
   have hcz5_1 : w3.cell? ⟨gb161, 1, none⟩ = some (.int .i64 a0_1) := (blk_cell BK161.out 1).trans rfl
   have hcz5_2 : w3.cell? ⟨gb161, 2, none⟩ = some (.int .i64 a0_2) := (blk_cell BK161.out 2).trans rfl
   have hcz5_3 : w3.cell? ⟨gb161, 3, none⟩ = some (.slice A0_3 l0_3.length c0_3) := (blk_cell BK161.out 3).trans rfl
   have hfz5_0 := blk_frozen BK161.out 0
   have hfz5_1 := blk_frozen BK161.out 1
   have hfz5_2 := blk_frozen BK161.out 2
   have hfz5_3 := blk_frozen BK161.out 3
   go_wp2
   go_meet
   case rel => exact ⟨_, (true), (by first | rfl | (simp; done) | (simp [*]; done)), H', ⟨by first | omega | exact Nat.le_refl _⟩, ⟨by (with_reducible repeat (first | refine blk_drewN ?_ _ | refine blk_drew ?_ | refine blk_alloc ?_ _)); exact BK161.out⟩, ⟨by repeat (first | (with_reducible first | exact HB.out | apply below_alloc | apply pw_below_drewN | apply below_drew1 | refine below_set ?_ GE161.out))⟩⟩
  ·rw [if_neg c4] at H
   have c4b0 : decide (a0_0 < 0) = false := decide_eq_false c4
   clear c4
   (first | rw [c4b0] | (simp only [i64_w, i32_w]; rw [c4b0]) | skip)
   by_cases c6 : a0_0 > 63
   ·rw [if_pos c6] at H
    have c6b0 : decide (63 < a0_0) = true := decide_eq_true c6
    clear c6
    have H' := Aside0.mk H
    clear H
    have hcz7_0 : w3.cell? ⟨gb161, 0, none⟩ = some (.int .i64 a0_0) := (blk_cell BK161.out 0).trans rfl
    have hcz7_1 : w3.cell? ⟨gb161, 1, none⟩ = some (.int .i64 a0_1) := (blk_cell BK161.out 1).trans rfl
    have hcz7_2 : w3.cell? ⟨gb161, 2, none⟩ = some (.int .i64 a0_2) := (blk_cell BK161.out 2).trans rfl
    have hcz7_3 : w3.cell? ⟨gb161, 3, none⟩ = some (.slice A0_3 l0_3.length c0_3) := (blk_cell BK161.out 3).trans rfl
    have hfz7_0 := blk_frozen BK161.out 0
    have hfz7_1 := blk_frozen BK161.out 1
    have hfz7_2 := blk_frozen BK161.out 2
    have hfz7_3 := blk_frozen BK161.out 3
    go_wp2
    go_meet
    case rel => exact ⟨_, (true), (by first | rfl | (simp; done) | (simp [*]; done)), H', ⟨by first | omega | exact Nat.le_refl _⟩, ⟨by (with_reducible repeat (first | refine blk_drewN ?_ _ | refine blk_drew ?_ | refine blk_alloc ?_ _)); exact BK161.out⟩, ⟨by repeat (first | (with_reducible first | exact HB.out | apply below_alloc | apply pw_below_drewN | apply below_drew1 | refine below_set ?_ GE161.out))⟩⟩
   ·rw [if_neg c6] at H
    have c6b0 : decide (63 < a0_0) = false := decide_eq_false c6
    clear c6
    by_cases c8 : a0_1 < 0
    ·rw [if_pos c8] at H
     have c8b0 : decide (a0_1 < 0) = true := decide_eq_true c8
     clear c8
     have H' := Aside0.mk H
     clear H
     have hcz9_0 : w3.cell? ⟨gb161, 0, none⟩ = some (.int .i64 a0_0) := (blk_cell BK161.out 0).trans rfl
     have hcz9_1 : w3.cell? ⟨gb161, 1, none⟩ = some (.int .i64 a0_1) := (blk_cell BK161.out 1).trans rfl
     have hcz9_2 : w3.cell? ⟨gb161, 2, none⟩ = some (.int .i64 a0_2) := (blk_cell BK161.out 2).trans rfl
     have hcz9_3 : w3.cell? ⟨gb161, 3, none⟩ = some (.slice A0_3 l0_3.length c0_3) := (blk_cell BK161.out 3).trans rfl
     have hfz9_0 := blk_frozen BK161.out 0
     have hfz9_1 := blk_frozen BK161.out 1
     have hfz9_2 := blk_frozen BK161.out 2
     have hfz9_3 := blk_frozen BK161.out 3
     go_wp2
     go_meet
     case rel => exact ⟨_, (true), (by first | rfl | (simp; done) | (simp [*]; done)), H', ⟨by first | omega | exact Nat.le_refl _⟩, ⟨by (with_reducible repeat (first | refine blk_drewN ?_ _ | refine blk_drew ?_ | refine blk_alloc ?_ _)); exact BK161.out⟩, ⟨by repeat (first | (with_reducible first | exact HB.out | apply below_alloc | apply pw_below_drewN | apply below_drew1 | refine below_set ?_ GE161.out))⟩⟩
    ·rw [if_neg c8] at H
     have c8b0 : decide (a0_1 < 0) = false := decide_eq_false c8
     clear c8
     by_cases c10 : a0_1 ≥ a0_2
     ·rw [if_pos c10] at H
      have c10b0 : decide (a0_2 ≤ a0_1) = true := decide_eq_true c10
      clear c10
      have H' := Aside0.mk H
      clear H
      have hcz11_0 : w3.cell? ⟨gb161, 0, none⟩ = some (.int .i64 a0_0) := (blk_cell BK161.out 0).trans rfl
      have hcz11_1 : w3.cell? ⟨gb161, 1, none⟩ = some (.int .i64 a0_1) := (blk_cell BK161.out 1).trans rfl
      have hcz11_2 : w3.cell? ⟨gb161, 2, none⟩ = some (.int .i64 a0_2) := (blk_cell BK161.out 2).trans rfl
      have hcz11_3 : w3.cell? ⟨gb161, 3, none⟩ = some (.slice A0_3 l0_3.length c0_3) := (blk_cell BK161.out 3).trans rfl
      have hfz11_0 := blk_frozen BK161.out 0
      have hfz11_1 := blk_frozen BK161.out 1
      have hfz11_2 := blk_frozen BK161.out 2
      have hfz11_3 := blk_frozen BK161.out 3
      go_wp2
      go_meet
      case rel => exact ⟨_, (true), (by first | rfl | (simp; done) | (simp [*]; done)), H', ⟨by first | omega | exact Nat.le_refl _⟩, ⟨by (with_reducible repeat (first | refine blk_drewN ?_ _ | refine blk_drew ?_ | refine blk_alloc ?_ _)); exact BK161.out⟩, ⟨by repeat (first | (with_reducible first | exact HB.out | apply below_alloc | apply pw_below_drewN | apply below_drew1 | refine below_set ?_ GE161.out))⟩⟩
     ·rw [if_neg c10] at H
      have c10b0 : decide (a0_2 ≤ a0_1) = false := decide_eq_false c10
      clear c10
      by_cases c12 : a0_2 > 2147483647
      ·rw [if_pos c12] at H
       have c12b0 : decide (2147483647 < a0_2) = true := decide_eq_true c12
       clear c12
       have H' := Aside0.mk H
       clear H
       have hcz13_0 : w3.cell? ⟨gb161, 0, none⟩ = some (.int .i64 a0_0) := (blk_cell BK161.out 0).trans rfl
       have hcz13_1 : w3.cell? ⟨gb161, 1, none⟩ = some (.int .i64 a0_1) := (blk_cell BK161.out 1).trans rfl
       have hcz13_2 : w3.cell? ⟨gb161, 2, none⟩ = some (.int .i64 a0_2) := (blk_cell BK161.out 2).trans rfl
       have hcz13_3 : w3.cell? ⟨gb161, 3, none⟩ = some (.slice A0_3 l0_3.length c0_3) := (blk_cell BK161.out 3).trans rfl
       have hfz13_0 := blk_frozen BK161.out 0
       have hfz13_1 := blk_frozen BK161.out 1
       have hfz13_2 := blk_frozen BK161.out 2
       have hfz13_3 := blk_frozen BK161.out 3
       go_wp2
       go_meet
       case rel => exact ⟨_, (true), (by first | rfl | (simp; done) | (simp [*]; done)), H', ⟨by first | omega | exact Nat.le_refl _⟩, ⟨by (with_reducible repeat (first | refine blk_drewN ?_ _ | refine blk_drew ?_ | refine blk_alloc ?_ _)); exact BK161.out⟩, ⟨by repeat (first | (with_reducible first | exact HB.out | apply below_alloc | apply pw_below_drewN | apply below_drew1 | refine below_set ?_ GE161.out))⟩⟩
      ·rw [if_neg c12] at H
       have c12b0 : decide (2147483647 < a0_2) = false := decide_eq_false c12
       clear c12
       by_cases c14 : (l0_3.length : Int) < 1
       ·rw [if_pos c14] at H
        have c14b0 : decide ((l0_3.length : Int) < 1) = true := decide_eq_true c14
        have c14b1 : decide (l0_3.length < 1) = true := decide_eq_true (by omega)
        clear c14
        have H' := Aside0.mk H
        clear H
        have hcz15_0 : w3.cell? ⟨gb161, 0, none⟩ = some (.int .i64 a0_0) := (blk_cell BK161.out 0).trans rfl
        have hcz15_1 : w3.cell? ⟨gb161, 1, none⟩ = some (.int .i64 a0_1) := (blk_cell BK161.out 1).trans rfl
        have hcz15_2 : w3.cell? ⟨gb161, 2, none⟩ = some (.int .i64 a0_2) := (blk_cell BK161.out 2).trans rfl
        have hcz15_3 : w3.cell? ⟨gb161, 3, none⟩ = some (.slice A0_3 l0_3.length c0_3) := (blk_cell BK161.out 3).trans rfl
        have hfz15_0 := blk_frozen BK161.out 0
        have hfz15_1 := blk_frozen BK161.out 1
        have hfz15_2 := blk_frozen BK161.out 2
        have hfz15_3 := blk_frozen BK161.out 3
        go_wp2
        go_meet
        case rel => exact ⟨_, (true), (by first | rfl | (simp; done) | (simp [*]; done)), H', ⟨by first | omega | exact Nat.le_refl _⟩, ⟨by (with_reducible repeat (first | refine blk_drewN ?_ _ | refine blk_drew ?_ | refine blk_alloc ?_ _)); exact BK161.out⟩, ⟨by repeat (first | (with_reducible first | exact HB.out | apply below_alloc | apply pw_below_drewN | apply below_drew1 | refine below_set ?_ GE161.out))⟩⟩
       ·rw [if_neg c14] at H
        have c14b0 : decide ((l0_3.length : Int) < 1) = false := decide_eq_false c14
        have c14b1 : decide (l0_3.length < 1) = false := decide_eq_false (by omega)
        clear c14
        have H' := Aside0.mk H
        clear H
        have hcz16_0 : w3.cell? ⟨gb161, 0, none⟩ = some (.int .i64 a0_0) := (blk_cell BK161.out 0).trans rfl
        have hcz16_1 : w3.cell? ⟨gb161, 1, none⟩ = some (.int .i64 a0_1) := (blk_cell BK161.out 1).trans rfl
        have hcz16_2 : w3.cell? ⟨gb161, 2, none⟩ = some (.int .i64 a0_2) := (blk_cell BK161.out 2).trans rfl
        have hcz16_3 : w3.cell? ⟨gb161, 3, none⟩ = some (.slice A0_3 l0_3.length c0_3) := (blk_cell BK161.out 3).trans rfl
        have hfz16_0 := blk_frozen BK161.out 0
        have hfz16_1 := blk_frozen BK161.out 1
        have hfz16_2 := blk_frozen BK161.out 2
        have hfz16_3 := blk_frozen BK161.out 3
        go_wp2
        go_meet
        case rel => exact ⟨_, (decide ((l0_3.length : Int) > 64)), (by first | rfl | (simp; done) | (simp [*]; done)), H', ⟨by first | omega | exact Nat.le_refl _⟩, ⟨by (with_reducible repeat (first | refine blk_drewN ?_ _ | refine blk_drew ?_ | refine blk_alloc ?_ _)); exact BK161.out⟩, ⟨by repeat (first | (with_reducible first | exact HB.out | apply below_alloc | apply pw_below_drewN | apply below_drew1 | refine below_set ?_ GE161.out))⟩⟩
 case rest =>
  clear HC2
  try clear c1
  try clear p2
  try clear c4
  try clear c4b0
  try clear c6
  try clear c6b0
  try clear c8
  try clear c8b0
  try clear c9
  try clear c10
  try clear c10b0
  try clear c12
  try clear c12b0
  try clear c14
  try clear c14b0
  try clear c14b1
  try clear hcz11_0
  try clear hcz11_1
  try clear hcz11_2
  try clear hcz11_3
  try clear hcz13_0
  try clear hcz13_1
  try clear hcz13_2
  try clear hcz13_3
  try clear hcz15_0
  try clear hcz15_1
  try clear hcz15_2
  try clear hcz15_3
  try clear hcz16_0
  try clear hcz16_1
  try clear hcz16_2
  try clear hcz16_3
  try clear hcz5_0
  try clear hcz5_1
  try clear hcz5_2
  try clear hcz5_3
  try clear hcz7_0
  try clear hcz7_1
  try clear hcz7_2
  try clear hcz7_3
  try clear hcz9_0
  try clear hcz9_1
  try clear hcz9_2
  try clear hcz9_3
  try clear hfz11_0
  try clear hfz11_1
  try clear hfz11_2
  try clear hfz11_3
  try clear hfz13_0
  try clear hfz13_1
  try clear hfz13_2
  try clear hfz13_3
  try clear hfz15_0
  try clear hfz15_1
  try clear hfz15_2
  try clear hfz15_3
  try clear hfz16_0
  try clear hfz16_1
  try clear hfz16_2
  try clear hfz16_3
  try clear hfz5_0
  try clear hfz5_1
  try clear hfz5_2
  try clear hfz5_3
  try clear hfz7_0
  try clear hfz7_1
  try clear hfz7_2
  try clear hfz7_3
  try clear hfz9_0
  try clear hfz9_1
  try clear hfz9_2
  try clear hfz9_3
  obtain ⟨kq, x40_1, rfl, HA, HJ1, BK161, HB⟩ := hcut
  cases kq with
  | zero => exact absurd HA.out (by simp [ref06_mayTxn.j0])
  | succ kj1 =>
   have H := HA.out
   clear HA
   simp only [ref06_mayTxn.j0] at H
   by_cases c17 : x40_1 = true
   ·subst c17
    have H1 : (some false) = some r := by rw [if_pos rfl] at H; exact H
    clear H
    have H := H1
    clear H1
    obtain rfl := Option.some.inj H
    go_wp2
    go_ret
    exact ⟨by first | rfl | (simp <;> rfl) | (simp [*] <;> rfl), by repeat (first | (with_reducible first | exact HB.out | apply below_alloc | apply pw_below_drewN | apply below_drew1 | refine below_set ?_ GE161.out))⟩
   ·replace c17 := Bool.eq_false_iff.mpr c17
    subst c17
    have H1 : (ref06_mayTxn.l0 kj1 0 a0_0 a0_1 a0_2 l0_3) = some r := by rw [if_neg (show ¬ (false = true) by decide)] at H; exact H
    clear H
    have H := H1
    clear H1
    have H' := Aside0.mk H
    clear H
    go_wp2
    go_loopg [3] kj1 (fun kq v3 w' => ∃ (x3_2 : Int), v3 = .int .i64 x3_2 ∧ Aside0 (ref06_mayTxn.l0 kq x3_2 a0_0 a0_1 a0_2 l0_3 = some r) ∧ Aside0 (kq ≤ kj1) ∧ Aside0 (w'.heap[gb161]? = some (.cells #[.int .i64 a0_0, .int .i64 a0_1, .int .i64 a0_2, (.slice A0_3 l0_3.length c0_3)] 44 (0, 0))) ∧ Aside0 (Below w.heap.size w w'))
    case atStart => exact ⟨(0), (by first | rfl | (simp; done) | (simp [*]; done)), H', ⟨Nat.le_refl _⟩, ⟨by (with_reducible repeat (first | refine blk_drewN ?_ _ | refine blk_drew ?_ | refine blk_alloc ?_ _)); exact BK161.out⟩, ⟨by repeat (first | (with_reducible first | exact HB.out | apply below_alloc | apply pw_below_drewN | apply below_drew1 | refine below_set ?_ GE161.out))⟩⟩
    case round =>
     clear H'
     try clear c1
     try clear p2
     try clear c4
     try clear c4b0
     try clear c6
     try clear c6b0
     try clear c8
     try clear c8b0
     try clear c9
     try clear c10
     try clear c10b0
     try clear c12
     try clear c12b0
     try clear c14
     try clear c14b0
     try clear c14b1
     try clear c17
     try clear hcz11_0
     try clear hcz11_1
     try clear hcz11_2
     try clear hcz11_3
     try clear hcz13_0
     try clear hcz13_1
     try clear hcz13_2
     try clear hcz13_3
     try clear hcz15_0
     try clear hcz15_1
     try clear hcz15_2
     try clear hcz15_3
     try clear hcz16_0
     try clear hcz16_1
     try clear hcz16_2
     try clear hcz16_3
     try clear hcz5_0
     try clear hcz5_1
     try clear hcz5_2
     try clear hcz5_3
     try clear hcz7_0
     try clear hcz7_1
     try clear hcz7_2
     try clear hcz7_3
     try clear hcz9_0
     try clear hcz9_1
     try clear hcz9_2
     try clear hcz9_3
     try clear hfz11_0
     try clear hfz11_1
     try clear hfz11_2
     try clear hfz11_3
     try clear hfz13_0
     try clear hfz13_1
     try clear hfz13_2
     try clear hfz13_3
     try clear hfz15_0
     try clear hfz15_1
     try clear hfz15_2
     try clear hfz15_3
     try clear hfz16_0
     try clear hfz16_1
     try clear hfz16_2
     try clear hfz16_3
     try clear hfz5_0
     try clear hfz5_1
     try clear hfz5_2
     try clear hfz5_3
     try clear hfz7_0
     try clear hfz7_1
     try clear hfz7_2
     try clear hfz7_3
     try clear hfz9_0
     try clear hfz9_1
     try clear hfz9_2
     try clear hfz9_3
     try clear p2
     obtain ⟨x3_2, rfl, HA, HK2, BK161, HB⟩ := hrel
     cases gk with
     | zero => exact absurd HA.out (by simp [ref06_mayTxn.l0])
     | succ k2 =>
      have H := HA.out
      clear HA
      simp only [ref06_mayTxn.l0] at H
      by_cases c18 : x3_2 < (l0_3.length : Int)
      ·rw [if_pos c18] at H
       have c18b0 : decide (x3_2 < (l0_3.length : Int)) = true := decide_eq_true c18
       clear c18
       by_cases c19 : 0 ≤ x3_2
       ·rw [if_pos c19] at H
        have c19b0 : decide (0 ≤ x3_2) = true := decide_eq_true c19
        clear c19
        replace H := Option.bind_eq_some_iff.mp H
        obtain ⟨t163, A200, H⟩ := H
        replace H : (if t163 = true then (ref06_mayTxn.l0 k2 (wrap64 (x3_2 + 1)) a0_0 a0_1 a0_2 l0_3) else (some false)) = some r := H
        have A20 := Aside0.mk A200
        clear A200
        by_cases c21 : t163 = true
        ·subst c21
         have H1 : (ref06_mayTxn.l0 k2 (wrap64 (x3_2 + 1)) a0_0 a0_1 a0_2 l0_3) = some r := by rw [if_pos rfl] at H; exact H
         clear H
         have H := H1
         clear H1
         have H' := Aside0.mk H
         clear H
         have hcz22_0 : wr.cell? ⟨gb161, 0, none⟩ = some (.int .i64 a0_0) := (blk_cell BK161.out 0).trans rfl
         have hcz22_1 : wr.cell? ⟨gb161, 1, none⟩ = some (.int .i64 a0_1) := (blk_cell BK161.out 1).trans rfl
         have hcz22_2 : wr.cell? ⟨gb161, 2, none⟩ = some (.int .i64 a0_2) := (blk_cell BK161.out 2).trans rfl
         have hcz22_3 : wr.cell? ⟨gb161, 3, none⟩ = some (.slice A0_3 l0_3.length c0_3) := (blk_cell BK161.out 3).trans rfl
         have hfz22_0 := blk_frozen BK161.out 0
         have hfz22_1 := blk_frozen BK161.out 1
         have hfz22_2 := blk_frozen BK161.out 2
         have hfz22_3 := blk_frozen BK161.out 3
         have p162 : 0 ≤ (x3_2 : Int) := of_decide_eq_true (by assumption)
         have q162 : x3_2 < (l0_3.length : Int) := of_decide_eq_true (by assumption)
         obtain ⟨ad162, e162, hx162_0, hx162_1, hx162_2⟩ := at_T46 HR0_3.out x3_2 p162 q162
         cases e162
         replace hx162_0 := (HB.out.cell (World.block_lt_of_cell? w _ hx162_0)).trans hx162_0
         replace hx162_1 := (HB.out.cell (World.block_lt_of_cell? w _ hx162_1)).trans hx162_1
         replace hx162_2 := (HB.out.cell (World.block_lt_of_cell? w _ hx162_2)).trans hx162_2
         replace p162 := eq_true p162
         replace q162 := eq_true q162
         go_wp2_with (first | ((with_reducible refine gate_callee (f := 103) rfl ?_); refine goesL_ (some 53) rfl rfl Try.func103 (by kernel_rfl) rfl #[.agg #[.bool ((rd_T46 l0_3 x3_2).f0), .int .i64 ((rd_T46 l0_3 x3_2).f1), .int .i64 ((rd_T46 l0_3 x3_2).f2)]] rfl (by (try simp only [List.map_toArray, List.map_cons, List.map_nil]); first | done | rfl | (simp only [List.length_drop, List.length_take]; rfl)) ?_; (with_reducible refine (ref06_mayOp.calls ((rd_T46 l0_3 x3_2).f0) ((rd_T46 l0_3 x3_2).f1) ((rd_T46 l0_3 x3_2).f2) true _ A20.out).mono ?_); rintro e w23 ⟨rfl, hb⟩; refine ⟨_, rfl, ?_⟩; have n0_ := Aside0.mk (blk_below (g := gb161) (o := .cells #[.int .i64 a0_0, .int .i64 a0_1, .int .i64 a0_2, .slice (some ad162) l0_3.length c0_3] 44 (0, 0)) (by (with_reducible repeat (first | refine blk_drewN ?_ _ | refine blk_drew ?_ | refine blk_alloc ?_ _)); exact BK161.out) hb); have n1_ := Aside0.mk (below_step (by repeat (first | (with_reducible first | exact HB.out | apply below_alloc | apply pw_below_drewN | apply below_drew1 | refine below_set ?_ GE161.out))) hb); clear BK161; clear HB; have BK161 := n0_; have HB := n1_; clear n0_ n1_; (try clear hb); (try clear hb2); (try clear hk); (try clear hi)))
         go_roundg k2
         case measure => have := HJ1.out; have := HK2.out; omega
         case rel => exact ⟨(wrap64 (x3_2 + 1)), (by first | rfl | (simp; done) | (simp [*]; done)), H', ⟨by have := HJ1.out; have := HK2.out; omega⟩, ⟨by (with_reducible repeat (first | refine blk_drewN ?_ _ | refine blk_drew ?_ | refine blk_alloc ?_ _)); exact BK161.out⟩, ⟨by repeat (first | (with_reducible first | exact HB.out | apply below_alloc | apply pw_below_drewN | apply below_drew1 | refine below_set ?_ GE161.out))⟩⟩
        ·replace c21 := Bool.eq_false_iff.mpr c21
         subst c21
         have H1 : (some false) = some r := by rw [if_neg (show ¬ (false = true) by decide)] at H; exact H
         clear H
         have H := H1
         clear H1
         obtain rfl := Option.some.inj H
         have hcz24_0 : wr.cell? ⟨gb161, 0, none⟩ = some (.int .i64 a0_0) := (blk_cell BK161.out 0).trans rfl
         have hcz24_1 : wr.cell? ⟨gb161, 1, none⟩ = some (.int .i64 a0_1) := (blk_cell BK161.out 1).trans rfl
         have hcz24_2 : wr.cell? ⟨gb161, 2, none⟩ = some (.int .i64 a0_2) := (blk_cell BK161.out 2).trans rfl
         have hcz24_3 : wr.cell? ⟨gb161, 3, none⟩ = some (.slice A0_3 l0_3.length c0_3) := (blk_cell BK161.out 3).trans rfl
         have hfz24_0 := blk_frozen BK161.out 0
         have hfz24_1 := blk_frozen BK161.out 1
         have hfz24_2 := blk_frozen BK161.out 2
         have hfz24_3 := blk_frozen BK161.out 3
         have p162 : 0 ≤ (x3_2 : Int) := of_decide_eq_true (by assumption)
         have q162 : x3_2 < (l0_3.length : Int) := of_decide_eq_true (by assumption)
         obtain ⟨ad162, e162, hx162_0, hx162_1, hx162_2⟩ := at_T46 HR0_3.out x3_2 p162 q162
         cases e162
         replace hx162_0 := (HB.out.cell (World.block_lt_of_cell? w _ hx162_0)).trans hx162_0
         replace hx162_1 := (HB.out.cell (World.block_lt_of_cell? w _ hx162_1)).trans hx162_1
         replace hx162_2 := (HB.out.cell (World.block_lt_of_cell? w _ hx162_2)).trans hx162_2
         replace p162 := eq_true p162
         replace q162 := eq_true q162
         go_wp2_with (first | ((with_reducible refine gate_callee (f := 103) rfl ?_); refine goesL_ (some 53) rfl rfl Try.func103 (by kernel_rfl) rfl #[.agg #[.bool ((rd_T46 l0_3 x3_2).f0), .int .i64 ((rd_T46 l0_3 x3_2).f1), .int .i64 ((rd_T46 l0_3 x3_2).f2)]] rfl (by (try simp only [List.map_toArray, List.map_cons, List.map_nil]); first | done | rfl | (simp only [List.length_drop, List.length_take]; rfl)) ?_; (with_reducible refine (ref06_mayOp.calls ((rd_T46 l0_3 x3_2).f0) ((rd_T46 l0_3 x3_2).f1) ((rd_T46 l0_3 x3_2).f2) false _ A20.out).mono ?_); rintro e w25 ⟨rfl, hb⟩; refine ⟨_, rfl, ?_⟩; have n0_ := Aside0.mk (blk_below (g := gb161) (o := .cells #[.int .i64 a0_0, .int .i64 a0_1, .int .i64 a0_2, .slice (some ad162) l0_3.length c0_3] 44 (0, 0)) (by (with_reducible repeat (first | refine blk_drewN ?_ _ | refine blk_drew ?_ | refine blk_alloc ?_ _)); exact BK161.out) hb); have n1_ := Aside0.mk (below_step (by repeat (first | (with_reducible first | exact HB.out | apply below_alloc | apply pw_below_drewN | apply below_drew1 | refine below_set ?_ GE161.out))) hb); clear BK161; clear HB; have BK161 := n0_; have HB := n1_; clear n0_ n1_; (try clear hb); (try clear hb2); (try clear hk); (try clear hi)))
         go_ret
         exact ⟨by first | rfl | (simp <;> rfl) | (simp [*] <;> rfl), by repeat (first | (with_reducible first | exact HB.out | apply below_alloc | apply pw_below_drewN | apply below_drew1 | refine below_set ?_ GE161.out))⟩
       ·rw [if_neg c19] at H
        exact absurd H (by simp)
      ·rw [if_neg c18] at H
       have c18b0 : decide (x3_2 < (l0_3.length : Int)) = false := decide_eq_false c18
       clear c18
       obtain rfl := Option.some.inj H
       have hcz26_0 : wr.cell? ⟨gb161, 0, none⟩ = some (.int .i64 a0_0) := (blk_cell BK161.out 0).trans rfl
       have hcz26_1 : wr.cell? ⟨gb161, 1, none⟩ = some (.int .i64 a0_1) := (blk_cell BK161.out 1).trans rfl
       have hcz26_2 : wr.cell? ⟨gb161, 2, none⟩ = some (.int .i64 a0_2) := (blk_cell BK161.out 2).trans rfl
       have hcz26_3 : wr.cell? ⟨gb161, 3, none⟩ = some (.slice A0_3 l0_3.length c0_3) := (blk_cell BK161.out 3).trans rfl
       have hfz26_0 := blk_frozen BK161.out 0
       have hfz26_1 := blk_frozen BK161.out 1
       have hfz26_2 := blk_frozen BK161.out 2
       have hfz26_3 := blk_frozen BK161.out 3
       go_wp2
       go_ret
       exact ⟨by first | rfl | (simp <;> rfl) | (simp [*] <;> rfl), by repeat (first | (with_reducible first | exact HB.out | apply below_alloc | apply pw_below_drewN | apply below_drew1 | refine below_set ?_ GE161.out))⟩
mutual
def ref06_times.l0 : Nat → List (S44) → Int → Int → Int → Option (Int)
 | 0, _, _, _, _ => none
 | k + 1, x0, x1, x5, x6 => if x6 < (x0.length : Int) then (ref06_times.l1 k x0 x1 x5 x6 0) else (some x5)
def ref06_times.l1 : Nat → List (S44) → Int → Int → Int → Int → Option (Int)
 | 0, _, _, _, _, _ => none
 | k + 1, x0, x1, x5, x6, x7 => if 0 ≤ x6 then (if x6 < (x0.length : Int) then (if x7 < (((rd_T44 x0 x6).f3).length : Int) then (if 0 ≤ x7 then (if (rd_T46 ((rd_T44 x0 x6).f3) x7).f0 = true then (if ((rd_T46 ((rd_T44 x0 x6).f3) x7).f2) = x1 then (ref06_times.l1 k x0 x1 (wrap64 (x5 + 1)) x6 (wrap64 (x7 + 1))) else (ref06_times.l1 k x0 x1 x5 x6 (wrap64 (x7 + 1)))) else (ref06_times.l1 k x0 x1 x5 x6 (wrap64 (x7 + 1)))) else (none)) else (ref06_times.l0 k x0 x1 x5 (wrap64 (x6 + 1)))) else (none)) else (none)
end
def ref06_times.f (k : Nat) (l0 : List (S44)) (a1 : Int) : Option (Int) := ref06_times.l0 k l0 a1 0 0
theorem ref06_times.mono_l : ∀ k, (∀ y0 y1 y2 y3, LeO (ref06_times.l0 k y0 y1 y2 y3) (ref06_times.l0 (k + 1) y0 y1 y2 y3)) ∧ (∀ y0 y1 y2 y3 y4, LeO (ref06_times.l1 k y0 y1 y2 y3 y4) (ref06_times.l1 (k + 1) y0 y1 y2 y3 y4))
 | 0 => ⟨fun _ _ _ _ r h => by simp [ref06_times.l0] at h, fun _ _ _ _ _ r h => by simp [ref06_times.l1] at h⟩
 | k + 1 => by
  obtain ⟨ih0, ih1⟩ := ref06_times.mono_l k
  refine ⟨?_, ?_⟩
  ·intro y0 y1 y2 y3
   unfold ref06_times.l0
   repeat' first
   | (with_reducible exact ih0 _ _ _ _)
   | (with_reducible exact ih1 _ _ _ _ _)
   | (with_reducible exact LeO.refl _)
   | (with_reducible exact LeO.none _)
   | (with_reducible refine LeO.ite ?_ ?_)
   | (with_reducible refine LeO.bind ?_ (fun _ => ?_))
   | exact ih0 _ _ _ _
   | exact ih1 _ _ _ _ _
   | exact LeO.none _
   | refine LeO.ite ?_ ?_
   | refine LeO.bind ?_ (fun _ => ?_)
  ·intro y0 y1 y2 y3 y4
   unfold ref06_times.l1
   repeat' first
   | (with_reducible exact ih0 _ _ _ _)
   | (with_reducible exact ih1 _ _ _ _ _)
   | (with_reducible exact LeO.refl _)
   | (with_reducible exact LeO.none _)
   | (with_reducible refine LeO.ite ?_ ?_)
   | (with_reducible refine LeO.bind ?_ (fun _ => ?_))
   | exact ih0 _ _ _ _
   | exact ih1 _ _ _ _ _
   | exact LeO.none _
   | refine LeO.ite ?_ ?_
   | refine LeO.bind ?_ (fun _ => ?_)
theorem ref06_times.mono : ∀ a0 a1 k, LeO (ref06_times.f k a0 a1) (ref06_times.f (k + 1) a0 a1) := by
 intro a0 a1 k
 obtain ⟨ih0, ih1⟩ := ref06_times.mono_l k
 unfold ref06_times.f
 repeat' first
   | (with_reducible exact ih0 _ _ _ _)
   | (with_reducible exact ih1 _ _ _ _ _)
   | (with_reducible exact LeO.refl _)
   | (with_reducible exact LeO.none _)
   | (with_reducible refine LeO.ite ?_ ?_)
   | (with_reducible refine LeO.bind ?_ (fun _ => ?_))
   | exact ih0 _ _ _ _
   | exact ih1 _ _ _ _ _
   | exact LeO.none _
   | refine LeO.ite ?_ ?_
   | refine LeO.bind ?_ (fun _ => ?_)
set_option maxHeartbeats 8000000 in
set_option maxRecDepth 100000 in
theorem ref06_times.calls (k : Nat) (A0 : Option Addr) (c0 : Nat) (l0 : List (S44)) (a1 : Int) (r : Int) (w : World) (hr0 : Kd.C k44 w A0 l0.length l0) (hc0 : l0.length ≤ c0) (h : ref06_times.f k l0 a1 = some r) :
  Calls Try.prog 91 #[.slice A0 l0.length c0, .int .i64 a1] w fun e w' => e = .returned (.int .i64 r) ∧ Drawn0 w w' := by
 have HR0 := Aside0.mk hr0
 have HC0 := Aside0.mk hc0
 clear hr0 hc0
 have H : (ref06_times.l0 k l0 a1 0 0) = some r := h
 clear h
 have H' := Aside0.mk H
 clear H
 go_enter Try.func91, Try.ntmps91
 go_wp2
 go_loopg [5, 6] k (fun kq v5 v6 w' => ∃ (x5_1 : Int) (x6_1 : Int), v5 = .int .i64 x5_1 ∧ v6 = .int .i64 x6_1 ∧ Aside0 (ref06_times.l0 kq l0 a1 x5_1 x6_1 = some r) ∧ Aside0 (kq ≤ k) ∧ Drawn0 w w')
 case atStart => exact ⟨(0), (0), (by first | rfl | (simp; done) | (simp [*]; done)), (by first | rfl | (simp; done) | (simp [*]; done)), H', ⟨Nat.le_refl _⟩, by repeat (first | exact Drawn0.refl _ | apply Drawn0.step)⟩
 case round =>
  clear H'
  try clear p2
  obtain ⟨x5_1, x6_1, rfl, rfl, HA, HK1, ⟨m1, rfl⟩⟩ := hrel
  cases gk with
  | zero => exact absurd HA.out (by simp [ref06_times.l0])
  | succ k1 =>
   have H := HA.out
   clear HA
   simp only [ref06_times.l0] at H
   by_cases c3 : x6_1 < (l0.length : Int)
   ·rw [if_pos c3] at H
    have c3b0 : decide (x6_1 < (l0.length : Int)) = true := decide_eq_true c3
    clear c3
    have H' := Aside0.mk H
    clear H
    go_wp2
    go_loopg [5, 7] k1 (fun kq v5 v7 w' => ∃ (x5_2 : Int) (x7_2 : Int), v5 = .int .i64 x5_2 ∧ v7 = .int .i64 x7_2 ∧ Aside0 (ref06_times.l1 kq l0 a1 x5_2 x6_1 x7_2 = some r) ∧ Aside0 (kq ≤ k1) ∧ Drawn0 w w')
    case atStart => exact ⟨(x5_1), (0), (by first | rfl | (simp; done) | (simp [*]; done)), (by first | rfl | (simp; done) | (simp [*]; done)), H', ⟨Nat.le_refl _⟩, by repeat (first | exact Drawn0.refl _ | apply Drawn0.step)⟩
    case round =>
     clear H'
     try clear p2
     try clear c3
     try clear c3b0
     try clear p2
     obtain ⟨x5_2, x7_2, rfl, rfl, HA, HK2, ⟨m2, rfl⟩⟩ := hrel
     cases gk with
     | zero => exact absurd HA.out (by simp [ref06_times.l1])
     | succ k2 =>
      have H := HA.out
      clear HA
      simp only [ref06_times.l1] at H
      by_cases c4 : 0 ≤ x6_1
      ·rw [if_pos c4] at H
       have c4b0 : decide (0 ≤ x6_1) = true := decide_eq_true c4
       clear c4
       by_cases c5 : x6_1 < (l0.length : Int)
       ·rw [if_pos c5] at H
        have c5b0 : decide (x6_1 < (l0.length : Int)) = true := decide_eq_true c5
        clear c5
        by_cases c6 : x7_2 < (((rd_T44 l0 x6_1).f3).length : Int)
        ·rw [if_pos c6] at H
         have c6b0 : decide (x7_2 < (((rd_T44 l0 x6_1).f3).length : Int)) = true := decide_eq_true c6
         clear c6
         by_cases c7 : 0 ≤ x7_2
         ·rw [if_pos c7] at H
          have c7b0 : decide (0 ≤ x7_2) = true := decide_eq_true c7
          clear c7
          obtain ⟨bq8, hbq8⟩ : ∃ b_ : Bool, b_ = ((rd_T46 ((rd_T44 l0 x6_1).f3) x7_2).f0) := ⟨_, rfl⟩
          replace H : (if bq8 = true then (if ((rd_T46 ((rd_T44 l0 x6_1).f3) x7_2).f2) = a1 then (ref06_times.l1 k2 l0 a1 (wrap64 (x5_2 + 1)) x6_1 (wrap64 (x7_2 + 1))) else (ref06_times.l1 k2 l0 a1 x5_2 x6_1 (wrap64 (x7_2 + 1)))) else (ref06_times.l1 k2 l0 a1 x5_2 x6_1 (wrap64 (x7_2 + 1)))) = some r := by rw [← hbq8] at H; exact H
          have Nbq8 := Aside0.mk hbq8
          clear hbq8
          by_cases c9 : bq8 = true
          ·subst c9
           have H1 : (if ((rd_T46 ((rd_T44 l0 x6_1).f3) x7_2).f2) = a1 then (ref06_times.l1 k2 l0 a1 (wrap64 (x5_2 + 1)) x6_1 (wrap64 (x7_2 + 1))) else (ref06_times.l1 k2 l0 a1 x5_2 x6_1 (wrap64 (x7_2 + 1)))) = some r := by rw [if_pos rfl] at H; exact H
           clear H
           have H := H1
           clear H1
           by_cases c10 : ((rd_T46 ((rd_T44 l0 x6_1).f3) x7_2).f2) = a1
           ·rw [if_pos c10] at H
            have c10b0 : (((rd_T46 ((rd_T44 l0 x6_1).f3) x7_2).f2) == a1) = true := beq_iff_eq.mpr c10
            have c10b1 : (((rd_T46 ((rd_T44 l0 x6_1).f3) x7_2).f2) != a1) = false := bne_eq_false_iff_eq.mpr c10
            clear c10
            have H' := Aside0.mk H
            clear H
            have p164 : 0 ≤ (x6_1 : Int) := of_decide_eq_true (by assumption)
            have q164 : x6_1 < (l0.length : Int) := of_decide_eq_true (by assumption)
            obtain ⟨ad164, A164_3, c164_3, e164, hx164_0, hx164_1, hx164_2, hx164_3, hl164_3, hi164_3⟩ := at_T44 HR0.out x6_1 p164 q164
            cases e164
            have HR164_3 := Aside0.mk hi164_3
            have HC164_3 := Aside0.mk hl164_3
            clear hi164_3 hl164_3
            replace p164 := eq_true p164
            replace q164 := eq_true q164
            have p165 : 0 ≤ (x6_1 : Int) := of_decide_eq_true (by assumption)
            have q165 : x6_1 < (l0.length : Int) := of_decide_eq_true (by assumption)
            obtain ⟨ad165, A165_3, c165_3, e165, hx165_0, hx165_1, hx165_2, hx165_3, hl165_3, hi165_3⟩ := at_T44 HR0.out x6_1 p165 q165
            obtain rfl : ad164 = ad165 := (by injection e165)
            have HR165_3 := Aside0.mk hi165_3
            have HC165_3 := Aside0.mk hl165_3
            clear hi165_3 hl165_3
            replace p165 := eq_true p165
            replace q165 := eq_true q165
            have ea_ := Option.some.inj (hx164_3.symm.trans hx165_3)
            injection ea_ with ea_ en_ ec_
            subst ea_
            subst ec_
            clear en_
            have p166 : 0 ≤ (x7_2 : Int) := of_decide_eq_true (by assumption)
            have q166 : x7_2 < (((rd_T44 l0 x6_1).f3).length : Int) := of_decide_eq_true (by assumption)
            obtain ⟨ad166, e166, hx166_0, hx166_1, hx166_2⟩ := at_T46 HR165_3.out x7_2 p166 q166
            (try rw [← Nbq8.out] at hx166_0)
            cases e166
            replace p166 := eq_true p166
            replace q166 := eq_true q166
            have p167 : 0 ≤ (x6_1 : Int) := of_decide_eq_true (by assumption)
            have q167 : x6_1 < (l0.length : Int) := of_decide_eq_true (by assumption)
            obtain ⟨ad167, A167_3, c167_3, e167, hx167_0, hx167_1, hx167_2, hx167_3, hl167_3, hi167_3⟩ := at_T44 HR0.out x6_1 p167 q167
            obtain rfl : ad164 = ad167 := (by injection e167)
            have HR167_3 := Aside0.mk hi167_3
            have HC167_3 := Aside0.mk hl167_3
            clear hi167_3 hl167_3
            replace p167 := eq_true p167
            replace q167 := eq_true q167
            have ea_ := Option.some.inj (hx164_3.symm.trans hx167_3)
            injection ea_ with ea_ en_ ec_
            subst ea_
            subst ec_
            clear en_
            have p168 : 0 ≤ (x7_2 : Int) := of_decide_eq_true (by assumption)
            have q168 : x7_2 < (((rd_T44 l0 x6_1).f3).length : Int) := of_decide_eq_true (by assumption)
            obtain ⟨ad168, e168, hx168_0, hx168_1, hx168_2⟩ := at_T46 HR167_3.out x7_2 p168 q168
            (try rw [← Nbq8.out] at hx168_0)
            cases e168
            replace p168 := eq_true p168
            replace q168 := eq_true q168
            go_wp2
            go_roundg k2
            case measure => have := HK1.out; have := HK2.out; omega
            case rel => (try rw [← Nbq8.out]); exact ⟨(wrap64 (x5_2 + 1)), (wrap64 (x7_2 + 1)), (by first | rfl | (simp; done) | (simp [*]; done)), (by first | rfl | (simp; done) | (simp [*]; done)), H', ⟨by have := HK1.out; have := HK2.out; omega⟩, by repeat (first | exact Drawn0.refl _ | apply Drawn0.step)⟩
           ·rw [if_neg c10] at H
            have c10b0 : (((rd_T46 ((rd_T44 l0 x6_1).f3) x7_2).f2) == a1) = false := beq_eq_false_iff_ne.mpr c10
            have c10b1 : (((rd_T46 ((rd_T44 l0 x6_1).f3) x7_2).f2) != a1) = true := bne_iff_ne.mpr c10
            have H' := Aside0.mk H
            clear H
            have p164 : 0 ≤ (x6_1 : Int) := of_decide_eq_true (by assumption)
            have q164 : x6_1 < (l0.length : Int) := of_decide_eq_true (by assumption)
            obtain ⟨ad164, A164_3, c164_3, e164, hx164_0, hx164_1, hx164_2, hx164_3, hl164_3, hi164_3⟩ := at_T44 HR0.out x6_1 p164 q164
            cases e164
            have HR164_3 := Aside0.mk hi164_3
            have HC164_3 := Aside0.mk hl164_3
            clear hi164_3 hl164_3
            replace p164 := eq_true p164
            replace q164 := eq_true q164
            have p165 : 0 ≤ (x6_1 : Int) := of_decide_eq_true (by assumption)
            have q165 : x6_1 < (l0.length : Int) := of_decide_eq_true (by assumption)
            obtain ⟨ad165, A165_3, c165_3, e165, hx165_0, hx165_1, hx165_2, hx165_3, hl165_3, hi165_3⟩ := at_T44 HR0.out x6_1 p165 q165
            obtain rfl : ad164 = ad165 := (by injection e165)
            have HR165_3 := Aside0.mk hi165_3
            have HC165_3 := Aside0.mk hl165_3
            clear hi165_3 hl165_3
            replace p165 := eq_true p165
            replace q165 := eq_true q165
            have ea_ := Option.some.inj (hx164_3.symm.trans hx165_3)
            injection ea_ with ea_ en_ ec_
            subst ea_
            subst ec_
            clear en_
            have p166 : 0 ≤ (x7_2 : Int) := of_decide_eq_true (by assumption)
            have q166 : x7_2 < (((rd_T44 l0 x6_1).f3).length : Int) := of_decide_eq_true (by assumption)
            obtain ⟨ad166, e166, hx166_0, hx166_1, hx166_2⟩ := at_T46 HR165_3.out x7_2 p166 q166
            (try rw [← Nbq8.out] at hx166_0)
            cases e166
            replace p166 := eq_true p166
            replace q166 := eq_true q166
            have p167 : 0 ≤ (x6_1 : Int) := of_decide_eq_true (by assumption)
            have q167 : x6_1 < (l0.length : Int) := of_decide_eq_true (by assumption)
            obtain ⟨ad167, A167_3, c167_3, e167, hx167_0, hx167_1, hx167_2, hx167_3, hl167_3, hi167_3⟩ := at_T44 HR0.out x6_1 p167 q167
            obtain rfl : ad164 = ad167 := (by injection e167)
            have HR167_3 := Aside0.mk hi167_3
            have HC167_3 := Aside0.mk hl167_3
            clear hi167_3 hl167_3
            replace p167 := eq_true p167
            replace q167 := eq_true q167
            have ea_ := Option.some.inj (hx164_3.symm.trans hx167_3)
            injection ea_ with ea_ en_ ec_
            subst ea_
            subst ec_
            clear en_
            have p168 : 0 ≤ (x7_2 : Int) := of_decide_eq_true (by assumption)
            have q168 : x7_2 < (((rd_T44 l0 x6_1).f3).length : Int) := of_decide_eq_true (by assumption)
            obtain ⟨ad168, e168, hx168_0, hx168_1, hx168_2⟩ := at_T46 HR167_3.out x7_2 p168 q168
            (try rw [← Nbq8.out] at hx168_0)
            cases e168
            replace p168 := eq_true p168
            replace q168 := eq_true q168
            go_wp2
            go_roundg k2
            case measure => have := HK1.out; have := HK2.out; omega
            case rel => (try rw [← Nbq8.out]); exact ⟨(x5_2), (wrap64 (x7_2 + 1)), (by first | rfl | (simp; done) | (simp [*]; done)), (by first | rfl | (simp; done) | (simp [*]; done)), H', ⟨by have := HK1.out; have := HK2.out; omega⟩, by repeat (first | exact Drawn0.refl _ | apply Drawn0.step)⟩
          ·replace c9 := Bool.eq_false_iff.mpr c9
           subst c9
           have H1 : (ref06_times.l1 k2 l0 a1 x5_2 x6_1 (wrap64 (x7_2 + 1))) = some r := by rw [if_neg (show ¬ (false = true) by decide)] at H; exact H
           clear H
           have H := H1
           clear H1
           have H' := Aside0.mk H
           clear H
           have p164 : 0 ≤ (x6_1 : Int) := of_decide_eq_true (by assumption)
           have q164 : x6_1 < (l0.length : Int) := of_decide_eq_true (by assumption)
           obtain ⟨ad164, A164_3, c164_3, e164, hx164_0, hx164_1, hx164_2, hx164_3, hl164_3, hi164_3⟩ := at_T44 HR0.out x6_1 p164 q164
           cases e164
           have HR164_3 := Aside0.mk hi164_3
           have HC164_3 := Aside0.mk hl164_3
           clear hi164_3 hl164_3
           replace p164 := eq_true p164
           replace q164 := eq_true q164
           have p165 : 0 ≤ (x6_1 : Int) := of_decide_eq_true (by assumption)
           have q165 : x6_1 < (l0.length : Int) := of_decide_eq_true (by assumption)
           obtain ⟨ad165, A165_3, c165_3, e165, hx165_0, hx165_1, hx165_2, hx165_3, hl165_3, hi165_3⟩ := at_T44 HR0.out x6_1 p165 q165
           obtain rfl : ad164 = ad165 := (by injection e165)
           have HR165_3 := Aside0.mk hi165_3
           have HC165_3 := Aside0.mk hl165_3
           clear hi165_3 hl165_3
           replace p165 := eq_true p165
           replace q165 := eq_true q165
           have ea_ := Option.some.inj (hx164_3.symm.trans hx165_3)
           injection ea_ with ea_ en_ ec_
           subst ea_
           subst ec_
           clear en_
           have p166 : 0 ≤ (x7_2 : Int) := of_decide_eq_true (by assumption)
           have q166 : x7_2 < (((rd_T44 l0 x6_1).f3).length : Int) := of_decide_eq_true (by assumption)
           obtain ⟨ad166, e166, hx166_0, hx166_1, hx166_2⟩ := at_T46 HR165_3.out x7_2 p166 q166
           (try rw [← Nbq8.out] at hx166_0)
           cases e166
           replace p166 := eq_true p166
           replace q166 := eq_true q166
           go_wp2
           go_roundg k2
           case measure => have := HK1.out; have := HK2.out; omega
           case rel => (try rw [← Nbq8.out]); exact ⟨(x5_2), (wrap64 (x7_2 + 1)), (by first | rfl | (simp; done) | (simp [*]; done)), (by first | rfl | (simp; done) | (simp [*]; done)), H', ⟨by have := HK1.out; have := HK2.out; omega⟩, by repeat (first | exact Drawn0.refl _ | apply Drawn0.step)⟩
         ·rw [if_neg c7] at H
          exact absurd H (by simp)
        ·rw [if_neg c6] at H
         have c6b0 : decide (x7_2 < (((rd_T44 l0 x6_1).f3).length : Int)) = false := decide_eq_false c6
         clear c6
         have H' := Aside0.mk H
         clear H
         have p164 : 0 ≤ (x6_1 : Int) := of_decide_eq_true (by assumption)
         have q164 : x6_1 < (l0.length : Int) := of_decide_eq_true (by assumption)
         obtain ⟨ad164, A164_3, c164_3, e164, hx164_0, hx164_1, hx164_2, hx164_3, hl164_3, hi164_3⟩ := at_T44 HR0.out x6_1 p164 q164
         cases e164
         have HR164_3 := Aside0.mk hi164_3
         have HC164_3 := Aside0.mk hl164_3
         clear hi164_3 hl164_3
         replace p164 := eq_true p164
         replace q164 := eq_true q164
         go_wp2
         go_roundg k2
         case measure => have := HK1.out; have := HK2.out; omega
         case rel => exact ⟨(x5_2), (wrap64 (x6_1 + 1)), (by first | rfl | (simp; done) | (simp [*]; done)), (by first | rfl | (simp; done) | (simp [*]; done)), H', ⟨by have := HK1.out; have := HK2.out; omega⟩, by repeat (first | exact Drawn0.refl _ | apply Drawn0.step)⟩
       ·rw [if_neg c5] at H
        exact absurd H (by simp)
      ·rw [if_neg c4] at H
       exact absurd H (by simp)
   ·rw [if_neg c3] at H
    have c3b0 : decide (x6_1 < (l0.length : Int)) = false := decide_eq_false c3
    clear c3
    obtain rfl := Option.some.inj H
    go_wp2
    go_ret
    exact ⟨by first | rfl | (simp; done) | (simp [*]; done), by repeat (first | exact Drawn0.refl _ | apply Drawn0.step)⟩
end Go.Proofs.Ytfocaefnmfkojaa.Q
namespace Go.Proofs.Ytfocaefnmfkojaa.Q
open Go.RowKit Go.Proofs.YtfocaefnmfkojaaW.PrintWords Go.Proofs.YtfocaefnmfkojaaW.PrintLast Go.Proofs.YtfocaefnmfkojaaW.PrintMore
attribute [local go_sem] max2_int min2_int max_two min_two max_three min_three max_four min_four   -- for this text's walks alone
set_option linter.unusedVariables false
set_option linter.unusedSimpArgs false
mutual
def ref06_May.l0 : Nat → List (S44) → Int → Option (Bool)
 | 0, _, _ => none
 | k + 1, x0, x3 => if x3 < (x0.length : Int) then (if 0 ≤ x3 then ((ref06_mayTxn.f k ((rd_T44 x0 x3).f0) ((rd_T44 x0 x3).f1) ((rd_T44 x0 x3).f2) ((rd_T44 x0 x3).f3)).bind fun t170 => (if t170 = true then (ref06_May.l1 k x0 x3 0) else (some false))) else (none)) else (some true)
def ref06_May.l1 : Nat → List (S44) → Int → Int → Option (Bool)
 | 0, _, _, _ => none
 | k + 1, x0, x3, x4 => if x4 < x3 then (if 0 ≤ x4 then (if x4 < (x0.length : Int) then (if 0 ≤ x3 then (if x3 < (x0.length : Int) then (if ((rd_T44 x0 x4).f1) = ((rd_T44 x0 x3).f1) then (ref06_May.j2 k x0 x3 x4 true ((rd_T44 x0 x4).f0) ((rd_T44 x0 x4).f1) ((rd_T44 x0 x4).f2) ((rd_T44 x0 x4).f3) ((rd_T44 x0 x3).f0) ((rd_T44 x0 x3).f1) ((rd_T44 x0 x3).f2) ((rd_T44 x0 x3).f3)) else (if ((rd_T44 x0 x4).f1) = ((rd_T44 x0 x3).f2) then (ref06_May.j2 k x0 x3 x4 true ((rd_T44 x0 x4).f0) ((rd_T44 x0 x4).f1) ((rd_T44 x0 x4).f2) ((rd_T44 x0 x4).f3) ((rd_T44 x0 x3).f0) ((rd_T44 x0 x3).f1) ((rd_T44 x0 x3).f2) ((rd_T44 x0 x3).f3)) else (if ((rd_T44 x0 x4).f2) = ((rd_T44 x0 x3).f1) then (ref06_May.j2 k x0 x3 x4 true ((rd_T44 x0 x4).f0) ((rd_T44 x0 x4).f1) ((rd_T44 x0 x4).f2) ((rd_T44 x0 x4).f3) ((rd_T44 x0 x3).f0) ((rd_T44 x0 x3).f1) ((rd_T44 x0 x3).f2) ((rd_T44 x0 x3).f3)) else (ref06_May.j2 k x0 x3 x4 (((rd_T44 x0 x4).f2) == ((rd_T44 x0 x3).f2)) ((rd_T44 x0 x4).f0) ((rd_T44 x0 x4).f1) ((rd_T44 x0 x4).f2) ((rd_T44 x0 x4).f3) ((rd_T44 x0 x3).f0) ((rd_T44 x0 x3).f1) ((rd_T44 x0 x3).f2) ((rd_T44 x0 x3).f3))))) else (none)) else (none)) else (none)) else (none)) else (ref06_May.l2 k x0 x3 0)
def ref06_May.j2 : Nat → List (S44) → Int → Int → Bool → Int → Int → Int → List (S46) → Int → Int → Int → List (S46) → Option (Bool)
 | 0, _, _, _, _, _, _, _, _, _, _, _, _ => none
 | k + 1, x0, x3, x4, x59, x173000, x173001, x173002, x173003, x175000, x175001, x175002, x175003 => if x59 = true then (some false) else (if x173000 = x175000 then (if x173002 > x175001 then (some false) else (ref06_May.l1 k x0 x3 (wrap64 (x4 + 1)))) else (ref06_May.l1 k x0 x3 (wrap64 (x4 + 1))))
def ref06_May.l2 : Nat → List (S44) → Int → Int → Option (Bool)
 | 0, _, _, _ => none
 | k + 1, x0, x3, x7 => if 0 ≤ x3 then (if x3 < (x0.length : Int) then (if x7 < (((rd_T44 x0 x3).f3).length : Int) then (if 0 ≤ x7 then (if (rd_T46 ((rd_T44 x0 x3).f3) x7).f0 = true then ((ref06_times.f k x0 ((rd_T46 ((rd_T44 x0 x3).f3) x7).f2)).bind fun t179 => (ref06_May.j4 k x0 x3 x7 (t179 != 1) ((rd_T46 ((rd_T44 x0 x3).f3) x7).f0) ((rd_T46 ((rd_T44 x0 x3).f3) x7).f1) ((rd_T46 ((rd_T44 x0 x3).f3) x7).f2))) else (ref06_May.j4 k x0 x3 x7 false ((rd_T46 ((rd_T44 x0 x3).f3) x7).f0) ((rd_T46 ((rd_T44 x0 x3).f3) x7).f1) ((rd_T46 ((rd_T44 x0 x3).f3) x7).f2))) else (none)) else (ref06_May.l0 k x0 (wrap64 (x3 + 1)))) else (none)) else (none)
def ref06_May.j4 : Nat → List (S44) → Int → Int → Bool → Bool → Int → Int → Option (Bool)
 | 0, _, _, _, _, _, _, _ => none
 | k + 1, x0, x3, x7, x98, x179000, x179001, x179002 => if x98 = true then (some false) else (if x179000 = true then (ref06_May.l2 k x0 x3 (wrap64 (x7 + 1))) else (if x179002 = 0 then (ref06_May.l2 k x0 x3 (wrap64 (x7 + 1))) else ((ref06_Writer.f k x0 x179001 x179002).bind fun t180 => (if t180 < 0 then (some false) else (ref06_May.l2 k x0 x3 (wrap64 (x7 + 1)))))))
end
def ref06_May.f (k : Nat) (l0 : List (S44)) : Option (Bool) := ref06_May.l0 k l0 0
theorem ref06_May.mono_l : ∀ k, (∀ y0 y1, LeO (ref06_May.l0 k y0 y1) (ref06_May.l0 (k + 1) y0 y1)) ∧ (∀ y0 y1 y2, LeO (ref06_May.l1 k y0 y1 y2) (ref06_May.l1 (k + 1) y0 y1 y2)) ∧ (∀ y0 y1 y2 y3 y4 y5 y6 y7 y8 y9 y10 y11, LeO (ref06_May.j2 k y0 y1 y2 y3 y4 y5 y6 y7 y8 y9 y10 y11) (ref06_May.j2 (k + 1) y0 y1 y2 y3 y4 y5 y6 y7 y8 y9 y10 y11)) ∧ (∀ y0 y1 y2, LeO (ref06_May.l2 k y0 y1 y2) (ref06_May.l2 (k + 1) y0 y1 y2)) ∧ (∀ y0 y1 y2 y3 y4 y5 y6, LeO (ref06_May.j4 k y0 y1 y2 y3 y4 y5 y6) (ref06_May.j4 (k + 1) y0 y1 y2 y3 y4 y5 y6))
 | 0 => ⟨fun _ _ r h => by simp [ref06_May.l0] at h, fun _ _ _ r h => by simp [ref06_May.l1] at h, fun _ _ _ _ _ _ _ _ _ _ _ _ r h => by simp [ref06_May.j2] at h, fun _ _ _ r h => by simp [ref06_May.l2] at h, fun _ _ _ _ _ _ _ r h => by simp [ref06_May.j4] at h⟩
 | k + 1 => by
  obtain ⟨ih0, ih1, ih2, ih3, ih4⟩ := ref06_May.mono_l k
  refine ⟨?_, ?_, ?_, ?_, ?_⟩
  ·intro y0 y1
   unfold ref06_May.l0
   repeat' first
   | (with_reducible exact ih0 _ _)
   | (with_reducible exact ih1 _ _ _)
   | (with_reducible exact ih2 _ _ _ _ _ _ _ _ _ _ _ _)
   | (with_reducible exact ih3 _ _ _)
   | (with_reducible exact ih4 _ _ _ _ _ _ _)
   | (with_reducible exact ref06_Writer.mono _ _ _ _)
   | (with_reducible exact ref06_mayTxn.mono _ _ _ _ _)
   | (with_reducible exact ref06_times.mono _ _ _)
   | (with_reducible exact LeO.refl _)
   | (with_reducible exact LeO.none _)
   | (with_reducible refine LeO.ite ?_ ?_)
   | (with_reducible refine LeO.bind ?_ (fun _ => ?_))
   | exact ih0 _ _
   | exact ih1 _ _ _
   | exact ih2 _ _ _ _ _ _ _ _ _ _ _ _
   | exact ih3 _ _ _
   | exact ih4 _ _ _ _ _ _ _
   | exact ref06_Writer.mono _ _ _ _
   | exact ref06_mayTxn.mono _ _ _ _ _
   | exact ref06_times.mono _ _ _
   | exact LeO.none _
   | refine LeO.ite ?_ ?_
   | refine LeO.bind ?_ (fun _ => ?_)
  ·intro y0 y1 y2
   unfold ref06_May.l1
   repeat' first
   | (with_reducible exact ih0 _ _)
   | (with_reducible exact ih1 _ _ _)
   | (with_reducible exact ih2 _ _ _ _ _ _ _ _ _ _ _ _)
   | (with_reducible exact ih3 _ _ _)
   | (with_reducible exact ih4 _ _ _ _ _ _ _)
   | (with_reducible exact ref06_Writer.mono _ _ _ _)
   | (with_reducible exact ref06_mayTxn.mono _ _ _ _ _)
   | (with_reducible exact ref06_times.mono _ _ _)
   | (with_reducible exact LeO.refl _)
   | (with_reducible exact LeO.none _)
   | (with_reducible refine LeO.ite ?_ ?_)
   | (with_reducible refine LeO.bind ?_ (fun _ => ?_))
   | exact ih0 _ _
   | exact ih1 _ _ _
   | exact ih2 _ _ _ _ _ _ _ _ _ _ _ _
   | exact ih3 _ _ _
   | exact ih4 _ _ _ _ _ _ _
   | exact ref06_Writer.mono _ _ _ _
   | exact ref06_mayTxn.mono _ _ _ _ _
   | exact ref06_times.mono _ _ _
   | exact LeO.none _
   | refine LeO.ite ?_ ?_
   | refine LeO.bind ?_ (fun _ => ?_)
  ·intro y0 y1 y2 y3 y4 y5 y6 y7 y8 y9 y10 y11
   unfold ref06_May.j2
   repeat' first
   | (with_reducible exact ih0 _ _)
   | (with_reducible exact ih1 _ _ _)
   | (with_reducible exact ih2 _ _ _ _ _ _ _ _ _ _ _ _)
   | (with_reducible exact ih3 _ _ _)
   | (with_reducible exact ih4 _ _ _ _ _ _ _)
   | (with_reducible exact ref06_Writer.mono _ _ _ _)
   | (with_reducible exact ref06_mayTxn.mono _ _ _ _ _)
   | (with_reducible exact ref06_times.mono _ _ _)
   | (with_reducible exact LeO.refl _)
   | (with_reducible exact LeO.none _)
   | (with_reducible refine LeO.ite ?_ ?_)
   | (with_reducible refine LeO.bind ?_ (fun _ => ?_))
   | exact ih0 _ _
   | exact ih1 _ _ _
   | exact ih2 _ _ _ _ _ _ _ _ _ _ _ _
   | exact ih3 _ _ _
   | exact ih4 _ _ _ _ _ _ _
   | exact ref06_Writer.mono _ _ _ _
   | exact ref06_mayTxn.mono _ _ _ _ _
   | exact ref06_times.mono _ _ _
   | exact LeO.none _
   | refine LeO.ite ?_ ?_
   | refine LeO.bind ?_ (fun _ => ?_)
  ·intro y0 y1 y2
   unfold ref06_May.l2
   repeat' first
   | (with_reducible exact ih0 _ _)
   | (with_reducible exact ih1 _ _ _)
   | (with_reducible exact ih2 _ _ _ _ _ _ _ _ _ _ _ _)
   | (with_reducible exact ih3 _ _ _)
   | (with_reducible exact ih4 _ _ _ _ _ _ _)
   | (with_reducible exact ref06_Writer.mono _ _ _ _)
   | (with_reducible exact ref06_mayTxn.mono _ _ _ _ _)
   | (with_reducible exact ref06_times.mono _ _ _)
   | (with_reducible exact LeO.refl _)
   | (with_reducible exact LeO.none _)
   | (with_reducible refine LeO.ite ?_ ?_)
   | (with_reducible refine LeO.bind ?_ (fun _ => ?_))
   | exact ih0 _ _
   | exact ih1 _ _ _
   | exact ih2 _ _ _ _ _ _ _ _ _ _ _ _
   | exact ih3 _ _ _
   | exact ih4 _ _ _ _ _ _ _
   | exact ref06_Writer.mono _ _ _ _
   | exact ref06_mayTxn.mono _ _ _ _ _
   | exact ref06_times.mono _ _ _
   | exact LeO.none _
   | refine LeO.ite ?_ ?_
   | refine LeO.bind ?_ (fun _ => ?_)
  ·intro y0 y1 y2 y3 y4 y5 y6
   unfold ref06_May.j4
   repeat' first
   | (with_reducible exact ih0 _ _)
   | (with_reducible exact ih1 _ _ _)
   | (with_reducible exact ih2 _ _ _ _ _ _ _ _ _ _ _ _)
   | (with_reducible exact ih3 _ _ _)
   | (with_reducible exact ih4 _ _ _ _ _ _ _)
   | (with_reducible exact ref06_Writer.mono _ _ _ _)
   | (with_reducible exact ref06_mayTxn.mono _ _ _ _ _)
   | (with_reducible exact ref06_times.mono _ _ _)
   | (with_reducible exact LeO.refl _)
   | (with_reducible exact LeO.none _)
   | (with_reducible refine LeO.ite ?_ ?_)
   | (with_reducible refine LeO.bind ?_ (fun _ => ?_))
   | exact ih0 _ _
   | exact ih1 _ _ _
   | exact ih2 _ _ _ _ _ _ _ _ _ _ _ _
   | exact ih3 _ _ _
   | exact ih4 _ _ _ _ _ _ _
   | exact ref06_Writer.mono _ _ _ _
   | exact ref06_mayTxn.mono _ _ _ _ _
   | exact ref06_times.mono _ _ _
   | exact LeO.none _
   | refine LeO.ite ?_ ?_
   | refine LeO.bind ?_ (fun _ => ?_)
theorem ref06_May.mono : ∀ a0 k, LeO (ref06_May.f k a0) (ref06_May.f (k + 1) a0) := by
 intro a0 k
 obtain ⟨ih0, ih1, ih2, ih3, ih4⟩ := ref06_May.mono_l k
 unfold ref06_May.f
 repeat' first
   | (with_reducible exact ih0 _ _)
   | (with_reducible exact ih1 _ _ _)
   | (with_reducible exact ih2 _ _ _ _ _ _ _ _ _ _ _ _)
   | (with_reducible exact ih3 _ _ _)
   | (with_reducible exact ih4 _ _ _ _ _ _ _)
   | (with_reducible exact ref06_Writer.mono _ _ _ _)
   | (with_reducible exact ref06_mayTxn.mono _ _ _ _ _)
   | (with_reducible exact ref06_times.mono _ _ _)
   | (with_reducible exact LeO.refl _)
   | (with_reducible exact LeO.none _)
   | (with_reducible refine LeO.ite ?_ ?_)
   | (with_reducible refine LeO.bind ?_ (fun _ => ?_))
   | exact ih0 _ _
   | exact ih1 _ _ _
   | exact ih2 _ _ _ _ _ _ _ _ _ _ _ _
   | exact ih3 _ _ _
   | exact ih4 _ _ _ _ _ _ _
   | exact ref06_Writer.mono _ _ _ _
   | exact ref06_mayTxn.mono _ _ _ _ _
   | exact ref06_times.mono _ _ _
   | exact LeO.none _
   | refine LeO.ite ?_ ?_
   | refine LeO.bind ?_ (fun _ => ?_)
set_option maxHeartbeats 8000000 in
set_option maxRecDepth 100000 in
theorem ref06_May.calls (k : Nat) (A0 : Option Addr) (c0 : Nat) (l0 : List (S44)) (r : Bool) (w : World) (hr0 : Kd.C k44 w A0 l0.length l0) (hc0 : l0.length ≤ c0) (h : ref06_May.f k l0 = some r) :
  Calls Try.prog 57 #[.slice A0 l0.length c0] w fun e w' => e = .returned (.bool r) ∧ Below w.heap.size w w' := by
 have hu44 := Try.underlying44
 have hu46 := Try.underlying46
 have HR0 := Aside0.mk hr0
 have HC0 := Aside0.mk hc0
 clear hr0 hc0
 have HB := Aside0.mk (Below.refl w.heap.size w)
 have H : (ref06_May.l0 k l0 0) = some r := h
 clear h
 have H' := Aside0.mk H
 clear H
 go_enter Try.func57, Try.ntmps57
 go_wp2
 go_loopg [3] k (fun kq v3 w' => ∃ (x3_1 : Int), v3 = .int .i64 x3_1 ∧ Aside0 (ref06_May.l0 kq l0 x3_1 = some r) ∧ Aside0 (kq ≤ k) ∧ Aside0 (Below w.heap.size w w'))
 case atStart => exact ⟨(0), (by first | rfl | (simp; done) | (simp [*]; done)), H', ⟨Nat.le_refl _⟩, ⟨by repeat (first | (with_reducible first | exact HB.out | apply below_alloc | apply pw_below_drewN | apply below_drew1))⟩⟩
 case round =>
  clear H'
  obtain ⟨x3_1, rfl, HA, HK1, HB⟩ := hrel
  cases gk with
  | zero => exact absurd HA.out (by simp [ref06_May.l0])
  | succ k1 =>
   have H := HA.out
   clear HA
   simp only [ref06_May.l0] at H
   by_cases c2 : x3_1 < (l0.length : Int)
   ·rw [if_pos c2] at H
    have c2b0 : decide (x3_1 < (l0.length : Int)) = true := decide_eq_true c2
    clear c2
    by_cases c3 : 0 ≤ x3_1
    ·rw [if_pos c3] at H
     have c3b0 : decide (0 ≤ x3_1) = true := decide_eq_true c3
     clear c3
     replace H := Option.bind_eq_some_iff.mp H
     obtain ⟨t170, A40, H⟩ := H
     replace H : (if t170 = true then (ref06_May.l1 k1 l0 x3_1 0) else (some false)) = some r := H
     have A4 := Aside0.mk A40
     clear A40
     by_cases c5 : t170 = true
     ·subst c5
      have H1 : (ref06_May.l1 k1 l0 x3_1 0) = some r := by rw [if_pos rfl] at H; exact H
      clear H
      have H := H1
      clear H1
      have H' := Aside0.mk H
      clear H
      have p169 : 0 ≤ (x3_1 : Int) := of_decide_eq_true (by assumption)
      have q169 : x3_1 < (l0.length : Int) := of_decide_eq_true (by assumption)
      obtain ⟨ad169, A169_3, c169_3, e169, hx169_0, hx169_1, hx169_2, hx169_3, hl169_3, hi169_3⟩ := at_T44 HR0.out x3_1 p169 q169
      cases e169
      replace hx169_0 := (HB.out.cell (World.block_lt_of_cell? w _ hx169_0)).trans hx169_0
      replace hx169_1 := (HB.out.cell (World.block_lt_of_cell? w _ hx169_1)).trans hx169_1
      replace hx169_2 := (HB.out.cell (World.block_lt_of_cell? w _ hx169_2)).trans hx169_2
      replace hx169_3 := (HB.out.cell (World.block_lt_of_cell? w _ hx169_3)).trans hx169_3
      have HR169_3 := Aside0.mk hi169_3
      have HC169_3 := Aside0.mk hl169_3
      clear hi169_3 hl169_3
      replace p169 := eq_true p169
      replace q169 := eq_true q169
      go_wp2_with (first | ((with_reducible refine gate_callee (f := 90) rfl ?_); refine goesL_ (some 19) rfl rfl Try.func90 (by kernel_rfl) rfl #[.agg #[.int .i64 ((rd_T44 l0 x3_1).f0), .int .i64 ((rd_T44 l0 x3_1).f1), .int .i64 ((rd_T44 l0 x3_1).f2), .slice A169_3 ((rd_T44 l0 x3_1).f3).length c169_3]] rfl (by (try simp only [List.map_toArray, List.map_cons, List.map_nil]); first | done | rfl | (simp only [List.length_drop, List.length_take]; rfl)) ?_; (with_reducible refine (ref06_mayTxn.calls k1 ((rd_T44 l0 x3_1).f0) ((rd_T44 l0 x3_1).f1) ((rd_T44 l0 x3_1).f2) _ _ ((rd_T44 l0 x3_1).f3) true _ ?side1 ?side2 A4.out).mono ?_); (case side1 => repeat (first | exact (Kd.C_below HR169_3.out HB.out) | (with_reducible refine Kd.C_alloc ?_ _) | (with_reducible refine Kd.C_drewN ?_ _) | (with_reducible refine Kd.C_drew ?_))); (case side2 => exact HC169_3.out); rintro e w6 ⟨rfl, hb⟩; refine ⟨_, rfl, ?_⟩; have n0_ := Aside0.mk (below_step (by repeat (first | (with_reducible first | exact HB.out | apply below_alloc | apply pw_below_drewN | apply below_drew1))) hb); clear HB; have HB := n0_; clear n0_; (try clear hb); (try clear hb2); (try clear hk); (try clear hi)))
      go_loopg [4] k1 (fun kq v4 w' => ∃ (x4_2 : Int), v4 = .int .i64 x4_2 ∧ Aside0 (ref06_May.l1 kq l0 x3_1 x4_2 = some r) ∧ Aside0 (kq ≤ k1) ∧ Aside0 (Below w.heap.size w w'))
      case atStart => exact ⟨(0), (by first | rfl | (simp; done) | (simp [*]; done)), H', ⟨Nat.le_refl _⟩, ⟨by repeat (first | (with_reducible first | exact HB.out | apply below_alloc | apply pw_below_drewN | apply below_drew1))⟩⟩
      case round =>
       clear H'
       try clear c1
       try clear p1
       try clear q1
       try clear hx1
       try clear c2
       try clear c2b0
       try clear p2
       try clear c3
       try clear c3b0
       try clear c5
       try clear hx169_0
       try clear hx169_1
       try clear hx169_2
       try clear hx169_3
       try clear p169
       try clear q169
       obtain ⟨x4_2, rfl, HA, HK2, HB⟩ := hrel
       cases gk with
       | zero => exact absurd HA.out (by simp [ref06_May.l1])
       | succ k2 =>
        have H := HA.out
        clear HA
        simp only [ref06_May.l1] at H
        by_cases c7 : x4_2 < x3_1
        ·rw [if_pos c7] at H
         have c7b0 : decide (x4_2 < x3_1) = true := decide_eq_true c7
         clear c7
         by_cases c8 : 0 ≤ x4_2
         ·rw [if_pos c8] at H
          have c8b0 : decide (0 ≤ x4_2) = true := decide_eq_true c8
          clear c8
          by_cases c9 : x4_2 < (l0.length : Int)
          ·rw [if_pos c9] at H
           have c9b0 : decide (x4_2 < (l0.length : Int)) = true := decide_eq_true c9
           clear c9
           by_cases c10 : 0 ≤ x3_1
           ·rw [if_pos c10] at H
            have c10b0 : decide (0 ≤ x3_1) = true := decide_eq_true c10
            clear c10
            by_cases c11 : x3_1 < (l0.length : Int)
            ·rw [if_pos c11] at H
             have c11b0 : decide (x3_1 < (l0.length : Int)) = true := decide_eq_true c11
             clear c11
             have HC12 := Aside0.mk H
             clear H
             have p171 : 0 ≤ (x4_2 : Int) := of_decide_eq_true (by assumption)
             have q171 : x4_2 < (l0.length : Int) := of_decide_eq_true (by assumption)
             obtain ⟨ad171, A171_3, c171_3, e171, hx171_0, hx171_1, hx171_2, hx171_3, hl171_3, hi171_3⟩ := at_T44 HR0.out x4_2 p171 q171
             obtain rfl : ad169 = ad171 := (by injection e171)
             replace hx171_0 := (HB.out.cell (World.block_lt_of_cell? w _ hx171_0)).trans hx171_0
             replace hx171_1 := (HB.out.cell (World.block_lt_of_cell? w _ hx171_1)).trans hx171_1
             replace hx171_2 := (HB.out.cell (World.block_lt_of_cell? w _ hx171_2)).trans hx171_2
             replace hx171_3 := (HB.out.cell (World.block_lt_of_cell? w _ hx171_3)).trans hx171_3
             have HR171_3 := Aside0.mk hi171_3
             have HC171_3 := Aside0.mk hl171_3
             clear hi171_3 hl171_3
             replace p171 := eq_true p171
             replace q171 := eq_true q171
             go_upto_region 11 with (first | ((with_reducible refine gate_dst (N := 5) rfl ?_); refine box_event ?hg (N := 5) ?hd (cs := #[.int .i64 0, .int .i64 0, .int .i64 0, .slice none 0 0]) (t := 44) ?hr ?_; (case hd => rfl); (case hg => rfl); (case hr => first | (go_simp; done) | (go_simp; rfl)); intro gb172 hg w13 hbox hb; have n0_ := Aside0.mk (below_step (by repeat (first | (with_reducible first | exact HB.out | apply below_alloc | apply pw_below_drewN | apply below_drew1))) hb); have n1_ := Aside0.mk (hbox); have n2_ := Aside0.mk ((by rw [hg]; exact (below_size (by repeat (first | (with_reducible first | exact HB.out | apply below_alloc | apply pw_below_drewN | apply below_drew1)))) : w.heap.size ≤ gb172)); have n3_ := Aside0.mk ((by rw [hg]; exact (below_size (by repeat (first | (with_reducible first | exact HB.out | apply below_alloc | apply pw_below_drewN | apply below_drew1)))) : w.heap.size ≤ gb172)); clear HB; have HB := n0_; have BK172 := n1_; have GW172 := n2_; have GE172 := n3_; clear n0_ n1_ n2_ n3_; clear hb hbox hg; have hcz14_0 : w13.cell? ⟨gb172, 0, none⟩ = some (.int .i64 0) := (blk_cell BK172.out 0).trans rfl; have hcz14_1 : w13.cell? ⟨gb172, 1, none⟩ = some (.int .i64 0) := (blk_cell BK172.out 1).trans rfl; have hcz14_2 : w13.cell? ⟨gb172, 2, none⟩ = some (.int .i64 0) := (blk_cell BK172.out 2).trans rfl; have hcz14_3 : w13.cell? ⟨gb172, 3, none⟩ = some (.slice none 0 0) := (blk_cell BK172.out 3).trans rfl; have hfz14_0 := blk_frozen BK172.out 0; have hfz14_1 := blk_frozen BK172.out 1; have hfz14_2 := blk_frozen BK172.out 2; have hfz14_3 := blk_frozen BK172.out 3; have p173 : 0 ≤ (x3_1 : Int) := of_decide_eq_true (by assumption); have q173 : x3_1 < (l0.length : Int) := of_decide_eq_true (by assumption); obtain ⟨ad173, A173_3, c173_3, e173, hx173_0, hx173_1, hx173_2, hx173_3, hl173_3, hi173_3⟩ := at_T44 HR0.out x3_1 p173 q173; obtain rfl : ad169 = ad173 := (by injection e173); have hn173_0 : ad169.block ≠ gb172 := Nat.ne_of_lt (Nat.lt_of_lt_of_le (by have := World.block_lt_of_cell? _ _ hx173_0; first | rwa [add_block] at this | exact this) GW172.out); have hn173_1 : ad169.block ≠ gb172 := Nat.ne_of_lt (Nat.lt_of_lt_of_le (by have := World.block_lt_of_cell? _ _ hx173_0; first | rwa [add_block] at this | exact this) GW172.out); have hn173_2 : ad169.block ≠ gb172 := Nat.ne_of_lt (Nat.lt_of_lt_of_le (by have := World.block_lt_of_cell? _ _ hx173_0; first | rwa [add_block] at this | exact this) GW172.out); have hn173_3 : ad169.block ≠ gb172 := Nat.ne_of_lt (Nat.lt_of_lt_of_le (by have := World.block_lt_of_cell? _ _ hx173_0; first | rwa [add_block] at this | exact this) GW172.out); replace hx173_0 := (HB.out.cell (World.block_lt_of_cell? w _ hx173_0)).trans hx173_0; replace hx173_1 := (HB.out.cell (World.block_lt_of_cell? w _ hx173_1)).trans hx173_1; replace hx173_2 := (HB.out.cell (World.block_lt_of_cell? w _ hx173_2)).trans hx173_2; replace hx173_3 := (HB.out.cell (World.block_lt_of_cell? w _ hx173_3)).trans hx173_3; have HR173_3 := Aside0.mk hi173_3; have HC173_3 := Aside0.mk hl173_3; clear hi173_3 hl173_3; replace hx173_0 := (cell_far (p := ⟨gb172, 0, none⟩) (by first | (rw [add_block]; exact hn173_0) | (show (Addr.add _ _).block ≠ _; rw [add_block]; exact hn173_0) | exact hn173_0) (.int .i64 ((rd_T44 l0 x4_2).f0))).trans hx173_0; replace hx173_1 := (cell_far (p := ⟨gb172, 0, none⟩) (by first | (rw [add_block]; exact hn173_0) | (show (Addr.add _ _).block ≠ _; rw [add_block]; exact hn173_0) | exact hn173_0) (.int .i64 ((rd_T44 l0 x4_2).f0))).trans hx173_1; replace hx173_2 := (cell_far (p := ⟨gb172, 0, none⟩) (by first | (rw [add_block]; exact hn173_0) | (show (Addr.add _ _).block ≠ _; rw [add_block]; exact hn173_0) | exact hn173_0) (.int .i64 ((rd_T44 l0 x4_2).f0))).trans hx173_2; replace hx173_3 := (cell_far (p := ⟨gb172, 0, none⟩) (by first | (rw [add_block]; exact hn173_0) | (show (Addr.add _ _).block ≠ _; rw [add_block]; exact hn173_0) | exact hn173_0) (.int .i64 ((rd_T44 l0 x4_2).f0))).trans hx173_3; replace hx173_0 := (cell_far (p := ⟨gb172, 1, none⟩) (by first | (rw [add_block]; exact hn173_1) | (show (Addr.add _ _).block ≠ _; rw [add_block]; exact hn173_1) | exact hn173_1) (.int .i64 ((rd_T44 l0 x4_2).f1))).trans hx173_0; replace hx173_1 := (cell_far (p := ⟨gb172, 1, none⟩) (by first | (rw [add_block]; exact hn173_1) | (show (Addr.add _ _).block ≠ _; rw [add_block]; exact hn173_1) | exact hn173_1) (.int .i64 ((rd_T44 l0 x4_2).f1))).trans hx173_1; replace hx173_2 := (cell_far (p := ⟨gb172, 1, none⟩) (by first | (rw [add_block]; exact hn173_1) | (show (Addr.add _ _).block ≠ _; rw [add_block]; exact hn173_1) | exact hn173_1) (.int .i64 ((rd_T44 l0 x4_2).f1))).trans hx173_2; replace hx173_3 := (cell_far (p := ⟨gb172, 1, none⟩) (by first | (rw [add_block]; exact hn173_1) | (show (Addr.add _ _).block ≠ _; rw [add_block]; exact hn173_1) | exact hn173_1) (.int .i64 ((rd_T44 l0 x4_2).f1))).trans hx173_3; replace hx173_0 := (cell_far (p := ⟨gb172, 2, none⟩) (by first | (rw [add_block]; exact hn173_2) | (show (Addr.add _ _).block ≠ _; rw [add_block]; exact hn173_2) | exact hn173_2) (.int .i64 ((rd_T44 l0 x4_2).f2))).trans hx173_0; replace hx173_1 := (cell_far (p := ⟨gb172, 2, none⟩) (by first | (rw [add_block]; exact hn173_2) | (show (Addr.add _ _).block ≠ _; rw [add_block]; exact hn173_2) | exact hn173_2) (.int .i64 ((rd_T44 l0 x4_2).f2))).trans hx173_1; replace hx173_2 := (cell_far (p := ⟨gb172, 2, none⟩) (by first | (rw [add_block]; exact hn173_2) | (show (Addr.add _ _).block ≠ _; rw [add_block]; exact hn173_2) | exact hn173_2) (.int .i64 ((rd_T44 l0 x4_2).f2))).trans hx173_2; replace hx173_3 := (cell_far (p := ⟨gb172, 2, none⟩) (by first | (rw [add_block]; exact hn173_2) | (show (Addr.add _ _).block ≠ _; rw [add_block]; exact hn173_2) | exact hn173_2) (.int .i64 ((rd_T44 l0 x4_2).f2))).trans hx173_3; replace hx173_0 := (cell_far (p := ⟨gb172, 3, none⟩) (by first | (rw [add_block]; exact hn173_3) | (show (Addr.add _ _).block ≠ _; rw [add_block]; exact hn173_3) | exact hn173_3) (.slice A171_3 ((rd_T44 l0 x4_2).f3).length c171_3)).trans hx173_0; replace hx173_1 := (cell_far (p := ⟨gb172, 3, none⟩) (by first | (rw [add_block]; exact hn173_3) | (show (Addr.add _ _).block ≠ _; rw [add_block]; exact hn173_3) | exact hn173_3) (.slice A171_3 ((rd_T44 l0 x4_2).f3).length c171_3)).trans hx173_1; replace hx173_2 := (cell_far (p := ⟨gb172, 3, none⟩) (by first | (rw [add_block]; exact hn173_3) | (show (Addr.add _ _).block ≠ _; rw [add_block]; exact hn173_3) | exact hn173_3) (.slice A171_3 ((rd_T44 l0 x4_2).f3).length c171_3)).trans hx173_2; replace hx173_3 := (cell_far (p := ⟨gb172, 3, none⟩) (by first | (rw [add_block]; exact hn173_3) | (show (Addr.add _ _).block ≠ _; rw [add_block]; exact hn173_3) | exact hn173_3) (.slice A171_3 ((rd_T44 l0 x4_2).f3).length c171_3)).trans hx173_3; clear hn173_0; clear hn173_1; clear hn173_2; clear hn173_3; replace p173 := eq_true p173; replace q173 := eq_true q173) | ((with_reducible refine gate_dst (N := 6) rfl ?_); refine box_event ?hg (N := 6) ?hd (cs := #[.int .i64 0, .int .i64 0, .int .i64 0, .slice none 0 0]) (t := 44) ?hr ?_; (case hd => rfl); (case hg => rfl); (case hr => first | (go_simp; done) | (go_simp; rfl)); intro gb174 hg w15 hbox hb; have n0_ := Aside0.mk (blk_below (g := gb172) (o := .cells #[.int .i64 ((rd_T44 l0 x4_2).f0), .int .i64 ((rd_T44 l0 x4_2).f1), .int .i64 ((rd_T44 l0 x4_2).f2), .slice A171_3 ((rd_T44 l0 x4_2).f3).length c171_3] 44 (0, 0)) (by (with_reducible repeat (first | refine blk_drewN ?_ _ | refine blk_drew ?_ | refine blk_alloc ?_ _)); refine blk_put (cs := #[.int .i64 ((rd_T44 l0 x4_2).f0), .int .i64 ((rd_T44 l0 x4_2).f1), .int .i64 ((rd_T44 l0 x4_2).f2), .slice none 0 0]) ?_ 3 _ rfl; (with_reducible repeat (first | refine blk_drewN ?_ _ | refine blk_drew ?_ | refine blk_alloc ?_ _)); refine blk_put (cs := #[.int .i64 ((rd_T44 l0 x4_2).f0), .int .i64 ((rd_T44 l0 x4_2).f1), .int .i64 0, .slice none 0 0]) ?_ 2 _ rfl; (with_reducible repeat (first | refine blk_drewN ?_ _ | refine blk_drew ?_ | refine blk_alloc ?_ _)); refine blk_put (cs := #[.int .i64 ((rd_T44 l0 x4_2).f0), .int .i64 0, .int .i64 0, .slice none 0 0]) ?_ 1 _ rfl; (with_reducible repeat (first | refine blk_drewN ?_ _ | refine blk_drew ?_ | refine blk_alloc ?_ _)); refine blk_put (cs := #[.int .i64 0, .int .i64 0, .int .i64 0, .slice none 0 0]) ?_ 0 _ rfl; (with_reducible repeat (first | refine blk_drewN ?_ _ | refine blk_drew ?_ | refine blk_alloc ?_ _)); exact BK172.out) hb); have n1_ := Aside0.mk (below_step (by repeat (first | (with_reducible first | exact HB.out | apply below_alloc | apply pw_below_drewN | apply below_drew1 | refine below_set ?_ GE172.out))) hb); have n2_ := Aside0.mk (hbox); have n3_ := Aside0.mk ((by rw [hg]; exact (below_size (by repeat (first | (with_reducible first | exact HB.out | apply below_alloc | apply pw_below_drewN | apply below_drew1 | refine below_set ?_ GE172.out)))) : w.heap.size ≤ gb174)); have n4_ := Aside0.mk ((by rw [hg]; exact (below_size (by repeat (first | (with_reducible first | exact HB.out | apply below_alloc | apply pw_below_drewN | apply below_drew1 | refine below_set ?_ GE172.out)))) : w.heap.size ≤ gb174)); have n5_ := Aside0.mk ((by rw [hg]; exact Nat.ne_of_lt (blk_lt (g := gb172) (o := .cells #[.int .i64 ((rd_T44 l0 x4_2).f0), .int .i64 ((rd_T44 l0 x4_2).f1), .int .i64 ((rd_T44 l0 x4_2).f2), .slice A171_3 ((rd_T44 l0 x4_2).f3).length c171_3] 44 (0, 0)) (by (with_reducible repeat (first | refine blk_drewN ?_ _ | refine blk_drew ?_ | refine blk_alloc ?_ _)); refine blk_put (cs := #[.int .i64 ((rd_T44 l0 x4_2).f0), .int .i64 ((rd_T44 l0 x4_2).f1), .int .i64 ((rd_T44 l0 x4_2).f2), .slice none 0 0]) ?_ 3 _ rfl; (with_reducible repeat (first | refine blk_drewN ?_ _ | refine blk_drew ?_ | refine blk_alloc ?_ _)); refine blk_put (cs := #[.int .i64 ((rd_T44 l0 x4_2).f0), .int .i64 ((rd_T44 l0 x4_2).f1), .int .i64 0, .slice none 0 0]) ?_ 2 _ rfl; (with_reducible repeat (first | refine blk_drewN ?_ _ | refine blk_drew ?_ | refine blk_alloc ?_ _)); refine blk_put (cs := #[.int .i64 ((rd_T44 l0 x4_2).f0), .int .i64 0, .int .i64 0, .slice none 0 0]) ?_ 1 _ rfl; (with_reducible repeat (first | refine blk_drewN ?_ _ | refine blk_drew ?_ | refine blk_alloc ?_ _)); refine blk_put (cs := #[.int .i64 0, .int .i64 0, .int .i64 0, .slice none 0 0]) ?_ 0 _ rfl; (with_reducible repeat (first | refine blk_drewN ?_ _ | refine blk_drew ?_ | refine blk_alloc ?_ _)); exact BK172.out)) : gb172 ≠ gb174)); have n6_ := Aside0.mk ((by rw [hg]; exact Nat.ne_of_gt (blk_lt (g := gb172) (o := .cells #[.int .i64 ((rd_T44 l0 x4_2).f0), .int .i64 ((rd_T44 l0 x4_2).f1), .int .i64 ((rd_T44 l0 x4_2).f2), .slice A171_3 ((rd_T44 l0 x4_2).f3).length c171_3] 44 (0, 0)) (by (with_reducible repeat (first | refine blk_drewN ?_ _ | refine blk_drew ?_ | refine blk_alloc ?_ _)); refine blk_put (cs := #[.int .i64 ((rd_T44 l0 x4_2).f0), .int .i64 ((rd_T44 l0 x4_2).f1), .int .i64 ((rd_T44 l0 x4_2).f2), .slice none 0 0]) ?_ 3 _ rfl; (with_reducible repeat (first | refine blk_drewN ?_ _ | refine blk_drew ?_ | refine blk_alloc ?_ _)); refine blk_put (cs := #[.int .i64 ((rd_T44 l0 x4_2).f0), .int .i64 ((rd_T44 l0 x4_2).f1), .int .i64 0, .slice none 0 0]) ?_ 2 _ rfl; (with_reducible repeat (first | refine blk_drewN ?_ _ | refine blk_drew ?_ | refine blk_alloc ?_ _)); refine blk_put (cs := #[.int .i64 ((rd_T44 l0 x4_2).f0), .int .i64 0, .int .i64 0, .slice none 0 0]) ?_ 1 _ rfl; (with_reducible repeat (first | refine blk_drewN ?_ _ | refine blk_drew ?_ | refine blk_alloc ?_ _)); refine blk_put (cs := #[.int .i64 0, .int .i64 0, .int .i64 0, .slice none 0 0]) ?_ 0 _ rfl; (with_reducible repeat (first | refine blk_drewN ?_ _ | refine blk_drew ?_ | refine blk_alloc ?_ _)); exact BK172.out)) : gb174 ≠ gb172)); clear BK172; clear HB; have BK172 := n0_; have HB := n1_; have BK174 := n2_; have GW174 := n3_; have GE174 := n4_; have NB172_174 := n5_; have NB174_172 := n6_; clear n0_ n1_ n2_ n3_ n4_ n5_ n6_; clear hb hbox hg; have hnb16 := NB174_172.out; have hnc16 := NB172_174.out; have hcz17_0 : w15.cell? ⟨gb174, 0, none⟩ = some (.int .i64 0) := (blk_cell BK174.out 0).trans rfl; have hcz17_1 : w15.cell? ⟨gb174, 1, none⟩ = some (.int .i64 0) := (blk_cell BK174.out 1).trans rfl; have hcz17_2 : w15.cell? ⟨gb174, 2, none⟩ = some (.int .i64 0) := (blk_cell BK174.out 2).trans rfl; have hcz17_3 : w15.cell? ⟨gb174, 3, none⟩ = some (.slice none 0 0) := (blk_cell BK174.out 3).trans rfl; have hfz17_0 := blk_frozen BK174.out 0; have hfz17_1 := blk_frozen BK174.out 1; have hfz17_2 := blk_frozen BK174.out 2; have hfz17_3 := blk_frozen BK174.out 3))
             (try simp only [Act.put, List.setIfInBounds_toArray, List.set_cons_zero, List.set_cons_succ])
             go_cut [59] (fun v59 wc => ∃ (kq : Nat) (x59_11 : Bool), v59 = .bool x59_11 ∧ Aside0 (ref06_May.j2 kq l0 x3_1 x4_2 x59_11 ((rd_T44 l0 x4_2).f0) ((rd_T44 l0 x4_2).f1) ((rd_T44 l0 x4_2).f2) ((rd_T44 l0 x4_2).f3) ((rd_T44 l0 x3_1).f0) ((rd_T44 l0 x3_1).f1) ((rd_T44 l0 x3_1).f2) ((rd_T44 l0 x3_1).f3) = some r) ∧ Aside0 (kq ≤ k2) ∧ Aside0 (wc.heap[gb172]? = some (.cells #[.int .i64 ((rd_T44 l0 x4_2).f0), .int .i64 ((rd_T44 l0 x4_2).f1), .int .i64 ((rd_T44 l0 x4_2).f2), (.slice A171_3 ((rd_T44 l0 x4_2).f3).length c171_3)] 44 (0, 0))) ∧ Aside0 (wc.heap[gb174]? = some (.cells #[.int .i64 ((rd_T44 l0 x3_1).f0), .int .i64 ((rd_T44 l0 x3_1).f1), .int .i64 ((rd_T44 l0 x3_1).f2), (.slice A173_3 ((rd_T44 l0 x3_1).f3).length c173_3)] 44 (0, 0))) ∧ Aside0 (Below w.heap.size w wc))
             case first =>
              have H := HC12.out
              clear HC12
              by_cases c18 : ((rd_T44 l0 x4_2).f1) = ((rd_T44 l0 x3_1).f1)
              ·rw [if_pos c18] at H
               have c18b0 : (((rd_T44 l0 x4_2).f1) == ((rd_T44 l0 x3_1).f1)) = true := beq_iff_eq.mpr c18
               have c18b1 : (((rd_T44 l0 x4_2).f1) != ((rd_T44 l0 x3_1).f1)) = false := bne_eq_false_iff_eq.mpr c18
               clear c18
               (first | rw [c18b0] | (simp only [i64_w, i32_w]; rw [c18b0]) | skip)
               have H' := Aside0.mk H
               clear H
               have hnb19 := NB172_174.out
               have hnc19 := NB174_172.out
               have hcz20_0 : w15.cell? ⟨gb172, 0, none⟩ = some (.int .i64 ((rd_T44 l0 x4_2).f0)) := (blk_cell BK172.out 0).trans rfl
               have hcz20_1 : w15.cell? ⟨gb172, 1, none⟩ = some (.int .i64 ((rd_T44 l0 x4_2).f1)) := (blk_cell BK172.out 1).trans rfl
               have hcz20_2 : w15.cell? ⟨gb172, 2, none⟩ = some (.int .i64 ((rd_T44 l0 x4_2).f2)) := (blk_cell BK172.out 2).trans rfl
               have hcz20_3 : w15.cell? ⟨gb172, 3, none⟩ = some (.slice A171_3 ((rd_T44 l0 x4_2).f3).length c171_3) := (blk_cell BK172.out 3).trans rfl
               have hfz20_0 := blk_frozen BK172.out 0
               have hfz20_1 := blk_frozen BK172.out 1
               have hfz20_2 := blk_frozen BK172.out 2
               have hfz20_3 := blk_frozen BK172.out 3
               have hcz21_0 : w15.cell? ⟨gb174, 0, none⟩ = some (.int .i64 0) := (blk_cell BK174.out 0).trans rfl
               have hcz21_1 : w15.cell? ⟨gb174, 1, none⟩ = some (.int .i64 0) := (blk_cell BK174.out 1).trans rfl
               have hcz21_2 : w15.cell? ⟨gb174, 2, none⟩ = some (.int .i64 0) := (blk_cell BK174.out 2).trans rfl
               have hcz21_3 : w15.cell? ⟨gb174, 3, none⟩ = some (.slice none 0 0) := (blk_cell BK174.out 3).trans rfl
               have hfz21_0 := blk_frozen BK174.out 0
               have hfz21_1 := blk_frozen BK174.out 1
               have hfz21_2 := blk_frozen BK174.out 2
               have hfz21_3 := blk_frozen BK174.out 3
               go_wp2
               go_meet
               case rel => exact ⟨_, (true), (by first | rfl | (simp; done) | (simp [*]; done)), H', ⟨by have := HK1.out; have := HK2.out; first | omega | exact Nat.le_refl _⟩, ⟨by (with_reducible repeat (first | refine blk_drewN ?_ _ | refine blk_drew ?_ | refine blk_alloc ?_ _)); refine blk_far ?_ NB172_174.out _; (with_reducible repeat (first | refine blk_drewN ?_ _ | refine blk_drew ?_ | refine blk_alloc ?_ _)); refine blk_far ?_ NB172_174.out _; (with_reducible repeat (first | refine blk_drewN ?_ _ | refine blk_drew ?_ | refine blk_alloc ?_ _)); refine blk_far ?_ NB172_174.out _; (with_reducible repeat (first | refine blk_drewN ?_ _ | refine blk_drew ?_ | refine blk_alloc ?_ _)); refine blk_far ?_ NB172_174.out _; (with_reducible repeat (first | refine blk_drewN ?_ _ | refine blk_drew ?_ | refine blk_alloc ?_ _)); exact BK172.out⟩, ⟨by (with_reducible repeat (first | refine blk_drewN ?_ _ | refine blk_drew ?_ | refine blk_alloc ?_ _)); refine blk_put (cs := #[.int .i64 ((rd_T44 l0 x3_1).f0), .int .i64 ((rd_T44 l0 x3_1).f1), .int .i64 ((rd_T44 l0 x3_1).f2), .slice none 0 0]) ?_ 3 _ rfl; (with_reducible repeat (first | refine blk_drewN ?_ _ | refine blk_drew ?_ | refine blk_alloc ?_ _)); refine blk_put (cs := #[.int .i64 ((rd_T44 l0 x3_1).f0), .int .i64 ((rd_T44 l0 x3_1).f1), .int .i64 0, .slice none 0 0]) ?_ 2 _ rfl; (with_reducible repeat (first | refine blk_drewN ?_ _ | refine blk_drew ?_ | refine blk_alloc ?_ _)); refine blk_put (cs := #[.int .i64 ((rd_T44 l0 x3_1).f0), .int .i64 0, .int .i64 0, .slice none 0 0]) ?_ 1 _ rfl; (with_reducible repeat (first | refine blk_drewN ?_ _ | refine blk_drew ?_ | refine blk_alloc ?_ _)); refine blk_put (cs := #[.int .i64 0, .int .i64 0, .int .i64 0, .slice none 0 0]) ?_ 0 _ rfl; (with_reducible repeat (first | refine blk_drewN ?_ _ | refine blk_drew ?_ | refine blk_alloc ?_ _)); exact BK174.out⟩, ⟨by repeat (first | (with_reducible first | exact HB.out | apply below_alloc | apply pw_below_drewN | apply below_drew1 | refine below_set ?_ GE172.out | refine below_set ?_ GE174.out))⟩⟩
              ·rw [if_neg c18] at H
               have c18b0 : (((rd_T44 l0 x4_2).f1) == ((rd_T44 l0 x3_1).f1)) = false := beq_eq_false_iff_ne.mpr c18
               have c18b1 : (((rd_T44 l0 x4_2).f1) != ((rd_T44 l0 x3_1).f1)) = true := bne_iff_ne.mpr c18
               (first | rw [c18b0] | (simp only [i64_w, i32_w]; rw [c18b0]) | skip)
               by_cases c22 : ((rd_T44 l0 x4_2).f1) = ((rd_T44 l0 x3_1).f2)
               ·rw [if_pos c22] at H
                have c22b0 : (((rd_T44 l0 x4_2).f1) == ((rd_T44 l0 x3_1).f2)) = true := beq_iff_eq.mpr c22
                have c22b1 : (((rd_T44 l0 x4_2).f1) != ((rd_T44 l0 x3_1).f2)) = false := bne_eq_false_iff_eq.mpr c22
                clear c22
                have H' := Aside0.mk H
                clear H
                have hnb23 := NB172_174.out
                have hnc23 := NB174_172.out
                have hcz24_0 : w15.cell? ⟨gb172, 0, none⟩ = some (.int .i64 ((rd_T44 l0 x4_2).f0)) := (blk_cell BK172.out 0).trans rfl
                have hcz24_1 : w15.cell? ⟨gb172, 1, none⟩ = some (.int .i64 ((rd_T44 l0 x4_2).f1)) := (blk_cell BK172.out 1).trans rfl
                have hcz24_2 : w15.cell? ⟨gb172, 2, none⟩ = some (.int .i64 ((rd_T44 l0 x4_2).f2)) := (blk_cell BK172.out 2).trans rfl
                have hcz24_3 : w15.cell? ⟨gb172, 3, none⟩ = some (.slice A171_3 ((rd_T44 l0 x4_2).f3).length c171_3) := (blk_cell BK172.out 3).trans rfl
                have hfz24_0 := blk_frozen BK172.out 0
                have hfz24_1 := blk_frozen BK172.out 1
                have hfz24_2 := blk_frozen BK172.out 2
                have hfz24_3 := blk_frozen BK172.out 3
                have hcz25_0 : w15.cell? ⟨gb174, 0, none⟩ = some (.int .i64 0) := (blk_cell BK174.out 0).trans rfl
                have hcz25_1 : w15.cell? ⟨gb174, 1, none⟩ = some (.int .i64 0) := (blk_cell BK174.out 1).trans rfl
                have hcz25_2 : w15.cell? ⟨gb174, 2, none⟩ = some (.int .i64 0) := (blk_cell BK174.out 2).trans rfl
                have hcz25_3 : w15.cell? ⟨gb174, 3, none⟩ = some (.slice none 0 0) := (blk_cell BK174.out 3).trans rfl
                have hfz25_0 := blk_frozen BK174.out 0
                have hfz25_1 := blk_frozen BK174.out 1
                have hfz25_2 := blk_frozen BK174.out 2
                have hfz25_3 := blk_frozen BK174.out 3
                go_wp2
                go_meet
                case rel => exact ⟨_, (true), (by first | rfl | (simp; done) | (simp [*]; done)), H', ⟨by have := HK1.out; have := HK2.out; first | omega | exact Nat.le_refl _⟩, ⟨by (with_reducible repeat (first | refine blk_drewN ?_ _ | refine blk_drew ?_ | refine blk_alloc ?_ _)); refine blk_far ?_ NB172_174.out _; (with_reducible repeat (first | refine blk_drewN ?_ _ | refine blk_drew ?_ | refine blk_alloc ?_ _)); refine blk_far ?_ NB172_174.out _; (with_reducible repeat (first | refine blk_drewN ?_ _ | refine blk_drew ?_ | refine blk_alloc ?_ _)); refine blk_far ?_ NB172_174.out _; (with_reducible repeat (first | refine blk_drewN ?_ _ | refine blk_drew ?_ | refine blk_alloc ?_ _)); refine blk_far ?_ NB172_174.out _; (with_reducible repeat (first | refine blk_drewN ?_ _ | refine blk_drew ?_ | refine blk_alloc ?_ _)); exact BK172.out⟩, ⟨by (with_reducible repeat (first | refine blk_drewN ?_ _ | refine blk_drew ?_ | refine blk_alloc ?_ _)); refine blk_put (cs := #[.int .i64 ((rd_T44 l0 x3_1).f0), .int .i64 ((rd_T44 l0 x3_1).f1), .int .i64 ((rd_T44 l0 x3_1).f2), .slice none 0 0]) ?_ 3 _ rfl; (with_reducible repeat (first | refine blk_drewN ?_ _ | refine blk_drew ?_ | refine blk_alloc ?_ _)); refine blk_put (cs := #[.int .i64 ((rd_T44 l0 x3_1).f0), .int .i64 ((rd_T44 l0 x3_1).f1), .int .i64 0, .slice none 0 0]) ?_ 2 _ rfl; (with_reducible repeat (first | refine blk_drewN ?_ _ | refine blk_drew ?_ | refine blk_alloc ?_ _)); refine blk_put (cs := #[.int .i64 ((rd_T44 l0 x3_1).f0), .int .i64 0, .int .i64 0, .slice none 0 0]) ?_ 1 _ rfl; (with_reducible repeat (first | refine blk_drewN ?_ _ | refine blk_drew ?_ | refine blk_alloc ?_ _)); refine blk_put (cs := #[.int .i64 0, .int .i64 0, .int .i64 0, .slice none 0 0]) ?_ 0 _ rfl; (with_reducible repeat (first | refine blk_drewN ?_ _ | refine blk_drew ?_ | refine blk_alloc ?_ _)); exact BK174.out⟩, ⟨by repeat (first | (with_reducible first | exact HB.out | apply below_alloc | apply pw_below_drewN | apply below_drew1 | refine below_set ?_ GE172.out | refine below_set ?_ GE174.out))⟩⟩
               ·rw [if_neg c22] at H
                have c22b0 : (((rd_T44 l0 x4_2).f1) == ((rd_T44 l0 x3_1).f2)) = false := beq_eq_false_iff_ne.mpr c22
                have c22b1 : (((rd_T44 l0 x4_2).f1) != ((rd_T44 l0 x3_1).f2)) = true := bne_iff_ne.mpr c22
                by_cases c26 : ((rd_T44 l0 x4_2).f2) = ((rd_T44 l0 x3_1).f1)
                ·rw [if_pos c26] at H
                 have c26b0 : (((rd_T44 l0 x4_2).f2) == ((rd_T44 l0 x3_1).f1)) = true := beq_iff_eq.mpr c26
                 have c26b1 : (((rd_T44 l0 x4_2).f2) != ((rd_T44 l0 x3_1).f1)) = false := bne_eq_false_iff_eq.mpr c26
                 clear c26
                 have H' := Aside0.mk H
                 clear H
                 have hnb27 := NB172_174.out
                 have hnc27 := NB174_172.out
                 have hcz28_0 : w15.cell? ⟨gb172, 0, none⟩ = some (.int .i64 ((rd_T44 l0 x4_2).f0)) := (blk_cell BK172.out 0).trans rfl
                 have hcz28_1 : w15.cell? ⟨gb172, 1, none⟩ = some (.int .i64 ((rd_T44 l0 x4_2).f1)) := (blk_cell BK172.out 1).trans rfl
                 have hcz28_2 : w15.cell? ⟨gb172, 2, none⟩ = some (.int .i64 ((rd_T44 l0 x4_2).f2)) := (blk_cell BK172.out 2).trans rfl
                 have hcz28_3 : w15.cell? ⟨gb172, 3, none⟩ = some (.slice A171_3 ((rd_T44 l0 x4_2).f3).length c171_3) := (blk_cell BK172.out 3).trans rfl
                 have hfz28_0 := blk_frozen BK172.out 0
                 have hfz28_1 := blk_frozen BK172.out 1
                 have hfz28_2 := blk_frozen BK172.out 2
                 have hfz28_3 := blk_frozen BK172.out 3
                 have hcz29_0 : w15.cell? ⟨gb174, 0, none⟩ = some (.int .i64 0) := (blk_cell BK174.out 0).trans rfl
                 have hcz29_1 : w15.cell? ⟨gb174, 1, none⟩ = some (.int .i64 0) := (blk_cell BK174.out 1).trans rfl
                 have hcz29_2 : w15.cell? ⟨gb174, 2, none⟩ = some (.int .i64 0) := (blk_cell BK174.out 2).trans rfl
                 have hcz29_3 : w15.cell? ⟨gb174, 3, none⟩ = some (.slice none 0 0) := (blk_cell BK174.out 3).trans rfl
                 have hfz29_0 := blk_frozen BK174.out 0
                 have hfz29_1 := blk_frozen BK174.out 1
                 have hfz29_2 := blk_frozen BK174.out 2
                 have hfz29_3 := blk_frozen BK174.out 3
                 go_wp2
                 go_meet
                 case rel => exact ⟨_, (true), (by first | rfl | (simp; done) | (simp [*]; done)), H', ⟨by have := HK1.out; have := HK2.out; first | omega | exact Nat.le_refl _⟩, ⟨by (with_reducible repeat (first | refine blk_drewN ?_ _ | refine blk_drew ?_ | refine blk_alloc ?_ _)); refine blk_far ?_ NB172_174.out _; (with_reducible repeat (first | refine blk_drewN ?_ _ | refine blk_drew ?_ | refine blk_alloc ?_ _)); refine blk_far ?_ NB172_174.out _; (with_reducible repeat (first | refine blk_drewN ?_ _ | refine blk_drew ?_ | refine blk_alloc ?_ _)); refine blk_far ?_ NB172_174.out _; (with_reducible repeat (first | refine blk_drewN ?_ _ | refine blk_drew ?_ | refine blk_alloc ?_ _)); refine blk_far ?_ NB172_174.out _; (with_reducible repeat (first | refine blk_drewN ?_ _ | refine blk_drew ?_ | refine blk_alloc ?_ _)); exact BK172.out⟩, ⟨by (with_reducible repeat (first | refine blk_drewN ?_ _ | refine blk_drew ?_ | refine blk_alloc ?_ _)); refine blk_put (cs := #[.int .i64 ((rd_T44 l0 x3_1).f0), .int .i64 ((rd_T44 l0 x3_1).f1), .int .i64 ((rd_T44 l0 x3_1).f2), .slice none 0 0]) ?_ 3 _ rfl; (with_reducible repeat (first | refine blk_drewN ?_ _ | refine blk_drew ?_ | refine blk_alloc ?_ _)); refine blk_put (cs := #[.int .i64 ((rd_T44 l0 x3_1).f0), .int .i64 ((rd_T44 l0 x3_1).f1), .int .i64 0, .slice none 0 0]) ?_ 2 _ rfl; (with_reducible repeat (first | refine blk_drewN ?_ _ | refine blk_drew ?_ | refine blk_alloc ?_ _)); refine blk_put (cs := #[.int .i64 ((rd_T44 l0 x3_1).f0), .int .i64 0, .int .i64 0, .slice none 0 0]) ?_ 1 _ rfl; (with_reducible repeat (first | refine blk_drewN ?_ _ | refine blk_drew ?_ | refine blk_alloc ?_ _)); refine blk_put (cs := #[.int .i64 0, .int .i64 0, .int .i64 0, .slice none 0 0]) ?_ 0 _ rfl; (with_reducible repeat (first | refine blk_drewN ?_ _ | refine blk_drew ?_ | refine blk_alloc ?_ _)); exact BK174.out⟩, ⟨by repeat (first | (with_reducible first | exact HB.out | apply below_alloc | apply pw_below_drewN | apply below_drew1 | refine below_set ?_ GE172.out | refine below_set ?_ GE174.out))⟩⟩
                ·rw [if_neg c26] at H
                 have c26b0 : (((rd_T44 l0 x4_2).f2) == ((rd_T44 l0 x3_1).f1)) = false := beq_eq_false_iff_ne.mpr c26
                 have c26b1 : (((rd_T44 l0 x4_2).f2) != ((rd_T44 l0 x3_1).f1)) = true := bne_iff_ne.mpr c26
                 have H' := Aside0.mk H
                 clear H
                 have hnb30 := NB172_174.out
                 have hnc30 := NB174_172.out
                 have hcz31_0 : w15.cell? ⟨gb172, 0, none⟩ = some (.int .i64 ((rd_T44 l0 x4_2).f0)) := (blk_cell BK172.out 0).trans rfl
                 have hcz31_1 : w15.cell? ⟨gb172, 1, none⟩ = some (.int .i64 ((rd_T44 l0 x4_2).f1)) := (blk_cell BK172.out 1).trans rfl
                 have hcz31_2 : w15.cell? ⟨gb172, 2, none⟩ = some (.int .i64 ((rd_T44 l0 x4_2).f2)) := (blk_cell BK172.out 2).trans rfl
                 have hcz31_3 : w15.cell? ⟨gb172, 3, none⟩ = some (.slice A171_3 ((rd_T44 l0 x4_2).f3).length c171_3) := (blk_cell BK172.out 3).trans rfl
                 have hfz31_0 := blk_frozen BK172.out 0
                 have hfz31_1 := blk_frozen BK172.out 1
                 have hfz31_2 := blk_frozen BK172.out 2
                 have hfz31_3 := blk_frozen BK172.out 3
                 have hcz32_0 : w15.cell? ⟨gb174, 0, none⟩ = some (.int .i64 0) := (blk_cell BK174.out 0).trans rfl
                 have hcz32_1 : w15.cell? ⟨gb174, 1, none⟩ = some (.int .i64 0) := (blk_cell BK174.out 1).trans rfl
                 have hcz32_2 : w15.cell? ⟨gb174, 2, none⟩ = some (.int .i64 0) := (blk_cell BK174.out 2).trans rfl
                 have hcz32_3 : w15.cell? ⟨gb174, 3, none⟩ = some (.slice none 0 0) := (blk_cell BK174.out 3).trans rfl
                 have hfz32_0 := blk_frozen BK174.out 0
                 have hfz32_1 := blk_frozen BK174.out 1
                 have hfz32_2 := blk_frozen BK174.out 2
                 have hfz32_3 := blk_frozen BK174.out 3
                 go_wp2
                 go_meet
                 case rel => exact ⟨_, ((((rd_T44 l0 x4_2).f2) == ((rd_T44 l0 x3_1).f2))), (by first | rfl | (simp; done) | (simp [*]; done)), H', ⟨by have := HK1.out; have := HK2.out; first | omega | exact Nat.le_refl _⟩, ⟨by (with_reducible repeat (first | refine blk_drewN ?_ _ | refine blk_drew ?_ | refine blk_alloc ?_ _)); refine blk_far ?_ NB172_174.out _; (with_reducible repeat (first | refine blk_drewN ?_ _ | refine blk_drew ?_ | refine blk_alloc ?_ _)); refine blk_far ?_ NB172_174.out _; (with_reducible repeat (first | refine blk_drewN ?_ _ | refine blk_drew ?_ | refine blk_alloc ?_ _)); refine blk_far ?_ NB172_174.out _; (with_reducible repeat (first | refine blk_drewN ?_ _ | refine blk_drew ?_ | refine blk_alloc ?_ _)); refine blk_far ?_ NB172_174.out _; (with_reducible repeat (first | refine blk_drewN ?_ _ | refine blk_drew ?_ | refine blk_alloc ?_ _)); exact BK172.out⟩, ⟨by (with_reducible repeat (first | refine blk_drewN ?_ _ | refine blk_drew ?_ | refine blk_alloc ?_ _)); refine blk_put (cs := #[.int .i64 ((rd_T44 l0 x3_1).f0), .int .i64 ((rd_T44 l0 x3_1).f1), .int .i64 ((rd_T44 l0 x3_1).f2), .slice none 0 0]) ?_ 3 _ rfl; (with_reducible repeat (first | refine blk_drewN ?_ _ | refine blk_drew ?_ | refine blk_alloc ?_ _)); refine blk_put (cs := #[.int .i64 ((rd_T44 l0 x3_1).f0), .int .i64 ((rd_T44 l0 x3_1).f1), .int .i64 0, .slice none 0 0]) ?_ 2 _ rfl; (with_reducible repeat (first | refine blk_drewN ?_ _ | refine blk_drew ?_ | refine blk_alloc ?_ _)); refine blk_put (cs := #[.int .i64 ((rd_T44 l0 x3_1).f0), .int .i64 0, .int .i64 0, .slice none 0 0]) ?_ 1 _ rfl; (with_reducible repeat (first | refine blk_drewN ?_ _ | refine blk_drew ?_ | refine blk_alloc ?_ _)); refine blk_put (cs := #[.int .i64 0, .int .i64 0, .int .i64 0, .slice none 0 0]) ?_ 0 _ rfl; (with_reducible repeat (first | refine blk_drewN ?_ _ | refine blk_drew ?_ | refine blk_alloc ?_ _)); exact BK174.out⟩, ⟨by repeat (first | (with_reducible first | exact HB.out | apply below_alloc | apply pw_below_drewN | apply below_drew1 | refine below_set ?_ GE172.out | refine below_set ?_ GE174.out))⟩⟩
             case rest =>
              clear HC12
              try clear c1
              try clear p1
              try clear q1
              try clear hx1
              try clear c2
              try clear c2b0
              try clear p2
              try clear c3
              try clear c3b0
              try clear c5
              try clear c7
              try clear c7b0
              try clear c8
              try clear c8b0
              try clear c9
              try clear c9b0
              try clear c10
              try clear c10b0
              try clear c11
              try clear c11b0
              try clear c16
              try clear p16
              try clear q16
              try clear hx16
              try clear c17
              try clear p17
              try clear q17
              try clear hx17
              try clear c18
              try clear c18b0
              try clear c18b1
              try clear c19
              try clear c22
              try clear c22b0
              try clear c22b1
              try clear c23
              try clear c26
              try clear c26b0
              try clear c26b1
              try clear c27
              try clear c30
              try clear hcz14_0
              try clear hcz14_1
              try clear hcz14_2
              try clear hcz14_3
              try clear hcz17_0
              try clear hcz17_1
              try clear hcz17_2
              try clear hcz17_3
              try clear hcz20_0
              try clear hcz20_1
              try clear hcz20_2
              try clear hcz20_3
              try clear hcz21_0
              try clear hcz21_1
              try clear hcz21_2
              try clear hcz21_3
              try clear hcz24_0
              try clear hcz24_1
              try clear hcz24_2
              try clear hcz24_3
              try clear hcz25_0
              try clear hcz25_1
              try clear hcz25_2
              try clear hcz25_3
              try clear hcz28_0
              try clear hcz28_1
              try clear hcz28_2
              try clear hcz28_3
              try clear hcz29_0
              try clear hcz29_1
              try clear hcz29_2
              try clear hcz29_3
              try clear hcz31_0
              try clear hcz31_1
              try clear hcz31_2
              try clear hcz31_3
              try clear hcz32_0
              try clear hcz32_1
              try clear hcz32_2
              try clear hcz32_3
              try clear hfz14_0
              try clear hfz14_1
              try clear hfz14_2
              try clear hfz14_3
              try clear hfz17_0
              try clear hfz17_1
              try clear hfz17_2
              try clear hfz17_3
              try clear hfz20_0
              try clear hfz20_1
              try clear hfz20_2
              try clear hfz20_3
              try clear hfz21_0
              try clear hfz21_1
              try clear hfz21_2
              try clear hfz21_3
              try clear hfz24_0
              try clear hfz24_1
              try clear hfz24_2
              try clear hfz24_3
              try clear hfz25_0
              try clear hfz25_1
              try clear hfz25_2
              try clear hfz25_3
              try clear hfz28_0
              try clear hfz28_1
              try clear hfz28_2
              try clear hfz28_3
              try clear hfz29_0
              try clear hfz29_1
              try clear hfz29_2
              try clear hfz29_3
              try clear hfz31_0
              try clear hfz31_1
              try clear hfz31_2
              try clear hfz31_3
              try clear hfz32_0
              try clear hfz32_1
              try clear hfz32_2
              try clear hfz32_3
              try clear hx169_0
              try clear hx169_1
              try clear hx169_2
              try clear hx169_3
              try clear hx171_0
              try clear hx171_1
              try clear hx171_2
              try clear hx171_3
              try clear hx173_0
              try clear hx173_1
              try clear hx173_2
              try clear hx173_3
              try clear p1
              try clear p169
              try clear p171
              try clear p173
              try clear p2
              try clear q1
              try clear q169
              try clear q171
              try clear q173
              obtain ⟨kq, x59_11, rfl, HA, HJ11, BK172, BK174, HB⟩ := hcut
              cases kq with
              | zero => exact absurd HA.out (by simp [ref06_May.j2])
              | succ kj11 =>
               have H := HA.out
               clear HA
               simp only [ref06_May.j2] at H
               by_cases c33 : x59_11 = true
               ·subst c33
                have H1 : (some false) = some r := by rw [if_pos rfl] at H; exact H
                clear H
                have H := H1
                clear H1
                obtain rfl := Option.some.inj H
                go_wp2
                go_ret
                exact ⟨by first | rfl | (simp <;> rfl) | (simp [*] <;> rfl), by repeat (first | (with_reducible first | exact HB.out | apply below_alloc | apply pw_below_drewN | apply below_drew1 | refine below_set ?_ GE172.out | refine below_set ?_ GE174.out))⟩
               ·replace c33 := Bool.eq_false_iff.mpr c33
                subst c33
                have H1 : (if ((rd_T44 l0 x4_2).f0) = ((rd_T44 l0 x3_1).f0) then (if ((rd_T44 l0 x4_2).f2) > ((rd_T44 l0 x3_1).f1) then (some false) else (ref06_May.l1 kj11 l0 x3_1 (wrap64 (x4_2 + 1)))) else (ref06_May.l1 kj11 l0 x3_1 (wrap64 (x4_2 + 1)))) = some r := by rw [if_neg (show ¬ (false = true) by decide)] at H; exact H
                clear H
                have H := H1
                clear H1
                by_cases c34 : ((rd_T44 l0 x4_2).f0) = ((rd_T44 l0 x3_1).f0)
                ·rw [if_pos c34] at H
                 have c34b0 : (((rd_T44 l0 x4_2).f0) == ((rd_T44 l0 x3_1).f0)) = true := beq_iff_eq.mpr c34
                 have c34b1 : (((rd_T44 l0 x4_2).f0) != ((rd_T44 l0 x3_1).f0)) = false := bne_eq_false_iff_eq.mpr c34
                 clear c34
                 by_cases c35 : ((rd_T44 l0 x4_2).f2) > ((rd_T44 l0 x3_1).f1)
                 ·rw [if_pos c35] at H
                  have c35b0 : decide (((rd_T44 l0 x3_1).f1) < ((rd_T44 l0 x4_2).f2)) = true := decide_eq_true c35
                  clear c35
                  obtain rfl := Option.some.inj H
                  have hnb36 := NB172_174.out
                  have hnc36 := NB174_172.out
                  have hcz37_0 : wc.cell? ⟨gb172, 0, none⟩ = some (.int .i64 ((rd_T44 l0 x4_2).f0)) := (blk_cell BK172.out 0).trans rfl
                  have hcz37_1 : wc.cell? ⟨gb172, 1, none⟩ = some (.int .i64 ((rd_T44 l0 x4_2).f1)) := (blk_cell BK172.out 1).trans rfl
                  have hcz37_2 : wc.cell? ⟨gb172, 2, none⟩ = some (.int .i64 ((rd_T44 l0 x4_2).f2)) := (blk_cell BK172.out 2).trans rfl
                  have hcz37_3 : wc.cell? ⟨gb172, 3, none⟩ = some (.slice A171_3 ((rd_T44 l0 x4_2).f3).length c171_3) := (blk_cell BK172.out 3).trans rfl
                  have hfz37_0 := blk_frozen BK172.out 0
                  have hfz37_1 := blk_frozen BK172.out 1
                  have hfz37_2 := blk_frozen BK172.out 2
                  have hfz37_3 := blk_frozen BK172.out 3
                  have hcz38_0 : wc.cell? ⟨gb174, 0, none⟩ = some (.int .i64 ((rd_T44 l0 x3_1).f0)) := (blk_cell BK174.out 0).trans rfl
                  have hcz38_1 : wc.cell? ⟨gb174, 1, none⟩ = some (.int .i64 ((rd_T44 l0 x3_1).f1)) := (blk_cell BK174.out 1).trans rfl
                  have hcz38_2 : wc.cell? ⟨gb174, 2, none⟩ = some (.int .i64 ((rd_T44 l0 x3_1).f2)) := (blk_cell BK174.out 2).trans rfl
                  have hcz38_3 : wc.cell? ⟨gb174, 3, none⟩ = some (.slice A173_3 ((rd_T44 l0 x3_1).f3).length c173_3) := (blk_cell BK174.out 3).trans rfl
                  have hfz38_0 := blk_frozen BK174.out 0
                  have hfz38_1 := blk_frozen BK174.out 1
                  have hfz38_2 := blk_frozen BK174.out 2
                  have hfz38_3 := blk_frozen BK174.out 3
                  go_wp2
                  go_ret
                  exact ⟨by first | rfl | (simp <;> rfl) | (simp [*] <;> rfl), by repeat (first | (with_reducible first | exact HB.out | apply below_alloc | apply pw_below_drewN | apply below_drew1 | refine below_set ?_ GE172.out | refine below_set ?_ GE174.out))⟩
                 ·rw [if_neg c35] at H
                  have c35b0 : decide (((rd_T44 l0 x3_1).f1) < ((rd_T44 l0 x4_2).f2)) = false := decide_eq_false c35
                  clear c35
                  have H' := Aside0.mk H
                  clear H
                  have hnb39 := NB172_174.out
                  have hnc39 := NB174_172.out
                  have hcz40_0 : wc.cell? ⟨gb172, 0, none⟩ = some (.int .i64 ((rd_T44 l0 x4_2).f0)) := (blk_cell BK172.out 0).trans rfl
                  have hcz40_1 : wc.cell? ⟨gb172, 1, none⟩ = some (.int .i64 ((rd_T44 l0 x4_2).f1)) := (blk_cell BK172.out 1).trans rfl
                  have hcz40_2 : wc.cell? ⟨gb172, 2, none⟩ = some (.int .i64 ((rd_T44 l0 x4_2).f2)) := (blk_cell BK172.out 2).trans rfl
                  have hcz40_3 : wc.cell? ⟨gb172, 3, none⟩ = some (.slice A171_3 ((rd_T44 l0 x4_2).f3).length c171_3) := (blk_cell BK172.out 3).trans rfl
                  have hfz40_0 := blk_frozen BK172.out 0
                  have hfz40_1 := blk_frozen BK172.out 1
                  have hfz40_2 := blk_frozen BK172.out 2
                  have hfz40_3 := blk_frozen BK172.out 3
                  have hcz41_0 : wc.cell? ⟨gb174, 0, none⟩ = some (.int .i64 ((rd_T44 l0 x3_1).f0)) := (blk_cell BK174.out 0).trans rfl
                  have hcz41_1 : wc.cell? ⟨gb174, 1, none⟩ = some (.int .i64 ((rd_T44 l0 x3_1).f1)) := (blk_cell BK174.out 1).trans rfl
                  have hcz41_2 : wc.cell? ⟨gb174, 2, none⟩ = some (.int .i64 ((rd_T44 l0 x3_1).f2)) := (blk_cell BK174.out 2).trans rfl
                  have hcz41_3 : wc.cell? ⟨gb174, 3, none⟩ = some (.slice A173_3 ((rd_T44 l0 x3_1).f3).length c173_3) := (blk_cell BK174.out 3).trans rfl
                  have hfz41_0 := blk_frozen BK174.out 0
                  have hfz41_1 := blk_frozen BK174.out 1
                  have hfz41_2 := blk_frozen BK174.out 2
                  have hfz41_3 := blk_frozen BK174.out 3
                  go_wp2
                  go_roundg kj11
                  case measure => have := HK1.out; have := HK2.out; have := HJ11.out; omega
                  case rel => exact ⟨(wrap64 (x4_2 + 1)), (by first | rfl | (simp; done) | (simp [*]; done)), H', ⟨by have := HK1.out; have := HK2.out; have := HJ11.out; omega⟩, ⟨by repeat (first | (with_reducible first | exact HB.out | apply below_alloc | apply pw_below_drewN | apply below_drew1 | refine below_set ?_ GE172.out | refine below_set ?_ GE174.out))⟩⟩
                ·rw [if_neg c34] at H
                 have c34b0 : (((rd_T44 l0 x4_2).f0) == ((rd_T44 l0 x3_1).f0)) = false := beq_eq_false_iff_ne.mpr c34
                 have c34b1 : (((rd_T44 l0 x4_2).f0) != ((rd_T44 l0 x3_1).f0)) = true := bne_iff_ne.mpr c34
                 have H' := Aside0.mk H
                 clear H
                 have hnb42 := NB172_174.out
                 have hnc42 := NB174_172.out
                 have hcz43_0 : wc.cell? ⟨gb172, 0, none⟩ = some (.int .i64 ((rd_T44 l0 x4_2).f0)) := (blk_cell BK172.out 0).trans rfl
                 have hcz43_1 : wc.cell? ⟨gb172, 1, none⟩ = some (.int .i64 ((rd_T44 l0 x4_2).f1)) := (blk_cell BK172.out 1).trans rfl
                 have hcz43_2 : wc.cell? ⟨gb172, 2, none⟩ = some (.int .i64 ((rd_T44 l0 x4_2).f2)) := (blk_cell BK172.out 2).trans rfl
                 have hcz43_3 : wc.cell? ⟨gb172, 3, none⟩ = some (.slice A171_3 ((rd_T44 l0 x4_2).f3).length c171_3) := (blk_cell BK172.out 3).trans rfl
                 have hfz43_0 := blk_frozen BK172.out 0
                 have hfz43_1 := blk_frozen BK172.out 1
                 have hfz43_2 := blk_frozen BK172.out 2
                 have hfz43_3 := blk_frozen BK172.out 3
                 have hcz44_0 : wc.cell? ⟨gb174, 0, none⟩ = some (.int .i64 ((rd_T44 l0 x3_1).f0)) := (blk_cell BK174.out 0).trans rfl
                 have hcz44_1 : wc.cell? ⟨gb174, 1, none⟩ = some (.int .i64 ((rd_T44 l0 x3_1).f1)) := (blk_cell BK174.out 1).trans rfl
                 have hcz44_2 : wc.cell? ⟨gb174, 2, none⟩ = some (.int .i64 ((rd_T44 l0 x3_1).f2)) := (blk_cell BK174.out 2).trans rfl
                 have hcz44_3 : wc.cell? ⟨gb174, 3, none⟩ = some (.slice A173_3 ((rd_T44 l0 x3_1).f3).length c173_3) := (blk_cell BK174.out 3).trans rfl
                 have hfz44_0 := blk_frozen BK174.out 0
                 have hfz44_1 := blk_frozen BK174.out 1
                 have hfz44_2 := blk_frozen BK174.out 2
                 have hfz44_3 := blk_frozen BK174.out 3
                 go_wp2
                 go_roundg kj11
                 case measure => have := HK1.out; have := HK2.out; have := HJ11.out; omega
                 case rel => exact ⟨(wrap64 (x4_2 + 1)), (by first | rfl | (simp; done) | (simp [*]; done)), H', ⟨by have := HK1.out; have := HK2.out; have := HJ11.out; omega⟩, ⟨by repeat (first | (with_reducible first | exact HB.out | apply below_alloc | apply pw_below_drewN | apply below_drew1 | refine below_set ?_ GE172.out | refine below_set ?_ GE174.out))⟩⟩
            ·rw [if_neg c11] at H
             exact absurd H (by simp)
           ·rw [if_neg c10] at H
            exact absurd H (by simp)
          ·rw [if_neg c9] at H
           exact absurd H (by simp)
         ·rw [if_neg c8] at H
          exact absurd H (by simp)
        ·rw [if_neg c7] at H
         have c7b0 : decide (x4_2 < x3_1) = false := decide_eq_false c7
         clear c7
         have H' := Aside0.mk H
         clear H
         go_wp2
         go_loopg [7] k2 (fun kq v7 w' => ∃ (x7_3 : Int), v7 = .int .i64 x7_3 ∧ Aside0 (ref06_May.l2 kq l0 x3_1 x7_3 = some r) ∧ Aside0 (kq ≤ k2) ∧ Aside0 (Below w.heap.size w w'))
         case atStart => exact ⟨(0), (by first | rfl | (simp; done) | (simp [*]; done)), H', ⟨Nat.le_refl _⟩, ⟨by repeat (first | (with_reducible first | exact HB.out | apply below_alloc | apply pw_below_drewN | apply below_drew1))⟩⟩
         case round =>
          clear H'
          try clear c1
          try clear p1
          try clear q1
          try clear hx1
          try clear c2
          try clear c2b0
          try clear p2
          try clear c3
          try clear c3b0
          try clear c4
          try clear c5
          try clear p6
          try clear c7
          try clear c7b0
          try clear c8
          try clear c8b0
          try clear c9
          try clear c9b0
          try clear c10
          try clear c10b0
          try clear c11
          try clear c11b0
          try clear c16
          try clear p16
          try clear q16
          try clear hx16
          try clear c17
          try clear p17
          try clear q17
          try clear hx17
          try clear c18
          try clear c18b0
          try clear c18b1
          try clear c19
          try clear c22
          try clear c22b0
          try clear c22b1
          try clear c23
          try clear c26
          try clear c26b0
          try clear c26b1
          try clear c27
          try clear c30
          try clear c33
          try clear c34
          try clear c34b0
          try clear c34b1
          try clear c35
          try clear c35b0
          try clear c36
          try clear c39
          try clear c42
          try clear hcz14_0
          try clear hcz14_1
          try clear hcz14_2
          try clear hcz14_3
          try clear hcz17_0
          try clear hcz17_1
          try clear hcz17_2
          try clear hcz17_3
          try clear hcz20_0
          try clear hcz20_1
          try clear hcz20_2
          try clear hcz20_3
          try clear hcz21_0
          try clear hcz21_1
          try clear hcz21_2
          try clear hcz21_3
          try clear hcz24_0
          try clear hcz24_1
          try clear hcz24_2
          try clear hcz24_3
          try clear hcz25_0
          try clear hcz25_1
          try clear hcz25_2
          try clear hcz25_3
          try clear hcz28_0
          try clear hcz28_1
          try clear hcz28_2
          try clear hcz28_3
          try clear hcz29_0
          try clear hcz29_1
          try clear hcz29_2
          try clear hcz29_3
          try clear hcz31_0
          try clear hcz31_1
          try clear hcz31_2
          try clear hcz31_3
          try clear hcz32_0
          try clear hcz32_1
          try clear hcz32_2
          try clear hcz32_3
          try clear hcz37_0
          try clear hcz37_1
          try clear hcz37_2
          try clear hcz37_3
          try clear hcz38_0
          try clear hcz38_1
          try clear hcz38_2
          try clear hcz38_3
          try clear hcz40_0
          try clear hcz40_1
          try clear hcz40_2
          try clear hcz40_3
          try clear hcz41_0
          try clear hcz41_1
          try clear hcz41_2
          try clear hcz41_3
          try clear hcz43_0
          try clear hcz43_1
          try clear hcz43_2
          try clear hcz43_3
          try clear hcz44_0
          try clear hcz44_1
          try clear hcz44_2
          try clear hcz44_3
          try clear hfz14_0
          try clear hfz14_1
          try clear hfz14_2
          try clear hfz14_3
          try clear hfz17_0
          try clear hfz17_1
          try clear hfz17_2
          try clear hfz17_3
          try clear hfz20_0
          try clear hfz20_1
          try clear hfz20_2
          try clear hfz20_3
          try clear hfz21_0
          try clear hfz21_1
          try clear hfz21_2
          try clear hfz21_3
          try clear hfz24_0
          try clear hfz24_1
          try clear hfz24_2
          try clear hfz24_3
          try clear hfz25_0
          try clear hfz25_1
          try clear hfz25_2
          try clear hfz25_3
          try clear hfz28_0
          try clear hfz28_1
          try clear hfz28_2
          try clear hfz28_3
          try clear hfz29_0
          try clear hfz29_1
          try clear hfz29_2
          try clear hfz29_3
          try clear hfz31_0
          try clear hfz31_1
          try clear hfz31_2
          try clear hfz31_3
          try clear hfz32_0
          try clear hfz32_1
          try clear hfz32_2
          try clear hfz32_3
          try clear hfz37_0
          try clear hfz37_1
          try clear hfz37_2
          try clear hfz37_3
          try clear hfz38_0
          try clear hfz38_1
          try clear hfz38_2
          try clear hfz38_3
          try clear hfz40_0
          try clear hfz40_1
          try clear hfz40_2
          try clear hfz40_3
          try clear hfz41_0
          try clear hfz41_1
          try clear hfz41_2
          try clear hfz41_3
          try clear hfz43_0
          try clear hfz43_1
          try clear hfz43_2
          try clear hfz43_3
          try clear hfz44_0
          try clear hfz44_1
          try clear hfz44_2
          try clear hfz44_3
          try clear hx169_0
          try clear hx169_1
          try clear hx169_2
          try clear hx169_3
          try clear hx171_0
          try clear hx171_1
          try clear hx171_2
          try clear hx171_3
          try clear hx173_0
          try clear hx173_1
          try clear hx173_2
          try clear hx173_3
          try clear p1
          try clear p16
          try clear p169
          try clear p17
          try clear p171
          try clear p173
          try clear p2
          try clear q1
          try clear q16
          try clear q169
          try clear q17
          try clear q171
          try clear q173
          obtain ⟨x7_3, rfl, HA, HK3, HB⟩ := hrel
          cases gk with
          | zero => exact absurd HA.out (by simp [ref06_May.l2])
          | succ k3 =>
           have H := HA.out
           clear HA
           simp only [ref06_May.l2] at H
           by_cases c45 : 0 ≤ x3_1
           ·rw [if_pos c45] at H
            have c45b0 : decide (0 ≤ x3_1) = true := decide_eq_true c45
            clear c45
            by_cases c46 : x3_1 < (l0.length : Int)
            ·rw [if_pos c46] at H
             have c46b0 : decide (x3_1 < (l0.length : Int)) = true := decide_eq_true c46
             clear c46
             by_cases c47 : x7_3 < (((rd_T44 l0 x3_1).f3).length : Int)
             ·rw [if_pos c47] at H
              have c47b0 : decide (x7_3 < (((rd_T44 l0 x3_1).f3).length : Int)) = true := decide_eq_true c47
              clear c47
              by_cases c48 : 0 ≤ x7_3
              ·rw [if_pos c48] at H
               have c48b0 : decide (0 ≤ x7_3) = true := decide_eq_true c48
               clear c48
               have HC49 := Aside0.mk H
               clear H
               have p175 : 0 ≤ (x3_1 : Int) := of_decide_eq_true (by assumption)
               have q175 : x3_1 < (l0.length : Int) := of_decide_eq_true (by assumption)
               obtain ⟨ad175, A175_3, c175_3, e175, hx175_0, hx175_1, hx175_2, hx175_3, hl175_3, hi175_3⟩ := at_T44 HR0.out x3_1 p175 q175
               obtain rfl : ad169 = ad175 := (by injection e175)
               replace hx175_0 := (HB.out.cell (World.block_lt_of_cell? w _ hx175_0)).trans hx175_0
               replace hx175_1 := (HB.out.cell (World.block_lt_of_cell? w _ hx175_1)).trans hx175_1
               replace hx175_2 := (HB.out.cell (World.block_lt_of_cell? w _ hx175_2)).trans hx175_2
               replace hx175_3 := (HB.out.cell (World.block_lt_of_cell? w _ hx175_3)).trans hx175_3
               have HR175_3 := Aside0.mk hi175_3
               have HC175_3 := Aside0.mk hl175_3
               clear hi175_3 hl175_3
               replace p175 := eq_true p175
               replace q175 := eq_true q175
               have p176 : 0 ≤ (x3_1 : Int) := of_decide_eq_true (by assumption)
               have q176 : x3_1 < (l0.length : Int) := of_decide_eq_true (by assumption)
               obtain ⟨ad176, A176_3, c176_3, e176, hx176_0, hx176_1, hx176_2, hx176_3, hl176_3, hi176_3⟩ := at_T44 HR0.out x3_1 p176 q176
               obtain rfl : ad169 = ad176 := (by injection e176)
               replace hx176_0 := (HB.out.cell (World.block_lt_of_cell? w _ hx176_0)).trans hx176_0
               replace hx176_1 := (HB.out.cell (World.block_lt_of_cell? w _ hx176_1)).trans hx176_1
               replace hx176_2 := (HB.out.cell (World.block_lt_of_cell? w _ hx176_2)).trans hx176_2
               replace hx176_3 := (HB.out.cell (World.block_lt_of_cell? w _ hx176_3)).trans hx176_3
               have HR176_3 := Aside0.mk hi176_3
               have HC176_3 := Aside0.mk hl176_3
               clear hi176_3 hl176_3
               replace p176 := eq_true p176
               replace q176 := eq_true q176
               have ea_ := Option.some.inj (hx175_3.symm.trans hx176_3)
               injection ea_ with ea_ en_ ec_
               subst ea_
               subst ec_
               clear en_
               have p177 : 0 ≤ (x7_3 : Int) := of_decide_eq_true (by assumption)
               have q177 : x7_3 < (((rd_T44 l0 x3_1).f3).length : Int) := of_decide_eq_true (by assumption)
               obtain ⟨ad177, e177, hx177_0, hx177_1, hx177_2⟩ := at_T46 HR176_3.out x7_3 p177 q177
               cases e177
               replace hx177_0 := (HB.out.cell (World.block_lt_of_cell? w _ hx177_0)).trans hx177_0
               replace hx177_1 := (HB.out.cell (World.block_lt_of_cell? w _ hx177_1)).trans hx177_1
               replace hx177_2 := (HB.out.cell (World.block_lt_of_cell? w _ hx177_2)).trans hx177_2
               replace p177 := eq_true p177
               replace q177 := eq_true q177
               go_upto_region 19 with (first | ((with_reducible refine gate_dst (N := 8) rfl ?_); refine box_event ?hg (N := 8) ?hd (cs := #[.bool false, .int .i64 0, .int .i64 0]) (t := 46) ?hr ?_; (case hd => rfl); (case hg => rfl); (case hr => first | (go_simp; done) | (go_simp; rfl)); intro gb178 hg w50 hbox hb; have n0_ := Aside0.mk (below_step (by repeat (first | (with_reducible first | exact HB.out | apply below_alloc | apply pw_below_drewN | apply below_drew1))) hb); have n1_ := Aside0.mk (hbox); have n2_ := Aside0.mk ((by rw [hg]; exact (below_size (by repeat (first | (with_reducible first | exact HB.out | apply below_alloc | apply pw_below_drewN | apply below_drew1)))) : w.heap.size ≤ gb178)); have n3_ := Aside0.mk ((by rw [hg]; exact (below_size (by repeat (first | (with_reducible first | exact HB.out | apply below_alloc | apply pw_below_drewN | apply below_drew1)))) : w.heap.size ≤ gb178)); clear HB; have HB := n0_; have BK178 := n1_; have GW178 := n2_; have GE178 := n3_; clear n0_ n1_ n2_ n3_; clear hb hbox hg; have hcz51_0 : w50.cell? ⟨gb178, 0, none⟩ = some (.bool false) := (blk_cell BK178.out 0).trans rfl; have hcz51_1 : w50.cell? ⟨gb178, 1, none⟩ = some (.int .i64 0) := (blk_cell BK178.out 1).trans rfl; have hcz51_2 : w50.cell? ⟨gb178, 2, none⟩ = some (.int .i64 0) := (blk_cell BK178.out 2).trans rfl; have hfz51_0 := blk_frozen BK178.out 0; have hfz51_1 := blk_frozen BK178.out 1; have hfz51_2 := blk_frozen BK178.out 2))
               (try simp only [Act.put, List.setIfInBounds_toArray, List.set_cons_zero, List.set_cons_succ])
               go_cut [98] (fun v98 wc => ∃ (kq : Nat) (x98_48 : Bool), v98 = .bool x98_48 ∧ Aside0 (ref06_May.j4 kq l0 x3_1 x7_3 x98_48 ((rd_T46 ((rd_T44 l0 x3_1).f3) x7_3).f0) ((rd_T46 ((rd_T44 l0 x3_1).f3) x7_3).f1) ((rd_T46 ((rd_T44 l0 x3_1).f3) x7_3).f2) = some r) ∧ Aside0 (kq ≤ k3) ∧ Aside0 (wc.heap[gb178]? = some (.cells #[.bool ((rd_T46 ((rd_T44 l0 x3_1).f3) x7_3).f0), .int .i64 ((rd_T46 ((rd_T44 l0 x3_1).f3) x7_3).f1), .int .i64 ((rd_T46 ((rd_T44 l0 x3_1).f3) x7_3).f2)] 46 (0, 0))) ∧ Aside0 (Below w.heap.size w wc))
               case first =>
                have H := HC49.out
                clear HC49
                obtain ⟨bq52, hbq52⟩ : ∃ b_ : Bool, b_ = ((rd_T46 ((rd_T44 l0 x3_1).f3) x7_3).f0) := ⟨_, rfl⟩
                replace H : (if bq52 = true then ((ref06_times.f k3 l0 ((rd_T46 ((rd_T44 l0 x3_1).f3) x7_3).f2)).bind fun t179 => (ref06_May.j4 k3 l0 x3_1 x7_3 (t179 != 1) bq52 ((rd_T46 ((rd_T44 l0 x3_1).f3) x7_3).f1) ((rd_T46 ((rd_T44 l0 x3_1).f3) x7_3).f2))) else (ref06_May.j4 k3 l0 x3_1 x7_3 false bq52 ((rd_T46 ((rd_T44 l0 x3_1).f3) x7_3).f1) ((rd_T46 ((rd_T44 l0 x3_1).f3) x7_3).f2))) = some r := by rw [← hbq52] at H; exact H
                have Nbq52 := Aside0.mk hbq52
                clear hbq52
                (try rw [← Nbq52.out])
                by_cases c53 : bq52 = true
                ·subst c53
                 have H1 : ((ref06_times.f k3 l0 ((rd_T46 ((rd_T44 l0 x3_1).f3) x7_3).f2)).bind fun t179 => (ref06_May.j4 k3 l0 x3_1 x7_3 (t179 != 1) true ((rd_T46 ((rd_T44 l0 x3_1).f3) x7_3).f1) ((rd_T46 ((rd_T44 l0 x3_1).f3) x7_3).f2))) = some r := by rw [if_pos rfl] at H; exact H
                 clear H
                 have H := H1
                 clear H1
                 replace H := Option.bind_eq_some_iff.mp H
                 obtain ⟨t179, A540, H⟩ := H
                 replace H : (ref06_May.j4 k3 l0 x3_1 x7_3 (t179 != 1) true ((rd_T46 ((rd_T44 l0 x3_1).f3) x7_3).f1) ((rd_T46 ((rd_T44 l0 x3_1).f3) x7_3).f2)) = some r := H
                 have A54 := Aside0.mk A540
                 clear A540
                 have H' := Aside0.mk H
                 clear H
                 have hcz55_0 : w50.cell? ⟨gb178, 0, none⟩ = some (.bool false) := (blk_cell BK178.out 0).trans rfl
                 have hcz55_1 : w50.cell? ⟨gb178, 1, none⟩ = some (.int .i64 0) := (blk_cell BK178.out 1).trans rfl
                 have hcz55_2 : w50.cell? ⟨gb178, 2, none⟩ = some (.int .i64 0) := (blk_cell BK178.out 2).trans rfl
                 have hfz55_0 := blk_frozen BK178.out 0
                 have hfz55_1 := blk_frozen BK178.out 1
                 have hfz55_2 := blk_frozen BK178.out 2
                 go_wp2_with (first | (go_at_call 91; (with_reducible refine (ref06_times.calls k3 _ _ l0 ((rd_T46 ((rd_T44 l0 x3_1).f3) x7_3).f2) t179 _ ?side1 ?side2 A54.out).mono ?_); (case side1 => exact Kd.C_below HR0.out (by repeat (first | (with_reducible first | exact HB.out | apply below_alloc | apply pw_below_drewN | apply below_drew1 | refine below_set ?_ GE178.out)))); (case side2 => exact HC0.out); rintro e w' ⟨rfl, ⟨nd, rfl⟩⟩))
                 go_meet
                 case rel => (try rw [← Nbq52.out]); exact ⟨_, ((t179 != 1)), (by first | rfl | (simp; done) | (simp [*]; done)), H', ⟨by have := HK1.out; have := HK2.out; have := HK3.out; first | omega | exact Nat.le_refl _⟩, ⟨by (with_reducible repeat (first | refine blk_drewN ?_ _ | refine blk_drew ?_ | refine blk_alloc ?_ _)); refine blk_put (cs := #[.bool (true), .int .i64 ((rd_T46 ((rd_T44 l0 x3_1).f3) x7_3).f1), .int .i64 0]) ?_ 2 _ rfl; (with_reducible repeat (first | refine blk_drewN ?_ _ | refine blk_drew ?_ | refine blk_alloc ?_ _)); refine blk_put (cs := #[.bool (true), .int .i64 0, .int .i64 0]) ?_ 1 _ rfl; (with_reducible repeat (first | refine blk_drewN ?_ _ | refine blk_drew ?_ | refine blk_alloc ?_ _)); refine blk_put (cs := #[.bool false, .int .i64 0, .int .i64 0]) ?_ 0 _ rfl; (with_reducible repeat (first | refine blk_drewN ?_ _ | refine blk_drew ?_ | refine blk_alloc ?_ _)); exact BK178.out⟩, ⟨by repeat (first | (with_reducible first | exact HB.out | apply below_alloc | apply pw_below_drewN | apply below_drew1 | refine below_set ?_ GE178.out))⟩⟩
                ·replace c53 := Bool.eq_false_iff.mpr c53
                 subst c53
                 have H1 : (ref06_May.j4 k3 l0 x3_1 x7_3 false false ((rd_T46 ((rd_T44 l0 x3_1).f3) x7_3).f1) ((rd_T46 ((rd_T44 l0 x3_1).f3) x7_3).f2)) = some r := by rw [if_neg (show ¬ (false = true) by decide)] at H; exact H
                 clear H
                 have H := H1
                 clear H1
                 have H' := Aside0.mk H
                 clear H
                 have hcz56_0 : w50.cell? ⟨gb178, 0, none⟩ = some (.bool false) := (blk_cell BK178.out 0).trans rfl
                 have hcz56_1 : w50.cell? ⟨gb178, 1, none⟩ = some (.int .i64 0) := (blk_cell BK178.out 1).trans rfl
                 have hcz56_2 : w50.cell? ⟨gb178, 2, none⟩ = some (.int .i64 0) := (blk_cell BK178.out 2).trans rfl
                 have hfz56_0 := blk_frozen BK178.out 0
                 have hfz56_1 := blk_frozen BK178.out 1
                 have hfz56_2 := blk_frozen BK178.out 2
                 go_wp2
                 go_meet
                 case rel => (try rw [← Nbq52.out]); exact ⟨_, (false), (by first | rfl | (simp; done) | (simp [*]; done)), H', ⟨by have := HK1.out; have := HK2.out; have := HK3.out; first | omega | exact Nat.le_refl _⟩, ⟨by (with_reducible repeat (first | refine blk_drewN ?_ _ | refine blk_drew ?_ | refine blk_alloc ?_ _)); refine blk_put (cs := #[.bool (false), .int .i64 ((rd_T46 ((rd_T44 l0 x3_1).f3) x7_3).f1), .int .i64 0]) ?_ 2 _ rfl; (with_reducible repeat (first | refine blk_drewN ?_ _ | refine blk_drew ?_ | refine blk_alloc ?_ _)); refine blk_put (cs := #[.bool (false), .int .i64 0, .int .i64 0]) ?_ 1 _ rfl; (with_reducible repeat (first | refine blk_drewN ?_ _ | refine blk_drew ?_ | refine blk_alloc ?_ _)); refine blk_put (cs := #[.bool false, .int .i64 0, .int .i64 0]) ?_ 0 _ rfl; (with_reducible repeat (first | refine blk_drewN ?_ _ | refine blk_drew ?_ | refine blk_alloc ?_ _)); exact BK178.out⟩, ⟨by repeat (first | (with_reducible first | exact HB.out | apply below_alloc | apply pw_below_drewN | apply below_drew1 | refine below_set ?_ GE178.out))⟩⟩
               case rest =>
                clear HC49
                try clear c1
                try clear p1
                try clear q1
                try clear hx1
                try clear c2
                try clear c2b0
                try clear p2
                try clear c3
                try clear c3b0
                try clear c4
                try clear c5
                try clear q5
                try clear p6
                try clear c7
                try clear c7b0
                try clear c8
                try clear c8b0
                try clear c9
                try clear c9b0
                try clear c10
                try clear c10b0
                try clear c11
                try clear c11b0
                try clear c16
                try clear p16
                try clear q16
                try clear hx16
                try clear c17
                try clear p17
                try clear q17
                try clear hx17
                try clear c18
                try clear c18b0
                try clear c18b1
                try clear c19
                try clear c22
                try clear c22b0
                try clear c22b1
                try clear c23
                try clear c26
                try clear c26b0
                try clear c26b1
                try clear c27
                try clear c30
                try clear c33
                try clear c34
                try clear c34b0
                try clear c34b1
                try clear c35
                try clear c35b0
                try clear c36
                try clear c39
                try clear c42
                try clear c45
                try clear c45b0
                try clear c46
                try clear c46b0
                try clear c47
                try clear c47b0
                try clear c48
                try clear c48b0
                try clear q52
                try clear c53
                try clear hcz14_0
                try clear hcz14_1
                try clear hcz14_2
                try clear hcz14_3
                try clear hcz17_0
                try clear hcz17_1
                try clear hcz17_2
                try clear hcz17_3
                try clear hcz20_0
                try clear hcz20_1
                try clear hcz20_2
                try clear hcz20_3
                try clear hcz21_0
                try clear hcz21_1
                try clear hcz21_2
                try clear hcz21_3
                try clear hcz24_0
                try clear hcz24_1
                try clear hcz24_2
                try clear hcz24_3
                try clear hcz25_0
                try clear hcz25_1
                try clear hcz25_2
                try clear hcz25_3
                try clear hcz28_0
                try clear hcz28_1
                try clear hcz28_2
                try clear hcz28_3
                try clear hcz29_0
                try clear hcz29_1
                try clear hcz29_2
                try clear hcz29_3
                try clear hcz31_0
                try clear hcz31_1
                try clear hcz31_2
                try clear hcz31_3
                try clear hcz32_0
                try clear hcz32_1
                try clear hcz32_2
                try clear hcz32_3
                try clear hcz37_0
                try clear hcz37_1
                try clear hcz37_2
                try clear hcz37_3
                try clear hcz38_0
                try clear hcz38_1
                try clear hcz38_2
                try clear hcz38_3
                try clear hcz40_0
                try clear hcz40_1
                try clear hcz40_2
                try clear hcz40_3
                try clear hcz41_0
                try clear hcz41_1
                try clear hcz41_2
                try clear hcz41_3
                try clear hcz43_0
                try clear hcz43_1
                try clear hcz43_2
                try clear hcz43_3
                try clear hcz44_0
                try clear hcz44_1
                try clear hcz44_2
                try clear hcz44_3
                try clear hcz51_0
                try clear hcz51_1
                try clear hcz51_2
                try clear hcz55_0
                try clear hcz55_1
                try clear hcz55_2
                try clear hcz56_0
                try clear hcz56_1
                try clear hcz56_2
                try clear hfz14_0
                try clear hfz14_1
                try clear hfz14_2
                try clear hfz14_3
                try clear hfz17_0
                try clear hfz17_1
                try clear hfz17_2
                try clear hfz17_3
                try clear hfz20_0
                try clear hfz20_1
                try clear hfz20_2
                try clear hfz20_3
                try clear hfz21_0
                try clear hfz21_1
                try clear hfz21_2
                try clear hfz21_3
                try clear hfz24_0
                try clear hfz24_1
                try clear hfz24_2
                try clear hfz24_3
                try clear hfz25_0
                try clear hfz25_1
                try clear hfz25_2
                try clear hfz25_3
                try clear hfz28_0
                try clear hfz28_1
                try clear hfz28_2
                try clear hfz28_3
                try clear hfz29_0
                try clear hfz29_1
                try clear hfz29_2
                try clear hfz29_3
                try clear hfz31_0
                try clear hfz31_1
                try clear hfz31_2
                try clear hfz31_3
                try clear hfz32_0
                try clear hfz32_1
                try clear hfz32_2
                try clear hfz32_3
                try clear hfz37_0
                try clear hfz37_1
                try clear hfz37_2
                try clear hfz37_3
                try clear hfz38_0
                try clear hfz38_1
                try clear hfz38_2
                try clear hfz38_3
                try clear hfz40_0
                try clear hfz40_1
                try clear hfz40_2
                try clear hfz40_3
                try clear hfz41_0
                try clear hfz41_1
                try clear hfz41_2
                try clear hfz41_3
                try clear hfz43_0
                try clear hfz43_1
                try clear hfz43_2
                try clear hfz43_3
                try clear hfz44_0
                try clear hfz44_1
                try clear hfz44_2
                try clear hfz44_3
                try clear hfz51_0
                try clear hfz51_1
                try clear hfz51_2
                try clear hfz55_0
                try clear hfz55_1
                try clear hfz55_2
                try clear hfz56_0
                try clear hfz56_1
                try clear hfz56_2
                try clear hx169_0
                try clear hx169_1
                try clear hx169_2
                try clear hx169_3
                try clear hx171_0
                try clear hx171_1
                try clear hx171_2
                try clear hx171_3
                try clear hx173_0
                try clear hx173_1
                try clear hx173_2
                try clear hx173_3
                try clear hx175_0
                try clear hx175_1
                try clear hx175_2
                try clear hx175_3
                try clear hx176_0
                try clear hx176_1
                try clear hx176_2
                try clear hx176_3
                try clear hx177_0
                try clear hx177_1
                try clear hx177_2
                try clear p1
                try clear p16
                try clear p169
                try clear p17
                try clear p171
                try clear p173
                try clear p175
                try clear p176
                try clear p177
                try clear p2
                try clear p6
                try clear q1
                try clear q16
                try clear q169
                try clear q17
                try clear q171
                try clear q173
                try clear q175
                try clear q176
                try clear q177
                obtain ⟨kq, x98_48, rfl, HA, HJ48, BK178, HB⟩ := hcut
                cases kq with
                | zero => exact absurd HA.out (by simp [ref06_May.j4])
                | succ kj48 =>
                 have H := HA.out
                 clear HA
                 simp only [ref06_May.j4] at H
                 by_cases c57 : x98_48 = true
                 ·subst c57
                  have H1 : (some false) = some r := by rw [if_pos rfl] at H; exact H
                  clear H
                  have H := H1
                  clear H1
                  obtain rfl := Option.some.inj H
                  go_wp2
                  go_ret
                  exact ⟨by first | rfl | (simp <;> rfl) | (simp [*] <;> rfl), by repeat (first | (with_reducible first | exact HB.out | apply below_alloc | apply pw_below_drewN | apply below_drew1 | refine below_set ?_ GE178.out))⟩
                 ·replace c57 := Bool.eq_false_iff.mpr c57
                  subst c57
                  have H1 : (if ((rd_T46 ((rd_T44 l0 x3_1).f3) x7_3).f0) = true then (ref06_May.l2 kj48 l0 x3_1 (wrap64 (x7_3 + 1))) else (if ((rd_T46 ((rd_T44 l0 x3_1).f3) x7_3).f2) = 0 then (ref06_May.l2 kj48 l0 x3_1 (wrap64 (x7_3 + 1))) else ((ref06_Writer.f kj48 l0 ((rd_T46 ((rd_T44 l0 x3_1).f3) x7_3).f1) ((rd_T46 ((rd_T44 l0 x3_1).f3) x7_3).f2)).bind fun t180 => (if t180 < 0 then (some false) else (ref06_May.l2 kj48 l0 x3_1 (wrap64 (x7_3 + 1))))))) = some r := by rw [if_neg (show ¬ (false = true) by decide)] at H; exact H
                  clear H
                  have H := H1
                  clear H1
                  by_cases c58 : ((rd_T46 ((rd_T44 l0 x3_1).f3) x7_3).f0) = true
                  ·rw [if_pos c58] at H
                   have c58b0 : ((rd_T46 ((rd_T44 l0 x3_1).f3) x7_3).f0) = true := c58
                   clear c58
                   have H' := Aside0.mk H
                   clear H
                   have hcz59_0 : wc.cell? ⟨gb178, 0, none⟩ = some (.bool ((rd_T46 ((rd_T44 l0 x3_1).f3) x7_3).f0)) := (blk_cell BK178.out 0).trans rfl
                   have hcz59_1 : wc.cell? ⟨gb178, 1, none⟩ = some (.int .i64 ((rd_T46 ((rd_T44 l0 x3_1).f3) x7_3).f1)) := (blk_cell BK178.out 1).trans rfl
                   have hcz59_2 : wc.cell? ⟨gb178, 2, none⟩ = some (.int .i64 ((rd_T46 ((rd_T44 l0 x3_1).f3) x7_3).f2)) := (blk_cell BK178.out 2).trans rfl
                   have hfz59_0 := blk_frozen BK178.out 0
                   have hfz59_1 := blk_frozen BK178.out 1
                   have hfz59_2 := blk_frozen BK178.out 2
                   go_wp2
                   go_roundg kj48
                   case measure => have := HK1.out; have := HK2.out; have := HK3.out; have := HJ48.out; omega
                   case rel => exact ⟨(wrap64 (x7_3 + 1)), (by first | rfl | (simp; done) | (simp [*]; done)), H', ⟨by have := HK1.out; have := HK2.out; have := HK3.out; have := HJ48.out; omega⟩, ⟨by repeat (first | (with_reducible first | exact HB.out | apply below_alloc | apply pw_below_drewN | apply below_drew1 | refine below_set ?_ GE178.out))⟩⟩
                  ·rw [if_neg c58] at H
                   have c58b0 : ((rd_T46 ((rd_T44 l0 x3_1).f3) x7_3).f0) = false := by simpa using c58
                   clear c58
                   by_cases c60 : ((rd_T46 ((rd_T44 l0 x3_1).f3) x7_3).f2) = 0
                   ·rw [if_pos c60] at H
                    have c60b0 : (((rd_T46 ((rd_T44 l0 x3_1).f3) x7_3).f2) == 0) = true := beq_iff_eq.mpr c60
                    have c60b1 : (((rd_T46 ((rd_T44 l0 x3_1).f3) x7_3).f2) != 0) = false := bne_eq_false_iff_eq.mpr c60
                    clear c60
                    have H' := Aside0.mk H
                    clear H
                    have hcz61_0 : wc.cell? ⟨gb178, 0, none⟩ = some (.bool ((rd_T46 ((rd_T44 l0 x3_1).f3) x7_3).f0)) := (blk_cell BK178.out 0).trans rfl
                    have hcz61_1 : wc.cell? ⟨gb178, 1, none⟩ = some (.int .i64 ((rd_T46 ((rd_T44 l0 x3_1).f3) x7_3).f1)) := (blk_cell BK178.out 1).trans rfl
                    have hcz61_2 : wc.cell? ⟨gb178, 2, none⟩ = some (.int .i64 ((rd_T46 ((rd_T44 l0 x3_1).f3) x7_3).f2)) := (blk_cell BK178.out 2).trans rfl
                    have hfz61_0 := blk_frozen BK178.out 0
                    have hfz61_1 := blk_frozen BK178.out 1
                    have hfz61_2 := blk_frozen BK178.out 2
                    go_wp2
                    go_roundg kj48
                    case measure => have := HK1.out; have := HK2.out; have := HK3.out; have := HJ48.out; omega
                    case rel => exact ⟨(wrap64 (x7_3 + 1)), (by first | rfl | (simp; done) | (simp [*]; done)), H', ⟨by have := HK1.out; have := HK2.out; have := HK3.out; have := HJ48.out; omega⟩, ⟨by repeat (first | (with_reducible first | exact HB.out | apply below_alloc | apply pw_below_drewN | apply below_drew1 | refine below_set ?_ GE178.out))⟩⟩
                   ·rw [if_neg c60] at H
                    have c60b0 : (((rd_T46 ((rd_T44 l0 x3_1).f3) x7_3).f2) == 0) = false := beq_eq_false_iff_ne.mpr c60
                    have c60b1 : (((rd_T46 ((rd_T44 l0 x3_1).f3) x7_3).f2) != 0) = true := bne_iff_ne.mpr c60
                    replace H := Option.bind_eq_some_iff.mp H
                    obtain ⟨t180, A620, H⟩ := H
                    replace H : (if t180 < 0 then (some false) else (ref06_May.l2 kj48 l0 x3_1 (wrap64 (x7_3 + 1)))) = some r := H
                    have A62 := Aside0.mk A620
                    clear A620
                    by_cases c63 : t180 < 0
                    ·rw [if_pos c63] at H
                     have c63b0 : decide (t180 < 0) = true := decide_eq_true c63
                     clear c63
                     obtain rfl := Option.some.inj H
                     have hcz64_0 : wc.cell? ⟨gb178, 0, none⟩ = some (.bool ((rd_T46 ((rd_T44 l0 x3_1).f3) x7_3).f0)) := (blk_cell BK178.out 0).trans rfl
                     have hcz64_1 : wc.cell? ⟨gb178, 1, none⟩ = some (.int .i64 ((rd_T46 ((rd_T44 l0 x3_1).f3) x7_3).f1)) := (blk_cell BK178.out 1).trans rfl
                     have hcz64_2 : wc.cell? ⟨gb178, 2, none⟩ = some (.int .i64 ((rd_T46 ((rd_T44 l0 x3_1).f3) x7_3).f2)) := (blk_cell BK178.out 2).trans rfl
                     have hfz64_0 := blk_frozen BK178.out 0
                     have hfz64_1 := blk_frozen BK178.out 1
                     have hfz64_2 := blk_frozen BK178.out 2
                     go_wp2_with (first | (go_at_call 78; (with_reducible refine (ref06_Writer.calls kj48 _ _ l0 ((rd_T46 ((rd_T44 l0 x3_1).f3) x7_3).f1) ((rd_T46 ((rd_T44 l0 x3_1).f3) x7_3).f2) t180 _ ?side1 ?side2 A62.out).mono ?_); (case side1 => repeat (first | exact (Kd.C_below HR0.out HB.out) | (with_reducible refine Kd.C_alloc ?_ _) | (with_reducible refine Kd.C_drewN ?_ _) | (with_reducible refine Kd.C_drew ?_))); (case side2 => exact HC0.out); rintro e w65 ⟨rfl, hb⟩; have n0_ := Aside0.mk (blk_below (g := gb178) (o := .cells #[.bool ((rd_T46 ((rd_T44 l0 x3_1).f3) x7_3).f0), .int .i64 ((rd_T46 ((rd_T44 l0 x3_1).f3) x7_3).f1), .int .i64 ((rd_T46 ((rd_T44 l0 x3_1).f3) x7_3).f2)] 46 (0, 0)) (by (with_reducible repeat (first | refine blk_drewN ?_ _ | refine blk_drew ?_ | refine blk_alloc ?_ _)); exact BK178.out) hb); have n1_ := Aside0.mk (below_step (by repeat (first | (with_reducible first | exact HB.out | apply below_alloc | apply pw_below_drewN | apply below_drew1 | refine below_set ?_ GE178.out))) hb); clear BK178; clear HB; have BK178 := n0_; have HB := n1_; clear n0_ n1_; (try clear hb); (try clear hb2); (try clear hk); (try clear hi)))
                     go_ret
                     exact ⟨by first | rfl | (simp <;> rfl) | (simp [*] <;> rfl), by repeat (first | (with_reducible first | exact HB.out | apply below_alloc | apply pw_below_drewN | apply below_drew1 | refine below_set ?_ GE178.out))⟩
                    ·rw [if_neg c63] at H
                     have c63b0 : decide (t180 < 0) = false := decide_eq_false c63
                     clear c63
                     have H' := Aside0.mk H
                     clear H
                     have hcz66_0 : wc.cell? ⟨gb178, 0, none⟩ = some (.bool ((rd_T46 ((rd_T44 l0 x3_1).f3) x7_3).f0)) := (blk_cell BK178.out 0).trans rfl
                     have hcz66_1 : wc.cell? ⟨gb178, 1, none⟩ = some (.int .i64 ((rd_T46 ((rd_T44 l0 x3_1).f3) x7_3).f1)) := (blk_cell BK178.out 1).trans rfl
                     have hcz66_2 : wc.cell? ⟨gb178, 2, none⟩ = some (.int .i64 ((rd_T46 ((rd_T44 l0 x3_1).f3) x7_3).f2)) := (blk_cell BK178.out 2).trans rfl
                     have hfz66_0 := blk_frozen BK178.out 0
                     have hfz66_1 := blk_frozen BK178.out 1
                     have hfz66_2 := blk_frozen BK178.out 2
                     go_wp2_with (first | (go_at_call 78; (with_reducible refine (ref06_Writer.calls kj48 _ _ l0 ((rd_T46 ((rd_T44 l0 x3_1).f3) x7_3).f1) ((rd_T46 ((rd_T44 l0 x3_1).f3) x7_3).f2) t180 _ ?side1 ?side2 A62.out).mono ?_); (case side1 => repeat (first | exact (Kd.C_below HR0.out HB.out) | (with_reducible refine Kd.C_alloc ?_ _) | (with_reducible refine Kd.C_drewN ?_ _) | (with_reducible refine Kd.C_drew ?_))); (case side2 => exact HC0.out); rintro e w67 ⟨rfl, hb⟩; have n0_ := Aside0.mk (blk_below (g := gb178) (o := .cells #[.bool ((rd_T46 ((rd_T44 l0 x3_1).f3) x7_3).f0), .int .i64 ((rd_T46 ((rd_T44 l0 x3_1).f3) x7_3).f1), .int .i64 ((rd_T46 ((rd_T44 l0 x3_1).f3) x7_3).f2)] 46 (0, 0)) (by (with_reducible repeat (first | refine blk_drewN ?_ _ | refine blk_drew ?_ | refine blk_alloc ?_ _)); exact BK178.out) hb); have n1_ := Aside0.mk (below_step (by repeat (first | (with_reducible first | exact HB.out | apply below_alloc | apply pw_below_drewN | apply below_drew1 | refine below_set ?_ GE178.out))) hb); clear BK178; clear HB; have BK178 := n0_; have HB := n1_; clear n0_ n1_; (try clear hb); (try clear hb2); (try clear hk); (try clear hi)))
                     go_roundg kj48
                     case measure => have := HK1.out; have := HK2.out; have := HK3.out; have := HJ48.out; omega
                     case rel => exact ⟨(wrap64 (x7_3 + 1)), (by first | rfl | (simp; done) | (simp [*]; done)), H', ⟨by have := HK1.out; have := HK2.out; have := HK3.out; have := HJ48.out; omega⟩, ⟨by repeat (first | (with_reducible first | exact HB.out | apply below_alloc | apply pw_below_drewN | apply below_drew1 | refine below_set ?_ GE178.out))⟩⟩
              ·rw [if_neg c48] at H
               exact absurd H (by simp)
             ·rw [if_neg c47] at H
              have c47b0 : decide (x7_3 < (((rd_T44 l0 x3_1).f3).length : Int)) = false := decide_eq_false c47
              clear c47
              have H' := Aside0.mk H
              clear H
              have p175 : 0 ≤ (x3_1 : Int) := of_decide_eq_true (by assumption)
              have q175 : x3_1 < (l0.length : Int) := of_decide_eq_true (by assumption)
              obtain ⟨ad175, A175_3, c175_3, e175, hx175_0, hx175_1, hx175_2, hx175_3, hl175_3, hi175_3⟩ := at_T44 HR0.out x3_1 p175 q175
              obtain rfl : ad169 = ad175 := (by injection e175)
              replace hx175_0 := (HB.out.cell (World.block_lt_of_cell? w _ hx175_0)).trans hx175_0
              replace hx175_1 := (HB.out.cell (World.block_lt_of_cell? w _ hx175_1)).trans hx175_1
              replace hx175_2 := (HB.out.cell (World.block_lt_of_cell? w _ hx175_2)).trans hx175_2
              replace hx175_3 := (HB.out.cell (World.block_lt_of_cell? w _ hx175_3)).trans hx175_3
              have HR175_3 := Aside0.mk hi175_3
              have HC175_3 := Aside0.mk hl175_3
              clear hi175_3 hl175_3
              replace p175 := eq_true p175
              replace q175 := eq_true q175
              go_wp2
              go_roundg k3
              case measure => have := HK1.out; have := HK2.out; have := HK3.out; omega
              case rel => exact ⟨(wrap64 (x3_1 + 1)), (by first | rfl | (simp; done) | (simp [*]; done)), H', ⟨by have := HK1.out; have := HK2.out; have := HK3.out; omega⟩, ⟨by repeat (first | (with_reducible first | exact HB.out | apply below_alloc | apply pw_below_drewN | apply below_drew1))⟩⟩
            ·rw [if_neg c46] at H
             exact absurd H (by simp)
           ·rw [if_neg c45] at H
            exact absurd H (by simp)
     ·replace c5 := Bool.eq_false_iff.mpr c5
      subst c5
      have H1 : (some false) = some r := by rw [if_neg (show ¬ (false = true) by decide)] at H; exact H
      clear H
      have H := H1
      clear H1
      obtain rfl := Option.some.inj H
      have p169 : 0 ≤ (x3_1 : Int) := of_decide_eq_true (by assumption)
      have q169 : x3_1 < (l0.length : Int) := of_decide_eq_true (by assumption)
      obtain ⟨ad169, A169_3, c169_3, e169, hx169_0, hx169_1, hx169_2, hx169_3, hl169_3, hi169_3⟩ := at_T44 HR0.out x3_1 p169 q169
      cases e169
      replace hx169_0 := (HB.out.cell (World.block_lt_of_cell? w _ hx169_0)).trans hx169_0
      replace hx169_1 := (HB.out.cell (World.block_lt_of_cell? w _ hx169_1)).trans hx169_1
      replace hx169_2 := (HB.out.cell (World.block_lt_of_cell? w _ hx169_2)).trans hx169_2
      replace hx169_3 := (HB.out.cell (World.block_lt_of_cell? w _ hx169_3)).trans hx169_3
      have HR169_3 := Aside0.mk hi169_3
      have HC169_3 := Aside0.mk hl169_3
      clear hi169_3 hl169_3
      replace p169 := eq_true p169
      replace q169 := eq_true q169
      go_wp2_with (first | ((with_reducible refine gate_callee (f := 90) rfl ?_); refine goesL_ (some 19) rfl rfl Try.func90 (by kernel_rfl) rfl #[.agg #[.int .i64 ((rd_T44 l0 x3_1).f0), .int .i64 ((rd_T44 l0 x3_1).f1), .int .i64 ((rd_T44 l0 x3_1).f2), .slice A169_3 ((rd_T44 l0 x3_1).f3).length c169_3]] rfl (by (try simp only [List.map_toArray, List.map_cons, List.map_nil]); first | done | rfl | (simp only [List.length_drop, List.length_take]; rfl)) ?_; (with_reducible refine (ref06_mayTxn.calls k1 ((rd_T44 l0 x3_1).f0) ((rd_T44 l0 x3_1).f1) ((rd_T44 l0 x3_1).f2) _ _ ((rd_T44 l0 x3_1).f3) false _ ?side1 ?side2 A4.out).mono ?_); (case side1 => repeat (first | exact (Kd.C_below HR169_3.out HB.out) | (with_reducible refine Kd.C_alloc ?_ _) | (with_reducible refine Kd.C_drewN ?_ _) | (with_reducible refine Kd.C_drew ?_))); (case side2 => exact HC169_3.out); rintro e w68 ⟨rfl, hb⟩; refine ⟨_, rfl, ?_⟩; have n0_ := Aside0.mk (below_step (by repeat (first | (with_reducible first | exact HB.out | apply below_alloc | apply pw_below_drewN | apply below_drew1))) hb); clear HB; have HB := n0_; clear n0_; (try clear hb); (try clear hb2); (try clear hk); (try clear hi)))
      go_ret
      exact ⟨by first | rfl | (simp <;> rfl) | (simp [*] <;> rfl), by repeat (first | (with_reducible first | exact HB.out | apply below_alloc | apply pw_below_drewN | apply below_drew1))⟩
    ·rw [if_neg c3] at H
     exact absurd H (by simp)
   ·rw [if_neg c2] at H
    have c2b0 : decide (x3_1 < (l0.length : Int)) = false := decide_eq_false c2
    clear c2
    obtain rfl := Option.some.inj H
    go_wp2
    go_ret
    exact ⟨by first | rfl | (simp <;> rfl) | (simp [*] <;> rfl), by repeat (first | (with_reducible first | exact HB.out | apply below_alloc | apply pw_below_drewN | apply below_drew1))⟩
end Go.Proofs.Ytfocaefnmfkojaa.Q
namespace Go.Proofs.Ytfocaefnmfkojaa.Q
open Go.RowKit Go.Proofs.YtfocaefnmfkojaaW.PrintWords Go.Proofs.YtfocaefnmfkojaaW.PrintLast Go.Proofs.YtfocaefnmfkojaaW.PrintMore
attribute [local go_sem] max2_int min2_int max_two min_two max_three min_three max_four min_four   -- for this text's walks alone
set_option linter.unusedVariables false
set_option linter.unusedSimpArgs false
def ref06_Check.j0 : Nat → List (S44) → Bool → Option (Int)
 | 0, _, _ => none
 | k + 1, x0, x10 => if x10 = true then (some 3) else ((ref06_May.f k x0).bind fun t182 => (if t182 = true then (some 0) else (some 2)))
def ref06_Check.f (k : Nat) (l0 : List (S44)) : Option (Int) := if (l0.length : Int) > 64 then (ref06_Check.j0 k l0 true) else ((ref06_Count.f k l0).bind fun t181 => (ref06_Check.j0 k l0 (decide (t181 > 1024))))
theorem ref06_Check.mono_l : ∀ k, (∀ y0 y1, LeO (ref06_Check.j0 k y0 y1) (ref06_Check.j0 (k + 1) y0 y1))
 | 0 => fun _ _ r h => by simp [ref06_Check.j0] at h
 | k + 1 => by
  have ih0 := ref06_Check.mono_l k
  ·intro y0 y1
   unfold ref06_Check.j0
   repeat' first
   | (with_reducible exact ih0 _ _)
   | (with_reducible exact ref06_Count.mono _ _)
   | (with_reducible exact ref06_May.mono _ _)
   | (with_reducible exact LeO.refl _)
   | (with_reducible exact LeO.none _)
   | (with_reducible refine LeO.ite ?_ ?_)
   | (with_reducible refine LeO.bind ?_ (fun _ => ?_))
   | exact ih0 _ _
   | exact ref06_Count.mono _ _
   | exact ref06_May.mono _ _
   | exact LeO.none _
   | refine LeO.ite ?_ ?_
   | refine LeO.bind ?_ (fun _ => ?_)
theorem ref06_Check.mono : ∀ a0 k, LeO (ref06_Check.f k a0) (ref06_Check.f (k + 1) a0) := by
 intro a0 k
 have ih0 := ref06_Check.mono_l k
 unfold ref06_Check.f
 repeat' first
   | (with_reducible exact ih0 _ _)
   | (with_reducible exact ref06_Count.mono _ _)
   | (with_reducible exact ref06_May.mono _ _)
   | (with_reducible exact LeO.refl _)
   | (with_reducible exact LeO.none _)
   | (with_reducible refine LeO.ite ?_ ?_)
   | (with_reducible refine LeO.bind ?_ (fun _ => ?_))
   | exact ih0 _ _
   | exact ref06_Count.mono _ _
   | exact ref06_May.mono _ _
   | exact LeO.none _
   | refine LeO.ite ?_ ?_
   | refine LeO.bind ?_ (fun _ => ?_)
set_option maxHeartbeats 8000000 in
set_option maxRecDepth 100000 in
theorem ref06_Check.calls (k : Nat) (A0 : Option Addr) (c0 : Nat) (l0 : List (S44)) (r : Int) (w : World) (hr0 : Kd.C k44 w A0 l0.length l0) (hc0 : l0.length ≤ c0) (h : ref06_Check.f k l0 = some r) :
  Calls Try.prog 16 #[.slice A0 l0.length c0] w fun e w' => e = .returned (.int .i64 r) ∧ Below w.heap.size w w' := by
 have HR0 := Aside0.mk hr0
 have HC0 := Aside0.mk hc0
 clear hr0 hc0
 have HB := Aside0.mk (Below.refl w.heap.size w)
 have H : (if (l0.length : Int) > 64 then (ref06_Check.j0 k l0 true) else ((ref06_Count.f k l0).bind fun t181 => (ref06_Check.j0 k l0 (decide (t181 > 1024))))) = some r := h
 clear h
 have HC2 := Aside0.mk H
 clear H
 go_enter Try.func16, Try.ntmps16
 go_upto_region 1 with (fail)
 go_cut [10] (fun v10 wc => ∃ (kq : Nat) (x10_1 : Bool), v10 = .bool x10_1 ∧ Aside0 (ref06_Check.j0 kq l0 x10_1 = some r) ∧ Aside0 (kq ≤ k) ∧ Aside0 (Below w.heap.size w wc))
 case first =>
  have H := HC2.out
  clear HC2
  by_cases c3 : (l0.length : Int) > 64
  ·rw [if_pos c3] at H
   have c3b0 : decide (64 < (l0.length : Int)) = true := decide_eq_true c3
   have c3b1 : decide (64 < l0.length) = true := decide_eq_true (by omega)
   clear c3
   (first | rw [c3b0] | (simp only [i64_w, i32_w]; rw [c3b0]) | skip)
   have H' := Aside0.mk H
   clear H
   go_wp2
   go_meet
   case rel => exact ⟨_, (true), (by first | rfl | (simp; done) | (simp [*]; done)), H', ⟨by first | omega | exact Nat.le_refl _⟩, ⟨by repeat (first | (with_reducible first | exact HB.out | apply below_alloc | apply pw_below_drewN | apply below_drew1))⟩⟩
  ·rw [if_neg c3] at H
   have c3b0 : decide (64 < (l0.length : Int)) = false := decide_eq_false c3
   have c3b1 : decide (64 < l0.length) = false := decide_eq_false (by omega)
   clear c3
   (first | rw [c3b0] | (simp only [i64_w, i32_w]; rw [c3b0]) | skip)
   replace H := Option.bind_eq_some_iff.mp H
   obtain ⟨t181, A40, H⟩ := H
   replace H : (ref06_Check.j0 k l0 (decide (t181 > 1024))) = some r := H
   have A4 := Aside0.mk A40
   clear A40
   have H' := Aside0.mk H
   clear H
   go_wp2_with (first | (go_at_call 27; (with_reducible refine (ref06_Count.calls k _ _ l0 t181 _ ?side1 ?side2 A4.out).mono ?_); (case side1 => repeat (first | exact (Kd.C_below HR0.out HB.out) | (with_reducible refine Kd.C_alloc ?_ _) | (with_reducible refine Kd.C_drewN ?_ _) | (with_reducible refine Kd.C_drew ?_))); (case side2 => exact HC0.out); rintro e w' ⟨rfl, ⟨nd, rfl⟩⟩))
   go_meet
   case rel => exact ⟨_, (decide (t181 > 1024)), (by first | rfl | (simp; done) | (simp [*]; done)), H', ⟨by first | omega | exact Nat.le_refl _⟩, ⟨by repeat (first | (with_reducible first | exact HB.out | apply below_alloc | apply pw_below_drewN | apply below_drew1))⟩⟩
 case rest =>
  clear HC2
  try clear c1
  try clear p2
  try clear c3
  try clear c3b0
  try clear c3b1
  obtain ⟨kq, x10_1, rfl, HA, HJ1, HB⟩ := hcut
  cases kq with
  | zero => exact absurd HA.out (by simp [ref06_Check.j0])
  | succ kj1 =>
   have H := HA.out
   clear HA
   simp only [ref06_Check.j0] at H
   by_cases c5 : x10_1 = true
   ·subst c5
    have H1 : (some 3) = some r := by rw [if_pos rfl] at H; exact H
    clear H
    have H := H1
    clear H1
    obtain rfl := Option.some.inj H
    go_wp2
    go_ret
    exact ⟨by first | rfl | (simp <;> rfl) | (simp [*] <;> rfl), by repeat (first | (with_reducible first | exact HB.out | apply below_alloc | apply pw_below_drewN | apply below_drew1))⟩
   ·replace c5 := Bool.eq_false_iff.mpr c5
    subst c5
    have H1 : ((ref06_May.f kj1 l0).bind fun t182 => (if t182 = true then (some 0) else (some 2))) = some r := by rw [if_neg (show ¬ (false = true) by decide)] at H; exact H
    clear H
    have H := H1
    clear H1
    replace H := Option.bind_eq_some_iff.mp H
    obtain ⟨t182, A60, H⟩ := H
    replace H : (if t182 = true then (some 0) else (some 2)) = some r := H
    have A6 := Aside0.mk A60
    clear A60
    by_cases c7 : t182 = true
    ·subst c7
     have H1 : (some 0) = some r := by rw [if_pos rfl] at H; exact H
     clear H
     have H := H1
     clear H1
     obtain rfl := Option.some.inj H
     go_wp2_with (first | ((with_reducible refine gate_callee (f := 57) rfl ?_); refine goesL_ (some 12) rfl rfl Try.func57 (by kernel_rfl) rfl #[.slice A0 l0.length c0] rfl (by (try simp only [List.map_toArray, List.map_cons, List.map_nil]); first | done | rfl | (simp only [List.length_drop, List.length_take]; rfl)) ?_; (with_reducible refine (ref06_May.calls kj1 _ _ l0 true _ ?side1 ?side2 A6.out).mono ?_); (case side1 => repeat (first | exact (Kd.C_below HR0.out HB.out) | (with_reducible refine Kd.C_alloc ?_ _) | (with_reducible refine Kd.C_drewN ?_ _) | (with_reducible refine Kd.C_drew ?_))); (case side2 => exact HC0.out); rintro e w8 ⟨rfl, hb⟩; refine ⟨_, rfl, ?_⟩; have n0_ := Aside0.mk (below_step (by repeat (first | (with_reducible first | exact HB.out | apply below_alloc | apply pw_below_drewN | apply below_drew1))) hb); clear HB; have HB := n0_; clear n0_; (try clear hb); (try clear hb2); (try clear hk); (try clear hi)))
     go_ret
     exact ⟨by first | rfl | (simp <;> rfl) | (simp [*] <;> rfl), by repeat (first | (with_reducible first | exact HB.out | apply below_alloc | apply pw_below_drewN | apply below_drew1))⟩
    ·replace c7 := Bool.eq_false_iff.mpr c7
     subst c7
     have H1 : (some 2) = some r := by rw [if_neg (show ¬ (false = true) by decide)] at H; exact H
     clear H
     have H := H1
     clear H1
     obtain rfl := Option.some.inj H
     go_wp2_with (first | ((with_reducible refine gate_callee (f := 57) rfl ?_); refine goesL_ (some 12) rfl rfl Try.func57 (by kernel_rfl) rfl #[.slice A0 l0.length c0] rfl (by (try simp only [List.map_toArray, List.map_cons, List.map_nil]); first | done | rfl | (simp only [List.length_drop, List.length_take]; rfl)) ?_; (with_reducible refine (ref06_May.calls kj1 _ _ l0 false _ ?side1 ?side2 A6.out).mono ?_); (case side1 => repeat (first | exact (Kd.C_below HR0.out HB.out) | (with_reducible refine Kd.C_alloc ?_ _) | (with_reducible refine Kd.C_drewN ?_ _) | (with_reducible refine Kd.C_drew ?_))); (case side2 => exact HC0.out); rintro e w9 ⟨rfl, hb⟩; refine ⟨_, rfl, ?_⟩; have n0_ := Aside0.mk (below_step (by repeat (first | (with_reducible first | exact HB.out | apply below_alloc | apply pw_below_drewN | apply below_drew1))) hb); clear HB; have HB := n0_; clear n0_; (try clear hb); (try clear hb2); (try clear hk); (try clear hi)))
     go_ret
     exact ⟨by first | rfl | (simp <;> rfl) | (simp [*] <;> rfl), by repeat (first | (with_reducible first | exact HB.out | apply below_alloc | apply pw_below_drewN | apply below_drew1))⟩
mutual
def ref05_Writes.l0 : Nat → List (S46) → List (S46) → Int → Option ((List (S46)))
 | 0, _, _, _ => none
 | k + 1, x0, x3, x4 => if x4 < 64 then (ref05_Writes.l1 k x0 x3 x4 (-1) 0) else (some x3)
def ref05_Writes.l1 : Nat → List (S46) → List (S46) → Int → Int → Int → Option ((List (S46)))
 | 0, _, _, _, _, _ => none
 | k + 1, x0, x3, x4, x5, x6 => if x6 < (x0.length : Int) then (if 0 ≤ x6 then (if ((rd_T46 x0 x6).f1) = x4 then (if (rd_T46 x0 x6).f0 = true then (ref05_Writes.l1 k x0 x3 x4 x6 (wrap64 (x6 + 1))) else (ref05_Writes.l1 k x0 x3 x4 x5 (wrap64 (x6 + 1)))) else (ref05_Writes.l1 k x0 x3 x4 x5 (wrap64 (x6 + 1)))) else (none)) else (if x5 ≥ 0 then (if 0 ≤ x5 then (if x5 < (x0.length : Int) then (if x3.length < 5864062014805 then (ref05_Writes.l0 k x0 (x3 ++ [(⟨(rd_T46 x0 x5).f0, (rd_T46 x0 x5).f1, (rd_T46 x0 x5).f2⟩ : S46)]) (wrap64 (x4 + 1))) else (none)) else (none)) else (none)) else (ref05_Writes.l0 k x0 x3 (wrap64 (x4 + 1))))
end
def ref05_Writes.f (k : Nat) (l0 : List (S46)) : Option ((List (S46))) := ref05_Writes.l0 k l0 (([] : List (S46))) 0
theorem ref05_Writes.mono_l : ∀ k, (∀ y0 y1 y2, LeO (ref05_Writes.l0 k y0 y1 y2) (ref05_Writes.l0 (k + 1) y0 y1 y2)) ∧ (∀ y0 y1 y2 y3 y4, LeO (ref05_Writes.l1 k y0 y1 y2 y3 y4) (ref05_Writes.l1 (k + 1) y0 y1 y2 y3 y4))
 | 0 => ⟨fun _ _ _ r h => by simp [ref05_Writes.l0] at h, fun _ _ _ _ _ r h => by simp [ref05_Writes.l1] at h⟩
 | k + 1 => by
  obtain ⟨ih0, ih1⟩ := ref05_Writes.mono_l k
  refine ⟨?_, ?_⟩
  ·intro y0 y1 y2
   unfold ref05_Writes.l0
   repeat' first
   | (with_reducible exact ih0 _ _ _)
   | (with_reducible exact ih1 _ _ _ _ _)
   | (with_reducible exact LeO.refl _)
   | (with_reducible exact LeO.none _)
   | (with_reducible refine LeO.ite ?_ ?_)
   | (with_reducible refine LeO.bind ?_ (fun _ => ?_))
   | exact ih0 _ _ _
   | exact ih1 _ _ _ _ _
   | exact LeO.none _
   | refine LeO.ite ?_ ?_
   | refine LeO.bind ?_ (fun _ => ?_)
  ·intro y0 y1 y2 y3 y4
   unfold ref05_Writes.l1
   repeat' first
   | (with_reducible exact ih0 _ _ _)
   | (with_reducible exact ih1 _ _ _ _ _)
   | (with_reducible exact LeO.refl _)
   | (with_reducible exact LeO.none _)
   | (with_reducible refine LeO.ite ?_ ?_)
   | (with_reducible refine LeO.bind ?_ (fun _ => ?_))
   | exact ih0 _ _ _
   | exact ih1 _ _ _ _ _
   | exact LeO.none _
   | refine LeO.ite ?_ ?_
   | refine LeO.bind ?_ (fun _ => ?_)
theorem ref05_Writes.mono : ∀ a0 k, LeO (ref05_Writes.f k a0) (ref05_Writes.f (k + 1) a0) := by
 intro a0 k
 obtain ⟨ih0, ih1⟩ := ref05_Writes.mono_l k
 unfold ref05_Writes.f
 repeat' first
   | (with_reducible exact ih0 _ _ _)
   | (with_reducible exact ih1 _ _ _ _ _)
   | (with_reducible exact LeO.refl _)
   | (with_reducible exact LeO.none _)
   | (with_reducible refine LeO.ite ?_ ?_)
   | (with_reducible refine LeO.bind ?_ (fun _ => ?_))
   | exact ih0 _ _ _
   | exact ih1 _ _ _ _ _
   | exact LeO.none _
   | refine LeO.ite ?_ ?_
   | refine LeO.bind ?_ (fun _ => ?_)
set_option maxHeartbeats 8000000 in
set_option maxRecDepth 100000 in
theorem ref05_Writes.calls (k : Nat) (A0 : Option Addr) (c0 : Nat) (l0 : List (S46)) (r : List (S46)) (w : World) (hr0 : Kd.C k46 w A0 l0.length l0) (hc0 : l0.length ≤ c0) (h : ref05_Writes.f k l0 = some r) :
  Calls Try.prog 44 #[.slice A0 l0.length c0] w fun e w' => ∃ v0_ : Value, e = .returned (v0_) ∧ Kd.R k46 46 w' w.heap.size (fun _ => True) v0_ r ∧ Below w.heap.size w w' := by
 have hu46 := Try.underlying46
 have HR0 := Aside0.mk hr0
 have HC0 := Aside0.mk hc0
 clear hr0 hc0
 have HB := Aside0.mk (Below.refl w.heap.size w)
 have H : (ref05_Writes.l0 k l0 (([] : List (S46))) 0) = some r := h
 clear h
 obtain ⟨y183, hy183⟩ : ∃ y_ : List (S46), y_ = (([] : List (S46))) := ⟨_, rfl⟩
 replace H : (ref05_Writes.l0 k l0 y183 0) = some r := by first | (rw [hy183]; with_reducible exact H) | (have H2_ := (Option.bind_some _ _).symm.trans H; rw [hy183]; with_reducible exact H2_) | (have H2_ := (Option.bind_some _ _).symm.trans H; with_reducible exact H2_) | with_reducible exact H | (rw [hy183]; exact H) | exact H
 have Ny183 := Aside0.mk hy183
 clear hy183
 have H' := Aside0.mk H
 clear H
 go_enter Try.func44, Try.ntmps44
 go_wp2_with (first | ((with_reducible refine gate_dst (N := 7) rfl ?_); refine Kd.R_lit k46 _ 46 ?hg (N := 7) ?hd (xs := ([] : List (S46))) (inner := []) (ok := fun _ => True) (okp := fun _ => True) ?hr ?hp (fun _ hk => hk) trivial (Below.refl _ _) (Nat.le_refl _) (by simp) ?_; (case hd => rfl); (case hg => rfl); (case hr => first | (go_simp; done) | (go_simp; rfl)); (case hp => exact (Reps.none _ _)); intro v184 w2 ho3 hb hg_ hnew_; clear hg_ hnew_; (first | rw [← Ny183.out] at ho3 | (simp only [Int.reduceToNat] at ho3; rw [← Ny183.out] at ho3)); have n0_ := Aside0.mk (Kd.R_lower ho3 (below_size (by repeat (first | (with_reducible first | exact HB.out | apply below_alloc | apply pw_below_drewN | apply below_drew1))))); have n1_ := Aside0.mk (below_step (by repeat (first | (with_reducible first | exact HB.out | apply below_alloc | apply pw_below_drewN | apply below_drew1))) hb); clear HB; have HO185 := n0_; have HB := n1_; clear n0_ n1_; clear hb ho3))
 go_loopg [3, 4] k (fun kq v3 v4 w' => ∃ (x3_1 : List (S46)) (x4_1 : Int), v4 = .int .i64 x4_1 ∧ Aside0 (ref05_Writes.l0 kq l0 x3_1 x4_1 = some r) ∧ Aside0 (kq ≤ k) ∧ Aside0 (Kd.R k46 46 w' w.heap.size (fun _ => True) v3 x3_1) ∧ Aside0 (Below w.heap.size w w'))
 case atStart => exact ⟨(y183), (0), (by first | rfl | (simp; done) | (simp [*]; done)), H', ⟨Nat.le_refl _⟩, ⟨by (with_reducible repeat (first | apply Kd.R_alloc | apply Kd.R_drewN | apply Kd.R_drew)); exact HO185.out⟩, ⟨by repeat (first | (with_reducible first | exact HB.out | apply below_alloc | apply pw_below_drewN | apply below_drew1))⟩⟩
 case round =>
  clear H'
  try clear p2
  obtain ⟨x3_1, x4_1, rfl, HA, HK1, HO_3, HB⟩ := hrel
  cases gk with
  | zero => exact absurd HA.out (by simp [ref05_Writes.l0])
  | succ k1 =>
   have H := HA.out
   clear HA
   simp only [ref05_Writes.l0] at H
   by_cases c4 : x4_1 < 64
   ·rw [if_pos c4] at H
    have c4b0 : decide (x4_1 < 64) = true := decide_eq_true c4
    clear c4
    have H' := Aside0.mk H
    clear H
    go_wp2
    go_loopg [5, 6] k1 (fun kq v5 v6 w' => ∃ (x5_2 : Int) (x6_2 : Int), v5 = .int .i64 x5_2 ∧ v6 = .int .i64 x6_2 ∧ Aside0 (ref05_Writes.l1 kq l0 x3_1 x4_1 x5_2 x6_2 = some r) ∧ Aside0 (kq ≤ k1) ∧ Aside0 (Kd.R k46 46 w' w.heap.size (fun _ => True) u3 x3_1) ∧ Aside0 (Below w.heap.size w w'))
    case atStart => exact ⟨((-1)), (0), (by first | rfl | (simp; done) | (simp [*]; done)), (by first | rfl | (simp; done) | (simp [*]; done)), H', ⟨Nat.le_refl _⟩, ⟨by (with_reducible repeat (first | apply Kd.R_alloc | apply Kd.R_drewN | apply Kd.R_drew)); exact HO_3.out⟩, ⟨by repeat (first | (with_reducible first | exact HB.out | apply below_alloc | apply pw_below_drewN | apply below_drew1))⟩⟩
    case round =>
     clear H'
     try clear p2
     try clear c4
     try clear c4b0
     try clear p2
     obtain ⟨x5_2, x6_2, rfl, rfl, HA, HK2, HO_3, HB⟩ := hrel
     cases gk with
     | zero => exact absurd HA.out (by simp [ref05_Writes.l1])
     | succ k2 =>
      have H := HA.out
      clear HA
      simp only [ref05_Writes.l1] at H
      by_cases c5 : x6_2 < (l0.length : Int)
      ·rw [if_pos c5] at H
       have c5b0 : decide (x6_2 < (l0.length : Int)) = true := decide_eq_true c5
       clear c5
       by_cases c6 : 0 ≤ x6_2
       ·rw [if_pos c6] at H
        have c6b0 : decide (0 ≤ x6_2) = true := decide_eq_true c6
        clear c6
        by_cases c7 : ((rd_T46 l0 x6_2).f1) = x4_1
        ·rw [if_pos c7] at H
         have c7b0 : (((rd_T46 l0 x6_2).f1) == x4_1) = true := beq_iff_eq.mpr c7
         have c7b1 : (((rd_T46 l0 x6_2).f1) != x4_1) = false := bne_eq_false_iff_eq.mpr c7
         clear c7
         obtain ⟨bq8, hbq8⟩ : ∃ b_ : Bool, b_ = ((rd_T46 l0 x6_2).f0) := ⟨_, rfl⟩
         replace H : (if bq8 = true then (ref05_Writes.l1 k2 l0 x3_1 x4_1 x6_2 (wrap64 (x6_2 + 1))) else (ref05_Writes.l1 k2 l0 x3_1 x4_1 x5_2 (wrap64 (x6_2 + 1)))) = some r := by rw [← hbq8] at H; exact H
         have Nbq8 := Aside0.mk hbq8
         clear hbq8
         by_cases c9 : bq8 = true
         ·subst c9
          have H1 : (ref05_Writes.l1 k2 l0 x3_1 x4_1 x6_2 (wrap64 (x6_2 + 1))) = some r := by rw [if_pos rfl] at H; exact H
          clear H
          have H := H1
          clear H1
          have H' := Aside0.mk H
          clear H
          have p186 : 0 ≤ (x6_2 : Int) := of_decide_eq_true (by assumption)
          have q186 : x6_2 < (l0.length : Int) := of_decide_eq_true (by assumption)
          obtain ⟨ad186, e186, hx186_0, hx186_1, hx186_2⟩ := at_T46 HR0.out x6_2 p186 q186
          (try rw [← Nbq8.out] at hx186_0)
          cases e186
          replace hx186_0 := (HB.out.cell (World.block_lt_of_cell? w _ hx186_0)).trans hx186_0
          replace hx186_1 := (HB.out.cell (World.block_lt_of_cell? w _ hx186_1)).trans hx186_1
          replace hx186_2 := (HB.out.cell (World.block_lt_of_cell? w _ hx186_2)).trans hx186_2
          replace p186 := eq_true p186
          replace q186 := eq_true q186
          have p187 : 0 ≤ (x6_2 : Int) := of_decide_eq_true (by assumption)
          have q187 : x6_2 < (l0.length : Int) := of_decide_eq_true (by assumption)
          obtain ⟨ad187, e187, hx187_0, hx187_1, hx187_2⟩ := at_T46 HR0.out x6_2 p187 q187
          (try rw [← Nbq8.out] at hx187_0)
          obtain rfl : ad186 = ad187 := (by injection e187)
          replace hx187_0 := (HB.out.cell (World.block_lt_of_cell? w _ hx187_0)).trans hx187_0
          replace hx187_1 := (HB.out.cell (World.block_lt_of_cell? w _ hx187_1)).trans hx187_1
          replace hx187_2 := (HB.out.cell (World.block_lt_of_cell? w _ hx187_2)).trans hx187_2
          replace p187 := eq_true p187
          replace q187 := eq_true q187
          go_wp2
          go_roundg k2
          case measure => have := HK1.out; have := HK2.out; omega
          case rel => (try rw [← Nbq8.out]); exact ⟨(x6_2), (wrap64 (x6_2 + 1)), (by first | rfl | (simp; done) | (simp [*]; done)), (by first | rfl | (simp; done) | (simp [*]; done)), H', ⟨by have := HK1.out; have := HK2.out; omega⟩, ⟨by (with_reducible repeat (first | apply Kd.R_alloc | apply Kd.R_drewN | apply Kd.R_drew)); exact HO_3.out⟩, ⟨by repeat (first | (with_reducible first | exact HB.out | apply below_alloc | apply pw_below_drewN | apply below_drew1))⟩⟩
         ·replace c9 := Bool.eq_false_iff.mpr c9
          subst c9
          have H1 : (ref05_Writes.l1 k2 l0 x3_1 x4_1 x5_2 (wrap64 (x6_2 + 1))) = some r := by rw [if_neg (show ¬ (false = true) by decide)] at H; exact H
          clear H
          have H := H1
          clear H1
          have H' := Aside0.mk H
          clear H
          have p186 : 0 ≤ (x6_2 : Int) := of_decide_eq_true (by assumption)
          have q186 : x6_2 < (l0.length : Int) := of_decide_eq_true (by assumption)
          obtain ⟨ad186, e186, hx186_0, hx186_1, hx186_2⟩ := at_T46 HR0.out x6_2 p186 q186
          (try rw [← Nbq8.out] at hx186_0)
          cases e186
          replace hx186_0 := (HB.out.cell (World.block_lt_of_cell? w _ hx186_0)).trans hx186_0
          replace hx186_1 := (HB.out.cell (World.block_lt_of_cell? w _ hx186_1)).trans hx186_1
          replace hx186_2 := (HB.out.cell (World.block_lt_of_cell? w _ hx186_2)).trans hx186_2
          replace p186 := eq_true p186
          replace q186 := eq_true q186
          have p187 : 0 ≤ (x6_2 : Int) := of_decide_eq_true (by assumption)
          have q187 : x6_2 < (l0.length : Int) := of_decide_eq_true (by assumption)
          obtain ⟨ad187, e187, hx187_0, hx187_1, hx187_2⟩ := at_T46 HR0.out x6_2 p187 q187
          (try rw [← Nbq8.out] at hx187_0)
          obtain rfl : ad186 = ad187 := (by injection e187)
          replace hx187_0 := (HB.out.cell (World.block_lt_of_cell? w _ hx187_0)).trans hx187_0
          replace hx187_1 := (HB.out.cell (World.block_lt_of_cell? w _ hx187_1)).trans hx187_1
          replace hx187_2 := (HB.out.cell (World.block_lt_of_cell? w _ hx187_2)).trans hx187_2
          replace p187 := eq_true p187
          replace q187 := eq_true q187
          go_wp2
          go_roundg k2
          case measure => have := HK1.out; have := HK2.out; omega
          case rel => (try rw [← Nbq8.out]); exact ⟨(x5_2), (wrap64 (x6_2 + 1)), (by first | rfl | (simp; done) | (simp [*]; done)), (by first | rfl | (simp; done) | (simp [*]; done)), H', ⟨by have := HK1.out; have := HK2.out; omega⟩, ⟨by (with_reducible repeat (first | apply Kd.R_alloc | apply Kd.R_drewN | apply Kd.R_drew)); exact HO_3.out⟩, ⟨by repeat (first | (with_reducible first | exact HB.out | apply below_alloc | apply pw_below_drewN | apply below_drew1))⟩⟩
        ·rw [if_neg c7] at H
         have c7b0 : (((rd_T46 l0 x6_2).f1) == x4_1) = false := beq_eq_false_iff_ne.mpr c7
         have c7b1 : (((rd_T46 l0 x6_2).f1) != x4_1) = true := bne_iff_ne.mpr c7
         have H' := Aside0.mk H
         clear H
         have p186 : 0 ≤ (x6_2 : Int) := of_decide_eq_true (by assumption)
         have q186 : x6_2 < (l0.length : Int) := of_decide_eq_true (by assumption)
         obtain ⟨ad186, e186, hx186_0, hx186_1, hx186_2⟩ := at_T46 HR0.out x6_2 p186 q186
         cases e186
         replace hx186_0 := (HB.out.cell (World.block_lt_of_cell? w _ hx186_0)).trans hx186_0
         replace hx186_1 := (HB.out.cell (World.block_lt_of_cell? w _ hx186_1)).trans hx186_1
         replace hx186_2 := (HB.out.cell (World.block_lt_of_cell? w _ hx186_2)).trans hx186_2
         replace p186 := eq_true p186
         replace q186 := eq_true q186
         go_wp2
         go_roundg k2
         case measure => have := HK1.out; have := HK2.out; omega
         case rel => exact ⟨(x5_2), (wrap64 (x6_2 + 1)), (by first | rfl | (simp; done) | (simp [*]; done)), (by first | rfl | (simp; done) | (simp [*]; done)), H', ⟨by have := HK1.out; have := HK2.out; omega⟩, ⟨by (with_reducible repeat (first | apply Kd.R_alloc | apply Kd.R_drewN | apply Kd.R_drew)); exact HO_3.out⟩, ⟨by repeat (first | (with_reducible first | exact HB.out | apply below_alloc | apply pw_below_drewN | apply below_drew1))⟩⟩
       ·rw [if_neg c6] at H
        exact absurd H (by simp)
      ·rw [if_neg c5] at H
       have c5b0 : decide (x6_2 < (l0.length : Int)) = false := decide_eq_false c5
       clear c5
       by_cases c10 : x5_2 ≥ 0
       ·rw [if_pos c10] at H
        have c10b0 : decide (0 ≤ x5_2) = true := decide_eq_true c10
        clear c10
        by_cases c11 : 0 ≤ x5_2
        ·rw [if_pos c11] at H
         have c11b0 : decide (0 ≤ x5_2) = true := decide_eq_true c11
         clear c11
         by_cases c12 : x5_2 < (l0.length : Int)
         ·rw [if_pos c12] at H
          have c12b0 : decide (x5_2 < (l0.length : Int)) = true := decide_eq_true c12
          clear c12
          by_cases c13 : x3_1.length < 5864062014805
          ·rw [if_pos c13] at H
           have LMc13 := Aside0.mk c13
           clear c13
           obtain ⟨y189, hy189⟩ : ∃ y_ : List (S46), y_ = (x3_1 ++ [(⟨(rd_T46 l0 x5_2).f0, (rd_T46 l0 x5_2).f1, (rd_T46 l0 x5_2).f2⟩ : S46)]) := ⟨_, rfl⟩
           replace H : (ref05_Writes.l0 k2 l0 y189 (wrap64 (x4_1 + 1))) = some r := by first | (rw [hy189]; with_reducible exact H) | (have H2_ := (Option.bind_some _ _).symm.trans H; rw [hy189]; with_reducible exact H2_) | (have H2_ := (Option.bind_some _ _).symm.trans H; with_reducible exact H2_) | with_reducible exact H | (rw [hy189]; exact H) | exact H
           have Ny189 := Aside0.mk hy189
           clear hy189
           have H' := Aside0.mk H
           clear H
           have p188 : 0 ≤ (x5_2 : Int) := of_decide_eq_true (by assumption)
           have q188 : x5_2 < (l0.length : Int) := of_decide_eq_true (by assumption)
           obtain ⟨ad188, e188, hx188_0, hx188_1, hx188_2⟩ := at_T46 HR0.out x5_2 p188 q188
           cases e188
           replace hx188_0 := (HB.out.cell (World.block_lt_of_cell? w _ hx188_0)).trans hx188_0
           replace hx188_1 := (HB.out.cell (World.block_lt_of_cell? w _ hx188_1)).trans hx188_1
           replace hx188_2 := (HB.out.cell (World.block_lt_of_cell? w _ hx188_2)).trans hx188_2
           replace p188 := eq_true p188
           replace q188 := eq_true q188
           go_wp2_with (first | ((with_reducible refine gate_builtin (b := .append) (xs := #[.tmp 35, .tmp 40]) rfl ?_); at_builtin; refine Kd.R_append k46 (w0 := w) w.heap.size rfl (.tmp 35) (.tmp 40) 42 46 (.agg #[(.bool false), (.int .i64 0), (.int .i64 0)]) 24 rfl Try.underlying42 info46 rfl (by decide) (by omega) u3 x3_1 (⟨(rd_T46 l0 x5_2).f0, (rd_T46 l0 x5_2).f1, (rd_T46 l0 x5_2).f2⟩ : S46) [.bool ((rd_T46 l0 x5_2).f0), .int .i64 ((rd_T46 l0 x5_2).f1), .int .i64 ((rd_T46 l0 x5_2).f2)] (fun _ => True) (fun _ => False) rfl rfl ?aP (fun _ hk => hk.elim) ?aF ?aO ?aB ?aS ?aL ?_; (case aP => exact k46_mkM _ _ _ (⟨(rd_T46 l0 x5_2).f0, (rd_T46 l0 x5_2).f1, (rd_T46 l0 x5_2).f2⟩ : S46)); (case aB => exact (by repeat (first | (with_reducible first | exact HB.out | apply below_alloc | apply pw_below_drewN | apply below_drew1)))); (case aF => exact (fun _ _ => trivial)); (case aO => exact (by (with_reducible repeat (first | apply Kd.R_alloc | apply Kd.R_drewN | apply Kd.R_drew)); exact HO_3.out)); (case aS => exact (below_size (by repeat (first | (with_reducible first | exact HB.out | apply below_alloc | apply pw_below_drewN | apply below_drew1))))); (case aL => have := LMc13.out; omega); intro v190 w14 ho hb hg hat; rw [← Ny189.out] at ho; have n0_ := Aside0.mk (hb); have n1_ := Aside0.mk (ho); clear HB; clear HO_3; have HB := n0_; have HO191 := n1_; clear n0_ n1_; clear ho hb hg hat))
           go_roundg k2
           case measure => have := HK1.out; have := HK2.out; omega
           case rel => exact ⟨(y189), (wrap64 (x4_1 + 1)), (by first | rfl | (simp; done) | (simp [*]; done)), H', ⟨by have := HK1.out; have := HK2.out; omega⟩, ⟨by (with_reducible repeat (first | apply Kd.R_alloc | apply Kd.R_drewN | apply Kd.R_drew)); exact HO191.out⟩, ⟨by repeat (first | (with_reducible first | exact HB.out | apply below_alloc | apply pw_below_drewN | apply below_drew1))⟩⟩
          ·rw [if_neg c13] at H
           exact absurd H (by simp)
         ·rw [if_neg c12] at H
          exact absurd H (by simp)
        ·rw [if_neg c11] at H
         exact absurd H (by simp)
       ·rw [if_neg c10] at H
        have c10b0 : decide (0 ≤ x5_2) = false := decide_eq_false c10
        clear c10
        have H' := Aside0.mk H
        clear H
        go_wp2
        go_roundg k2
        case measure => have := HK1.out; have := HK2.out; omega
        case rel => exact ⟨(x3_1), (wrap64 (x4_1 + 1)), (by first | rfl | (simp; done) | (simp [*]; done)), H', ⟨by have := HK1.out; have := HK2.out; omega⟩, ⟨by (with_reducible repeat (first | apply Kd.R_alloc | apply Kd.R_drewN | apply Kd.R_drew)); exact HO_3.out⟩, ⟨by repeat (first | (with_reducible first | exact HB.out | apply below_alloc | apply pw_below_drewN | apply below_drew1))⟩⟩
   ·rw [if_neg c4] at H
    have c4b0 : decide (x4_1 < 64) = false := decide_eq_false c4
    clear c4
    obtain rfl := Option.some.inj H
    go_wp2
    go_ret
    exact ⟨_, by first | rfl | (simp <;> rfl) | (simp [*] <;> rfl), by (with_reducible repeat (first | apply Kd.R_alloc | apply Kd.R_drewN | apply Kd.R_drew)); exact HO_3.out, by repeat (first | (with_reducible first | exact HB.out | apply below_alloc | apply pw_below_drewN | apply below_drew1))⟩
def ref05_Value.l0 : Nat → Int → List (S46) → Int → Option (Int)
 | 0, _, _, _ => none
 | k + 1, x1, x5, x6 => if x6 < (x5.length : Int) then (if 0 ≤ x6 then (if ((rd_T46 x5 x6).f1) = x1 then (some ((rd_T46 x5 x6).f2)) else (ref05_Value.l0 k x1 x5 (wrap64 (x6 + 1)))) else (none)) else (some 0)
def ref05_Value.f (k : Nat) (l0 : List (S46)) (a1 : Int) : Option (Int) := (ref05_Writes.f k l0).bind fun t192 => (ref05_Value.l0 k a1 t192 0)
theorem ref05_Value.mono_l : ∀ k, (∀ y0 y1 y2, LeO (ref05_Value.l0 k y0 y1 y2) (ref05_Value.l0 (k + 1) y0 y1 y2))
 | 0 => fun _ _ _ r h => by simp [ref05_Value.l0] at h
 | k + 1 => by
  have ih0 := ref05_Value.mono_l k
  ·intro y0 y1 y2
   unfold ref05_Value.l0
   repeat' first
   | (with_reducible exact ih0 _ _ _)
   | (with_reducible exact ref05_Writes.mono _ _)
   | (with_reducible exact LeO.refl _)
   | (with_reducible exact LeO.none _)
   | (with_reducible refine LeO.ite ?_ ?_)
   | (with_reducible refine LeO.bind ?_ (fun _ => ?_))
   | exact ih0 _ _ _
   | exact ref05_Writes.mono _ _
   | exact LeO.none _
   | refine LeO.ite ?_ ?_
   | refine LeO.bind ?_ (fun _ => ?_)
theorem ref05_Value.mono : ∀ a0 a1 k, LeO (ref05_Value.f k a0 a1) (ref05_Value.f (k + 1) a0 a1) := by
 intro a0 a1 k
 have ih0 := ref05_Value.mono_l k
 unfold ref05_Value.f
 repeat' first
   | (with_reducible exact ih0 _ _ _)
   | (with_reducible exact ref05_Writes.mono _ _)
   | (with_reducible exact LeO.refl _)
   | (with_reducible exact LeO.none _)
   | (with_reducible refine LeO.ite ?_ ?_)
   | (with_reducible refine LeO.bind ?_ (fun _ => ?_))
   | exact ih0 _ _ _
   | exact ref05_Writes.mono _ _
   | exact LeO.none _
   | refine LeO.ite ?_ ?_
   | refine LeO.bind ?_ (fun _ => ?_)
set_option maxHeartbeats 8000000 in
set_option maxRecDepth 100000 in
theorem ref05_Value.calls (k : Nat) (A0 : Option Addr) (c0 : Nat) (l0 : List (S46)) (a1 : Int) (r : Int) (w : World) (hr0 : Kd.C k46 w A0 l0.length l0) (hc0 : l0.length ≤ c0) (h : ref05_Value.f k l0 a1 = some r) :
  Calls Try.prog 64 #[.slice A0 l0.length c0, .int .i64 a1] w fun e w' => e = .returned (.int .i64 r) ∧ Below w.heap.size w w' := by
 have HR0 := Aside0.mk hr0
 have HC0 := Aside0.mk hc0
 clear hr0 hc0
 have HB := Aside0.mk (Below.refl w.heap.size w)
 have H : ((ref05_Writes.f k l0).bind fun t192 => (ref05_Value.l0 k a1 t192 0)) = some r := h
 clear h
 replace H := Option.bind_eq_some_iff.mp H
 obtain ⟨t192, A30, H⟩ := H
 replace H : (ref05_Value.l0 k a1 t192 0) = some r := H
 have A3 := Aside0.mk A30
 clear A30
 have H' := Aside0.mk H
 clear H
 go_enter Try.func64, Try.ntmps64
 go_wp2_with (first | ((with_reducible refine gate_callee (f := 44) rfl ?_); refine goesL_ (some 8) rfl rfl Try.func44 (by kernel_rfl) rfl #[.slice A0 l0.length c0] rfl (by (try simp only [List.map_toArray, List.map_cons, List.map_nil]); first | done | rfl | (simp only [List.length_drop, List.length_take]; rfl)) ?_; (with_reducible refine (ref05_Writes.calls k _ _ l0 t192 _ ?side1 ?side2 A3.out).mono ?_); (case side1 => repeat (first | exact HR0.out | (with_reducible refine Kd.C_alloc ?_ _) | (with_reducible refine Kd.C_drewN ?_ _) | (with_reducible refine Kd.C_drew ?_))); (case side2 => exact HC0.out); rintro e w4 ⟨v193, rfl, ho0, hb⟩; refine ⟨_, rfl, ?_⟩; have n0_ := Aside0.mk (Kd.R_lower ho0 (below_size (by repeat (first | (with_reducible first | exact HB.out | apply below_alloc | apply pw_below_drewN | apply below_drew1))))); have n1_ := Aside0.mk (below_step (by repeat (first | (with_reducible first | exact HB.out | apply below_alloc | apply pw_below_drewN | apply below_drew1))) hb); clear HB; have HO194 := n0_; have HB := n1_; clear n0_ n1_; (try clear hb); (try clear hb2); (try clear hk); (try clear hi); (try clear ho0)))
 go_loopg [6] k (fun kq v6 w' => ∃ (x6_1 : Int), v6 = .int .i64 x6_1 ∧ Aside0 (ref05_Value.l0 kq a1 t192 x6_1 = some r) ∧ Aside0 (kq ≤ k) ∧ Aside0 (Kd.R k46 46 w' w.heap.size (fun _ => True) v193 t192) ∧ Aside0 (Below w.heap.size w w'))
 case atStart => exact ⟨(0), (by first | rfl | (simp; done) | (simp [*]; done)), H', ⟨Nat.le_refl _⟩, ⟨by (with_reducible repeat (first | apply Kd.R_alloc | apply Kd.R_drewN | apply Kd.R_drew)); exact HO194.out⟩, ⟨by repeat (first | (with_reducible first | exact HB.out | apply below_alloc | apply pw_below_drewN | apply below_drew1))⟩⟩
 case round =>
  clear H'
  try clear p2
  try clear c4
  obtain ⟨x6_1, rfl, HA, HK1, HO_5, HB⟩ := hrel
  cases gk with
  | zero => exact absurd HA.out (by simp [ref05_Value.l0])
  | succ k1 =>
   have H := HA.out
   clear HA
   simp only [ref05_Value.l0] at H
   by_cases c5 : x6_1 < (t192.length : Int)
   ·rw [if_pos c5] at H
    have c5b0 : decide (x6_1 < (t192.length : Int)) = true := decide_eq_true c5
    clear c5
    by_cases c6 : 0 ≤ x6_1
    ·rw [if_pos c6] at H
     have c6b0 : decide (0 ≤ x6_1) = true := decide_eq_true c6
     clear c6
     by_cases c7 : ((rd_T46 t192 x6_1).f1) = a1
     ·rw [if_pos c7] at H
      have c7b0 : (((rd_T46 t192 x6_1).f1) == a1) = true := beq_iff_eq.mpr c7
      have c7b1 : (((rd_T46 t192 x6_1).f1) != a1) = false := bne_eq_false_iff_eq.mpr c7
      clear c7
      obtain rfl := Option.some.inj H
      obtain ⟨Ao8, co8, eo8⟩ := Kd.R_slice HO_5.out
      subst eo8
      have p195 : 0 ≤ (x6_1 : Int) := of_decide_eq_true (by assumption)
      have q195 : x6_1 < (t192.length : Int) := of_decide_eq_true (by assumption)
      obtain ⟨ad195, e195, hx195_0, hx195_1, hx195_2⟩ := at_T46 (Kd.R_reads' HO_5.out).2.2 x6_1 p195 q195
      cases e195
      replace p195 := eq_true p195
      replace q195 := eq_true q195
      have p196 : 0 ≤ (x6_1 : Int) := of_decide_eq_true (by assumption)
      have q196 : x6_1 < (t192.length : Int) := of_decide_eq_true (by assumption)
      obtain ⟨ad196, e196, hx196_0, hx196_1, hx196_2⟩ := at_T46 (Kd.R_reads' HO_5.out).2.2 x6_1 p196 q196
      obtain rfl : ad195 = ad196 := (by injection e196)
      replace p196 := eq_true p196
      replace q196 := eq_true q196
      go_wp2
      go_ret
      exact ⟨by first | rfl | (simp <;> rfl) | (simp [*] <;> rfl), by repeat (first | (with_reducible first | exact HB.out | apply below_alloc | apply pw_below_drewN | apply below_drew1))⟩
     ·rw [if_neg c7] at H
      have c7b0 : (((rd_T46 t192 x6_1).f1) == a1) = false := beq_eq_false_iff_ne.mpr c7
      have c7b1 : (((rd_T46 t192 x6_1).f1) != a1) = true := bne_iff_ne.mpr c7
      have H' := Aside0.mk H
      clear H
      obtain ⟨Ao9, co9, eo9⟩ := Kd.R_slice HO_5.out
      subst eo9
      have p195 : 0 ≤ (x6_1 : Int) := of_decide_eq_true (by assumption)
      have q195 : x6_1 < (t192.length : Int) := of_decide_eq_true (by assumption)
      obtain ⟨ad195, e195, hx195_0, hx195_1, hx195_2⟩ := at_T46 (Kd.R_reads' HO_5.out).2.2 x6_1 p195 q195
      cases e195
      replace p195 := eq_true p195
      replace q195 := eq_true q195
      go_wp2
      go_roundg k1
      case measure => have := HK1.out; omega
      case rel => exact ⟨(wrap64 (x6_1 + 1)), (by first | rfl | (simp; done) | (simp [*]; done)), H', ⟨by have := HK1.out; omega⟩, ⟨by (with_reducible repeat (first | apply Kd.R_alloc | apply Kd.R_drewN | apply Kd.R_drew)); exact HO_5.out⟩, ⟨by repeat (first | (with_reducible first | exact HB.out | apply below_alloc | apply pw_below_drewN | apply below_drew1))⟩⟩
    ·rw [if_neg c6] at H
     exact absurd H (by simp)
   ·rw [if_neg c5] at H
    have c5b0 : decide (x6_1 < (t192.length : Int)) = false := decide_eq_false c5
    clear c5
    obtain rfl := Option.some.inj H
    obtain ⟨Ao10, co10, eo10⟩ := Kd.R_slice HO_5.out
    subst eo10
    go_wp2
    go_ret
    exact ⟨by first | rfl | (simp <;> rfl) | (simp [*] <;> rfl), by repeat (first | (with_reducible first | exact HB.out | apply below_alloc | apply pw_below_drewN | apply below_drew1))⟩
def ref06_Last.f (k : Nat) (a0_0 : Int) (a0_1 : Int) (a0_2 : Int) (l0_3 : List (S46)) (a1 : Int) (a2 : Int) : Option (Bool) := (ref05_Value.f k l0_3 a1).bind fun t198 => (some (t198 == a2))
theorem ref06_Last.mono : ∀ a0 a1 a2 a3 a4 a5 k, LeO (ref06_Last.f k a0 a1 a2 a3 a4 a5) (ref06_Last.f (k + 1) a0 a1 a2 a3 a4 a5) := by
 intro a0 a1 a2 a3 a4 a5 k
 unfold ref06_Last.f
 repeat' first
   | (with_reducible exact ref05_Value.mono _ _ _)
   | (with_reducible exact LeO.refl _)
   | (with_reducible exact LeO.none _)
   | (with_reducible refine LeO.ite ?_ ?_)
   | (with_reducible refine LeO.bind ?_ (fun _ => ?_))
   | exact ref05_Value.mono _ _ _
   | exact LeO.none _
   | refine LeO.ite ?_ ?_
   | refine LeO.bind ?_ (fun _ => ?_)
set_option maxHeartbeats 8000000 in
set_option maxRecDepth 100000 in
theorem ref06_Last.calls (k : Nat) (a0_0 : Int) (a0_1 : Int) (a0_2 : Int) (A0_3 : Option Addr) (c0_3 : Nat) (l0_3 : List (S46)) (a1 : Int) (a2 : Int) (r : Bool) (w : World) (hr0_3 : Kd.C k46 w A0_3 l0_3.length l0_3) (hc0_3 : l0_3.length ≤ c0_3) (h : ref06_Last.f k a0_0 a0_1 a0_2 l0_3 a1 a2 = some r) :
  Calls Try.prog 29 #[.agg #[.int .i64 a0_0, .int .i64 a0_1, .int .i64 a0_2, .slice A0_3 l0_3.length c0_3], .int .i64 a1, .int .i64 a2] w fun e w' => e = .returned (.bool r) ∧ Below w.heap.size w w' := by
 have hu44 := Try.underlying44
 have HR0_3 := Aside0.mk hr0_3
 have HC0_3 := Aside0.mk hc0_3
 clear hr0_3 hc0_3
 have HB := Aside0.mk (Below.refl w.heap.size w)
 have H : ((ref05_Value.f k l0_3 a1).bind fun t198 => (some (t198 == a2))) = some r := h
 clear h
 replace H := Option.bind_eq_some_iff.mp H
 obtain ⟨t198, A40, H⟩ := H
 replace H : (some (t198 == a2)) = some r := H
 have A4 := Aside0.mk A40
 clear A40
 obtain rfl := Option.some.inj H
 go_enter Try.func29, Try.ntmps29
 go_wp2_with (first | ((with_reducible refine gate_dst (N := 3) rfl ?_); refine box_event ?hg (N := 3) ?hd (cs := #[.int .i64 a0_0, .int .i64 a0_1, .int .i64 a0_2, .slice A0_3 l0_3.length c0_3]) (t := 44) ?hr ?_; (case hd => rfl); (case hg => rfl); (case hr => first | (go_simp; done) | (go_simp; rfl)); intro gb197 hg w5 hbox hb; have n0_ := Aside0.mk (below_step (by repeat (first | (with_reducible first | exact HB.out | apply below_alloc | apply pw_below_drewN | apply below_drew1))) hb); have n1_ := Aside0.mk (hbox); have n2_ := Aside0.mk ((by rw [hg]; exact (below_size (by repeat (first | (with_reducible first | exact HB.out | apply below_alloc | apply pw_below_drewN | apply below_drew1)))) : w.heap.size ≤ gb197)); have n3_ := Aside0.mk ((by rw [hg]; exact (below_size (by repeat (first | (with_reducible first | exact HB.out | apply below_alloc | apply pw_below_drewN | apply below_drew1)))) : w.heap.size ≤ gb197)); clear HB; have HB := n0_; have BK197 := n1_; have GW197 := n2_; have GE197 := n3_; clear n0_ n1_ n2_ n3_; clear hb hbox hg; have hcz6_0 : w5.cell? ⟨gb197, 0, none⟩ = some (.int .i64 a0_0) := (blk_cell BK197.out 0).trans rfl; have hcz6_1 : w5.cell? ⟨gb197, 1, none⟩ = some (.int .i64 a0_1) := (blk_cell BK197.out 1).trans rfl; have hcz6_2 : w5.cell? ⟨gb197, 2, none⟩ = some (.int .i64 a0_2) := (blk_cell BK197.out 2).trans rfl; have hcz6_3 : w5.cell? ⟨gb197, 3, none⟩ = some (.slice A0_3 l0_3.length c0_3) := (blk_cell BK197.out 3).trans rfl; have hfz6_0 := blk_frozen BK197.out 0; have hfz6_1 := blk_frozen BK197.out 1; have hfz6_2 := blk_frozen BK197.out 2; have hfz6_3 := blk_frozen BK197.out 3) | ((with_reducible refine gate_callee (f := 64) rfl ?_); refine goesL_ (some 10) rfl rfl Try.func64 (by kernel_rfl) rfl #[.slice A0_3 l0_3.length c0_3, .int .i64 a1] rfl (by (try simp only [List.map_toArray, List.map_cons, List.map_nil]); first | done | rfl | (simp only [List.length_drop, List.length_take]; rfl)) ?_; (with_reducible refine (ref05_Value.calls k _ _ l0_3 a1 t198 _ ?side1 ?side2 A4.out).mono ?_); (case side1 => repeat (first | exact (Kd.C_below HR0_3.out HB.out) | (with_reducible refine Kd.C_alloc ?_ _) | (with_reducible refine Kd.C_drewN ?_ _) | (with_reducible refine Kd.C_drew ?_))); (case side2 => exact HC0_3.out); rintro e w7 ⟨rfl, hb⟩; refine ⟨_, rfl, ?_⟩; have n0_ := Aside0.mk (blk_below (g := gb197) (o := .cells #[.int .i64 a0_0, .int .i64 a0_1, .int .i64 a0_2, .slice A0_3 l0_3.length c0_3] 44 (0, 0)) (by (with_reducible repeat (first | refine blk_drewN ?_ _ | refine blk_drew ?_ | refine blk_alloc ?_ _)); exact BK197.out) hb); have n1_ := Aside0.mk (below_step (by repeat (first | (with_reducible first | exact HB.out | apply below_alloc | apply pw_below_drewN | apply below_drew1 | refine below_set ?_ GE197.out))) hb); clear BK197; clear HB; have BK197 := n0_; have HB := n1_; clear n0_ n1_; (try clear hb); (try clear hb2); (try clear hk); (try clear hi)))
 go_ret
 exact ⟨by first | rfl | (simp <;> rfl) | (simp [*] <;> rfl), by repeat (first | (with_reducible first | exact HB.out | apply below_alloc | apply pw_below_drewN | apply below_drew1 | refine below_set ?_ GE197.out))⟩
def ref05_before.l0 : Nat → List (S46) → Int → Int → Option (Bool × Int × Int × Bool)
 | 0, _, _, _ => none
 | k + 1, x0, x2, x8 => if x8 ≥ 0 then (if 0 ≤ x8 then (if x8 < (x0.length : Int) then (if ((rd_T46 x0 x8).f1) = x2 then (some ((rd_T46 x0 x8).f0, (rd_T46 x0 x8).f1, (rd_T46 x0 x8).f2, true)) else (ref05_before.l0 k x0 x2 (wrap64 (x8 - 1)))) else (none)) else (none)) else (some (false, 0, 0, false))
def ref05_before.f (k : Nat) (l0 : List (S46)) (a1 : Int) (a2 : Int) : Option (Bool × Int × Int × Bool) := ref05_before.l0 k l0 a2 (wrap64 (a1 - 1))
theorem ref05_before.mono_l : ∀ k, (∀ y0 y1 y2, LeO (ref05_before.l0 k y0 y1 y2) (ref05_before.l0 (k + 1) y0 y1 y2))
 | 0 => fun _ _ _ r h => by simp [ref05_before.l0] at h
 | k + 1 => by
  have ih0 := ref05_before.mono_l k
  ·intro y0 y1 y2
   unfold ref05_before.l0
   repeat' first
   | (with_reducible exact ih0 _ _ _)
   | (with_reducible exact LeO.refl _)
   | (with_reducible exact LeO.none _)
   | (with_reducible refine LeO.ite ?_ ?_)
   | (with_reducible refine LeO.bind ?_ (fun _ => ?_))
   | exact ih0 _ _ _
   | exact LeO.none _
   | refine LeO.ite ?_ ?_
   | refine LeO.bind ?_ (fun _ => ?_)
theorem ref05_before.mono : ∀ a0 a1 a2 k, LeO (ref05_before.f k a0 a1 a2) (ref05_before.f (k + 1) a0 a1 a2) := by
 intro a0 a1 a2 k
 have ih0 := ref05_before.mono_l k
 unfold ref05_before.f
 repeat' first
   | (with_reducible exact ih0 _ _ _)
   | (with_reducible exact LeO.refl _)
   | (with_reducible exact LeO.none _)
   | (with_reducible refine LeO.ite ?_ ?_)
   | (with_reducible refine LeO.bind ?_ (fun _ => ?_))
   | exact ih0 _ _ _
   | exact LeO.none _
   | refine LeO.ite ?_ ?_
   | refine LeO.bind ?_ (fun _ => ?_)
set_option maxHeartbeats 8000000 in
set_option maxRecDepth 100000 in
theorem ref05_before.calls (k : Nat) (A0 : Option Addr) (c0 : Nat) (l0 : List (S46)) (a1 : Int) (a2 : Int) (r1 : Bool) (r2 : Int) (r3 : Int) (r4 : Bool) (w : World) (hr0 : Kd.C k46 w A0 l0.length l0) (hc0 : l0.length ≤ c0) (h : ref05_before.f k l0 a1 a2 = some (r1, r2, r3, r4)) :
  Calls Try.prog 101 #[.slice A0 l0.length c0, .int .i64 a1, .int .i64 a2] w fun e w' => e = .returned (.tuple #[.agg #[.bool r1, .int .i64 r2, .int .i64 r3], .bool r4]) ∧ Below w.heap.size w w' := by
 have hu46 := Try.underlying46
 have HR0 := Aside0.mk hr0
 have HC0 := Aside0.mk hc0
 clear hr0 hc0
 have HB := Aside0.mk (Below.refl w.heap.size w)
 have H : (ref05_before.l0 k l0 a2 (wrap64 (a1 - 1))) = some (r1, r2, r3, r4) := h
 clear h
 have H' := Aside0.mk H
 clear H
 go_enter Try.func101, Try.ntmps101
 go_wp2_with (first | ((with_reducible refine gate_dst (N := 6) rfl ?_); refine box_event ?hg (N := 6) ?hd (cs := #[.bool false, .int .i64 0, .int .i64 0]) (t := 46) ?hr ?_; (case hd => rfl); (case hg => rfl); (case hr => first | (go_simp; done) | (go_simp; rfl)); intro gb199 hg w4 hbox hb; have n0_ := Aside0.mk (below_step (by repeat (first | (with_reducible first | exact HB.out | apply below_alloc | apply pw_below_drewN | apply below_drew1))) hb); have n1_ := Aside0.mk (hbox); have n2_ := Aside0.mk ((by rw [hg]; exact (below_size (by repeat (first | (with_reducible first | exact HB.out | apply below_alloc | apply pw_below_drewN | apply below_drew1)))) : w.heap.size ≤ gb199)); have n3_ := Aside0.mk ((by rw [hg]; exact (below_size (by repeat (first | (with_reducible first | exact HB.out | apply below_alloc | apply pw_below_drewN | apply below_drew1)))) : w.heap.size ≤ gb199)); clear HB; have HB := n0_; have BK199 := n1_; have GW199 := n2_; have GE199 := n3_; clear n0_ n1_ n2_ n3_; clear hb hbox hg))
 go_loopg [8] k (fun kq v8 w' => ∃ (x8_1 : Int) (x200000_1 : Bool) (x200001_1 : Int) (x200002_1 : Int), v8 = .int .i64 x8_1 ∧ Aside0 (ref05_before.l0 kq l0 a2 x8_1 = some (r1, r2, r3, r4)) ∧ Aside0 (kq ≤ k) ∧ Aside0 (w'.heap[gb199]? = some (.cells #[.bool x200000_1, .int .i64 x200001_1, .int .i64 x200002_1] 46 (0, 0))) ∧ Aside0 (Below w.heap.size w w'))
 case atStart => exact ⟨(wrap64 (a1 - 1)), (false), (0), (0), (by first | rfl | (simp; done) | (simp [*]; done)), H', ⟨Nat.le_refl _⟩, ⟨by (with_reducible repeat (first | refine blk_drewN ?_ _ | refine blk_drew ?_ | refine blk_alloc ?_ _)); exact BK199.out⟩, ⟨by repeat (first | (with_reducible first | exact HB.out | apply below_alloc | apply pw_below_drewN | apply below_drew1 | refine below_set ?_ GE199.out))⟩⟩
 case round =>
  clear H'
  try clear c1
  try clear p2
  obtain ⟨x8_1, x200000_1, x200001_1, x200002_1, rfl, HA, HK1, BK199, HB⟩ := hrel
  cases gk with
  | zero => exact absurd HA.out (by simp [ref05_before.l0])
  | succ k1 =>
   have H := HA.out
   clear HA
   simp only [ref05_before.l0] at H
   by_cases c5 : x8_1 ≥ 0
   ·rw [if_pos c5] at H
    have c5b0 : decide (0 ≤ x8_1) = true := decide_eq_true c5
    clear c5
    by_cases c6 : 0 ≤ x8_1
    ·rw [if_pos c6] at H
     have c6b0 : decide (0 ≤ x8_1) = true := decide_eq_true c6
     clear c6
     by_cases c7 : x8_1 < (l0.length : Int)
     ·rw [if_pos c7] at H
      have c7b0 : decide (x8_1 < (l0.length : Int)) = true := decide_eq_true c7
      clear c7
      by_cases c8 : ((rd_T46 l0 x8_1).f1) = a2
      ·rw [if_pos c8] at H
       have c8b0 : (((rd_T46 l0 x8_1).f1) == a2) = true := beq_iff_eq.mpr c8
       have c8b1 : (((rd_T46 l0 x8_1).f1) != a2) = false := bne_eq_false_iff_eq.mpr c8
       clear c8
       simp only [Option.some.injEq, Prod.mk.injEq] at H
       obtain ⟨rfl, rfl, rfl, rfl⟩ := H
       have p200 : 0 ≤ (x8_1 : Int) := of_decide_eq_true (by assumption)
       have q200 : x8_1 < (l0.length : Int) := of_decide_eq_true (by assumption)
       obtain ⟨ad200, e200, hx200_0, hx200_1, hx200_2⟩ := at_T46 HR0.out x8_1 p200 q200
       cases e200
       replace hx200_0 := (HB.out.cell (World.block_lt_of_cell? w _ hx200_0)).trans hx200_0
       replace hx200_1 := (HB.out.cell (World.block_lt_of_cell? w _ hx200_1)).trans hx200_1
       replace hx200_2 := (HB.out.cell (World.block_lt_of_cell? w _ hx200_2)).trans hx200_2
       replace p200 := eq_true p200
       replace q200 := eq_true q200
       have p201 : 0 ≤ (x8_1 : Int) := of_decide_eq_true (by assumption)
       have q201 : x8_1 < (l0.length : Int) := of_decide_eq_true (by assumption)
       obtain ⟨ad201, e201, hx201_0, hx201_1, hx201_2⟩ := at_T46 HR0.out x8_1 p201 q201
       obtain rfl : ad200 = ad201 := (by injection e201)
       replace hx201_0 := (HB.out.cell (World.block_lt_of_cell? w _ hx201_0)).trans hx201_0
       replace hx201_1 := (HB.out.cell (World.block_lt_of_cell? w _ hx201_1)).trans hx201_1
       replace hx201_2 := (HB.out.cell (World.block_lt_of_cell? w _ hx201_2)).trans hx201_2
       replace p201 := eq_true p201
       replace q201 := eq_true q201
       have hcz9_0 : wr.cell? ⟨gb199, 0, none⟩ = some (.bool x200000_1) := (blk_cell BK199.out 0).trans rfl
       have hcz9_1 : wr.cell? ⟨gb199, 1, none⟩ = some (.int .i64 x200001_1) := (blk_cell BK199.out 1).trans rfl
       have hcz9_2 : wr.cell? ⟨gb199, 2, none⟩ = some (.int .i64 x200002_1) := (blk_cell BK199.out 2).trans rfl
       have hfz9_0 := blk_frozen BK199.out 0
       have hfz9_1 := blk_frozen BK199.out 1
       have hfz9_2 := blk_frozen BK199.out 2
       go_wp2
       refine bodyPost_ret (results_ct rfl _ _ gb199 46 #[.bool ((rd_T46 l0 x8_1).f0), .int .i64 ((rd_T46 l0 x8_1).f1), .int .i64 ((rd_T46 l0 x8_1).f2)] (0, 0) _ rfl (by (with_reducible repeat (first | refine blk_drewN ?_ _ | refine blk_drew ?_ | refine blk_alloc ?_ _)); refine blk_put (cs := #[.bool ((rd_T46 l0 x8_1).f0), .int .i64 ((rd_T46 l0 x8_1).f1), .int .i64 x200002_1]) ?_ 2 _ rfl; (with_reducible repeat (first | refine blk_drewN ?_ _ | refine blk_drew ?_ | refine blk_alloc ?_ _)); refine blk_put (cs := #[.bool ((rd_T46 l0 x8_1).f0), .int .i64 x200001_1, .int .i64 x200002_1]) ?_ 1 _ rfl; (with_reducible repeat (first | refine blk_drewN ?_ _ | refine blk_drew ?_ | refine blk_alloc ?_ _)); refine blk_put (cs := #[.bool x200000_1, .int .i64 x200001_1, .int .i64 x200002_1]) ?_ 0 _ rfl; (with_reducible repeat (first | refine blk_drewN ?_ _ | refine blk_drew ?_ | refine blk_alloc ?_ _)); exact BK199.out) Try.underlying46 rfl (by kernel_rfl)) rfl ?_
       exact ⟨by first | rfl | (simp <;> rfl) | (simp [*] <;> rfl), by repeat (first | (with_reducible first | exact HB.out | apply below_alloc | apply pw_below_drewN | apply below_drew1 | refine below_set ?_ GE199.out))⟩
      ·rw [if_neg c8] at H
       have c8b0 : (((rd_T46 l0 x8_1).f1) == a2) = false := beq_eq_false_iff_ne.mpr c8
       have c8b1 : (((rd_T46 l0 x8_1).f1) != a2) = true := bne_iff_ne.mpr c8
       have H' := Aside0.mk H
       clear H
       have p200 : 0 ≤ (x8_1 : Int) := of_decide_eq_true (by assumption)
       have q200 : x8_1 < (l0.length : Int) := of_decide_eq_true (by assumption)
       obtain ⟨ad200, e200, hx200_0, hx200_1, hx200_2⟩ := at_T46 HR0.out x8_1 p200 q200
       cases e200
       replace hx200_0 := (HB.out.cell (World.block_lt_of_cell? w _ hx200_0)).trans hx200_0
       replace hx200_1 := (HB.out.cell (World.block_lt_of_cell? w _ hx200_1)).trans hx200_1
       replace hx200_2 := (HB.out.cell (World.block_lt_of_cell? w _ hx200_2)).trans hx200_2
       replace p200 := eq_true p200
       replace q200 := eq_true q200
       go_wp2
       go_roundg k1
       case measure => have := HK1.out; omega
       case rel => exact ⟨(wrap64 (x8_1 - 1)), (x200000_1), (x200001_1), (x200002_1), (by first | rfl | (simp; done) | (simp [*]; done)), H', ⟨by have := HK1.out; omega⟩, ⟨by (with_reducible repeat (first | refine blk_drewN ?_ _ | refine blk_drew ?_ | refine blk_alloc ?_ _)); exact BK199.out⟩, ⟨by repeat (first | (with_reducible first | exact HB.out | apply below_alloc | apply pw_below_drewN | apply below_drew1 | refine below_set ?_ GE199.out))⟩⟩
     ·rw [if_neg c7] at H
      exact absurd H (by simp)
    ·rw [if_neg c6] at H
     exact absurd H (by simp)
   ·rw [if_neg c5] at H
    have c5b0 : decide (0 ≤ x8_1) = false := decide_eq_false c5
    clear c5
    simp only [Option.some.injEq, Prod.mk.injEq] at H
    obtain ⟨rfl, rfl, rfl, rfl⟩ := H
    have hcz10_0 : wr.cell? ⟨gb199, 0, none⟩ = some (.bool x200000_1) := (blk_cell BK199.out 0).trans rfl
    have hcz10_1 : wr.cell? ⟨gb199, 1, none⟩ = some (.int .i64 x200001_1) := (blk_cell BK199.out 1).trans rfl
    have hcz10_2 : wr.cell? ⟨gb199, 2, none⟩ = some (.int .i64 x200002_1) := (blk_cell BK199.out 2).trans rfl
    have hfz10_0 := blk_frozen BK199.out 0
    have hfz10_1 := blk_frozen BK199.out 1
    have hfz10_2 := blk_frozen BK199.out 2
    go_wp2
    refine bodyPost_ret (results_ct rfl _ _ gb199 46 #[.bool false, .int .i64 0, .int .i64 0] (0, 0) _ rfl (by (with_reducible repeat (first | refine blk_drewN ?_ _ | refine blk_drew ?_ | refine blk_alloc ?_ _)); refine blk_put (cs := #[.bool false, .int .i64 0, .int .i64 x200002_1]) ?_ 2 _ rfl; (with_reducible repeat (first | refine blk_drewN ?_ _ | refine blk_drew ?_ | refine blk_alloc ?_ _)); refine blk_put (cs := #[.bool false, .int .i64 x200001_1, .int .i64 x200002_1]) ?_ 1 _ rfl; (with_reducible repeat (first | refine blk_drewN ?_ _ | refine blk_drew ?_ | refine blk_alloc ?_ _)); refine blk_put (cs := #[.bool x200000_1, .int .i64 x200001_1, .int .i64 x200002_1]) ?_ 0 _ rfl; (with_reducible repeat (first | refine blk_drewN ?_ _ | refine blk_drew ?_ | refine blk_alloc ?_ _)); exact BK199.out) Try.underlying46 rfl (by kernel_rfl)) rfl ?_
    exact ⟨by first | rfl | (simp <;> rfl) | (simp [*] <;> rfl), by repeat (first | (with_reducible first | exact HB.out | apply below_alloc | apply pw_below_drewN | apply below_drew1 | refine below_set ?_ GE199.out))⟩
end Go.Proofs.Ytfocaefnmfkojaa.Q
