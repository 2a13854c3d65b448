/- A part of the proof of catalogueParts_holds: words and contracts that its last text uses. -/
import Derived.Test.YtfocaefnmfkojaaCCatalogueParts3
namespace Go.Proofs.Ytfocaefnmfkojaa.Q
open Go.RowKit Go.Proofs.YtfocaefnmfkojaaW.PrintWords Go.Proofs.YtfocaefnmfkojaaW.PrintLast Go.Proofs.YtfocaefnmfkojaaW.PrintMore
attribute [local go_sem] max2_int min2_int max_two min_two max_three min_three max_four min_four   -- for this text's walks alone
set_option linter.unusedVariables false
set_option linter.unusedSimpArgs false
def ref11_Place.l0 : Nat → List Int → Int → Int → Option (Int)
 | 0, _, _, _ => none
 | k + 1, x0, x1, x5 => if x5 < (x0.length : Int) then (if 0 ≤ x5 then (if (rd x0 x5) = x1 then (some x5) else (ref11_Place.l0 k x0 x1 (wrap64 (x5 + 1)))) else (none)) else (some (-1))
def ref11_Place.f (k : Nat) (l0 : List Int) (a1 : Int) : Option (Int) := ref11_Place.l0 k l0 a1 0
theorem ref11_Place.mono_l : ∀ k, (∀ y0 y1 y2, LeO (ref11_Place.l0 k y0 y1 y2) (ref11_Place.l0 (k + 1) y0 y1 y2))
 | 0 => fun _ _ _ r h => by simp [ref11_Place.l0] at h
 | k + 1 => by
  have ih0 := ref11_Place.mono_l k
  ·intro y0 y1 y2
   unfold ref11_Place.l0
   repeat' first
   | (with_reducible exact ih0 _ _ _)
   | (with_reducible exact LeO.refl _)
   | (with_reducible exact LeO.none _)
   | (with_reducible refine LeO.ite ?_ ?_)
   | (with_reducible refine LeO.bind ?_ (fun _ => ?_))
   | exact ih0 _ _ _
   | exact LeO.none _
   | refine LeO.ite ?_ ?_
   | refine LeO.bind ?_ (fun _ => ?_)
theorem ref11_Place.mono : ∀ a0 a1 k, LeO (ref11_Place.f k a0 a1) (ref11_Place.f (k + 1) a0 a1) := by
 intro a0 a1 k
 have ih0 := ref11_Place.mono_l k
 unfold ref11_Place.f
 repeat' first
   | (with_reducible exact ih0 _ _ _)
   | (with_reducible exact LeO.refl _)
   | (with_reducible exact LeO.none _)
   | (with_reducible refine LeO.ite ?_ ?_)
   | (with_reducible refine LeO.bind ?_ (fun _ => ?_))
   | exact ih0 _ _ _
   | exact LeO.none _
   | refine LeO.ite ?_ ?_
   | refine LeO.bind ?_ (fun _ => ?_)
set_option maxHeartbeats 8000000 in
set_option maxRecDepth 100000 in
theorem ref11_Place.calls (k : Nat) (A0 : Option Addr) (c0 : Nat) (l0 : List Int) (a1 : Int) (r : Int) (w : World) (hr0 : Kd.C (Kd.int .i64) w A0 l0.length l0) (hc0 : l0.length ≤ c0) (h : ref11_Place.f k l0 a1 = some r) :
  Calls Try.prog 110 #[.slice A0 l0.length c0, .int .i64 a1] w fun e w' => e = .returned (.int .i64 r) ∧ Drawn0 w w' := by
 have HR0 := Aside0.mk hr0
 have HC0 := Aside0.mk hc0
 clear hr0 hc0
 have H : (ref11_Place.l0 k l0 a1 0) = some r := h
 clear h
 have H' := Aside0.mk H
 clear H
 go_enter Try.func110, Try.ntmps110
 go_wp2
 go_loopg [5] k (fun kq v5 w' => ∃ (x5_1 : Int), v5 = .int .i64 x5_1 ∧ Aside0 (ref11_Place.l0 kq l0 a1 x5_1 = some r) ∧ Aside0 (kq ≤ k) ∧ Drawn0 w w')
 case atStart => exact ⟨(0), (by first | rfl | (simp; done) | (simp [*]; done)), H', ⟨Nat.le_refl _⟩, by repeat (first | exact Drawn0.refl _ | apply Drawn0.step)⟩
 case round =>
  clear H'
  try clear c1
  try clear p2
  obtain ⟨x5_1, rfl, HA, HK1, ⟨m1, rfl⟩⟩ := hrel
  cases gk with
  | zero => exact absurd HA.out (by simp [ref11_Place.l0])
  | succ k1 =>
   have H := HA.out
   clear HA
   simp only [ref11_Place.l0] at H
   by_cases c3 : x5_1 < (l0.length : Int)
   ·rw [if_pos c3] at H
    have c3b0 : decide (x5_1 < (l0.length : Int)) = true := decide_eq_true c3
    clear c3
    by_cases c4 : 0 ≤ x5_1
    ·rw [if_pos c4] at H
     have c4b0 : decide (0 ≤ x5_1) = true := decide_eq_true c4
     clear c4
     by_cases c5 : (rd l0 x5_1) = a1
     ·rw [if_pos c5] at H
      have c5b0 : ((rd l0 x5_1) == a1) = true := beq_iff_eq.mpr c5
      have c5b1 : ((rd l0 x5_1) != a1) = false := bne_eq_false_iff_eq.mpr c5
      clear c5
      obtain rfl := Option.some.inj H
      have p238 : 0 ≤ (x5_1 : Int) := of_decide_eq_true (by assumption)
      have q238 : x5_1 < (l0.length : Int) := of_decide_eq_true (by assumption)
      obtain ⟨ad238, e238, hx238_0⟩ := Kd.at_int HR0.out x5_1 p238 q238
      cases e238
      replace p238 := eq_true p238
      replace q238 := eq_true q238
      go_wp2
      go_ret
      exact ⟨by first | rfl | (simp; done) | (simp [*]; done), by repeat (first | exact Drawn0.refl _ | apply Drawn0.step)⟩
     ·rw [if_neg c5] at H
      have c5b0 : ((rd l0 x5_1) == a1) = false := beq_eq_false_iff_ne.mpr c5
      have c5b1 : ((rd l0 x5_1) != a1) = true := bne_iff_ne.mpr c5
      have H' := Aside0.mk H
      clear H
      have p238 : 0 ≤ (x5_1 : Int) := of_decide_eq_true (by assumption)
      have q238 : x5_1 < (l0.length : Int) := of_decide_eq_true (by assumption)
      obtain ⟨ad238, e238, hx238_0⟩ := Kd.at_int HR0.out x5_1 p238 q238
      cases e238
      replace p238 := eq_true p238
      replace q238 := eq_true q238
      go_wp2
      go_roundg k1
      case measure => have := HK1.out; omega
      case rel => exact ⟨(wrap64 (x5_1 + 1)), (by first | rfl | (simp; done) | (simp [*]; done)), H', ⟨by have := HK1.out; omega⟩, by repeat (first | exact Drawn0.refl _ | apply Drawn0.step)⟩
    ·rw [if_neg c4] at H
     exact absurd H (by simp)
   ·rw [if_neg c3] at H
    have c3b0 : decide (x5_1 < (l0.length : Int)) = false := decide_eq_false c3
    clear c3
    obtain rfl := Option.some.inj H
    go_wp2
    go_ret
    exact ⟨by first | rfl | (simp; done) | (simp [*]; done), by repeat (first | exact Drawn0.refl _ | apply Drawn0.step)⟩
def ref12_Row.l0 : Nat → Int → List Int → Int → Option (Bool)
 | 0, _, _, _ => none
 | k + 1, x0, x1, x5 => if x5 < x0 then ((ref11_Place.f k x1 x5).bind fun t239 => (if t239 < 0 then (some false) else (ref12_Row.l0 k x0 x1 (wrap64 (x5 + 1))))) else (some ((x1.length : Int) == x0))
def ref12_Row.f (k : Nat) (a0 : Int) (l1 : List Int) : Option (Bool) := ref12_Row.l0 k a0 l1 0
theorem ref12_Row.mono_l : ∀ k, (∀ y0 y1 y2, LeO (ref12_Row.l0 k y0 y1 y2) (ref12_Row.l0 (k + 1) y0 y1 y2))
 | 0 => fun _ _ _ r h => by simp [ref12_Row.l0] at h
 | k + 1 => by
  have ih0 := ref12_Row.mono_l k
  ·intro y0 y1 y2
   unfold ref12_Row.l0
   repeat' first
   | (with_reducible exact ih0 _ _ _)
   | (with_reducible exact ref11_Place.mono _ _ _)
   | (with_reducible exact LeO.refl _)
   | (with_reducible exact LeO.none _)
   | (with_reducible refine LeO.ite ?_ ?_)
   | (with_reducible refine LeO.bind ?_ (fun _ => ?_))
   | exact ih0 _ _ _
   | exact ref11_Place.mono _ _ _
   | exact LeO.none _
   | refine LeO.ite ?_ ?_
   | refine LeO.bind ?_ (fun _ => ?_)
theorem ref12_Row.mono : ∀ a0 a1 k, LeO (ref12_Row.f k a0 a1) (ref12_Row.f (k + 1) a0 a1) := by
 intro a0 a1 k
 have ih0 := ref12_Row.mono_l k
 unfold ref12_Row.f
 repeat' first
   | (with_reducible exact ih0 _ _ _)
   | (with_reducible exact ref11_Place.mono _ _ _)
   | (with_reducible exact LeO.refl _)
   | (with_reducible exact LeO.none _)
   | (with_reducible refine LeO.ite ?_ ?_)
   | (with_reducible refine LeO.bind ?_ (fun _ => ?_))
   | exact ih0 _ _ _
   | exact ref11_Place.mono _ _ _
   | exact LeO.none _
   | refine LeO.ite ?_ ?_
   | refine LeO.bind ?_ (fun _ => ?_)
set_option maxHeartbeats 8000000 in
set_option maxRecDepth 100000 in
theorem ref12_Row.calls (k : Nat) (a0 : Int) (A1 : Option Addr) (c1 : Nat) (l1 : List Int) (r : Bool) (w : World) (hr1 : Kd.C (Kd.int .i64) w A1 l1.length l1) (hc1 : l1.length ≤ c1) (h : ref12_Row.f k a0 l1 = some r) :
  Calls Try.prog 104 #[.int .i64 a0, .slice A1 l1.length c1] w fun e w' => e = .returned (.bool r) ∧ Drawn0 w w' := by
 have HR1 := Aside0.mk hr1
 have HC1 := Aside0.mk hc1
 clear hr1 hc1
 have H : (ref12_Row.l0 k a0 l1 0) = some r := h
 clear h
 have H' := Aside0.mk H
 clear H
 go_enter Try.func104, Try.ntmps104
 go_wp2
 go_loopg [5] k (fun kq v5 w' => ∃ (x5_1 : Int), v5 = .int .i64 x5_1 ∧ Aside0 (ref12_Row.l0 kq a0 l1 x5_1 = some r) ∧ Aside0 (kq ≤ k) ∧ Drawn0 w w')
 case atStart => exact ⟨(0), (by first | rfl | (simp; done) | (simp [*]; done)), H', ⟨Nat.le_refl _⟩, by repeat (first | exact Drawn0.refl _ | apply Drawn0.step)⟩
 case round =>
  clear H'
  try clear c1
  try clear p2
  obtain ⟨x5_1, rfl, HA, HK1, ⟨m1, rfl⟩⟩ := hrel
  cases gk with
  | zero => exact absurd HA.out (by simp [ref12_Row.l0])
  | succ k1 =>
   have H := HA.out
   clear HA
   simp only [ref12_Row.l0] at H
   by_cases c3 : x5_1 < a0
   ·rw [if_pos c3] at H
    have c3b0 : decide (x5_1 < a0) = true := decide_eq_true c3
    clear c3
    replace H := Option.bind_eq_some_iff.mp H
    obtain ⟨t239, A40, H⟩ := H
    replace H : (if t239 < 0 then (some false) else (ref12_Row.l0 k1 a0 l1 (wrap64 (x5_1 + 1)))) = some r := H
    have A4 := Aside0.mk A40
    clear A40
    by_cases c5 : t239 < 0
    ·rw [if_pos c5] at H
     have c5b0 : decide (t239 < 0) = true := decide_eq_true c5
     clear c5
     obtain rfl := Option.some.inj H
     go_wp2_with (first | ((with_reducible refine gate_callee (f := 110) rfl ?_); refine goesL_ (some 13) rfl rfl Try.func110 (by kernel_rfl) rfl #[.slice A1 l1.length c1, .int .i64 x5_1] rfl (by (try simp only [List.map_toArray, List.map_cons, List.map_nil]); first | done | rfl | (simp only [List.length_drop, List.length_take]; rfl)) ?_; (with_reducible refine (ref11_Place.calls k1 _ _ l1 x5_1 t239 _ ?side1 ?side2 A4.out).mono ?_); (case side1 => repeat (first | exact HR1.out | (with_reducible refine Kd.C_alloc ?_ _) | (with_reducible refine Kd.C_drewN ?_ _) | (with_reducible refine Kd.C_drew ?_))); (case side2 => exact HC1.out); rintro e w' ⟨rfl, ⟨nd, rfl⟩⟩; refine ⟨_, rfl, ?_⟩))
     go_ret
     exact ⟨by first | rfl | (simp; done) | (simp [*]; done), by repeat (first | exact Drawn0.refl _ | apply Drawn0.step)⟩
    ·rw [if_neg c5] at H
     have c5b0 : decide (t239 < 0) = false := decide_eq_false c5
     clear c5
     have H' := Aside0.mk H
     clear H
     go_wp2_with (first | ((with_reducible refine gate_callee (f := 110) rfl ?_); refine goesL_ (some 13) rfl rfl Try.func110 (by kernel_rfl) rfl #[.slice A1 l1.length c1, .int .i64 x5_1] rfl (by (try simp only [List.map_toArray, List.map_cons, List.map_nil]); first | done | rfl | (simp only [List.length_drop, List.length_take]; rfl)) ?_; (with_reducible refine (ref11_Place.calls k1 _ _ l1 x5_1 t239 _ ?side1 ?side2 A4.out).mono ?_); (case side1 => repeat (first | exact HR1.out | (with_reducible refine Kd.C_alloc ?_ _) | (with_reducible refine Kd.C_drewN ?_ _) | (with_reducible refine Kd.C_drew ?_))); (case side2 => exact HC1.out); rintro e w' ⟨rfl, ⟨nd, rfl⟩⟩; refine ⟨_, rfl, ?_⟩))
     go_roundg k1
     case measure => have := HK1.out; omega
     case rel => exact ⟨(wrap64 (x5_1 + 1)), (by first | rfl | (simp; done) | (simp [*]; done)), H', ⟨by have := HK1.out; omega⟩, by repeat (first | exact Drawn0.refl _ | apply Drawn0.step)⟩
   ·rw [if_neg c3] at H
    have c3b0 : decide (x5_1 < a0) = false := decide_eq_false c3
    clear c3
    obtain rfl := Option.some.inj H
    go_wp2
    go_ret
    exact ⟨by first | rfl | (simp; done) | (simp [*]; done), by repeat (first | exact Drawn0.refl _ | apply Drawn0.step)⟩
def ref08_Reads.l0 : Nat → List (S44) → Int → List (S86) → List (S46) → Int → Option ((List (S86)))
 | 0, _, _, _, _, _ => none
 | k + 1, x0, x1, x5, x6, x7 => if x7 < (x6.length : Int) then (if 0 ≤ x7 then (if ((rd_T46 x6 x7).f2) = 0 then (if (-1) = x1 then (ref08_Reads.l0 k x0 x1 x5 x6 (wrap64 (x7 + 1))) else (if x5.length < 8796093022208 then (ref08_Reads.l0 k x0 x1 (x5 ++ [(⟨(rd_T46 x6 x7).f1, (-1)⟩ : S86)]) x6 (wrap64 (x7 + 1))) else (none))) else ((ref06_Writer.f k x0 ((rd_T46 x6 x7).f1) ((rd_T46 x6 x7).f2)).bind fun t254 => (if t254 = x1 then (ref08_Reads.l0 k x0 x1 x5 x6 (wrap64 (x7 + 1))) else (if x5.length < 8796093022208 then (ref08_Reads.l0 k x0 x1 (x5 ++ [(⟨(rd_T46 x6 x7).f1, t254⟩ : S86)]) x6 (wrap64 (x7 + 1))) else (none))))) else (none)) else (some x5)
def ref08_Reads.f (k : Nat) (l0 : List (S44)) (a1 : Int) : Option ((List (S86))) := if 0 ≤ a1 then (if a1 < (l0.length : Int) then ((ref05_Reads.f k ((rd_T44 l0 a1).f3)).bind fun t244 => (ref08_Reads.l0 k l0 a1 (([] : List (S86))) t244 0)) else (none)) else (none)
theorem ref08_Reads.mono_l : ∀ k, (∀ y0 y1 y2 y3 y4, LeO (ref08_Reads.l0 k y0 y1 y2 y3 y4) (ref08_Reads.l0 (k + 1) y0 y1 y2 y3 y4))
 | 0 => fun _ _ _ _ _ r h => by simp [ref08_Reads.l0] at h
 | k + 1 => by
  have ih0 := ref08_Reads.mono_l k
  ·intro y0 y1 y2 y3 y4
   unfold ref08_Reads.l0
   repeat' first
   | (with_reducible exact ih0 _ _ _ _ _)
   | (with_reducible exact ref05_Reads.mono _ _)
   | (with_reducible exact ref06_Writer.mono _ _ _ _)
   | (with_reducible exact LeO.refl _)
   | (with_reducible exact LeO.none _)
   | (with_reducible refine LeO.ite ?_ ?_)
   | (with_reducible refine LeO.bind ?_ (fun _ => ?_))
   | exact ih0 _ _ _ _ _
   | exact ref05_Reads.mono _ _
   | exact ref06_Writer.mono _ _ _ _
   | exact LeO.none _
   | refine LeO.ite ?_ ?_
   | refine LeO.bind ?_ (fun _ => ?_)
theorem ref08_Reads.mono : ∀ a0 a1 k, LeO (ref08_Reads.f k a0 a1) (ref08_Reads.f (k + 1) a0 a1) := by
 intro a0 a1 k
 have ih0 := ref08_Reads.mono_l k
 unfold ref08_Reads.f
 repeat' first
   | (with_reducible exact ih0 _ _ _ _ _)
   | (with_reducible exact ref05_Reads.mono _ _)
   | (with_reducible exact ref06_Writer.mono _ _ _ _)
   | (with_reducible exact LeO.refl _)
   | (with_reducible exact LeO.none _)
   | (with_reducible refine LeO.ite ?_ ?_)
   | (with_reducible refine LeO.bind ?_ (fun _ => ?_))
   | exact ih0 _ _ _ _ _
   | exact ref05_Reads.mono _ _
   | exact ref06_Writer.mono _ _ _ _
   | exact LeO.none _
   | refine LeO.ite ?_ ?_
   | refine LeO.bind ?_ (fun _ => ?_)
def ref08_Reads.T8 : Bool × List (List Nat × List Nat) := (true, [([], []), ([], []), ([], []), ([1, 2], [1, 2]), ([3], [3]), ([4], [4]), ([], []), ([], []), ([6, 7], [6, 7]), ([8], [8]), ([9], [9]), ([0, 5, 10], [0, 5, 10]), ([11, 11, 0, 1, 2, 3, 4, 5, 6, 7, 8, 9, 10, 11], [11])])
def ref08_Reads.B8 : List Nat := [0, 0, 0, 6, 14, 30, 0, 0, 192, 448, 960, 2047, 4095]
theorem ref08_Reads.tab8 : rtab .any (opsOf Try.f43 8) = ref08_Reads.T8 := by kernel_rfl
theorem ref08_Reads.bits8 : waitsOk ref08_Reads.T8.2 ref08_Reads.B8 = true := by kernel_rfl
set_option maxHeartbeats 8000000 in
set_option maxRecDepth 100000 in
theorem ref08_Reads.calls (k : Nat) (A0 : Option Addr) (c0 : Nat) (l0 : List (S44)) (a1 : Int) (r : List (S86)) (w : World) (hr0 : Kd.C k44 w A0 l0.length l0) (hc0 : l0.length ≤ c0) (h : ref08_Reads.f k l0 a1 = some r) :
  Calls Try.prog 43 #[.slice A0 l0.length c0, .int .i64 a1] w fun e w' => ∃ v0_ : Value, e = .returned (v0_) ∧ Kd.R k86 86 w' w.heap.size (fun _ => True) v0_ r ∧ Below w.heap.size w w' := by
 have hu86 := Try.underlying86
 have HR0 := Aside0.mk hr0
 have HC0 := Aside0.mk hc0
 clear hr0 hc0
 have HB := Aside0.mk (Below.refl w.heap.size w)
 have H : (if 0 ≤ a1 then (if a1 < (l0.length : Int) then ((ref05_Reads.f k ((rd_T44 l0 a1).f3)).bind fun t244 => (ref08_Reads.l0 k l0 a1 (([] : List (S86))) t244 0)) else (none)) else (none)) = some r := h
 clear h
 obtain ⟨y240, hy240⟩ : ∃ y_ : List (S86), y_ = (([] : List (S86))) := ⟨_, rfl⟩
 replace H : (if 0 ≤ a1 then (if a1 < (l0.length : Int) then ((ref05_Reads.f k ((rd_T44 l0 a1).f3)).bind fun t244 => (ref08_Reads.l0 k l0 a1 y240 t244 0)) else (none)) else (none)) = some r := by first | (rw [hy240]; with_reducible exact H) | (have H2_ := (Option.bind_some _ _).symm.trans H; rw [hy240]; with_reducible exact H2_) | (have H2_ := (Option.bind_some _ _).symm.trans H; with_reducible exact H2_) | with_reducible exact H | (rw [hy240]; exact H) | exact H
 have Ny240 := Aside0.mk hy240
 clear hy240
 by_cases c3 : 0 ≤ a1
 ·rw [if_pos c3] at H
  have c3b0 : decide (0 ≤ a1) = true := decide_eq_true c3
  clear c3
  by_cases c4 : a1 < (l0.length : Int)
  ·rw [if_pos c4] at H
   have c4b0 : decide (a1 < (l0.length : Int)) = true := decide_eq_true c4
   clear c4
   replace H := Option.bind_eq_some_iff.mp H
   obtain ⟨t244, A50, H⟩ := H
   replace H : (ref08_Reads.l0 k l0 a1 y240 t244 0) = some r := H
   have A5 := Aside0.mk A50
   clear A50
   have H' := Aside0.mk H
   clear H
   go_enter Try.func43, Try.ntmps43
   go_wp2_with (first | ((with_reducible refine gate_dst (N := 9) rfl ?_); refine Kd.R_lit k86 _ 86 ?hg (N := 9) ?hd (xs := ([] : List (S86))) (inner := []) (ok := fun _ => True) (okp := fun _ => True) ?hr ?hp (fun _ hk => hk) trivial (Below.refl _ _) (Nat.le_refl _) (by simp) ?_; (case hd => rfl); (case hg => rfl); (case hr => first | (go_simp; done) | (go_simp; rfl)); (case hp => exact (Reps.none _ _)); intro v241 w6 ho7 hb hg_ hnew_; clear hg_ hnew_; (first | rw [← Ny240.out] at ho7 | (simp only [Int.reduceToNat] at ho7; rw [← Ny240.out] at ho7)); have n0_ := Aside0.mk (Kd.R_lower ho7 (below_size (by repeat (first | (with_reducible first | exact HB.out | apply below_alloc | apply pw_below_drewN | apply below_drew1))))); have n1_ := Aside0.mk (below_step (by repeat (first | (with_reducible first | exact HB.out | apply below_alloc | apply pw_below_drewN | apply below_drew1))) hb); clear HB; have HO242 := n0_; have HB := n1_; clear n0_ n1_; clear hb ho7; have p243 : 0 ≤ (a1 : Int) := of_decide_eq_true (by assumption); have q243 : a1 < (l0.length : Int) := of_decide_eq_true (by assumption); obtain ⟨ad243, A243_3, c243_3, e243, hx243_0, hx243_1, hx243_2, hx243_3, hl243_3, hi243_3⟩ := at_T44 HR0.out a1 p243 q243; cases e243; replace hx243_0 := (HB.out.cell (World.block_lt_of_cell? w _ hx243_0)).trans hx243_0; replace hx243_1 := (HB.out.cell (World.block_lt_of_cell? w _ hx243_1)).trans hx243_1; replace hx243_2 := (HB.out.cell (World.block_lt_of_cell? w _ hx243_2)).trans hx243_2; replace hx243_3 := (HB.out.cell (World.block_lt_of_cell? w _ hx243_3)).trans hx243_3; have HR243_3 := Aside0.mk hi243_3; have HC243_3 := Aside0.mk hl243_3; clear hi243_3 hl243_3; replace p243 := eq_true p243; replace q243 := eq_true q243) | ((with_reducible refine gate_callee (f := 77) rfl ?_); refine goesL_ (some 15) rfl rfl Try.func77 (by kernel_rfl) rfl #[.slice A243_3 ((rd_T44 l0 a1).f3).length c243_3] rfl (by (try simp only [List.map_toArray, List.map_cons, List.map_nil]); first | done | rfl | (simp only [List.length_drop, List.length_take]; rfl)) ?_; (with_reducible refine (ref05_Reads.calls k _ _ ((rd_T44 l0 a1).f3) t244 _ ?side1 ?side2 A5.out).mono ?_); (case side1 => repeat (first | exact (Kd.C_below HR243_3.out HB.out) | (with_reducible refine Kd.C_alloc ?_ _) | (with_reducible refine Kd.C_drewN ?_ _) | (with_reducible refine Kd.C_drew ?_))); (case side2 => exact HC243_3.out); rintro e w8 ⟨v245, rfl, ho0, hb⟩; refine ⟨_, rfl, ?_⟩; have n0_ := Aside0.mk (Kd.R_below (by (with_reducible repeat (first | apply Kd.R_alloc | apply Kd.R_drewN | apply Kd.R_drew)); exact HO242.out) hb); have n1_ := Aside0.mk (Kd.R_lower ho0 (below_size (by repeat (first | (with_reducible first | exact HB.out | apply below_alloc | apply pw_below_drewN | apply below_drew1))))); have n2_ := Aside0.mk (below_step (by repeat (first | (with_reducible first | exact HB.out | apply below_alloc | apply pw_below_drewN | apply below_drew1))) hb); clear HO242; clear HB; have HO242 := n0_; have HO246 := n1_; have HB := n2_; clear n0_ n1_ n2_; (try clear hb); (try clear hb2); (try clear hk); (try clear hi); (try clear ho0)))
   go_loopg [5, 7] k (fun kq v5 v7 w' => ∃ (x5_1 : List (S86)) (x7_1 : Int), v7 = .int .i64 x7_1 ∧ Aside0 (ref08_Reads.l0 kq l0 a1 x5_1 t244 x7_1 = some r) ∧ Aside0 (kq ≤ k) ∧ Aside0 (Kd.R k86 86 w' w.heap.size (fun _ => True) v5 x5_1) ∧ Aside0 (Kd.R k46 46 w' w.heap.size (fun _ => True) v245 t244) ∧ Aside0 (Below w.heap.size w w'))
   case atStart => exact ⟨(y240), (0), (by first | rfl | (simp; done) | (simp [*]; done)), H', ⟨Nat.le_refl _⟩, ⟨by (with_reducible repeat (first | apply Kd.R_alloc | apply Kd.R_drewN | apply Kd.R_drew)); exact HO242.out⟩, ⟨by (with_reducible repeat (first | apply Kd.R_alloc | apply Kd.R_drewN | apply Kd.R_drew)); exact HO246.out⟩, ⟨by repeat (first | (with_reducible first | exact HB.out | apply below_alloc | apply pw_below_drewN | apply below_drew1))⟩⟩
   case round =>
    clear H'
    try clear c2
    try clear p2
    try clear q2
    try clear hx2
    try clear c3
    try clear c3b0
    try clear c4
    try clear c4b0
    try clear c7
    try clear hx243_0
    try clear hx243_1
    try clear hx243_2
    try clear hx243_3
    try clear p243
    try clear q243
    obtain ⟨x5_1, x7_1, rfl, HA, HK1, HO_5, HO_6, HB⟩ := hrel
    cases gk with
    | zero => exact absurd HA.out (by simp [ref08_Reads.l0])
    | succ k1 =>
     have H := HA.out
     clear HA
     simp only [ref08_Reads.l0] at H
     by_cases c9 : x7_1 < (t244.length : Int)
     ·rw [if_pos c9] at H
      have c9b0 : decide (x7_1 < (t244.length : Int)) = true := decide_eq_true c9
      clear c9
      by_cases c10 : 0 ≤ x7_1
      ·rw [if_pos c10] at H
       have c10b0 : decide (0 ≤ x7_1) = true := decide_eq_true c10
       clear c10
       by_cases c11 : ((rd_T46 t244 x7_1).f2) = 0
       ·rw [if_pos c11] at H
        have c11b0 : (((rd_T46 t244 x7_1).f2) == 0) = true := beq_iff_eq.mpr c11
        have c11b1 : (((rd_T46 t244 x7_1).f2) != 0) = false := bne_eq_false_iff_eq.mpr c11
        clear c11
        by_cases c12 : (-1) = a1
        ·rw [if_pos c12] at H
         have c12b0 : ((-1) == a1) = true := beq_iff_eq.mpr c12
         have c12b1 : ((-1) != a1) = false := bne_eq_false_iff_eq.mpr c12
         clear c12
         have H' := Aside0.mk H
         clear H
         obtain ⟨Ao13, co13, eo13⟩ := Kd.R_slice HO_6.out
         subst eo13
         have p247 : 0 ≤ (x7_1 : Int) := of_decide_eq_true (by assumption)
         have q247 : x7_1 < (t244.length : Int) := of_decide_eq_true (by assumption)
         obtain ⟨ad247, e247, hx247_0, hx247_1, hx247_2⟩ := at_T46 (Kd.R_reads' HO_6.out).2.2 x7_1 p247 q247
         cases e247
         replace p247 := eq_true p247
         replace q247 := eq_true q247
         go_wp2
         go_roundg k1
         case measure => have := HK1.out; omega
         case rel => exact ⟨(x5_1), (wrap64 (x7_1 + 1)), (by first | rfl | (simp; done) | (simp [*]; done)), H', ⟨by have := HK1.out; omega⟩, ⟨by (with_reducible repeat (first | apply Kd.R_alloc | apply Kd.R_drewN | apply Kd.R_drew)); exact HO_5.out⟩, ⟨by (with_reducible repeat (first | apply Kd.R_alloc | apply Kd.R_drewN | apply Kd.R_drew)); exact HO_6.out⟩, ⟨by repeat (first | (with_reducible first | exact HB.out | apply below_alloc | apply pw_below_drewN | apply below_drew1))⟩⟩
        ·rw [if_neg c12] at H
         have c12b0 : ((-1) == a1) = false := beq_eq_false_iff_ne.mpr c12
         have c12b1 : ((-1) != a1) = true := bne_iff_ne.mpr c12
         by_cases c14 : x5_1.length < 8796093022208
         ·rw [if_pos c14] at H
          have LMc14 := Aside0.mk c14
          clear c14
          obtain ⟨y249, hy249⟩ : ∃ y_ : List (S86), y_ = (x5_1 ++ [(⟨(rd_T46 t244 x7_1).f1, (-1)⟩ : S86)]) := ⟨_, rfl⟩
          replace H : (ref08_Reads.l0 k1 l0 a1 y249 t244 (wrap64 (x7_1 + 1))) = some r := by first | (rw [hy249]; with_reducible exact H) | (have H2_ := (Option.bind_some _ _).symm.trans H; rw [hy249]; with_reducible exact H2_) | (have H2_ := (Option.bind_some _ _).symm.trans H; with_reducible exact H2_) | with_reducible exact H | (rw [hy249]; exact H) | exact H
          have Ny249 := Aside0.mk hy249
          clear hy249
          have H' := Aside0.mk H
          clear H
          obtain ⟨Ao15, co15, eo15⟩ := Kd.R_slice HO_6.out
          subst eo15
          have p247 : 0 ≤ (x7_1 : Int) := of_decide_eq_true (by assumption)
          have q247 : x7_1 < (t244.length : Int) := of_decide_eq_true (by assumption)
          obtain ⟨ad247, e247, hx247_0, hx247_1, hx247_2⟩ := at_T46 (Kd.R_reads' HO_6.out).2.2 x7_1 p247 q247
          cases e247
          replace p247 := eq_true p247
          replace q247 := eq_true q247
          have p248 : 0 ≤ (x7_1 : Int) := of_decide_eq_true (by assumption)
          have q248 : x7_1 < (t244.length : Int) := of_decide_eq_true (by assumption)
          obtain ⟨ad248, e248, hx248_0, hx248_1, hx248_2⟩ := at_T46 (Kd.R_reads' HO_6.out).2.2 x7_1 p248 q248
          obtain rfl : ad247 = ad248 := (by injection e248)
          replace p248 := eq_true p248
          replace q248 := eq_true q248
          go_wp2_with (first | ((with_reducible refine gate_builtin (b := .append) (xs := #[.tmp 43, .tmp 51]) rfl ?_); at_builtin; refine Kd.R_append k86 (w0 := w) w.heap.size rfl (.tmp 43) (.tmp 51) 81 86 (.agg #[(.int .i64 0), (.int .i64 0)]) 16 rfl Try.underlying81 info86 rfl (by decide) (by omega) u5 x5_1 (⟨(rd_T46 t244 x7_1).f1, (-1)⟩ : S86) [.int .i64 ((rd_T46 t244 x7_1).f1), .int .i64 (-1)] (fun _ => True) (fun _ => False) rfl rfl ?aP (fun _ hk => hk.elim) ?aF ?aO ?aB ?aS ?aL ?_; (case aP => exact k86_mkM _ _ _ (⟨(rd_T46 t244 x7_1).f1, (-1)⟩ : S86)); (case aB => exact (by repeat (first | (with_reducible first | exact HB.out | apply below_alloc | apply pw_below_drewN | apply below_drew1)))); (case aF => exact (fun _ _ => trivial)); (case aO => exact (by (with_reducible repeat (first | apply Kd.R_alloc | apply Kd.R_drewN | apply Kd.R_drew)); exact HO_5.out)); (case aS => exact (below_size (by repeat (first | (with_reducible first | exact HB.out | apply below_alloc | apply pw_below_drewN | apply below_drew1))))); (case aL => have := LMc14.out; omega); intro v250 w16 ho hb hg hat; rw [← Ny249.out] at ho; have n0_ := Aside0.mk (Kd.R_over' (by (with_reducible repeat (first | apply Kd.R_alloc | apply Kd.R_drewN | apply Kd.R_drew)); exact HO_6.out) (Kd.R_typed (by (with_reducible repeat (first | apply Kd.R_alloc | apply Kd.R_drewN | apply Kd.R_drew)); exact HO_5.out)) (by decide) hg); have n1_ := Aside0.mk (hb); have n2_ := Aside0.mk (ho); clear HO_6; clear HB; clear HO_5; have HO_6 := n0_; have HB := n1_; have HO251 := n2_; clear n0_ n1_ n2_; clear ho hb hg hat))
          go_roundg k1
          case measure => have := HK1.out; omega
          case rel => exact ⟨(y249), (wrap64 (x7_1 + 1)), (by first | rfl | (simp; done) | (simp [*]; done)), H', ⟨by have := HK1.out; omega⟩, ⟨by (with_reducible repeat (first | apply Kd.R_alloc | apply Kd.R_drewN | apply Kd.R_drew)); exact HO251.out⟩, ⟨by (with_reducible repeat (first | apply Kd.R_alloc | apply Kd.R_drewN | apply Kd.R_drew)); exact HO_6.out⟩, ⟨by repeat (first | (with_reducible first | exact HB.out | apply below_alloc | apply pw_below_drewN | apply below_drew1))⟩⟩
         ·rw [if_neg c14] at H
          exact absurd H (by simp)
       ·rw [if_neg c11] at H
        have c11b0 : (((rd_T46 t244 x7_1).f2) == 0) = false := beq_eq_false_iff_ne.mpr c11
        have c11b1 : (((rd_T46 t244 x7_1).f2) != 0) = true := bne_iff_ne.mpr c11
        replace H := Option.bind_eq_some_iff.mp H
        obtain ⟨t254, A170, H⟩ := H
        replace H : (if t254 = a1 then (ref08_Reads.l0 k1 l0 a1 x5_1 t244 (wrap64 (x7_1 + 1))) else (if x5_1.length < 8796093022208 then (ref08_Reads.l0 k1 l0 a1 (x5_1 ++ [(⟨(rd_T46 t244 x7_1).f1, t254⟩ : S86)]) t244 (wrap64 (x7_1 + 1))) else (none))) = some r := H
        have A17 := Aside0.mk A170
        clear A170
        by_cases c18 : t254 = a1
        ·rw [if_pos c18] at H
         have c18b0 : (t254 == a1) = true := beq_iff_eq.mpr c18
         have c18b1 : (t254 != a1) = false := bne_eq_false_iff_eq.mpr c18
         clear c18
         have H' := Aside0.mk H
         clear H
         obtain ⟨Ao19, co19, eo19⟩ := Kd.R_slice HO_6.out
         subst eo19
         have p247 : 0 ≤ (x7_1 : Int) := of_decide_eq_true (by assumption)
         have q247 : x7_1 < (t244.length : Int) := of_decide_eq_true (by assumption)
         obtain ⟨ad247, e247, hx247_0, hx247_1, hx247_2⟩ := at_T46 (Kd.R_reads' HO_6.out).2.2 x7_1 p247 q247
         cases e247
         replace p247 := eq_true p247
         replace q247 := eq_true q247
         try go_wp2
         have n0_ := Aside0.mk (Kd.R_drew HO_5.out)
         have n1_ := Aside0.mk (Kd.R_drew HO_6.out)
         have n2_ := Aside0.mk (below_drew1 HB.out)
         clear HO_5
         clear HO_6
         clear HB
         have HO_5 := n0_
         have HO_6 := n1_
         have HB := n2_
         clear n0_ n1_ n2_
         have p252 : 0 ≤ (x7_1 : Int) := of_decide_eq_true (by assumption)
         have q252 : x7_1 < (t244.length : Int) := of_decide_eq_true (by assumption)
         obtain ⟨ad252, e252, hx252_0, hx252_1, hx252_2⟩ := at_T46 (Kd.R_reads' HO_6.out).2.2 x7_1 p252 q252
         obtain rfl : ad247 = ad252 := (by injection e252)
         replace p252 := eq_true p252
         replace q252 := eq_true q252
         have p253 : 0 ≤ (x7_1 : Int) := of_decide_eq_true (by assumption)
         have q253 : x7_1 < (t244.length : Int) := of_decide_eq_true (by assumption)
         obtain ⟨ad253, e253, hx253_0, hx253_1, hx253_2⟩ := at_T46 (Kd.R_reads' HO_6.out).2.2 x7_1 p253 q253
         obtain rfl : ad247 = ad253 := (by injection e253)
         replace p253 := eq_true p253
         replace q253 := eq_true q253
         refine start_ (n := 13) (S := fun w' => w'.cell? (ad247.add ((x7_1).toNat * 3)) = some (.bool ((rd_T46 t244 x7_1).f0)) ∧ w'.cell? ⟨(ad247.add ((x7_1).toNat * 3)).block, (ad247.add ((x7_1).toNat * 3)).off + 1, none⟩ = some (.int .i64 ((rd_T46 t244 x7_1).f1)) ∧ w'.cell? ⟨(ad247.add ((x7_1).toNat * 3)).block, (ad247.add ((x7_1).toNat * 3)).off + 2, none⟩ = some (.int .i64 ((rd_T46 t244 x7_1).f2)) ∧ w'.cell? (ad247.add ((x7_1).toNat * 3)) = some (.bool ((rd_T46 t244 x7_1).f0)) ∧ w'.cell? ⟨(ad247.add ((x7_1).toNat * 3)).block, (ad247.add ((x7_1).toNat * 3)).off + 1, none⟩ = some (.int .i64 ((rd_T46 t244 x7_1).f1)) ∧ w'.cell? ⟨(ad247.add ((x7_1).toNat * 3)).block, (ad247.add ((x7_1).toNat * 3)).off + 2, none⟩ = some (.int .i64 ((rd_T46 t244 x7_1).f2))) (ds := []) #[false, false, false, false, false, false, false, false, false, false, false, false, false] (by kernel_rfl) rfl rfl ⟨hx252_0, hx252_1, hx252_2, hx253_0, hx253_1, hx253_2⟩ (fun hHeld => ?_); refine with_tabW ref08_Reads.tab8 ref08_Reads.bits8 (fun HT_ HW_ => ?_)
         generalize wr.drew = w20 at HO_5 HO_6 HB hx252_0 hx252_1 hx252_2 hx253_0 hx253_1 hx253_2 hHeld ⊢
         refine pure_ (i := 0) (N := some 28) (v := ?_) (a' := ?_) #[true, false, false, false, false, false, false, false, false, false, false, false, false] rfl rfl (any_of HT_.out (by kernel_rfl)) (fun _ _ _ h => h) (Or.inl ⟨by rfl, ?_⟩) ?_ ?_
         rotate_left
         ·intro w'
          go_simp
          with_reducible rfl
         rotate_left
         ·simp only [Act.put, List.setIfInBounds_toArray, List.set_cons_zero, List.set_cons_succ, i64_w, i32_w]
          rfl
         refine pure_ (i := 1) (N := some 29) (v := ?_) (a' := ?_) #[true, true, false, false, false, false, false, false, false, false, false, false, false] rfl rfl (any_of HT_.out (by kernel_rfl)) (fun _ _ _ h => h) (Or.inl ⟨by rfl, ?_⟩) ?_ ?_
         rotate_left
         ·intro w'
          go_simp
          with_reducible rfl
         rotate_left
         ·simp only [Act.put, List.setIfInBounds_toArray, List.set_cons_zero, List.set_cons_succ, i64_w, i32_w]
          rfl
         refine pure_ (i := 2) (N := some 30) (v := ?_) (a' := ?_) #[true, true, true, false, false, false, false, false, false, false, false, false, false] rfl rfl (any_of HT_.out (by kernel_rfl)) (fun _ _ _ h => h) (Or.inl ⟨by rfl, ?_⟩) ?_ ?_
         rotate_left
         ·intro w'
          go_simp
          with_reducible rfl
         rotate_left
         ·simp only [Act.put, List.setIfInBounds_toArray, List.set_cons_zero, List.set_cons_succ, i64_w, i32_w]
          rfl
         refine pure_ (i := 3) (N := some 31) (v := ?_) (a' := ?_) #[true, true, true, true, false, false, false, false, false, false, false, false, false] rfl rfl (any_of HT_.out (by kernel_rfl)) (fun _ _ _ h => h) (Or.inl ⟨by rfl, ?_⟩) ?_ ?_
         rotate_left
         ·intro w'
          go_simp
          with_reducible rfl
         rotate_left
         ·simp only [Act.put, List.setIfInBounds_toArray, List.set_cons_zero, List.set_cons_succ, i64_w, i32_w]
          rfl
         refine pure_ (i := 4) (N := some 32) (v := ?_) (a' := ?_) #[true, true, true, true, true, false, false, false, false, false, false, false, false] rfl rfl (any_of HT_.out (by kernel_rfl)) (fun _ _ _ h => h) (Or.inl ⟨by rfl, ?_⟩) ?_ ?_
         rotate_left
         ·intro w'
          go_simp
          with_reducible rfl
         rotate_left
         ·simp only [Act.put, List.setIfInBounds_toArray, List.set_cons_zero, List.set_cons_succ, i64_w, i32_w]
          rfl
         refine pure_ (i := 6) (N := some 34) (v := ?_) (a' := ?_) #[true, true, true, true, true, false, true, false, false, false, false, false, false] rfl rfl (any_of HT_.out (by kernel_rfl)) (fun _ _ _ h => h) (Or.inl ⟨by rfl, ?_⟩) ?_ ?_
         rotate_left
         ·intro w'
          go_simp
          with_reducible rfl
         rotate_left
         ·simp only [Act.put, List.setIfInBounds_toArray, List.set_cons_zero, List.set_cons_succ, i64_w, i32_w]
          rfl
         refine pure_ (i := 7) (N := some 35) (v := ?_) (a' := ?_) #[true, true, true, true, true, false, true, true, false, false, false, false, false] rfl rfl (any_of HT_.out (by kernel_rfl)) (fun _ _ _ h => h) (Or.inl ⟨by rfl, ?_⟩) ?_ ?_
         rotate_left
         ·intro w'
          go_simp
          with_reducible rfl
         rotate_left
         ·simp only [Act.put, List.setIfInBounds_toArray, List.set_cons_zero, List.set_cons_succ, i64_w, i32_w]
          rfl
         refine pure_ (i := 8) (N := some 36) (v := ?_) (a' := ?_) #[true, true, true, true, true, false, true, true, true, false, false, false, false] rfl rfl (any_of HT_.out (by kernel_rfl)) (fun _ _ _ h => h) (Or.inl ⟨by rfl, ?_⟩) ?_ ?_
         rotate_left
         ·intro w'
          go_simp
          with_reducible rfl
         rotate_left
         ·simp only [Act.put, List.setIfInBounds_toArray, List.set_cons_zero, List.set_cons_succ, i64_w, i32_w]
          rfl
         refine pure_ (i := 9) (N := some 37) (v := ?_) (a' := ?_) #[true, true, true, true, true, false, true, true, true, true, false, false, false] rfl rfl (any_of HT_.out (by kernel_rfl)) (fun _ _ _ h => h) (Or.inl ⟨by rfl, ?_⟩) ?_ ?_
         rotate_left
         ·intro w'
          go_simp
          with_reducible rfl
         rotate_left
         ·simp only [Act.put, List.setIfInBounds_toArray, List.set_cons_zero, List.set_cons_succ, i64_w, i32_w]
          rfl
         refine take_ (i := 5) (N := some 33) (v := ?_) (a' := ?_) #[true, true, true, true, true, true, true, true, true, true, false, false, false] rfl rfl (take_ofW HT_.out HW_.out (by kernel_rfl)) (fun _ _ _ h => h) (Or.inl ⟨by rfl, ?_⟩) hHeld ?_ ?_
         rotate_left
         ·rintro w' ⟨s0, s1, s2, s3, s4, s5⟩
          go_simp
          with_reducible rfl
         rotate_left
         ·simp only [Act.put, List.setIfInBounds_toArray, List.set_cons_zero, List.set_cons_succ, i64_w, i32_w]
          rfl
         refine take_ (i := 10) (N := some 38) (v := ?_) (a' := ?_) #[true, true, true, true, true, true, true, true, true, true, true, false, false] rfl rfl (take_ofW HT_.out HW_.out (by kernel_rfl)) (fun _ _ _ h => h) (Or.inl ⟨by rfl, ?_⟩) hHeld ?_ ?_
         rotate_left
         ·rintro w' ⟨s0, s1, s2, s3, s4, s5⟩
          go_simp
          with_reducible rfl
         rotate_left
         ·simp only [Act.put, List.setIfInBounds_toArray, List.set_cons_zero, List.set_cons_succ, i64_w, i32_w]
          rfl
         refine one_ (i := 11) (N := some 39) #[true, true, true, true, true, true, true, true, true, true, true, true, false] rfl rfl (one_of HT_.out (by kernel_rfl)) (by decide) (fun K hK => ?_)
         refine goes_ Try.func78 (by kernel_rfl) rfl #[.slice (some ad243) l0.length c0, .int .i64 ((rd_T46 t244 x7_1).f1), .int .i64 ((rd_T46 t244 x7_1).f2)] (by rfl) rfl rfl (by (try simp only [List.map_toArray, List.map_cons, List.map_nil]); first | done | rfl | (simp only [List.length_drop, List.length_take]; rfl)) ?_
         with_reducible refine (ref06_Writer.calls k1 _ _ l0 ((rd_T46 t244 x7_1).f1) ((rd_T46 t244 x7_1).f2) t254 _ ?side1 ?side2 A17.out).mono ?_
         (case side1 => repeat (first | exact (Kd.C_below HR0.out HB.out) | (with_reducible refine Kd.C_alloc ?_ _) | (with_reducible refine Kd.C_drewN ?_ _) | (with_reducible refine Kd.C_drew ?_)))
         (case side2 => exact HC0.out)
         rintro e w21 ⟨rfl, hb⟩
         have HS0_ := (hb.cell (World.block_lt_of_cell? _ _ (hHeld.1))).trans (hHeld.1)
         have HS1_ := (hb.cell (World.block_lt_of_cell? _ _ (hHeld.2.1))).trans (hHeld.2.1)
         have HS2_ := (hb.cell (World.block_lt_of_cell? _ _ (hHeld.2.2.1))).trans (hHeld.2.2.1)
         have HS3_ := (hb.cell (World.block_lt_of_cell? _ _ (hHeld.2.2.2.1))).trans (hHeld.2.2.2.1)
         have HS4_ := (hb.cell (World.block_lt_of_cell? _ _ (hHeld.2.2.2.2.1))).trans (hHeld.2.2.2.2.1)
         have HS5_ := (hb.cell (World.block_lt_of_cell? _ _ (hHeld.2.2.2.2.2))).trans (hHeld.2.2.2.2.2)
         refine ⟨_, rfl, ?_⟩
         have n0_ := Aside0.mk (Kd.R_below (by (with_reducible repeat (first | apply Kd.R_alloc | apply Kd.R_drewN | apply Kd.R_drew)); exact HO_5.out) hb)
         have n1_ := Aside0.mk (Kd.R_below (by (with_reducible repeat (first | apply Kd.R_alloc | apply Kd.R_drewN | apply Kd.R_drew)); exact HO_6.out) hb)
         have n2_ := Aside0.mk (below_step (by repeat (first | (with_reducible first | exact HB.out | apply below_alloc | apply pw_below_drewN | apply below_drew1))) hb)
         clear HO_5
         clear HO_6
         clear HB
         have HO_5 := n0_
         have HO_6 := n1_
         have HB := n2_
         clear n0_ n1_ n2_
         (try clear hb)
         (try clear hb2)
         (try clear hk)
         (try clear hi)
         refine hK.out _ _ ⟨HS0_, HS1_, HS2_, HS3_, HS4_, HS5_⟩ (fun hHeld => ?_)
         clear hK K
         refine norm_ (a' := ?_) ?_ ?_
         rotate_left
         ·show Act.put _ (some 39) _ = _
          simp only [Act.put, List.setIfInBounds_toArray, List.set_cons_zero, List.set_cons_succ, i64_w, i32_w]
          rfl
         refine pure_ (i := 12) (N := some 8) (v := ?_) (a' := ?_) #[true, true, true, true, true, true, true, true, true, true, true, true, true] rfl rfl (any_of HT_.out (by kernel_rfl)) (fun _ _ _ h => h) (Or.inl ⟨by rfl, ?_⟩) ?_ ?_
         rotate_left
         ·intro w'
          go_simp
          with_reducible rfl
         rotate_left
         ·simp only [Act.put, List.setIfInBounds_toArray, List.set_cons_zero, List.set_cons_succ, i64_w, i32_w]
          rfl
         refine done_ (done_of HT_.out (by kernel_rfl)) ?_
         try go_wp2
         go_roundg k1
         case measure => have := HK1.out; omega
         case rel => exact ⟨(x5_1), (wrap64 (x7_1 + 1)), (by first | rfl | (simp; done) | (simp [*]; done)), H', ⟨by have := HK1.out; omega⟩, ⟨by (with_reducible repeat (first | apply Kd.R_alloc | apply Kd.R_drewN | apply Kd.R_drew)); exact HO_5.out⟩, ⟨by (with_reducible repeat (first | apply Kd.R_alloc | apply Kd.R_drewN | apply Kd.R_drew)); exact HO_6.out⟩, ⟨by repeat (first | (with_reducible first | exact HB.out | apply below_alloc | apply pw_below_drewN | apply below_drew1))⟩⟩
        ·rw [if_neg c18] at H
         have c18b0 : (t254 == a1) = false := beq_eq_false_iff_ne.mpr c18
         have c18b1 : (t254 != a1) = true := bne_iff_ne.mpr c18
         by_cases c22 : x5_1.length < 8796093022208
         ·rw [if_pos c22] at H
          have LMc22 := Aside0.mk c22
          clear c22
          obtain ⟨y256, hy256⟩ : ∃ y_ : List (S86), y_ = (x5_1 ++ [(⟨(rd_T46 t244 x7_1).f1, t254⟩ : S86)]) := ⟨_, rfl⟩
          replace H : (ref08_Reads.l0 k1 l0 a1 y256 t244 (wrap64 (x7_1 + 1))) = some r := by first | (rw [hy256]; with_reducible exact H) | (have H2_ := (Option.bind_some _ _).symm.trans H; rw [hy256]; with_reducible exact H2_) | (have H2_ := (Option.bind_some _ _).symm.trans H; with_reducible exact H2_) | with_reducible exact H | (rw [hy256]; exact H) | exact H
          have Ny256 := Aside0.mk hy256
          clear hy256
          have H' := Aside0.mk H
          clear H
          obtain ⟨Ao23, co23, eo23⟩ := Kd.R_slice HO_6.out
          subst eo23
          have p247 : 0 ≤ (x7_1 : Int) := of_decide_eq_true (by assumption)
          have q247 : x7_1 < (t244.length : Int) := of_decide_eq_true (by assumption)
          obtain ⟨ad247, e247, hx247_0, hx247_1, hx247_2⟩ := at_T46 (Kd.R_reads' HO_6.out).2.2 x7_1 p247 q247
          cases e247
          replace p247 := eq_true p247
          replace q247 := eq_true q247
          try go_wp2
          have n0_ := Aside0.mk (Kd.R_drew HO_5.out)
          have n1_ := Aside0.mk (Kd.R_drew HO_6.out)
          have n2_ := Aside0.mk (below_drew1 HB.out)
          clear HO_5
          clear HO_6
          clear HB
          have HO_5 := n0_
          have HO_6 := n1_
          have HB := n2_
          clear n0_ n1_ n2_
          have p252 : 0 ≤ (x7_1 : Int) := of_decide_eq_true (by assumption)
          have q252 : x7_1 < (t244.length : Int) := of_decide_eq_true (by assumption)
          obtain ⟨ad252, e252, hx252_0, hx252_1, hx252_2⟩ := at_T46 (Kd.R_reads' HO_6.out).2.2 x7_1 p252 q252
          obtain rfl : ad247 = ad252 := (by injection e252)
          replace p252 := eq_true p252
          replace q252 := eq_true q252
          have p253 : 0 ≤ (x7_1 : Int) := of_decide_eq_true (by assumption)
          have q253 : x7_1 < (t244.length : Int) := of_decide_eq_true (by assumption)
          obtain ⟨ad253, e253, hx253_0, hx253_1, hx253_2⟩ := at_T46 (Kd.R_reads' HO_6.out).2.2 x7_1 p253 q253
          obtain rfl : ad247 = ad253 := (by injection e253)
          replace p253 := eq_true p253
          replace q253 := eq_true q253
          refine start_ (n := 13) (S := fun w' => w'.cell? (ad247.add ((x7_1).toNat * 3)) = some (.bool ((rd_T46 t244 x7_1).f0)) ∧ w'.cell? ⟨(ad247.add ((x7_1).toNat * 3)).block, (ad247.add ((x7_1).toNat * 3)).off + 1, none⟩ = some (.int .i64 ((rd_T46 t244 x7_1).f1)) ∧ w'.cell? ⟨(ad247.add ((x7_1).toNat * 3)).block, (ad247.add ((x7_1).toNat * 3)).off + 2, none⟩ = some (.int .i64 ((rd_T46 t244 x7_1).f2)) ∧ w'.cell? (ad247.add ((x7_1).toNat * 3)) = some (.bool ((rd_T46 t244 x7_1).f0)) ∧ w'.cell? ⟨(ad247.add ((x7_1).toNat * 3)).block, (ad247.add ((x7_1).toNat * 3)).off + 1, none⟩ = some (.int .i64 ((rd_T46 t244 x7_1).f1)) ∧ w'.cell? ⟨(ad247.add ((x7_1).toNat * 3)).block, (ad247.add ((x7_1).toNat * 3)).off + 2, none⟩ = some (.int .i64 ((rd_T46 t244 x7_1).f2))) (ds := []) #[false, false, false, false, false, false, false, false, false, false, false, false, false] (by kernel_rfl) rfl rfl ⟨hx252_0, hx252_1, hx252_2, hx253_0, hx253_1, hx253_2⟩ (fun hHeld => ?_); refine with_tabW ref08_Reads.tab8 ref08_Reads.bits8 (fun HT_ HW_ => ?_)
          generalize wr.drew = w24 at HO_5 HO_6 HB hx252_0 hx252_1 hx252_2 hx253_0 hx253_1 hx253_2 hHeld ⊢
          refine pure_ (i := 0) (N := some 28) (v := ?_) (a' := ?_) #[true, false, false, false, false, false, false, false, false, false, false, false, false] rfl rfl (any_of HT_.out (by kernel_rfl)) (fun _ _ _ h => h) (Or.inl ⟨by rfl, ?_⟩) ?_ ?_
          rotate_left
          ·intro w'
           go_simp
           with_reducible rfl
          rotate_left
          ·simp only [Act.put, List.setIfInBounds_toArray, List.set_cons_zero, List.set_cons_succ, i64_w, i32_w]
           rfl
          refine pure_ (i := 1) (N := some 29) (v := ?_) (a' := ?_) #[true, true, false, false, false, false, false, false, false, false, false, false, false] rfl rfl (any_of HT_.out (by kernel_rfl)) (fun _ _ _ h => h) (Or.inl ⟨by rfl, ?_⟩) ?_ ?_
          rotate_left
          ·intro w'
           go_simp
           with_reducible rfl
          rotate_left
          ·simp only [Act.put, List.setIfInBounds_toArray, List.set_cons_zero, List.set_cons_succ, i64_w, i32_w]
           rfl
          refine pure_ (i := 2) (N := some 30) (v := ?_) (a' := ?_) #[true, true, true, false, false, false, false, false, false, false, false, false, false] rfl rfl (any_of HT_.out (by kernel_rfl)) (fun _ _ _ h => h) (Or.inl ⟨by rfl, ?_⟩) ?_ ?_
          rotate_left
          ·intro w'
           go_simp
           with_reducible rfl
          rotate_left
          ·simp only [Act.put, List.setIfInBounds_toArray, List.set_cons_zero, List.set_cons_succ, i64_w, i32_w]
           rfl
          refine pure_ (i := 3) (N := some 31) (v := ?_) (a' := ?_) #[true, true, true, true, false, false, false, false, false, false, false, false, false] rfl rfl (any_of HT_.out (by kernel_rfl)) (fun _ _ _ h => h) (Or.inl ⟨by rfl, ?_⟩) ?_ ?_
          rotate_left
          ·intro w'
           go_simp
           with_reducible rfl
          rotate_left
          ·simp only [Act.put, List.setIfInBounds_toArray, List.set_cons_zero, List.set_cons_succ, i64_w, i32_w]
           rfl
          refine pure_ (i := 4) (N := some 32) (v := ?_) (a' := ?_) #[true, true, true, true, true, false, false, false, false, false, false, false, false] rfl rfl (any_of HT_.out (by kernel_rfl)) (fun _ _ _ h => h) (Or.inl ⟨by rfl, ?_⟩) ?_ ?_
          rotate_left
          ·intro w'
           go_simp
           with_reducible rfl
          rotate_left
          ·simp only [Act.put, List.setIfInBounds_toArray, List.set_cons_zero, List.set_cons_succ, i64_w, i32_w]
           rfl
          refine pure_ (i := 6) (N := some 34) (v := ?_) (a' := ?_) #[true, true, true, true, true, false, true, false, false, false, false, false, false] rfl rfl (any_of HT_.out (by kernel_rfl)) (fun _ _ _ h => h) (Or.inl ⟨by rfl, ?_⟩) ?_ ?_
          rotate_left
          ·intro w'
           go_simp
           with_reducible rfl
          rotate_left
          ·simp only [Act.put, List.setIfInBounds_toArray, List.set_cons_zero, List.set_cons_succ, i64_w, i32_w]
           rfl
          refine pure_ (i := 7) (N := some 35) (v := ?_) (a' := ?_) #[true, true, true, true, true, false, true, true, false, false, false, false, false] rfl rfl (any_of HT_.out (by kernel_rfl)) (fun _ _ _ h => h) (Or.inl ⟨by rfl, ?_⟩) ?_ ?_
          rotate_left
          ·intro w'
           go_simp
           with_reducible rfl
          rotate_left
          ·simp only [Act.put, List.setIfInBounds_toArray, List.set_cons_zero, List.set_cons_succ, i64_w, i32_w]
           rfl
          refine pure_ (i := 8) (N := some 36) (v := ?_) (a' := ?_) #[true, true, true, true, true, false, true, true, true, false, false, false, false] rfl rfl (any_of HT_.out (by kernel_rfl)) (fun _ _ _ h => h) (Or.inl ⟨by rfl, ?_⟩) ?_ ?_
          rotate_left
          ·intro w'
           go_simp
           with_reducible rfl
          rotate_left
          ·simp only [Act.put, List.setIfInBounds_toArray, List.set_cons_zero, List.set_cons_succ, i64_w, i32_w]
           rfl
          refine pure_ (i := 9) (N := some 37) (v := ?_) (a' := ?_) #[true, true, true, true, true, false, true, true, true, true, false, false, false] rfl rfl (any_of HT_.out (by kernel_rfl)) (fun _ _ _ h => h) (Or.inl ⟨by rfl, ?_⟩) ?_ ?_
          rotate_left
          ·intro w'
           go_simp
           with_reducible rfl
          rotate_left
          ·simp only [Act.put, List.setIfInBounds_toArray, List.set_cons_zero, List.set_cons_succ, i64_w, i32_w]
           rfl
          refine take_ (i := 5) (N := some 33) (v := ?_) (a' := ?_) #[true, true, true, true, true, true, true, true, true, true, false, false, false] rfl rfl (take_ofW HT_.out HW_.out (by kernel_rfl)) (fun _ _ _ h => h) (Or.inl ⟨by rfl, ?_⟩) hHeld ?_ ?_
          rotate_left
          ·rintro w' ⟨s0, s1, s2, s3, s4, s5⟩
           go_simp
           with_reducible rfl
          rotate_left
          ·simp only [Act.put, List.setIfInBounds_toArray, List.set_cons_zero, List.set_cons_succ, i64_w, i32_w]
           rfl
          refine take_ (i := 10) (N := some 38) (v := ?_) (a' := ?_) #[true, true, true, true, true, true, true, true, true, true, true, false, false] rfl rfl (take_ofW HT_.out HW_.out (by kernel_rfl)) (fun _ _ _ h => h) (Or.inl ⟨by rfl, ?_⟩) hHeld ?_ ?_
          rotate_left
          ·rintro w' ⟨s0, s1, s2, s3, s4, s5⟩
           go_simp
           with_reducible rfl
          rotate_left
          ·simp only [Act.put, List.setIfInBounds_toArray, List.set_cons_zero, List.set_cons_succ, i64_w, i32_w]
           rfl
          refine one_ (i := 11) (N := some 39) #[true, true, true, true, true, true, true, true, true, true, true, true, false] rfl rfl (one_of HT_.out (by kernel_rfl)) (by decide) (fun K hK => ?_)
          refine goes_ Try.func78 (by kernel_rfl) rfl #[.slice (some ad243) l0.length c0, .int .i64 ((rd_T46 t244 x7_1).f1), .int .i64 ((rd_T46 t244 x7_1).f2)] (by rfl) rfl rfl (by (try simp only [List.map_toArray, List.map_cons, List.map_nil]); first | done | rfl | (simp only [List.length_drop, List.length_take]; rfl)) ?_
          with_reducible refine (ref06_Writer.calls k1 _ _ l0 ((rd_T46 t244 x7_1).f1) ((rd_T46 t244 x7_1).f2) t254 _ ?side1 ?side2 A17.out).mono ?_
          (case side1 => repeat (first | exact (Kd.C_below HR0.out HB.out) | (with_reducible refine Kd.C_alloc ?_ _) | (with_reducible refine Kd.C_drewN ?_ _) | (with_reducible refine Kd.C_drew ?_)))
          (case side2 => exact HC0.out)
          rintro e w25 ⟨rfl, hb⟩
          have HS0_ := (hb.cell (World.block_lt_of_cell? _ _ (hHeld.1))).trans (hHeld.1)
          have HS1_ := (hb.cell (World.block_lt_of_cell? _ _ (hHeld.2.1))).trans (hHeld.2.1)
          have HS2_ := (hb.cell (World.block_lt_of_cell? _ _ (hHeld.2.2.1))).trans (hHeld.2.2.1)
          have HS3_ := (hb.cell (World.block_lt_of_cell? _ _ (hHeld.2.2.2.1))).trans (hHeld.2.2.2.1)
          have HS4_ := (hb.cell (World.block_lt_of_cell? _ _ (hHeld.2.2.2.2.1))).trans (hHeld.2.2.2.2.1)
          have HS5_ := (hb.cell (World.block_lt_of_cell? _ _ (hHeld.2.2.2.2.2))).trans (hHeld.2.2.2.2.2)
          refine ⟨_, rfl, ?_⟩
          have n0_ := Aside0.mk (Kd.R_below (by (with_reducible repeat (first | apply Kd.R_alloc | apply Kd.R_drewN | apply Kd.R_drew)); exact HO_5.out) hb)
          have n1_ := Aside0.mk (Kd.R_below (by (with_reducible repeat (first | apply Kd.R_alloc | apply Kd.R_drewN | apply Kd.R_drew)); exact HO_6.out) hb)
          have n2_ := Aside0.mk (below_step (by repeat (first | (with_reducible first | exact HB.out | apply below_alloc | apply pw_below_drewN | apply below_drew1))) hb)
          clear HO_5
          clear HO_6
          clear HB
          have HO_5 := n0_
          have HO_6 := n1_
          have HB := n2_
          clear n0_ n1_ n2_
          (try clear hb)
          (try clear hb2)
          (try clear hk)
          (try clear hi)
          refine hK.out _ _ ⟨HS0_, HS1_, HS2_, HS3_, HS4_, HS5_⟩ (fun hHeld => ?_)
          clear hK K
          refine norm_ (a' := ?_) ?_ ?_
          rotate_left
          ·show Act.put _ (some 39) _ = _
           simp only [Act.put, List.setIfInBounds_toArray, List.set_cons_zero, List.set_cons_succ, i64_w, i32_w]
           rfl
          refine pure_ (i := 12) (N := some 8) (v := ?_) (a' := ?_) #[true, true, true, true, true, true, true, true, true, true, true, true, true] rfl rfl (any_of HT_.out (by kernel_rfl)) (fun _ _ _ h => h) (Or.inl ⟨by rfl, ?_⟩) ?_ ?_
          rotate_left
          ·intro w'
           go_simp
           with_reducible rfl
          rotate_left
          ·simp only [Act.put, List.setIfInBounds_toArray, List.set_cons_zero, List.set_cons_succ, i64_w, i32_w]
           rfl
          refine done_ (done_of HT_.out (by kernel_rfl)) ?_
          have p255 : 0 ≤ (x7_1 : Int) := of_decide_eq_true (by assumption)
          have q255 : x7_1 < (t244.length : Int) := of_decide_eq_true (by assumption)
          obtain ⟨ad255, e255, hx255_0, hx255_1, hx255_2⟩ := at_T46 (Kd.R_reads' HO_6.out).2.2 x7_1 p255 q255
          obtain rfl : ad247 = ad255 := (by injection e255)
          replace p255 := eq_true p255
          replace q255 := eq_true q255
          try go_wp2_with (first | ((with_reducible refine gate_builtin (b := .append) (xs := #[.tmp 43, .tmp 51]) rfl ?_); at_builtin; refine Kd.R_append k86 (w0 := w) w.heap.size rfl (.tmp 43) (.tmp 51) 81 86 (.agg #[(.int .i64 0), (.int .i64 0)]) 16 rfl Try.underlying81 info86 rfl (by decide) (by omega) u5 x5_1 (⟨(rd_T46 t244 x7_1).f1, t254⟩ : S86) [.int .i64 ((rd_T46 t244 x7_1).f1), .int .i64 t254] (fun _ => True) (fun _ => False) rfl rfl ?aP (fun _ hk => hk.elim) ?aF ?aO ?aB ?aS ?aL ?_; (case aP => exact k86_mkM _ _ _ (⟨(rd_T46 t244 x7_1).f1, t254⟩ : S86)); (case aB => exact (by repeat (first | (with_reducible first | exact HB.out | apply below_alloc | apply pw_below_drewN | apply below_drew1)))); (case aF => exact (fun _ _ => trivial)); (case aO => exact (by (with_reducible repeat (first | apply Kd.R_alloc | apply Kd.R_drewN | apply Kd.R_drew)); exact HO_5.out)); (case aS => exact (below_size (by repeat (first | (with_reducible first | exact HB.out | apply below_alloc | apply pw_below_drewN | apply below_drew1))))); (case aL => have := LMc22.out; omega); intro v257 w26 ho hb hg hat; rw [← Ny256.out] at ho; have n0_ := Aside0.mk (Kd.R_over' (by (with_reducible repeat (first | apply Kd.R_alloc | apply Kd.R_drewN | apply Kd.R_drew)); exact HO_6.out) (Kd.R_typed (by (with_reducible repeat (first | apply Kd.R_alloc | apply Kd.R_drewN | apply Kd.R_drew)); exact HO_5.out)) (by decide) hg); have n1_ := Aside0.mk (hb); have n2_ := Aside0.mk (ho); clear HO_6; clear HB; clear HO_5; have HO_6 := n0_; have HB := n1_; have HO258 := n2_; clear n0_ n1_ n2_; clear ho hb hg hat))
          go_roundg k1
          case measure => have := HK1.out; omega
          case rel => exact ⟨(y256), (wrap64 (x7_1 + 1)), (by first | rfl | (simp; done) | (simp [*]; done)), H', ⟨by have := HK1.out; omega⟩, ⟨by (with_reducible repeat (first | apply Kd.R_alloc | apply Kd.R_drewN | apply Kd.R_drew)); exact HO258.out⟩, ⟨by (with_reducible repeat (first | apply Kd.R_alloc | apply Kd.R_drewN | apply Kd.R_drew)); exact HO_6.out⟩, ⟨by repeat (first | (with_reducible first | exact HB.out | apply below_alloc | apply pw_below_drewN | apply below_drew1))⟩⟩
         ·rw [if_neg c22] at H
          exact absurd H (by simp)
      ·rw [if_neg c10] at H
       exact absurd H (by simp)
     ·rw [if_neg c9] at H
      have c9b0 : decide (x7_1 < (t244.length : Int)) = false := decide_eq_false c9
      clear c9
      obtain rfl := Option.some.inj H
      obtain ⟨Ao27, co27, eo27⟩ := Kd.R_slice HO_6.out
      subst eo27
      go_wp2
      go_ret
      exact ⟨_, by first | rfl | (simp <;> rfl) | (simp [*] <;> rfl), by (with_reducible repeat (first | apply Kd.R_alloc | apply Kd.R_drewN | apply Kd.R_drew)); exact HO_5.out, by repeat (first | (with_reducible first | exact HB.out | apply below_alloc | apply pw_below_drewN | apply below_drew1))⟩
  ·rw [if_neg c4] at H
   exact absurd H (by simp)
 ·rw [if_neg c3] at H
  exact absurd H (by simp)
def ref08_From.l0 : Nat → Int → List (S86) → Int → Option (Bool)
 | 0, _, _, _ => none
 | k + 1, x1, x7, x8 => if x8 < (x7.length : Int) then (if 0 ≤ x8 then (if ((rd_T86 x7 x8).f1) = x1 then (some true) else (ref08_From.l0 k x1 x7 (wrap64 (x8 + 1)))) else (none)) else (some false)
def ref08_From.f (k : Nat) (l0 : List (S44)) (a1 : Int) (a2 : Int) : Option (Bool) := (ref08_Reads.f k l0 a2).bind fun t259 => (ref08_From.l0 k a1 t259 0)
theorem ref08_From.mono_l : ∀ k, (∀ y0 y1 y2, LeO (ref08_From.l0 k y0 y1 y2) (ref08_From.l0 (k + 1) y0 y1 y2))
 | 0 => fun _ _ _ r h => by simp [ref08_From.l0] at h
 | k + 1 => by
  have ih0 := ref08_From.mono_l k
  ·intro y0 y1 y2
   unfold ref08_From.l0
   repeat' first
   | (with_reducible exact ih0 _ _ _)
   | (with_reducible exact ref08_Reads.mono _ _ _)
   | (with_reducible exact LeO.refl _)
   | (with_reducible exact LeO.none _)
   | (with_reducible refine LeO.ite ?_ ?_)
   | (with_reducible refine LeO.bind ?_ (fun _ => ?_))
   | exact ih0 _ _ _
   | exact ref08_Reads.mono _ _ _
   | exact LeO.none _
   | refine LeO.ite ?_ ?_
   | refine LeO.bind ?_ (fun _ => ?_)
theorem ref08_From.mono : ∀ a0 a1 a2 k, LeO (ref08_From.f k a0 a1 a2) (ref08_From.f (k + 1) a0 a1 a2) := by
 intro a0 a1 a2 k
 have ih0 := ref08_From.mono_l k
 unfold ref08_From.f
 repeat' first
   | (with_reducible exact ih0 _ _ _)
   | (with_reducible exact ref08_Reads.mono _ _ _)
   | (with_reducible exact LeO.refl _)
   | (with_reducible exact LeO.none _)
   | (with_reducible refine LeO.ite ?_ ?_)
   | (with_reducible refine LeO.bind ?_ (fun _ => ?_))
   | exact ih0 _ _ _
   | exact ref08_Reads.mono _ _ _
   | exact LeO.none _
   | refine LeO.ite ?_ ?_
   | refine LeO.bind ?_ (fun _ => ?_)
set_option maxHeartbeats 8000000 in
set_option maxRecDepth 100000 in
theorem ref08_From.calls (k : Nat) (A0 : Option Addr) (c0 : Nat) (l0 : List (S44)) (a1 : Int) (a2 : Int) (r : Bool) (w : World) (hr0 : Kd.C k44 w A0 l0.length l0) (hc0 : l0.length ≤ c0) (h : ref08_From.f k l0 a1 a2 = some r) :
  Calls Try.prog 37 #[.slice A0 l0.length c0, .int .i64 a1, .int .i64 a2] w fun e w' => e = .returned (.bool r) ∧ Below w.heap.size w w' := by
 have HR0 := Aside0.mk hr0
 have HC0 := Aside0.mk hc0
 clear hr0 hc0
 have HB := Aside0.mk (Below.refl w.heap.size w)
 have H : ((ref08_Reads.f k l0 a2).bind fun t259 => (ref08_From.l0 k a1 t259 0)) = some r := h
 clear h
 replace H := Option.bind_eq_some_iff.mp H
 obtain ⟨t259, A40, H⟩ := H
 replace H : (ref08_From.l0 k a1 t259 0) = some r := H
 have A4 := Aside0.mk A40
 clear A40
 have H' := Aside0.mk H
 clear H
 go_enter Try.func37, Try.ntmps37
 go_wp2_with (first | ((with_reducible refine gate_callee (f := 43) rfl ?_); refine goesL_ (some 11) rfl rfl Try.func43 (by kernel_rfl) rfl #[.slice A0 l0.length c0, .int .i64 a2] rfl (by (try simp only [List.map_toArray, List.map_cons, List.map_nil]); first | done | rfl | (simp only [List.length_drop, List.length_take]; rfl)) ?_; (with_reducible refine (ref08_Reads.calls k _ _ l0 a2 t259 _ ?side1 ?side2 A4.out).mono ?_); (case side1 => repeat (first | exact HR0.out | (with_reducible refine Kd.C_alloc ?_ _) | (with_reducible refine Kd.C_drewN ?_ _) | (with_reducible refine Kd.C_drew ?_))); (case side2 => exact HC0.out); rintro e w5 ⟨v260, rfl, ho0, hb⟩; refine ⟨_, rfl, ?_⟩; have n0_ := Aside0.mk (Kd.R_lower ho0 (below_size (by repeat (first | (with_reducible first | exact HB.out | apply below_alloc | apply pw_below_drewN | apply below_drew1))))); have n1_ := Aside0.mk (below_step (by repeat (first | (with_reducible first | exact HB.out | apply below_alloc | apply pw_below_drewN | apply below_drew1))) hb); clear HB; have HO261 := n0_; have HB := n1_; clear n0_ n1_; (try clear hb); (try clear hb2); (try clear hk); (try clear hi); (try clear ho0)))
 go_loopg [8] k (fun kq v8 w' => ∃ (x8_1 : Int), v8 = .int .i64 x8_1 ∧ Aside0 (ref08_From.l0 kq a1 t259 x8_1 = some r) ∧ Aside0 (kq ≤ k) ∧ Aside0 (Kd.R k86 86 w' w.heap.size (fun _ => True) v260 t259) ∧ Aside0 (Below w.heap.size w w'))
 case atStart => exact ⟨(0), (by first | rfl | (simp; done) | (simp [*]; done)), H', ⟨Nat.le_refl _⟩, ⟨by (with_reducible repeat (first | apply Kd.R_alloc | apply Kd.R_drewN | apply Kd.R_drew)); exact HO261.out⟩, ⟨by repeat (first | (with_reducible first | exact HB.out | apply below_alloc | apply pw_below_drewN | apply below_drew1))⟩⟩
 case round =>
  clear H'
  try clear p2
  try clear c3
  try clear c4
  obtain ⟨x8_1, rfl, HA, HK1, HO_7, HB⟩ := hrel
  cases gk with
  | zero => exact absurd HA.out (by simp [ref08_From.l0])
  | succ k1 =>
   have H := HA.out
   clear HA
   simp only [ref08_From.l0] at H
   by_cases c6 : x8_1 < (t259.length : Int)
   ·rw [if_pos c6] at H
    have c6b0 : decide (x8_1 < (t259.length : Int)) = true := decide_eq_true c6
    clear c6
    by_cases c7 : 0 ≤ x8_1
    ·rw [if_pos c7] at H
     have c7b0 : decide (0 ≤ x8_1) = true := decide_eq_true c7
     clear c7
     by_cases c8 : ((rd_T86 t259 x8_1).f1) = a1
     ·rw [if_pos c8] at H
      have c8b0 : (((rd_T86 t259 x8_1).f1) == a1) = true := beq_iff_eq.mpr c8
      have c8b1 : (((rd_T86 t259 x8_1).f1) != a1) = false := bne_eq_false_iff_eq.mpr c8
      clear c8
      obtain rfl := Option.some.inj H
      obtain ⟨Ao9, co9, eo9⟩ := Kd.R_slice HO_7.out
      subst eo9
      have p262 : 0 ≤ (x8_1 : Int) := of_decide_eq_true (by assumption)
      have q262 : x8_1 < (t259.length : Int) := of_decide_eq_true (by assumption)
      obtain ⟨ad262, e262, hx262_0, hx262_1⟩ := at_T86 (Kd.R_reads' HO_7.out).2.2 x8_1 p262 q262
      cases e262
      replace p262 := eq_true p262
      replace q262 := eq_true q262
      go_wp2
      go_ret
      exact ⟨by first | rfl | (simp <;> rfl) | (simp [*] <;> rfl), by repeat (first | (with_reducible first | exact HB.out | apply below_alloc | apply pw_below_drewN | apply below_drew1))⟩
     ·rw [if_neg c8] at H
      have c8b0 : (((rd_T86 t259 x8_1).f1) == a1) = false := beq_eq_false_iff_ne.mpr c8
      have c8b1 : (((rd_T86 t259 x8_1).f1) != a1) = true := bne_iff_ne.mpr c8
      have H' := Aside0.mk H
      clear H
      obtain ⟨Ao10, co10, eo10⟩ := Kd.R_slice HO_7.out
      subst eo10
      have p262 : 0 ≤ (x8_1 : Int) := of_decide_eq_true (by assumption)
      have q262 : x8_1 < (t259.length : Int) := of_decide_eq_true (by assumption)
      obtain ⟨ad262, e262, hx262_0, hx262_1⟩ := at_T86 (Kd.R_reads' HO_7.out).2.2 x8_1 p262 q262
      cases e262
      replace p262 := eq_true p262
      replace q262 := eq_true q262
      go_wp2
      go_roundg k1
      case measure => have := HK1.out; omega
      case rel => exact ⟨(wrap64 (x8_1 + 1)), (by first | rfl | (simp; done) | (simp [*]; done)), H', ⟨by have := HK1.out; omega⟩, ⟨by (with_reducible repeat (first | apply Kd.R_alloc | apply Kd.R_drewN | apply Kd.R_drew)); exact HO_7.out⟩, ⟨by repeat (first | (with_reducible first | exact HB.out | apply below_alloc | apply pw_below_drewN | apply below_drew1))⟩⟩
    ·rw [if_neg c7] at H
     exact absurd H (by simp)
   ·rw [if_neg c6] at H
    have c6b0 : decide (x8_1 < (t259.length : Int)) = false := decide_eq_false c6
    clear c6
    obtain rfl := Option.some.inj H
    obtain ⟨Ao11, co11, eo11⟩ := Kd.R_slice HO_7.out
    subst eo11
    go_wp2
    go_ret
    exact ⟨by first | rfl | (simp <;> rfl) | (simp [*] <;> rfl), by repeat (first | (with_reducible first | exact HB.out | apply below_alloc | apply pw_below_drewN | apply below_drew1))⟩
end Go.Proofs.Ytfocaefnmfkojaa.Q
namespace Go.Proofs.Ytfocaefnmfkojaa.Q
open Go.RowKit Go.Proofs.YtfocaefnmfkojaaW.PrintWords Go.Proofs.YtfocaefnmfkojaaW.PrintLast Go.Proofs.YtfocaefnmfkojaaW.PrintMore
attribute [local go_sem] max2_int min2_int max_two min_two max_three min_three max_four min_four   -- for this text's walks alone
set_option linter.unusedVariables false
set_option linter.unusedSimpArgs false
def ref08_Session.f (l0 : List (S44)) (a1 : Int) (a2 : Int) : Option (Bool) := if a1 < a2 then (if 0 ≤ a1 then (if a1 < (l0.length : Int) then (if 0 ≤ a2 then (if a2 < (l0.length : Int) then (some (((rd_T44 l0 a1).f0) == ((rd_T44 l0 a2).f0))) else (none)) else (none)) else (none)) else (none)) else (some false)
set_option maxHeartbeats 8000000 in
set_option maxRecDepth 100000 in
theorem ref08_Session.calls (A0 : Option Addr) (c0 : Nat) (l0 : List (S44)) (a1 : Int) (a2 : Int) (r : Bool) (w : World) (hr0 : Kd.C k44 w A0 l0.length l0) (hc0 : l0.length ≤ c0) (h : ref08_Session.f l0 a1 a2 = some r) :
  Calls Try.prog 49 #[.slice A0 l0.length c0, .int .i64 a1, .int .i64 a2] w fun e w' => e = .returned (.bool r) ∧ Drawn0 w w' := by
 have HR0 := Aside0.mk hr0
 have HC0 := Aside0.mk hc0
 clear hr0 hc0
 have H : (if a1 < a2 then (if 0 ≤ a1 then (if a1 < (l0.length : Int) then (if 0 ≤ a2 then (if a2 < (l0.length : Int) then (some (((rd_T44 l0 a1).f0) == ((rd_T44 l0 a2).f0))) else (none)) else (none)) else (none)) else (none)) else (some false)) = some r := h
 clear h
 by_cases c4 : a1 < a2
 ·rw [if_pos c4] at H
  have c4b0 : decide (a1 < a2) = true := decide_eq_true c4
  clear c4
  by_cases c5 : 0 ≤ a1
  ·rw [if_pos c5] at H
   have c5b0 : decide (0 ≤ a1) = true := decide_eq_true c5
   clear c5
   by_cases c6 : a1 < (l0.length : Int)
   ·rw [if_pos c6] at H
    have c6b0 : decide (a1 < (l0.length : Int)) = true := decide_eq_true c6
    clear c6
    by_cases c7 : 0 ≤ a2
    ·rw [if_pos c7] at H
     have c7b0 : decide (0 ≤ a2) = true := decide_eq_true c7
     clear c7
     by_cases c8 : a2 < (l0.length : Int)
     ·rw [if_pos c8] at H
      have c8b0 : decide (a2 < (l0.length : Int)) = true := decide_eq_true c8
      clear c8
      obtain rfl := Option.some.inj H
      have p263 : 0 ≤ (a1 : Int) := of_decide_eq_true (by assumption)
      have q263 : a1 < (l0.length : Int) := of_decide_eq_true (by assumption)
      obtain ⟨ad263, A263_3, c263_3, e263, hx263_0, hx263_1, hx263_2, hx263_3, hl263_3, hi263_3⟩ := at_T44 HR0.out a1 p263 q263
      cases e263
      have HR263_3 := Aside0.mk hi263_3
      have HC263_3 := Aside0.mk hl263_3
      clear hi263_3 hl263_3
      replace p263 := eq_true p263
      replace q263 := eq_true q263
      have p264 : 0 ≤ (a2 : Int) := of_decide_eq_true (by assumption)
      have q264 : a2 < (l0.length : Int) := of_decide_eq_true (by assumption)
      obtain ⟨ad264, A264_3, c264_3, e264, hx264_0, hx264_1, hx264_2, hx264_3, hl264_3, hi264_3⟩ := at_T44 HR0.out a2 p264 q264
      obtain rfl : ad263 = ad264 := (by injection e264)
      have HR264_3 := Aside0.mk hi264_3
      have HC264_3 := Aside0.mk hl264_3
      clear hi264_3 hl264_3
      replace p264 := eq_true p264
      replace q264 := eq_true q264
      go_enter Try.func49, Try.ntmps49
      go_wp2
      repeat (go_quiet (fail); try go_wp2)
      go_ret
      exact ⟨by first | rfl | (simp; done) | (simp [*]; done), by repeat (first | exact Drawn0.refl _ | apply Drawn0.step)⟩
     ·rw [if_neg c8] at H
      exact absurd H (by simp)
    ·rw [if_neg c7] at H
     exact absurd H (by simp)
   ·rw [if_neg c6] at H
    exact absurd H (by simp)
  ·rw [if_neg c5] at H
   exact absurd H (by simp)
 ·rw [if_neg c4] at H
  have c4b0 : decide (a1 < a2) = false := decide_eq_false c4
  clear c4
  obtain rfl := Option.some.inj H
  go_enter Try.func49, Try.ntmps49
  go_wp2
  repeat (go_quiet (fail); try go_wp2)
  go_ret
  exact ⟨by first | rfl | (simp; done) | (simp [*]; done), by repeat (first | exact Drawn0.refl _ | apply Drawn0.step)⟩
def ref08_Time.f (l0 : List (S44)) (a1 : Int) (a2 : Int) : Option (Bool) := if 0 ≤ a1 then (if a1 < (l0.length : Int) then (if 0 ≤ a2 then (if a2 < (l0.length : Int) then (some (decide (((rd_T44 l0 a1).f2) < ((rd_T44 l0 a2).f1)))) else (none)) else (none)) else (none)) else (none)
set_option maxHeartbeats 8000000 in
set_option maxRecDepth 100000 in
theorem ref08_Time.calls (A0 : Option Addr) (c0 : Nat) (l0 : List (S44)) (a1 : Int) (a2 : Int) (r : Bool) (w : World) (hr0 : Kd.C k44 w A0 l0.length l0) (hc0 : l0.length ≤ c0) (h : ref08_Time.f l0 a1 a2 = some r) :
  Calls Try.prog 50 #[.slice A0 l0.length c0, .int .i64 a1, .int .i64 a2] w fun e w' => e = .returned (.bool r) ∧ Drawn0 w w' := by
 have HR0 := Aside0.mk hr0
 have HC0 := Aside0.mk hc0
 clear hr0 hc0
 have H : (if 0 ≤ a1 then (if a1 < (l0.length : Int) then (if 0 ≤ a2 then (if a2 < (l0.length : Int) then (some (decide (((rd_T44 l0 a1).f2) < ((rd_T44 l0 a2).f1)))) else (none)) else (none)) else (none)) else (none)) = some r := h
 clear h
 by_cases c4 : 0 ≤ a1
 ·rw [if_pos c4] at H
  have c4b0 : decide (0 ≤ a1) = true := decide_eq_true c4
  clear c4
  by_cases c5 : a1 < (l0.length : Int)
  ·rw [if_pos c5] at H
   have c5b0 : decide (a1 < (l0.length : Int)) = true := decide_eq_true c5
   clear c5
   by_cases c6 : 0 ≤ a2
   ·rw [if_pos c6] at H
    have c6b0 : decide (0 ≤ a2) = true := decide_eq_true c6
    clear c6
    by_cases c7 : a2 < (l0.length : Int)
    ·rw [if_pos c7] at H
     have c7b0 : decide (a2 < (l0.length : Int)) = true := decide_eq_true c7
     clear c7
     obtain rfl := Option.some.inj H
     have p265 : 0 ≤ (a1 : Int) := of_decide_eq_true (by assumption)
     have q265 : a1 < (l0.length : Int) := of_decide_eq_true (by assumption)
     obtain ⟨ad265, A265_3, c265_3, e265, hx265_0, hx265_1, hx265_2, hx265_3, hl265_3, hi265_3⟩ := at_T44 HR0.out a1 p265 q265
     cases e265
     have HR265_3 := Aside0.mk hi265_3
     have HC265_3 := Aside0.mk hl265_3
     clear hi265_3 hl265_3
     replace p265 := eq_true p265
     replace q265 := eq_true q265
     have p266 : 0 ≤ (a2 : Int) := of_decide_eq_true (by assumption)
     have q266 : a2 < (l0.length : Int) := of_decide_eq_true (by assumption)
     obtain ⟨ad266, A266_3, c266_3, e266, hx266_0, hx266_1, hx266_2, hx266_3, hl266_3, hi266_3⟩ := at_T44 HR0.out a2 p266 q266
     obtain rfl : ad265 = ad266 := (by injection e266)
     have HR266_3 := Aside0.mk hi266_3
     have HC266_3 := Aside0.mk hl266_3
     clear hi266_3 hl266_3
     replace p266 := eq_true p266
     replace q266 := eq_true q266
     go_enter Try.func50, Try.ntmps50
     go_wp2
     repeat (go_quiet (fail); try go_wp2)
     go_ret
     exact ⟨by first | rfl | (simp; done) | (simp [*]; done), by repeat (first | exact Drawn0.refl _ | apply Drawn0.step)⟩
    ·rw [if_neg c7] at H
     exact absurd H (by simp)
   ·rw [if_neg c6] at H
    exact absurd H (by simp)
  ·rw [if_neg c5] at H
   exact absurd H (by simp)
 ·rw [if_neg c4] at H
  exact absurd H (by simp)
def ref08_Writes.f (k : Nat) (l0 : List (S44)) (a1 : Int) (a2 : Int) : Option (Bool) := if 0 ≤ a1 then (if a1 < (l0.length : Int) then ((ref05_Value.f k ((rd_T44 l0 a1).f3) a2).bind fun t268 => (some (t268 != 0))) else (none)) else (none)
theorem ref08_Writes.mono : ∀ a0 a1 a2 k, LeO (ref08_Writes.f k a0 a1 a2) (ref08_Writes.f (k + 1) a0 a1 a2) := by
 intro a0 a1 a2 k
 unfold ref08_Writes.f
 repeat' first
   | (with_reducible exact ref05_Value.mono _ _ _)
   | (with_reducible exact LeO.refl _)
   | (with_reducible exact LeO.none _)
   | (with_reducible refine LeO.ite ?_ ?_)
   | (with_reducible refine LeO.bind ?_ (fun _ => ?_))
   | exact ref05_Value.mono _ _ _
   | exact LeO.none _
   | refine LeO.ite ?_ ?_
   | refine LeO.bind ?_ (fun _ => ?_)
set_option maxHeartbeats 8000000 in
set_option maxRecDepth 100000 in
theorem ref08_Writes.calls (k : Nat) (A0 : Option Addr) (c0 : Nat) (l0 : List (S44)) (a1 : Int) (a2 : Int) (r : Bool) (w : World) (hr0 : Kd.C k44 w A0 l0.length l0) (hc0 : l0.length ≤ c0) (h : ref08_Writes.f k l0 a1 a2 = some r) :
  Calls Try.prog 82 #[.slice A0 l0.length c0, .int .i64 a1, .int .i64 a2] w fun e w' => e = .returned (.bool r) ∧ Below w.heap.size w w' := by
 have HR0 := Aside0.mk hr0
 have HC0 := Aside0.mk hc0
 clear hr0 hc0
 have HB := Aside0.mk (Below.refl w.heap.size w)
 have H : (if 0 ≤ a1 then (if a1 < (l0.length : Int) then ((ref05_Value.f k ((rd_T44 l0 a1).f3) a2).bind fun t268 => (some (t268 != 0))) else (none)) else (none)) = some r := h
 clear h
 by_cases c4 : 0 ≤ a1
 ·rw [if_pos c4] at H
  have c4b0 : decide (0 ≤ a1) = true := decide_eq_true c4
  clear c4
  by_cases c5 : a1 < (l0.length : Int)
  ·rw [if_pos c5] at H
   have c5b0 : decide (a1 < (l0.length : Int)) = true := decide_eq_true c5
   clear c5
   replace H := Option.bind_eq_some_iff.mp H
   obtain ⟨t268, A60, H⟩ := H
   replace H : (some (t268 != 0)) = some r := H
   have A6 := Aside0.mk A60
   clear A60
   obtain rfl := Option.some.inj H
   have p267 : 0 ≤ (a1 : Int) := of_decide_eq_true (by assumption)
   have q267 : a1 < (l0.length : Int) := of_decide_eq_true (by assumption)
   obtain ⟨ad267, A267_3, c267_3, e267, hx267_0, hx267_1, hx267_2, hx267_3, hl267_3, hi267_3⟩ := at_T44 HR0.out a1 p267 q267
   cases e267
   have HR267_3 := Aside0.mk hi267_3
   have HC267_3 := Aside0.mk hl267_3
   clear hi267_3 hl267_3
   replace p267 := eq_true p267
   replace q267 := eq_true q267
   go_enter Try.func82, Try.ntmps82
   go_wp2_with (first | ((with_reducible refine gate_callee (f := 64) rfl ?_); refine goesL_ (some 13) rfl rfl Try.func64 (by kernel_rfl) rfl #[.slice A267_3 ((rd_T44 l0 a1).f3).length c267_3, .int .i64 a2] rfl (by (try simp only [List.map_toArray, List.map_cons, List.map_nil]); first | done | rfl | (simp only [List.length_drop, List.length_take]; rfl)) ?_; (with_reducible refine (ref05_Value.calls k _ _ ((rd_T44 l0 a1).f3) a2 t268 _ ?side1 ?side2 A6.out).mono ?_); (case side1 => repeat (first | exact HR267_3.out | (with_reducible refine Kd.C_alloc ?_ _) | (with_reducible refine Kd.C_drewN ?_ _) | (with_reducible refine Kd.C_drew ?_))); (case side2 => exact HC267_3.out); rintro e w7 ⟨rfl, hb⟩; refine ⟨_, rfl, ?_⟩; have n0_ := Aside0.mk (below_step (by repeat (first | (with_reducible first | exact HB.out | apply below_alloc | apply pw_below_drewN | apply below_drew1))) hb); clear HB; have HB := n0_; clear n0_; (try clear hb); (try clear hb2); (try clear hk); (try clear hi)))
   go_ret
   exact ⟨by first | rfl | (simp <;> rfl) | (simp [*] <;> rfl), by repeat (first | (with_reducible first | exact HB.out | apply below_alloc | apply pw_below_drewN | apply below_drew1))⟩
  ·rw [if_neg c5] at H
   exact absurd H (by simp)
 ·rw [if_neg c4] at H
  exact absurd H (by simp)
def ref08_Rivals.l0 : Nat → List (S44) → Int → Int → Int → Option (Bool)
 | 0, _, _, _, _ => none
 | k + 1, x0, x1, x2, x7 => if x7 < 64 then ((ref08_Writes.f k x0 x1 x7).bind fun t269 => (if t269 = true then ((ref08_Writes.f k x0 x2 x7).bind fun t270 => (if t270 = true then (some true) else (ref08_Rivals.l0 k x0 x1 x2 (wrap64 (x7 + 1))))) else (ref08_Rivals.l0 k x0 x1 x2 (wrap64 (x7 + 1))))) else (some false)
def ref08_Rivals.f (k : Nat) (l0 : List (S44)) (a1 : Int) (a2 : Int) : Option (Bool) := if a1 = a2 then (some false) else (ref08_Rivals.l0 k l0 a1 a2 0)
theorem ref08_Rivals.mono_l : ∀ k, (∀ y0 y1 y2 y3, LeO (ref08_Rivals.l0 k y0 y1 y2 y3) (ref08_Rivals.l0 (k + 1) y0 y1 y2 y3))
 | 0 => fun _ _ _ _ r h => by simp [ref08_Rivals.l0] at h
 | k + 1 => by
  have ih0 := ref08_Rivals.mono_l k
  ·intro y0 y1 y2 y3
   unfold ref08_Rivals.l0
   repeat' first
   | (with_reducible exact ih0 _ _ _ _)
   | (with_reducible exact ref08_Writes.mono _ _ _ _)
   | (with_reducible exact LeO.refl _)
   | (with_reducible exact LeO.none _)
   | (with_reducible refine LeO.ite ?_ ?_)
   | (with_reducible refine LeO.bind ?_ (fun _ => ?_))
   | exact ih0 _ _ _ _
   | exact ref08_Writes.mono _ _ _ _
   | exact LeO.none _
   | refine LeO.ite ?_ ?_
   | refine LeO.bind ?_ (fun _ => ?_)
theorem ref08_Rivals.mono : ∀ a0 a1 a2 k, LeO (ref08_Rivals.f k a0 a1 a2) (ref08_Rivals.f (k + 1) a0 a1 a2) := by
 intro a0 a1 a2 k
 have ih0 := ref08_Rivals.mono_l k
 unfold ref08_Rivals.f
 repeat' first
   | (with_reducible exact ih0 _ _ _ _)
   | (with_reducible exact ref08_Writes.mono _ _ _ _)
   | (with_reducible exact LeO.refl _)
   | (with_reducible exact LeO.none _)
   | (with_reducible refine LeO.ite ?_ ?_)
   | (with_reducible refine LeO.bind ?_ (fun _ => ?_))
   | exact ih0 _ _ _ _
   | exact ref08_Writes.mono _ _ _ _
   | exact LeO.none _
   | refine LeO.ite ?_ ?_
   | refine LeO.bind ?_ (fun _ => ?_)
set_option maxHeartbeats 8000000 in
set_option maxRecDepth 100000 in
theorem ref08_Rivals.calls (k : Nat) (A0 : Option Addr) (c0 : Nat) (l0 : List (S44)) (a1 : Int) (a2 : Int) (r : Bool) (w : World) (hr0 : Kd.C k44 w A0 l0.length l0) (hc0 : l0.length ≤ c0) (h : ref08_Rivals.f k l0 a1 a2 = some r) :
  Calls Try.prog 51 #[.slice A0 l0.length c0, .int .i64 a1, .int .i64 a2] w fun e w' => e = .returned (.bool r) ∧ Below w.heap.size w w' := by
 have HR0 := Aside0.mk hr0
 have HC0 := Aside0.mk hc0
 clear hr0 hc0
 have HB := Aside0.mk (Below.refl w.heap.size w)
 have H : (if a1 = a2 then (some false) else (ref08_Rivals.l0 k l0 a1 a2 0)) = some r := h
 clear h
 by_cases c4 : a1 = a2
 ·rw [if_pos c4] at H
  have c4b0 : (a1 == a2) = true := beq_iff_eq.mpr c4
  have c4b1 : (a1 != a2) = false := bne_eq_false_iff_eq.mpr c4
  clear c4
  obtain rfl := Option.some.inj H
  go_enter Try.func51, Try.ntmps51
  go_wp2
  go_ret
  exact ⟨by first | rfl | (simp <;> rfl) | (simp [*] <;> rfl), by repeat (first | (with_reducible first | exact HB.out | apply below_alloc | apply pw_below_drewN | apply below_drew1))⟩
 ·rw [if_neg c4] at H
  have c4b0 : (a1 == a2) = false := beq_eq_false_iff_ne.mpr c4
  have c4b1 : (a1 != a2) = true := bne_iff_ne.mpr c4
  have H' := Aside0.mk H
  clear H
  go_enter Try.func51, Try.ntmps51
  go_wp2
  go_loopg [7] k (fun kq v7 w' => ∃ (x7_1 : Int), v7 = .int .i64 x7_1 ∧ Aside0 (ref08_Rivals.l0 kq l0 a1 a2 x7_1 = some r) ∧ Aside0 (kq ≤ k) ∧ Aside0 (Below w.heap.size w w'))
  case atStart => exact ⟨(0), (by first | rfl | (simp; done) | (simp [*]; done)), H', ⟨Nat.le_refl _⟩, ⟨by repeat (first | (with_reducible first | exact HB.out | apply below_alloc | apply pw_below_drewN | apply below_drew1))⟩⟩
  case round =>
   clear H'
   try clear p2
   try clear c4
   try clear c4b0
   try clear c4b1
   obtain ⟨x7_1, rfl, HA, HK1, HB⟩ := hrel
   cases gk with
   | zero => exact absurd HA.out (by simp [ref08_Rivals.l0])
   | succ k1 =>
    have H := HA.out
    clear HA
    simp only [ref08_Rivals.l0] at H
    by_cases c5 : x7_1 < 64
    ·rw [if_pos c5] at H
     have c5b0 : decide (x7_1 < 64) = true := decide_eq_true c5
     clear c5
     replace H := Option.bind_eq_some_iff.mp H
     obtain ⟨t269, A60, H⟩ := H
     replace H : (if t269 = true then ((ref08_Writes.f k1 l0 a2 x7_1).bind fun t270 => (if t270 = true then (some true) else (ref08_Rivals.l0 k1 l0 a1 a2 (wrap64 (x7_1 + 1))))) else (ref08_Rivals.l0 k1 l0 a1 a2 (wrap64 (x7_1 + 1)))) = some r := H
     have A6 := Aside0.mk A60
     clear A60
     by_cases c7 : t269 = true
     ·subst c7
      have H1 : ((ref08_Writes.f k1 l0 a2 x7_1).bind fun t270 => (if t270 = true then (some true) else (ref08_Rivals.l0 k1 l0 a1 a2 (wrap64 (x7_1 + 1))))) = some r := by rw [if_pos rfl] at H; exact H
      clear H
      have H := H1
      clear H1
      replace H := Option.bind_eq_some_iff.mp H
      obtain ⟨t270, A80, H⟩ := H
      replace H : (if t270 = true then (some true) else (ref08_Rivals.l0 k1 l0 a1 a2 (wrap64 (x7_1 + 1)))) = some r := H
      have A8 := Aside0.mk A80
      clear A80
      by_cases c9 : t270 = true
      ·subst c9
       have H1 : (some true) = some r := by rw [if_pos rfl] at H; exact H
       clear H
       have H := H1
       clear H1
       obtain rfl := Option.some.inj H
       go_wp2_with (first | ((with_reducible refine gate_callee (f := 82) rfl ?_); refine goesL_ (some 18) rfl rfl Try.func82 (by kernel_rfl) rfl #[.slice A0 l0.length c0, .int .i64 a1, .int .i64 x7_1] rfl (by (try simp only [List.map_toArray, List.map_cons, List.map_nil]); first | done | rfl | (simp only [List.length_drop, List.length_take]; rfl)) ?_; (with_reducible refine (ref08_Writes.calls k1 _ _ l0 a1 x7_1 true _ ?side1 ?side2 A6.out).mono ?_); (case side1 => repeat (first | exact (Kd.C_below HR0.out HB.out) | (with_reducible refine Kd.C_alloc ?_ _) | (with_reducible refine Kd.C_drewN ?_ _) | (with_reducible refine Kd.C_drew ?_))); (case side2 => exact HC0.out); rintro e w10 ⟨rfl, hb⟩; refine ⟨_, rfl, ?_⟩; have n0_ := Aside0.mk (below_step (by repeat (first | (with_reducible first | exact HB.out | apply below_alloc | apply pw_below_drewN | apply below_drew1))) hb); clear HB; have HB := n0_; clear n0_; (try clear hb); (try clear hb2); (try clear hk); (try clear hi)) | (go_at_call 82; (with_reducible refine (ref08_Writes.calls k1 _ _ l0 a2 x7_1 true _ ?side1 ?side2 A8.out).mono ?_); (case side1 => repeat (first | exact (Kd.C_below HR0.out HB.out) | (with_reducible refine Kd.C_alloc ?_ _) | (with_reducible refine Kd.C_drewN ?_ _) | (with_reducible refine Kd.C_drew ?_))); (case side2 => exact HC0.out); rintro e w11 ⟨rfl, hb⟩; have n0_ := Aside0.mk (below_step (by repeat (first | (with_reducible first | exact HB.out | apply below_alloc | apply pw_below_drewN | apply below_drew1))) hb); clear HB; have HB := n0_; clear n0_; (try clear hb); (try clear hb2); (try clear hk); (try clear hi)))
       go_ret
       exact ⟨by first | rfl | (simp <;> rfl) | (simp [*] <;> rfl), by repeat (first | (with_reducible first | exact HB.out | apply below_alloc | apply pw_below_drewN | apply below_drew1))⟩
      ·replace c9 := Bool.eq_false_iff.mpr c9
       subst c9
       have H1 : (ref08_Rivals.l0 k1 l0 a1 a2 (wrap64 (x7_1 + 1))) = some r := by rw [if_neg (show ¬ (false = true) by decide)] at H; exact H
       clear H
       have H := H1
       clear H1
       have H' := Aside0.mk H
       clear H
       go_wp2_with (first | ((with_reducible refine gate_callee (f := 82) rfl ?_); refine goesL_ (some 18) rfl rfl Try.func82 (by kernel_rfl) rfl #[.slice A0 l0.length c0, .int .i64 a1, .int .i64 x7_1] rfl (by (try simp only [List.map_toArray, List.map_cons, List.map_nil]); first | done | rfl | (simp only [List.length_drop, List.length_take]; rfl)) ?_; (with_reducible refine (ref08_Writes.calls k1 _ _ l0 a1 x7_1 true _ ?side1 ?side2 A6.out).mono ?_); (case side1 => repeat (first | exact (Kd.C_below HR0.out HB.out) | (with_reducible refine Kd.C_alloc ?_ _) | (with_reducible refine Kd.C_drewN ?_ _) | (with_reducible refine Kd.C_drew ?_))); (case side2 => exact HC0.out); rintro e w12 ⟨rfl, hb⟩; refine ⟨_, rfl, ?_⟩; have n0_ := Aside0.mk (below_step (by repeat (first | (with_reducible first | exact HB.out | apply below_alloc | apply pw_below_drewN | apply below_drew1))) hb); clear HB; have HB := n0_; clear n0_; (try clear hb); (try clear hb2); (try clear hk); (try clear hi)) | (go_at_call 82; (with_reducible refine (ref08_Writes.calls k1 _ _ l0 a2 x7_1 false _ ?side1 ?side2 A8.out).mono ?_); (case side1 => repeat (first | exact (Kd.C_below HR0.out HB.out) | (with_reducible refine Kd.C_alloc ?_ _) | (with_reducible refine Kd.C_drewN ?_ _) | (with_reducible refine Kd.C_drew ?_))); (case side2 => exact HC0.out); rintro e w13 ⟨rfl, hb⟩; have n0_ := Aside0.mk (below_step (by repeat (first | (with_reducible first | exact HB.out | apply below_alloc | apply pw_below_drewN | apply below_drew1))) hb); clear HB; have HB := n0_; clear n0_; (try clear hb); (try clear hb2); (try clear hk); (try clear hi)))
       go_roundg k1
       case measure => have := HK1.out; omega
       case rel => exact ⟨(wrap64 (x7_1 + 1)), (by first | rfl | (simp; done) | (simp [*]; done)), H', ⟨by have := HK1.out; omega⟩, ⟨by repeat (first | (with_reducible first | exact HB.out | apply below_alloc | apply pw_below_drewN | apply below_drew1))⟩⟩
     ·replace c7 := Bool.eq_false_iff.mpr c7
      subst c7
      have H1 : (ref08_Rivals.l0 k1 l0 a1 a2 (wrap64 (x7_1 + 1))) = some r := by rw [if_neg (show ¬ (false = true) by decide)] at H; exact H
      clear H
      have H := H1
      clear H1
      have H' := Aside0.mk H
      clear H
      go_wp2_with (first | ((with_reducible refine gate_callee (f := 82) rfl ?_); refine goesL_ (some 18) rfl rfl Try.func82 (by kernel_rfl) rfl #[.slice A0 l0.length c0, .int .i64 a1, .int .i64 x7_1] rfl (by (try simp only [List.map_toArray, List.map_cons, List.map_nil]); first | done | rfl | (simp only [List.length_drop, List.length_take]; rfl)) ?_; (with_reducible refine (ref08_Writes.calls k1 _ _ l0 a1 x7_1 false _ ?side1 ?side2 A6.out).mono ?_); (case side1 => repeat (first | exact (Kd.C_below HR0.out HB.out) | (with_reducible refine Kd.C_alloc ?_ _) | (with_reducible refine Kd.C_drewN ?_ _) | (with_reducible refine Kd.C_drew ?_))); (case side2 => exact HC0.out); rintro e w14 ⟨rfl, hb⟩; refine ⟨_, rfl, ?_⟩; have n0_ := Aside0.mk (below_step (by repeat (first | (with_reducible first | exact HB.out | apply below_alloc | apply pw_below_drewN | apply below_drew1))) hb); clear HB; have HB := n0_; clear n0_; (try clear hb); (try clear hb2); (try clear hk); (try clear hi)))
      go_roundg k1
      case measure => have := HK1.out; omega
      case rel => exact ⟨(wrap64 (x7_1 + 1)), (by first | rfl | (simp; done) | (simp [*]; done)), H', ⟨by have := HK1.out; omega⟩, ⟨by repeat (first | (with_reducible first | exact HB.out | apply below_alloc | apply pw_below_drewN | apply below_drew1))⟩⟩
    ·rw [if_neg c5] at H
     have c5b0 : decide (x7_1 < 64) = false := decide_eq_false c5
     clear c5
     obtain rfl := Option.some.inj H
     go_wp2
     go_ret
     exact ⟨by first | rfl | (simp <;> rfl) | (simp [*] <;> rfl), by repeat (first | (with_reducible first | exact HB.out | apply below_alloc | apply pw_below_drewN | apply below_drew1))⟩
def ref11_Ahead.f (k : Nat) (l0 : List Int) (a1 : Int) (a2 : Int) : Option (Bool) := (ref11_Place.f k l0 a1).bind fun t271 => ((ref11_Place.f k l0 a2).bind fun t272 => (some (decide (t271 < t272))))
theorem ref11_Ahead.mono : ∀ a0 a1 a2 k, LeO (ref11_Ahead.f k a0 a1 a2) (ref11_Ahead.f (k + 1) a0 a1 a2) := by
 intro a0 a1 a2 k
 unfold ref11_Ahead.f
 repeat' first
   | (with_reducible exact ref11_Place.mono _ _ _)
   | (with_reducible exact LeO.refl _)
   | (with_reducible exact LeO.none _)
   | (with_reducible refine LeO.ite ?_ ?_)
   | (with_reducible refine LeO.bind ?_ (fun _ => ?_))
   | exact ref11_Place.mono _ _ _
   | exact LeO.none _
   | refine LeO.ite ?_ ?_
   | refine LeO.bind ?_ (fun _ => ?_)
set_option maxHeartbeats 8000000 in
set_option maxRecDepth 100000 in
theorem ref11_Ahead.calls (k : Nat) (A0 : Option Addr) (c0 : Nat) (l0 : List Int) (a1 : Int) (a2 : Int) (r : Bool) (w : World) (hr0 : Kd.C (Kd.int .i64) w A0 l0.length l0) (hc0 : l0.length ≤ c0) (h : ref11_Ahead.f k l0 a1 a2 = some r) :
  Calls Try.prog 118 #[.slice A0 l0.length c0, .int .i64 a1, .int .i64 a2] w fun e w' => e = .returned (.bool r) ∧ Drawn0 w w' := by
 have HR0 := Aside0.mk hr0
 have HC0 := Aside0.mk hc0
 clear hr0 hc0
 have H : ((ref11_Place.f k l0 a1).bind fun t271 => ((ref11_Place.f k l0 a2).bind fun t272 => (some (decide (t271 < t272))))) = some r := h
 clear h
 replace H := Option.bind_eq_some_iff.mp H
 obtain ⟨t271, A40, H⟩ := H
 replace H : ((ref11_Place.f k l0 a2).bind fun t272 => (some (decide (t271 < t272)))) = some r := H
 have A4 := Aside0.mk A40
 clear A40
 replace H := Option.bind_eq_some_iff.mp H
 obtain ⟨t272, A50, H⟩ := H
 replace H : (some (decide (t271 < t272))) = some r := H
 have A5 := Aside0.mk A50
 clear A50
 obtain rfl := Option.some.inj H
 go_enter Try.func118, Try.ntmps118
 go_wp2_with (first | ((with_reducible refine gate_callee (f := 110) rfl ?_); refine goesL_ (some 9) rfl rfl Try.func110 (by kernel_rfl) rfl #[.slice A0 l0.length c0, .int .i64 a1] rfl (by (try simp only [List.map_toArray, List.map_cons, List.map_nil]); first | done | rfl | (simp only [List.length_drop, List.length_take]; rfl)) ?_; (with_reducible refine (ref11_Place.calls k _ _ l0 a1 t271 _ ?side1 ?side2 A4.out).mono ?_); (case side1 => repeat (first | exact HR0.out | (with_reducible refine Kd.C_alloc ?_ _) | (with_reducible refine Kd.C_drewN ?_ _) | (with_reducible refine Kd.C_drew ?_))); (case side2 => exact HC0.out); rintro e w' ⟨rfl, ⟨nd, rfl⟩⟩; refine ⟨_, rfl, ?_⟩) | ((with_reducible refine gate_callee (f := 110) rfl ?_); refine goesL_ (some 12) rfl rfl Try.func110 (by kernel_rfl) rfl #[.slice A0 l0.length c0, .int .i64 a2] rfl (by (try simp only [List.map_toArray, List.map_cons, List.map_nil]); first | done | rfl | (simp only [List.length_drop, List.length_take]; rfl)) ?_; (with_reducible refine (ref11_Place.calls k _ _ l0 a2 t272 _ ?side1 ?side2 A5.out).mono ?_); (case side1 => repeat (first | exact HR0.out | (with_reducible refine Kd.C_alloc ?_ _) | (with_reducible refine Kd.C_drewN ?_ _) | (with_reducible refine Kd.C_drew ?_))); (case side2 => exact HC0.out); rintro e w' ⟨rfl, ⟨nd, rfl⟩⟩; refine ⟨_, rfl, ?_⟩))
 go_ret
 exact ⟨by first | rfl | (simp; done) | (simp [*]; done), by repeat (first | exact Drawn0.refl _ | apply Drawn0.step)⟩
def ref11_must.j0 : Nat → List (S44) → Int → List Int → Int → Int → Bool → Option (Bool)
 | 0, _, _, _, _, _, _ => none
 | k + 1, x0, x1, x2, x3, x4, x34 => if x34 = true then (some true) else ((ref11_Ahead.f k x2 x3 x4).bind fun t280 => (if t280 = true then ((ref09_Has.f x1 16).bind fun t281 => (if t281 = true then (some true) else ((ref09_Has.f x1 8).bind fun t282 => (if t282 = true then ((ref08_Rivals.f k x0 x3 x4).bind fun t283 => (some t283)) else (some false))))) else (some false)))
def ref11_must.f (k : Nat) (l0 : List (S44)) (a1 : Int) (l2 : List Int) (a3 : Int) (a4 : Int) : Option (Bool) := (ref08_From.f k l0 a3 a4).bind fun t273 => (if t273 = true then (ref11_must.j0 k l0 a1 l2 a3 a4 true) else ((ref09_Has.f a1 1).bind fun t274 => (if t274 = true then ((ref08_Session.f l0 a3 a4).bind fun t275 => (if t275 = true then (ref11_must.j0 k l0 a1 l2 a3 a4 true) else ((ref09_Has.f a1 32).bind fun t276 => (if t276 = true then ((ref08_Time.f l0 a3 a4).bind fun t277 => (ref11_must.j0 k l0 a1 l2 a3 a4 t277)) else (ref11_must.j0 k l0 a1 l2 a3 a4 false))))) else ((ref09_Has.f a1 32).bind fun t278 => (if t278 = true then ((ref08_Time.f l0 a3 a4).bind fun t279 => (ref11_must.j0 k l0 a1 l2 a3 a4 t279)) else (ref11_must.j0 k l0 a1 l2 a3 a4 false))))))
theorem ref11_must.mono_l : ∀ k, (∀ y0 y1 y2 y3 y4 y5, LeO (ref11_must.j0 k y0 y1 y2 y3 y4 y5) (ref11_must.j0 (k + 1) y0 y1 y2 y3 y4 y5))
 | 0 => fun _ _ _ _ _ _ r h => by simp [ref11_must.j0] at h
 | k + 1 => by
  have ih0 := ref11_must.mono_l k
  ·intro y0 y1 y2 y3 y4 y5
   unfold ref11_must.j0
   repeat' first
   | (with_reducible exact ih0 _ _ _ _ _ _)
   | (with_reducible exact ref08_From.mono _ _ _ _)
   | (with_reducible exact ref08_Rivals.mono _ _ _ _)
   | (with_reducible exact ref11_Ahead.mono _ _ _ _)
   | (with_reducible exact LeO.refl _)
   | (with_reducible exact LeO.none _)
   | (with_reducible refine LeO.ite ?_ ?_)
   | (with_reducible refine LeO.bind ?_ (fun _ => ?_))
   | exact ih0 _ _ _ _ _ _
   | exact ref08_From.mono _ _ _ _
   | exact ref08_Rivals.mono _ _ _ _
   | exact ref11_Ahead.mono _ _ _ _
   | exact LeO.none _
   | refine LeO.ite ?_ ?_
   | refine LeO.bind ?_ (fun _ => ?_)
theorem ref11_must.mono : ∀ a0 a1 a2 a3 a4 k, LeO (ref11_must.f k a0 a1 a2 a3 a4) (ref11_must.f (k + 1) a0 a1 a2 a3 a4) := by
 intro a0 a1 a2 a3 a4 k
 have ih0 := ref11_must.mono_l k
 unfold ref11_must.f
 repeat' first
   | (with_reducible exact ih0 _ _ _ _ _ _)
   | (with_reducible exact ref08_From.mono _ _ _ _)
   | (with_reducible exact ref08_Rivals.mono _ _ _ _)
   | (with_reducible exact ref11_Ahead.mono _ _ _ _)
   | (with_reducible exact LeO.refl _)
   | (with_reducible exact LeO.none _)
   | (with_reducible refine LeO.ite ?_ ?_)
   | (with_reducible refine LeO.bind ?_ (fun _ => ?_))
   | exact ih0 _ _ _ _ _ _
   | exact ref08_From.mono _ _ _ _
   | exact ref08_Rivals.mono _ _ _ _
   | exact ref11_Ahead.mono _ _ _ _
   | exact LeO.none _
   | refine LeO.ite ?_ ?_
   | refine LeO.bind ?_ (fun _ => ?_)
set_option maxHeartbeats 8000000 in
set_option maxRecDepth 100000 in
theorem ref11_must.calls (k : Nat) (A0 : Option Addr) (c0 : Nat) (l0 : List (S44)) (a1 : Int) (A2 : Option Addr) (c2 : Nat) (l2 : List Int) (a3 : Int) (a4 : Int) (r : Bool) (w : World) (hr0 : Kd.C k44 w A0 l0.length l0) (hc0 : l0.length ≤ c0) (hr2 : Kd.C (Kd.int .i64) w A2 l2.length l2) (hc2 : l2.length ≤ c2) (h : ref11_must.f k l0 a1 l2 a3 a4 = some r) :
  Calls Try.prog 111 #[.slice A0 l0.length c0, .int .i64 a1, .slice A2 l2.length c2, .int .i64 a3, .int .i64 a4] w fun e w' => e = .returned (.bool r) ∧ Below w.heap.size w w' := by
 have HR0 := Aside0.mk hr0
 have HC0 := Aside0.mk hc0
 clear hr0 hc0
 have HR2 := Aside0.mk hr2
 have HC2 := Aside0.mk hc2
 clear hr2 hc2
 have HB := Aside0.mk (Below.refl w.heap.size w)
 have H : ((ref08_From.f k l0 a3 a4).bind fun t273 => (if t273 = true then (ref11_must.j0 k l0 a1 l2 a3 a4 true) else ((ref09_Has.f a1 1).bind fun t274 => (if t274 = true then ((ref08_Session.f l0 a3 a4).bind fun t275 => (if t275 = true then (ref11_must.j0 k l0 a1 l2 a3 a4 true) else ((ref09_Has.f a1 32).bind fun t276 => (if t276 = true then ((ref08_Time.f l0 a3 a4).bind fun t277 => (ref11_must.j0 k l0 a1 l2 a3 a4 t277)) else (ref11_must.j0 k l0 a1 l2 a3 a4 false))))) else ((ref09_Has.f a1 32).bind fun t278 => (if t278 = true then ((ref08_Time.f l0 a3 a4).bind fun t279 => (ref11_must.j0 k l0 a1 l2 a3 a4 t279)) else (ref11_must.j0 k l0 a1 l2 a3 a4 false))))))) = some r := h
 clear h
 have HC6 := Aside0.mk H
 clear H
 go_enter Try.func111, Try.ntmps111
 go_upto_region 1 with (fail)
 go_cut [34] (fun v34 wc => ∃ (kq : Nat) (x34_5 : Bool), v34 = .bool x34_5 ∧ Aside0 (ref11_must.j0 kq l0 a1 l2 a3 a4 x34_5 = some r) ∧ Aside0 (kq ≤ k) ∧ Aside0 (Below w.heap.size w wc))
 case first =>
  have H := HC6.out
  clear HC6
  replace H := Option.bind_eq_some_iff.mp H
  obtain ⟨t273, A70, H⟩ := H
  replace H : (if t273 = true then (ref11_must.j0 k l0 a1 l2 a3 a4 true) else ((ref09_Has.f a1 1).bind fun t274 => (if t274 = true then ((ref08_Session.f l0 a3 a4).bind fun t275 => (if t275 = true then (ref11_must.j0 k l0 a1 l2 a3 a4 true) else ((ref09_Has.f a1 32).bind fun t276 => (if t276 = true then ((ref08_Time.f l0 a3 a4).bind fun t277 => (ref11_must.j0 k l0 a1 l2 a3 a4 t277)) else (ref11_must.j0 k l0 a1 l2 a3 a4 false))))) else ((ref09_Has.f a1 32).bind fun t278 => (if t278 = true then ((ref08_Time.f l0 a3 a4).bind fun t279 => (ref11_must.j0 k l0 a1 l2 a3 a4 t279)) else (ref11_must.j0 k l0 a1 l2 a3 a4 false)))))) = some r := H
  have A7 := Aside0.mk A70
  clear A70
  by_cases c8 : t273 = true
  ·subst c8
   have H1 : (ref11_must.j0 k l0 a1 l2 a3 a4 true) = some r := by rw [if_pos rfl] at H; exact H
   clear H
   have H := H1
   clear H1
   have H' := Aside0.mk H
   clear H
   go_wp2_with (first | ((with_reducible refine gate_callee (f := 37) rfl ?_); refine goesL_ (some 14) rfl rfl Try.func37 (by kernel_rfl) rfl #[.slice A0 l0.length c0, .int .i64 a3, .int .i64 a4] rfl (by (try simp only [List.map_toArray, List.map_cons, List.map_nil]); first | done | rfl | (simp only [List.length_drop, List.length_take]; rfl)) ?_; (with_reducible refine (ref08_From.calls k _ _ l0 a3 a4 true _ ?side1 ?side2 A7.out).mono ?_); (case side1 => repeat (first | exact (Kd.C_below HR0.out HB.out) | (with_reducible refine Kd.C_alloc ?_ _) | (with_reducible refine Kd.C_drewN ?_ _) | (with_reducible refine Kd.C_drew ?_))); (case side2 => exact HC0.out); rintro e w9 ⟨rfl, hb⟩; refine ⟨_, rfl, ?_⟩; have n0_ := Aside0.mk (below_step (by repeat (first | (with_reducible first | exact HB.out | apply below_alloc | apply pw_below_drewN | apply below_drew1))) hb); clear HB; have HB := n0_; clear n0_; (try clear hb); (try clear hb2); (try clear hk); (try clear hi)))
   go_meet
   case rel => exact ⟨_, (true), (by first | rfl | (simp; done) | (simp [*]; done)), H', ⟨by first | omega | exact Nat.le_refl _⟩, ⟨by repeat (first | (with_reducible first | exact HB.out | apply below_alloc | apply pw_below_drewN | apply below_drew1))⟩⟩
  ·replace c8 := Bool.eq_false_iff.mpr c8
   subst c8
   have H1 : ((ref09_Has.f a1 1).bind fun t274 => (if t274 = true then ((ref08_Session.f l0 a3 a4).bind fun t275 => (if t275 = true then (ref11_must.j0 k l0 a1 l2 a3 a4 true) else ((ref09_Has.f a1 32).bind fun t276 => (if t276 = true then ((ref08_Time.f l0 a3 a4).bind fun t277 => (ref11_must.j0 k l0 a1 l2 a3 a4 t277)) else (ref11_must.j0 k l0 a1 l2 a3 a4 false))))) else ((ref09_Has.f a1 32).bind fun t278 => (if t278 = true then ((ref08_Time.f l0 a3 a4).bind fun t279 => (ref11_must.j0 k l0 a1 l2 a3 a4 t279)) else (ref11_must.j0 k l0 a1 l2 a3 a4 false))))) = some r := by rw [if_neg (show ¬ (false = true) by decide)] at H; exact H
   clear H
   have H := H1
   clear H1
   replace H := Option.bind_eq_some_iff.mp H
   obtain ⟨t274, A100, H⟩ := H
   replace H : (if t274 = true then ((ref08_Session.f l0 a3 a4).bind fun t275 => (if t275 = true then (ref11_must.j0 k l0 a1 l2 a3 a4 true) else ((ref09_Has.f a1 32).bind fun t276 => (if t276 = true then ((ref08_Time.f l0 a3 a4).bind fun t277 => (ref11_must.j0 k l0 a1 l2 a3 a4 t277)) else (ref11_must.j0 k l0 a1 l2 a3 a4 false))))) else ((ref09_Has.f a1 32).bind fun t278 => (if t278 = true then ((ref08_Time.f l0 a3 a4).bind fun t279 => (ref11_must.j0 k l0 a1 l2 a3 a4 t279)) else (ref11_must.j0 k l0 a1 l2 a3 a4 false)))) = some r := H
   have A10 := Aside0.mk A100
   clear A100
   by_cases c11 : t274 = true
   ·subst c11
    have H1 : ((ref08_Session.f l0 a3 a4).bind fun t275 => (if t275 = true then (ref11_must.j0 k l0 a1 l2 a3 a4 true) else ((ref09_Has.f a1 32).bind fun t276 => (if t276 = true then ((ref08_Time.f l0 a3 a4).bind fun t277 => (ref11_must.j0 k l0 a1 l2 a3 a4 t277)) else (ref11_must.j0 k l0 a1 l2 a3 a4 false))))) = some r := by rw [if_pos rfl] at H; exact H
    clear H
    have H := H1
    clear H1
    replace H := Option.bind_eq_some_iff.mp H
    obtain ⟨t275, A120, H⟩ := H
    replace H : (if t275 = true then (ref11_must.j0 k l0 a1 l2 a3 a4 true) else ((ref09_Has.f a1 32).bind fun t276 => (if t276 = true then ((ref08_Time.f l0 a3 a4).bind fun t277 => (ref11_must.j0 k l0 a1 l2 a3 a4 t277)) else (ref11_must.j0 k l0 a1 l2 a3 a4 false)))) = some r := H
    have A12 := Aside0.mk A120
    clear A120
    by_cases c13 : t275 = true
    ·subst c13
     have H1 : (ref11_must.j0 k l0 a1 l2 a3 a4 true) = some r := by rw [if_pos rfl] at H; exact H
     clear H
     have H := H1
     clear H1
     have H' := Aside0.mk H
     clear H
     go_wp2_with (first | ((with_reducible refine gate_callee (f := 37) rfl ?_); refine goesL_ (some 14) rfl rfl Try.func37 (by kernel_rfl) rfl #[.slice A0 l0.length c0, .int .i64 a3, .int .i64 a4] rfl (by (try simp only [List.map_toArray, List.map_cons, List.map_nil]); first | done | rfl | (simp only [List.length_drop, List.length_take]; rfl)) ?_; (with_reducible refine (ref08_From.calls k _ _ l0 a3 a4 false _ ?side1 ?side2 A7.out).mono ?_); (case side1 => repeat (first | exact (Kd.C_below HR0.out HB.out) | (with_reducible refine Kd.C_alloc ?_ _) | (with_reducible refine Kd.C_drewN ?_ _) | (with_reducible refine Kd.C_drew ?_))); (case side2 => exact HC0.out); rintro e w14 ⟨rfl, hb⟩; refine ⟨_, rfl, ?_⟩; have n0_ := Aside0.mk (below_step (by repeat (first | (with_reducible first | exact HB.out | apply below_alloc | apply pw_below_drewN | apply below_drew1))) hb); clear HB; have HB := n0_; clear n0_; (try clear hb); (try clear hb2); (try clear hk); (try clear hi)) | (go_at_call 18; (with_reducible refine (ref09_Has.calls a1 1 true _ A10.out).mono ?_); rintro e w' ⟨rfl, ⟨nd, rfl⟩⟩) | (go_at_call 49; (with_reducible refine (ref08_Session.calls _ _ l0 a3 a4 true _ ?side1 ?side2 A12.out).mono ?_); (case side1 => repeat (first | exact (Kd.C_below HR0.out (by repeat (first | (with_reducible first | exact HB.out | apply below_alloc | apply pw_below_drewN | apply below_drew1)))) | (with_reducible refine Kd.C_alloc ?_ _) | (with_reducible refine Kd.C_drewN ?_ _) | (with_reducible refine Kd.C_drew ?_))); (case side2 => exact HC0.out); rintro e w' ⟨rfl, ⟨nd, rfl⟩⟩))
     go_meet
     case rel => exact ⟨_, (true), (by first | rfl | (simp; done) | (simp [*]; done)), H', ⟨by first | omega | exact Nat.le_refl _⟩, ⟨by repeat (first | (with_reducible first | exact HB.out | apply below_alloc | apply pw_below_drewN | apply below_drew1))⟩⟩
    ·replace c13 := Bool.eq_false_iff.mpr c13
     subst c13
     have H1 : ((ref09_Has.f a1 32).bind fun t276 => (if t276 = true then ((ref08_Time.f l0 a3 a4).bind fun t277 => (ref11_must.j0 k l0 a1 l2 a3 a4 t277)) else (ref11_must.j0 k l0 a1 l2 a3 a4 false))) = some r := by rw [if_neg (show ¬ (false = true) by decide)] at H; exact H
     clear H
     have H := H1
     clear H1
     replace H := Option.bind_eq_some_iff.mp H
     obtain ⟨t276, A150, H⟩ := H
     replace H : (if t276 = true then ((ref08_Time.f l0 a3 a4).bind fun t277 => (ref11_must.j0 k l0 a1 l2 a3 a4 t277)) else (ref11_must.j0 k l0 a1 l2 a3 a4 false)) = some r := H
     have A15 := Aside0.mk A150
     clear A150
     by_cases c16 : t276 = true
     ·subst c16
      have H1 : ((ref08_Time.f l0 a3 a4).bind fun t277 => (ref11_must.j0 k l0 a1 l2 a3 a4 t277)) = some r := by rw [if_pos rfl] at H; exact H
      clear H
      have H := H1
      clear H1
      replace H := Option.bind_eq_some_iff.mp H
      obtain ⟨t277, A170, H⟩ := H
      replace H : (ref11_must.j0 k l0 a1 l2 a3 a4 t277) = some r := H
      have A17 := Aside0.mk A170
      clear A170
      have H' := Aside0.mk H
      clear H
      go_wp2_with (first | ((with_reducible refine gate_callee (f := 37) rfl ?_); refine goesL_ (some 14) rfl rfl Try.func37 (by kernel_rfl) rfl #[.slice A0 l0.length c0, .int .i64 a3, .int .i64 a4] rfl (by (try simp only [List.map_toArray, List.map_cons, List.map_nil]); first | done | rfl | (simp only [List.length_drop, List.length_take]; rfl)) ?_; (with_reducible refine (ref08_From.calls k _ _ l0 a3 a4 false _ ?side1 ?side2 A7.out).mono ?_); (case side1 => repeat (first | exact (Kd.C_below HR0.out HB.out) | (with_reducible refine Kd.C_alloc ?_ _) | (with_reducible refine Kd.C_drewN ?_ _) | (with_reducible refine Kd.C_drew ?_))); (case side2 => exact HC0.out); rintro e w18 ⟨rfl, hb⟩; refine ⟨_, rfl, ?_⟩; have n0_ := Aside0.mk (below_step (by repeat (first | (with_reducible first | exact HB.out | apply below_alloc | apply pw_below_drewN | apply below_drew1))) hb); clear HB; have HB := n0_; clear n0_; (try clear hb); (try clear hb2); (try clear hk); (try clear hi)) | (go_at_call 18; (with_reducible refine (ref09_Has.calls a1 1 true _ A10.out).mono ?_); rintro e w' ⟨rfl, ⟨nd, rfl⟩⟩) | (go_at_call 49; (with_reducible refine (ref08_Session.calls _ _ l0 a3 a4 false _ ?side1 ?side2 A12.out).mono ?_); (case side1 => repeat (first | exact (Kd.C_below HR0.out (by repeat (first | (with_reducible first | exact HB.out | apply below_alloc | apply pw_below_drewN | apply below_drew1)))) | (with_reducible refine Kd.C_alloc ?_ _) | (with_reducible refine Kd.C_drewN ?_ _) | (with_reducible refine Kd.C_drew ?_))); (case side2 => exact HC0.out); rintro e w' ⟨rfl, ⟨nd, rfl⟩⟩) | (go_at_call 18; (with_reducible refine (ref09_Has.calls a1 32 true _ A15.out).mono ?_); rintro e w' ⟨rfl, ⟨nd, rfl⟩⟩) | (go_at_call 50; (with_reducible refine (ref08_Time.calls _ _ l0 a3 a4 t277 _ ?side1 ?side2 A17.out).mono ?_); (case side1 => repeat (first | exact (Kd.C_below HR0.out (by repeat (first | (with_reducible first | exact HB.out | apply below_alloc | apply pw_below_drewN | apply below_drew1)))) | (with_reducible refine Kd.C_alloc ?_ _) | (with_reducible refine Kd.C_drewN ?_ _) | (with_reducible refine Kd.C_drew ?_))); (case side2 => exact HC0.out); rintro e w' ⟨rfl, ⟨nd, rfl⟩⟩))
      go_meet
      case rel => exact ⟨_, (t277), (by first | rfl | (simp; done) | (simp [*]; done)), H', ⟨by first | omega | exact Nat.le_refl _⟩, ⟨by repeat (first | (with_reducible first | exact HB.out | apply below_alloc | apply pw_below_drewN | apply below_drew1))⟩⟩
     ·replace c16 := Bool.eq_false_iff.mpr c16
      subst c16
      have H1 : (ref11_must.j0 k l0 a1 l2 a3 a4 false) = some r := by rw [if_neg (show ¬ (false = true) by decide)] at H; exact H
      clear H
      have H := H1
      clear H1
      have H' := Aside0.mk H
      clear H
      go_wp2_with (first | ((with_reducible refine gate_callee (f := 37) rfl ?_); refine goesL_ (some 14) rfl rfl Try.func37 (by kernel_rfl) rfl #[.slice A0 l0.length c0, .int .i64 a3, .int .i64 a4] rfl (by (try simp only [List.map_toArray, List.map_cons, List.map_nil]); first | done | rfl | (simp only [List.length_drop, List.length_take]; rfl)) ?_; (with_reducible refine (ref08_From.calls k _ _ l0 a3 a4 false _ ?side1 ?side2 A7.out).mono ?_); (case side1 => repeat (first | exact (Kd.C_below HR0.out HB.out) | (with_reducible refine Kd.C_alloc ?_ _) | (with_reducible refine Kd.C_drewN ?_ _) | (with_reducible refine Kd.C_drew ?_))); (case side2 => exact HC0.out); rintro e w19 ⟨rfl, hb⟩; refine ⟨_, rfl, ?_⟩; have n0_ := Aside0.mk (below_step (by repeat (first | (with_reducible first | exact HB.out | apply below_alloc | apply pw_below_drewN | apply below_drew1))) hb); clear HB; have HB := n0_; clear n0_; (try clear hb); (try clear hb2); (try clear hk); (try clear hi)) | (go_at_call 18; (with_reducible refine (ref09_Has.calls a1 1 true _ A10.out).mono ?_); rintro e w' ⟨rfl, ⟨nd, rfl⟩⟩) | (go_at_call 49; (with_reducible refine (ref08_Session.calls _ _ l0 a3 a4 false _ ?side1 ?side2 A12.out).mono ?_); (case side1 => repeat (first | exact (Kd.C_below HR0.out (by repeat (first | (with_reducible first | exact HB.out | apply below_alloc | apply pw_below_drewN | apply below_drew1)))) | (with_reducible refine Kd.C_alloc ?_ _) | (with_reducible refine Kd.C_drewN ?_ _) | (with_reducible refine Kd.C_drew ?_))); (case side2 => exact HC0.out); rintro e w' ⟨rfl, ⟨nd, rfl⟩⟩) | (go_at_call 18; (with_reducible refine (ref09_Has.calls a1 32 false _ A15.out).mono ?_); rintro e w' ⟨rfl, ⟨nd, rfl⟩⟩))
      go_meet
      case rel => exact ⟨_, (false), (by first | rfl | (simp; done) | (simp [*]; done)), H', ⟨by first | omega | exact Nat.le_refl _⟩, ⟨by repeat (first | (with_reducible first | exact HB.out | apply below_alloc | apply pw_below_drewN | apply below_drew1))⟩⟩
   ·replace c11 := Bool.eq_false_iff.mpr c11
    subst c11
    have H1 : ((ref09_Has.f a1 32).bind fun t278 => (if t278 = true then ((ref08_Time.f l0 a3 a4).bind fun t279 => (ref11_must.j0 k l0 a1 l2 a3 a4 t279)) else (ref11_must.j0 k l0 a1 l2 a3 a4 false))) = some r := by rw [if_neg (show ¬ (false = true) by decide)] at H; exact H
    clear H
    have H := H1
    clear H1
    replace H := Option.bind_eq_some_iff.mp H
    obtain ⟨t278, A200, H⟩ := H
    replace H : (if t278 = true then ((ref08_Time.f l0 a3 a4).bind fun t279 => (ref11_must.j0 k l0 a1 l2 a3 a4 t279)) else (ref11_must.j0 k l0 a1 l2 a3 a4 false)) = some r := H
    have A20 := Aside0.mk A200
    clear A200
    by_cases c21 : t278 = true
    ·subst c21
     have H1 : ((ref08_Time.f l0 a3 a4).bind fun t279 => (ref11_must.j0 k l0 a1 l2 a3 a4 t279)) = some r := by rw [if_pos rfl] at H; exact H
     clear H
     have H := H1
     clear H1
     replace H := Option.bind_eq_some_iff.mp H
     obtain ⟨t279, A220, H⟩ := H
     replace H : (ref11_must.j0 k l0 a1 l2 a3 a4 t279) = some r := H
     have A22 := Aside0.mk A220
     clear A220
     have H' := Aside0.mk H
     clear H
     go_wp2_with (first | ((with_reducible refine gate_callee (f := 37) rfl ?_); refine goesL_ (some 14) rfl rfl Try.func37 (by kernel_rfl) rfl #[.slice A0 l0.length c0, .int .i64 a3, .int .i64 a4] rfl (by (try simp only [List.map_toArray, List.map_cons, List.map_nil]); first | done | rfl | (simp only [List.length_drop, List.length_take]; rfl)) ?_; (with_reducible refine (ref08_From.calls k _ _ l0 a3 a4 false _ ?side1 ?side2 A7.out).mono ?_); (case side1 => repeat (first | exact (Kd.C_below HR0.out HB.out) | (with_reducible refine Kd.C_alloc ?_ _) | (with_reducible refine Kd.C_drewN ?_ _) | (with_reducible refine Kd.C_drew ?_))); (case side2 => exact HC0.out); rintro e w23 ⟨rfl, hb⟩; refine ⟨_, rfl, ?_⟩; have n0_ := Aside0.mk (below_step (by repeat (first | (with_reducible first | exact HB.out | apply below_alloc | apply pw_below_drewN | apply below_drew1))) hb); clear HB; have HB := n0_; clear n0_; (try clear hb); (try clear hb2); (try clear hk); (try clear hi)) | (go_at_call 18; (with_reducible refine (ref09_Has.calls a1 1 false _ A10.out).mono ?_); rintro e w' ⟨rfl, ⟨nd, rfl⟩⟩) | (go_at_call 18; (with_reducible refine (ref09_Has.calls a1 32 true _ A20.out).mono ?_); rintro e w' ⟨rfl, ⟨nd, rfl⟩⟩) | (go_at_call 50; (with_reducible refine (ref08_Time.calls _ _ l0 a3 a4 t279 _ ?side1 ?side2 A22.out).mono ?_); (case side1 => repeat (first | exact (Kd.C_below HR0.out (by repeat (first | (with_reducible first | exact HB.out | apply below_alloc | apply pw_below_drewN | apply below_drew1)))) | (with_reducible refine Kd.C_alloc ?_ _) | (with_reducible refine Kd.C_drewN ?_ _) | (with_reducible refine Kd.C_drew ?_))); (case side2 => exact HC0.out); rintro e w' ⟨rfl, ⟨nd, rfl⟩⟩))
     go_meet
     case rel => exact ⟨_, (t279), (by first | rfl | (simp; done) | (simp [*]; done)), H', ⟨by first | omega | exact Nat.le_refl _⟩, ⟨by repeat (first | (with_reducible first | exact HB.out | apply below_alloc | apply pw_below_drewN | apply below_drew1))⟩⟩
    ·replace c21 := Bool.eq_false_iff.mpr c21
     subst c21
     have H1 : (ref11_must.j0 k l0 a1 l2 a3 a4 false) = some r := by rw [if_neg (show ¬ (false = true) by decide)] at H; exact H
     clear H
     have H := H1
     clear H1
     have H' := Aside0.mk H
     clear H
     go_wp2_with (first | ((with_reducible refine gate_callee (f := 37) rfl ?_); refine goesL_ (some 14) rfl rfl Try.func37 (by kernel_rfl) rfl #[.slice A0 l0.length c0, .int .i64 a3, .int .i64 a4] rfl (by (try simp only [List.map_toArray, List.map_cons, List.map_nil]); first | done | rfl | (simp only [List.length_drop, List.length_take]; rfl)) ?_; (with_reducible refine (ref08_From.calls k _ _ l0 a3 a4 false _ ?side1 ?side2 A7.out).mono ?_); (case side1 => repeat (first | exact (Kd.C_below HR0.out HB.out) | (with_reducible refine Kd.C_alloc ?_ _) | (with_reducible refine Kd.C_drewN ?_ _) | (with_reducible refine Kd.C_drew ?_))); (case side2 => exact HC0.out); rintro e w24 ⟨rfl, hb⟩; refine ⟨_, rfl, ?_⟩; have n0_ := Aside0.mk (below_step (by repeat (first | (with_reducible first | exact HB.out | apply below_alloc | apply pw_below_drewN | apply below_drew1))) hb); clear HB; have HB := n0_; clear n0_; (try clear hb); (try clear hb2); (try clear hk); (try clear hi)) | (go_at_call 18; (with_reducible refine (ref09_Has.calls a1 1 false _ A10.out).mono ?_); rintro e w' ⟨rfl, ⟨nd, rfl⟩⟩) | (go_at_call 18; (with_reducible refine (ref09_Has.calls a1 32 false _ A20.out).mono ?_); rintro e w' ⟨rfl, ⟨nd, rfl⟩⟩))
     go_meet
     case rel => exact ⟨_, (false), (by first | rfl | (simp; done) | (simp [*]; done)), H', ⟨by first | omega | exact Nat.le_refl _⟩, ⟨by repeat (first | (with_reducible first | exact HB.out | apply below_alloc | apply pw_below_drewN | apply below_drew1))⟩⟩
 case rest =>
  clear HC6
  try clear c1
  try clear c2
  try clear p2
  try clear c3
  try clear c8
  try clear c11
  try clear c13
  try clear c16
  try clear c21
  obtain ⟨kq, x34_5, rfl, HA, HJ5, HB⟩ := hcut
  cases kq with
  | zero => exact absurd HA.out (by simp [ref11_must.j0])
  | succ kj5 =>
   have H := HA.out
   clear HA
   simp only [ref11_must.j0] at H
   by_cases c25 : x34_5 = true
   ·subst c25
    have H1 : (some true) = some r := by rw [if_pos rfl] at H; exact H
    clear H
    have H := H1
    clear H1
    obtain rfl := Option.some.inj H
    go_wp2
    go_ret
    exact ⟨by first | rfl | (simp <;> rfl) | (simp [*] <;> rfl), by repeat (first | (with_reducible first | exact HB.out | apply below_alloc | apply pw_below_drewN | apply below_drew1))⟩
   ·replace c25 := Bool.eq_false_iff.mpr c25
    subst c25
    have H1 : ((ref11_Ahead.f kj5 l2 a3 a4).bind fun t280 => (if t280 = true then ((ref09_Has.f a1 16).bind fun t281 => (if t281 = true then (some true) else ((ref09_Has.f a1 8).bind fun t282 => (if t282 = true then ((ref08_Rivals.f kj5 l0 a3 a4).bind fun t283 => (some t283)) else (some false))))) else (some false))) = some r := by rw [if_neg (show ¬ (false = true) by decide)] at H; exact H
    clear H
    have H := H1
    clear H1
    replace H := Option.bind_eq_some_iff.mp H
    obtain ⟨t280, A260, H⟩ := H
    replace H : (if t280 = true then ((ref09_Has.f a1 16).bind fun t281 => (if t281 = true then (some true) else ((ref09_Has.f a1 8).bind fun t282 => (if t282 = true then ((ref08_Rivals.f kj5 l0 a3 a4).bind fun t283 => (some t283)) else (some false))))) else (some false)) = some r := H
    have A26 := Aside0.mk A260
    clear A260
    by_cases c27 : t280 = true
    ·subst c27
     have H1 : ((ref09_Has.f a1 16).bind fun t281 => (if t281 = true then (some true) else ((ref09_Has.f a1 8).bind fun t282 => (if t282 = true then ((ref08_Rivals.f kj5 l0 a3 a4).bind fun t283 => (some t283)) else (some false))))) = some r := by rw [if_pos rfl] at H; exact H
     clear H
     have H := H1
     clear H1
     replace H := Option.bind_eq_some_iff.mp H
     obtain ⟨t281, A280, H⟩ := H
     replace H : (if t281 = true then (some true) else ((ref09_Has.f a1 8).bind fun t282 => (if t282 = true then ((ref08_Rivals.f kj5 l0 a3 a4).bind fun t283 => (some t283)) else (some false)))) = some r := H
     have A28 := Aside0.mk A280
     clear A280
     by_cases c29 : t281 = true
     ·subst c29
      have H1 : (some true) = some r := by rw [if_pos rfl] at H; exact H
      clear H
      have H := H1
      clear H1
      obtain rfl := Option.some.inj H
      go_wp2_with (first | ((with_reducible refine gate_callee (f := 118) rfl ?_); refine goesL_ (some 38) rfl rfl Try.func118 (by kernel_rfl) rfl #[.slice A2 l2.length c2, .int .i64 a3, .int .i64 a4] rfl (by (try simp only [List.map_toArray, List.map_cons, List.map_nil]); first | done | rfl | (simp only [List.length_drop, List.length_take]; rfl)) ?_; (with_reducible refine (ref11_Ahead.calls kj5 _ _ l2 a3 a4 true _ ?side1 ?side2 A26.out).mono ?_); (case side1 => repeat (first | exact (Kd.C_below HR2.out HB.out) | (with_reducible refine Kd.C_alloc ?_ _) | (with_reducible refine Kd.C_drewN ?_ _) | (with_reducible refine Kd.C_drew ?_))); (case side2 => exact HC2.out); rintro e w' ⟨rfl, ⟨nd, rfl⟩⟩; refine ⟨_, rfl, ?_⟩) | ((with_reducible refine gate_callee (f := 18) rfl ?_); refine goesL_ (some 41) rfl rfl Try.func18 (by kernel_rfl) rfl #[.int .i64 a1, .int .i64 16] rfl (by (try simp only [List.map_toArray, List.map_cons, List.map_nil]); first | done | rfl | (simp only [List.length_drop, List.length_take]; rfl)) ?_; (with_reducible refine (ref09_Has.calls a1 16 true _ A28.out).mono ?_); rintro e w' ⟨rfl, ⟨nd, rfl⟩⟩; refine ⟨_, rfl, ?_⟩))
      go_ret
      exact ⟨by first | rfl | (simp <;> rfl) | (simp [*] <;> rfl), by repeat (first | (with_reducible first | exact HB.out | apply below_alloc | apply pw_below_drewN | apply below_drew1))⟩
     ·replace c29 := Bool.eq_false_iff.mpr c29
      subst c29
      have H1 : ((ref09_Has.f a1 8).bind fun t282 => (if t282 = true then ((ref08_Rivals.f kj5 l0 a3 a4).bind fun t283 => (some t283)) else (some false))) = some r := by rw [if_neg (show ¬ (false = true) by decide)] at H; exact H
      clear H
      have H := H1
      clear H1
      replace H := Option.bind_eq_some_iff.mp H
      obtain ⟨t282, A300, H⟩ := H
      replace H : (if t282 = true then ((ref08_Rivals.f kj5 l0 a3 a4).bind fun t283 => (some t283)) else (some false)) = some r := H
      have A30 := Aside0.mk A300
      clear A300
      by_cases c31 : t282 = true
      ·subst c31
       have H1 : ((ref08_Rivals.f kj5 l0 a3 a4).bind fun t283 => (some t283)) = some r := by rw [if_pos rfl] at H; exact H
       clear H
       have H := H1
       clear H1
       replace H := Option.bind_eq_some_iff.mp H
       obtain ⟨t283, A320, H⟩ := H
       replace H : (some t283) = some r := H
       have A32 := Aside0.mk A320
       clear A320
       obtain rfl := Option.some.inj H
       go_wp2_with (first | ((with_reducible refine gate_callee (f := 118) rfl ?_); refine goesL_ (some 38) rfl rfl Try.func118 (by kernel_rfl) rfl #[.slice A2 l2.length c2, .int .i64 a3, .int .i64 a4] rfl (by (try simp only [List.map_toArray, List.map_cons, List.map_nil]); first | done | rfl | (simp only [List.length_drop, List.length_take]; rfl)) ?_; (with_reducible refine (ref11_Ahead.calls kj5 _ _ l2 a3 a4 true _ ?side1 ?side2 A26.out).mono ?_); (case side1 => repeat (first | exact (Kd.C_below HR2.out HB.out) | (with_reducible refine Kd.C_alloc ?_ _) | (with_reducible refine Kd.C_drewN ?_ _) | (with_reducible refine Kd.C_drew ?_))); (case side2 => exact HC2.out); rintro e w' ⟨rfl, ⟨nd, rfl⟩⟩; refine ⟨_, rfl, ?_⟩) | ((with_reducible refine gate_callee (f := 18) rfl ?_); refine goesL_ (some 41) rfl rfl Try.func18 (by kernel_rfl) rfl #[.int .i64 a1, .int .i64 16] rfl (by (try simp only [List.map_toArray, List.map_cons, List.map_nil]); first | done | rfl | (simp only [List.length_drop, List.length_take]; rfl)) ?_; (with_reducible refine (ref09_Has.calls a1 16 false _ A28.out).mono ?_); rintro e w' ⟨rfl, ⟨nd, rfl⟩⟩; refine ⟨_, rfl, ?_⟩) | (go_at_call 18; (with_reducible refine (ref09_Has.calls a1 8 true _ A30.out).mono ?_); rintro e w' ⟨rfl, ⟨nd, rfl⟩⟩) | (go_at_call 51; (with_reducible refine (ref08_Rivals.calls kj5 _ _ l0 a3 a4 t283 _ ?side1 ?side2 A32.out).mono ?_); (case side1 => repeat (first | exact (Kd.C_below HR0.out (by repeat (first | (with_reducible first | exact HB.out | apply below_alloc | apply pw_below_drewN | apply below_drew1)))) | (with_reducible refine Kd.C_alloc ?_ _) | (with_reducible refine Kd.C_drewN ?_ _) | (with_reducible refine Kd.C_drew ?_))); (case side2 => exact HC0.out); rintro e w33 ⟨rfl, hb⟩; have n0_ := Aside0.mk (below_step (by repeat (first | (with_reducible first | exact HB.out | apply below_alloc | apply pw_below_drewN | apply below_drew1))) hb); clear HB; have HB := n0_; clear n0_; (try clear hb); (try clear hb2); (try clear hk); (try clear hi)))
       go_ret
       exact ⟨by first | rfl | (simp <;> rfl) | (simp [*] <;> rfl), by repeat (first | (with_reducible first | exact HB.out | apply below_alloc | apply pw_below_drewN | apply below_drew1))⟩
      ·replace c31 := Bool.eq_false_iff.mpr c31
       subst c31
       have H1 : (some false) = some r := by rw [if_neg (show ¬ (false = true) by decide)] at H; exact H
       clear H
       have H := H1
       clear H1
       obtain rfl := Option.some.inj H
       go_wp2_with (first | ((with_reducible refine gate_callee (f := 118) rfl ?_); refine goesL_ (some 38) rfl rfl Try.func118 (by kernel_rfl) rfl #[.slice A2 l2.length c2, .int .i64 a3, .int .i64 a4] rfl (by (try simp only [List.map_toArray, List.map_cons, List.map_nil]); first | done | rfl | (simp only [List.length_drop, List.length_take]; rfl)) ?_; (with_reducible refine (ref11_Ahead.calls kj5 _ _ l2 a3 a4 true _ ?side1 ?side2 A26.out).mono ?_); (case side1 => repeat (first | exact (Kd.C_below HR2.out HB.out) | (with_reducible refine Kd.C_alloc ?_ _) | (with_reducible refine Kd.C_drewN ?_ _) | (with_reducible refine Kd.C_drew ?_))); (case side2 => exact HC2.out); rintro e w' ⟨rfl, ⟨nd, rfl⟩⟩; refine ⟨_, rfl, ?_⟩) | ((with_reducible refine gate_callee (f := 18) rfl ?_); refine goesL_ (some 41) rfl rfl Try.func18 (by kernel_rfl) rfl #[.int .i64 a1, .int .i64 16] rfl (by (try simp only [List.map_toArray, List.map_cons, List.map_nil]); first | done | rfl | (simp only [List.length_drop, List.length_take]; rfl)) ?_; (with_reducible refine (ref09_Has.calls a1 16 false _ A28.out).mono ?_); rintro e w' ⟨rfl, ⟨nd, rfl⟩⟩; refine ⟨_, rfl, ?_⟩) | (go_at_call 18; (with_reducible refine (ref09_Has.calls a1 8 false _ A30.out).mono ?_); rintro e w' ⟨rfl, ⟨nd, rfl⟩⟩))
       go_ret
       exact ⟨by first | rfl | (simp <;> rfl) | (simp [*] <;> rfl), by repeat (first | (with_reducible first | exact HB.out | apply below_alloc | apply pw_below_drewN | apply below_drew1))⟩
    ·replace c27 := Bool.eq_false_iff.mpr c27
     subst c27
     have H1 : (some false) = some r := by rw [if_neg (show ¬ (false = true) by decide)] at H; exact H
     clear H
     have H := H1
     clear H1
     obtain rfl := Option.some.inj H
     go_wp2_with (first | ((with_reducible refine gate_callee (f := 118) rfl ?_); refine goesL_ (some 38) rfl rfl Try.func118 (by kernel_rfl) rfl #[.slice A2 l2.length c2, .int .i64 a3, .int .i64 a4] rfl (by (try simp only [List.map_toArray, List.map_cons, List.map_nil]); first | done | rfl | (simp only [List.length_drop, List.length_take]; rfl)) ?_; (with_reducible refine (ref11_Ahead.calls kj5 _ _ l2 a3 a4 false _ ?side1 ?side2 A26.out).mono ?_); (case side1 => repeat (first | exact (Kd.C_below HR2.out HB.out) | (with_reducible refine Kd.C_alloc ?_ _) | (with_reducible refine Kd.C_drewN ?_ _) | (with_reducible refine Kd.C_drew ?_))); (case side2 => exact HC2.out); rintro e w' ⟨rfl, ⟨nd, rfl⟩⟩; refine ⟨_, rfl, ?_⟩))
     go_ret
     exact ⟨by first | rfl | (simp <;> rfl) | (simp [*] <;> rfl), by repeat (first | (with_reducible first | exact HB.out | apply below_alloc | apply pw_below_drewN | apply below_drew1))⟩
def ref02_Has.l0 : Nat → List (S154) → Int → Int → Int → Option (Bool)
 | 0, _, _, _, _ => none
 | k + 1, x0, x1, x2, x7 => if x7 < (x0.length : Int) then (if 0 ≤ x7 then (if ((rd_T154 x0 x7).f0) = x1 then (if ((rd_T154 x0 x7).f1) = x2 then (some true) else (ref02_Has.l0 k x0 x1 x2 (wrap64 (x7 + 1)))) else (ref02_Has.l0 k x0 x1 x2 (wrap64 (x7 + 1)))) else (none)) else (some false)
def ref02_Has.f (k : Nat) (l0 : List (S154)) (a1 : Int) (a2 : Int) : Option (Bool) := ref02_Has.l0 k l0 a1 a2 0
theorem ref02_Has.mono_l : ∀ k, (∀ y0 y1 y2 y3, LeO (ref02_Has.l0 k y0 y1 y2 y3) (ref02_Has.l0 (k + 1) y0 y1 y2 y3))
 | 0 => fun _ _ _ _ r h => by simp [ref02_Has.l0] at h
 | k + 1 => by
  have ih0 := ref02_Has.mono_l k
  ·intro y0 y1 y2 y3
   unfold ref02_Has.l0
   repeat' first
   | (with_reducible exact ih0 _ _ _ _)
   | (with_reducible exact LeO.refl _)
   | (with_reducible exact LeO.none _)
   | (with_reducible refine LeO.ite ?_ ?_)
   | (with_reducible refine LeO.bind ?_ (fun _ => ?_))
   | exact ih0 _ _ _ _
   | exact LeO.none _
   | refine LeO.ite ?_ ?_
   | refine LeO.bind ?_ (fun _ => ?_)
theorem ref02_Has.mono : ∀ a0 a1 a2 k, LeO (ref02_Has.f k a0 a1 a2) (ref02_Has.f (k + 1) a0 a1 a2) := by
 intro a0 a1 a2 k
 have ih0 := ref02_Has.mono_l k
 unfold ref02_Has.f
 repeat' first
   | (with_reducible exact ih0 _ _ _ _)
   | (with_reducible exact LeO.refl _)
   | (with_reducible exact LeO.none _)
   | (with_reducible refine LeO.ite ?_ ?_)
   | (with_reducible refine LeO.bind ?_ (fun _ => ?_))
   | exact ih0 _ _ _ _
   | exact LeO.none _
   | refine LeO.ite ?_ ?_
   | refine LeO.bind ?_ (fun _ => ?_)
set_option maxHeartbeats 8000000 in
set_option maxRecDepth 100000 in
theorem ref02_Has.calls (k : Nat) (A0 : Option Addr) (c0 : Nat) (l0 : List (S154)) (a1 : Int) (a2 : Int) (r : Bool) (w : World) (hr0 : Kd.C k154 w A0 l0.length l0) (hc0 : l0.length ≤ c0) (h : ref02_Has.f k l0 a1 a2 = some r) :
  Calls Try.prog 113 #[.slice A0 l0.length c0, .int .i64 a1, .int .i64 a2] w fun e w' => e = .returned (.bool r) ∧ Drawn0 w w' := by
 have HR0 := Aside0.mk hr0
 have HC0 := Aside0.mk hc0
 clear hr0 hc0
 have H : (ref02_Has.l0 k l0 a1 a2 0) = some r := h
 clear h
 have H' := Aside0.mk H
 clear H
 go_enter Try.func113, Try.ntmps113
 go_wp2
 go_loopg [7] k (fun kq v7 w' => ∃ (x7_1 : Int), v7 = .int .i64 x7_1 ∧ Aside0 (ref02_Has.l0 kq l0 a1 a2 x7_1 = some r) ∧ Aside0 (kq ≤ k) ∧ Drawn0 w w')
 case atStart => exact ⟨(0), (by first | rfl | (simp; done) | (simp [*]; done)), H', ⟨Nat.le_refl _⟩, by repeat (first | exact Drawn0.refl _ | apply Drawn0.step)⟩
 case round =>
  clear H'
  try clear c1
  try clear p2
  obtain ⟨x7_1, rfl, HA, HK1, ⟨m1, rfl⟩⟩ := hrel
  cases gk with
  | zero => exact absurd HA.out (by simp [ref02_Has.l0])
  | succ k1 =>
   have H := HA.out
   clear HA
   simp only [ref02_Has.l0] at H
   by_cases c4 : x7_1 < (l0.length : Int)
   ·rw [if_pos c4] at H
    have c4b0 : decide (x7_1 < (l0.length : Int)) = true := decide_eq_true c4
    clear c4
    by_cases c5 : 0 ≤ x7_1
    ·rw [if_pos c5] at H
     have c5b0 : decide (0 ≤ x7_1) = true := decide_eq_true c5
     clear c5
     by_cases c6 : ((rd_T154 l0 x7_1).f0) = a1
     ·rw [if_pos c6] at H
      have c6b0 : (((rd_T154 l0 x7_1).f0) == a1) = true := beq_iff_eq.mpr c6
      have c6b1 : (((rd_T154 l0 x7_1).f0) != a1) = false := bne_eq_false_iff_eq.mpr c6
      clear c6
      by_cases c7 : ((rd_T154 l0 x7_1).f1) = a2
      ·rw [if_pos c7] at H
       have c7b0 : (((rd_T154 l0 x7_1).f1) == a2) = true := beq_iff_eq.mpr c7
       have c7b1 : (((rd_T154 l0 x7_1).f1) != a2) = false := bne_eq_false_iff_eq.mpr c7
       clear c7
       obtain rfl := Option.some.inj H
       have p284 : 0 ≤ (x7_1 : Int) := of_decide_eq_true (by assumption)
       have q284 : x7_1 < (l0.length : Int) := of_decide_eq_true (by assumption)
       obtain ⟨ad284, e284, hx284_0, hx284_1⟩ := at_T154 HR0.out x7_1 p284 q284
       cases e284
       replace p284 := eq_true p284
       replace q284 := eq_true q284
       have p285 : 0 ≤ (x7_1 : Int) := of_decide_eq_true (by assumption)
       have q285 : x7_1 < (l0.length : Int) := of_decide_eq_true (by assumption)
       obtain ⟨ad285, e285, hx285_0, hx285_1⟩ := at_T154 HR0.out x7_1 p285 q285
       obtain rfl : ad284 = ad285 := (by injection e285)
       replace p285 := eq_true p285
       replace q285 := eq_true q285
       go_wp2
       go_ret
       exact ⟨by first | rfl | (simp; done) | (simp [*]; done), by repeat (first | exact Drawn0.refl _ | apply Drawn0.step)⟩
      ·rw [if_neg c7] at H
       have c7b0 : (((rd_T154 l0 x7_1).f1) == a2) = false := beq_eq_false_iff_ne.mpr c7
       have c7b1 : (((rd_T154 l0 x7_1).f1) != a2) = true := bne_iff_ne.mpr c7
       have H' := Aside0.mk H
       clear H
       have p284 : 0 ≤ (x7_1 : Int) := of_decide_eq_true (by assumption)
       have q284 : x7_1 < (l0.length : Int) := of_decide_eq_true (by assumption)
       obtain ⟨ad284, e284, hx284_0, hx284_1⟩ := at_T154 HR0.out x7_1 p284 q284
       cases e284
       replace p284 := eq_true p284
       replace q284 := eq_true q284
       have p285 : 0 ≤ (x7_1 : Int) := of_decide_eq_true (by assumption)
       have q285 : x7_1 < (l0.length : Int) := of_decide_eq_true (by assumption)
       obtain ⟨ad285, e285, hx285_0, hx285_1⟩ := at_T154 HR0.out x7_1 p285 q285
       obtain rfl : ad284 = ad285 := (by injection e285)
       replace p285 := eq_true p285
       replace q285 := eq_true q285
       go_wp2
       go_roundg k1
       case measure => have := HK1.out; omega
       case rel => exact ⟨(wrap64 (x7_1 + 1)), (by first | rfl | (simp; done) | (simp [*]; done)), H', ⟨by have := HK1.out; omega⟩, by repeat (first | exact Drawn0.refl _ | apply Drawn0.step)⟩
     ·rw [if_neg c6] at H
      have c6b0 : (((rd_T154 l0 x7_1).f0) == a1) = false := beq_eq_false_iff_ne.mpr c6
      have c6b1 : (((rd_T154 l0 x7_1).f0) != a1) = true := bne_iff_ne.mpr c6
      have H' := Aside0.mk H
      clear H
      have p284 : 0 ≤ (x7_1 : Int) := of_decide_eq_true (by assumption)
      have q284 : x7_1 < (l0.length : Int) := of_decide_eq_true (by assumption)
      obtain ⟨ad284, e284, hx284_0, hx284_1⟩ := at_T154 HR0.out x7_1 p284 q284
      cases e284
      replace p284 := eq_true p284
      replace q284 := eq_true q284
      go_wp2
      go_roundg k1
      case measure => have := HK1.out; omega
      case rel => exact ⟨(wrap64 (x7_1 + 1)), (by first | rfl | (simp; done) | (simp [*]; done)), H', ⟨by have := HK1.out; omega⟩, by repeat (first | exact Drawn0.refl _ | apply Drawn0.step)⟩
    ·rw [if_neg c5] at H
     exact absurd H (by simp)
   ·rw [if_neg c4] at H
    have c4b0 : decide (x7_1 < (l0.length : Int)) = false := decide_eq_false c4
    clear c4
    obtain rfl := Option.some.inj H
    go_wp2
    go_ret
    exact ⟨by first | rfl | (simp; done) | (simp [*]; done), by repeat (first | exact Drawn0.refl _ | apply Drawn0.step)⟩
def ref02_Put.f (k : Nat) (l0 : List (S154)) (a1 : Int) (a2 : Int) : Option ((List (S154))) := (ref02_Has.f k l0 a1 a2).bind fun t286 => (if t286 = true then (some l0) else ((some (([] : List (S154)) : List (S154))).bind fun y287 => (if y287.length + l0.length < 8796093022208 then ((some (y287 ++ l0 : List (S154))).bind fun y290 => (if y290.length < 8796093022208 then (some (y290 ++ [(⟨a1, a2⟩ : S154)])) else (none))) else (none))))
theorem ref02_Put.mono : ∀ a0 a1 a2 k, LeO (ref02_Put.f k a0 a1 a2) (ref02_Put.f (k + 1) a0 a1 a2) := by
 intro a0 a1 a2 k
 unfold ref02_Put.f
 repeat' first
   | (with_reducible exact ref02_Has.mono _ _ _ _)
   | (with_reducible exact LeO.refl _)
   | (with_reducible exact LeO.none _)
   | (with_reducible refine LeO.ite ?_ ?_)
   | (with_reducible refine LeO.bind ?_ (fun _ => ?_))
   | exact ref02_Has.mono _ _ _ _
   | exact LeO.none _
   | refine LeO.ite ?_ ?_
   | refine LeO.bind ?_ (fun _ => ?_)
set_option maxHeartbeats 8000000 in
set_option maxRecDepth 100000 in
theorem ref02_Put.calls (k : Nat) (P0_ : Nat → Prop) (u9000_ : Value) (l0 : List (S154)) (a1 : Int) (a2 : Int) (r : List (S154)) (w0 w : World) (hB : Below w0.heap.size w0 w) (ho0 : Kd.R k154 154 w w0.heap.size P0_ u9000_ l0) (h : ref02_Put.f k l0 a1 a2 = some r) :
  Calls Try.prog 112 #[u9000_, .int .i64 a1, .int .i64 a2] w fun e w' => ∃ v0_ : Value, e = .returned (v0_) ∧ Kd.R k154 154 w' w0.heap.size (fun k_ => (P0_ k_ ∨ w.heap.size ≤ k_)) v0_ r ∧ Below w0.heap.size w0 w' ∧ Kept w w' (fun k_ => P0_ k_) := by
 have hu154 := Try.underlying154
 have HO0 := Aside0.mk (show Kd.R k154 154 w w0.heap.size (fun k_ => (P0_ k_ ∨ w.heap.size ≤ k_)) u9000_ l0 from Kd.R_mono ho0 (fun k_ hk => (.inl hk)))
 have HK := Aside0.mk (Kept.refl w (fun k_ => P0_ k_))
 have HW0 := Aside0.mk hB.size
 have HB := Aside0.mk hB
 clear hB
 have H : ((ref02_Has.f k l0 a1 a2).bind fun t286 => (if t286 = true then (some l0) else ((some (([] : List (S154)) : List (S154))).bind fun y287 => (if y287.length + l0.length < 8796093022208 then ((some (y287 ++ l0 : List (S154))).bind fun y290 => (if y290.length < 8796093022208 then (some (y290 ++ [(⟨a1, a2⟩ : S154)])) else (none))) else (none))))) = some r := h
 clear h
 replace H := Option.bind_eq_some_iff.mp H
 obtain ⟨t286, A40, H⟩ := H
 replace H : (if t286 = true then (some l0) else ((some (([] : List (S154)) : List (S154))).bind fun y287 => (if y287.length + l0.length < 8796093022208 then ((some (y287 ++ l0 : List (S154))).bind fun y290 => (if y290.length < 8796093022208 then (some (y290 ++ [(⟨a1, a2⟩ : S154)])) else (none))) else (none)))) = some r := H
 have A4 := Aside0.mk A40
 clear A40
 by_cases c5 : t286 = true
 ·subst c5
  have H1 : (some l0) = some r := by rw [if_pos rfl] at H; exact H
  clear H
  have H := H1
  clear H1
  obtain rfl := Option.some.inj H
  obtain ⟨Ao6, co6, eo6⟩ := Kd.R_slice HO0.out
  subst eo6
  go_enter Try.func112, Try.ntmps112
  go_wp2_with (first | ((with_reducible refine gate_callee (f := 113) rfl ?_); refine goesL_ (some 10) rfl rfl Try.func113 (by kernel_rfl) rfl #[.slice Ao6 l0.length co6, .int .i64 a1, .int .i64 a2] rfl (by (try simp only [List.map_toArray, List.map_cons, List.map_nil]); first | done | rfl | (simp only [List.length_drop, List.length_take]; rfl)) ?_; (with_reducible refine (ref02_Has.calls k _ _ l0 a1 a2 true _ ?side1 ?side2 A4.out).mono ?_); (case side1 => repeat (first | exact (Kd.R_reads' HO0.out).2.2 | (with_reducible refine Kd.C_alloc ?_ _) | (with_reducible refine Kd.C_drewN ?_ _) | (with_reducible refine Kd.C_drew ?_))); (case side2 => exact (Kd.R_reads' HO0.out).2.1); rintro e w' ⟨rfl, ⟨nd, rfl⟩⟩; refine ⟨_, rfl, ?_⟩))
  go_ret
  exact ⟨_, by first | rfl | (simp <;> rfl) | (simp [*] <;> rfl), by (with_reducible repeat (first | apply Kd.R_alloc | apply Kd.R_drewN | apply Kd.R_drew)); exact HO0.out, by repeat (first | (with_reducible first | exact HB.out | apply below_alloc | apply pw_below_drewN | apply below_drew1)), by repeat (first | (with_reducible first | exact HK.out | apply Kept.alloc | apply Kept.drewN | apply Kept.drew) | exact HK.out)⟩
 ·replace c5 := Bool.eq_false_iff.mpr c5
  subst c5
  have H1 : ((some (([] : List (S154)) : List (S154))).bind fun y287 => (if y287.length + l0.length < 8796093022208 then ((some (y287 ++ l0 : List (S154))).bind fun y290 => (if y290.length < 8796093022208 then (some (y290 ++ [(⟨a1, a2⟩ : S154)])) else (none))) else (none))) = some r := by rw [if_neg (show ¬ (false = true) by decide)] at H; exact H
  clear H
  have H := H1
  clear H1
  obtain ⟨y287, hy287⟩ : ∃ y_ : List (S154), y_ = (([] : List (S154))) := ⟨_, rfl⟩
  replace H : (if y287.length + l0.length < 8796093022208 then ((some (y287 ++ l0 : List (S154))).bind fun y290 => (if y290.length < 8796093022208 then (some (y290 ++ [(⟨a1, a2⟩ : S154)])) else (none))) else (none)) = some r := by first | (rw [hy287]; with_reducible exact H) | (have H2_ := (Option.bind_some _ _).symm.trans H; rw [hy287]; with_reducible exact H2_) | (have H2_ := (Option.bind_some _ _).symm.trans H; with_reducible exact H2_) | with_reducible exact H | (rw [hy287]; exact H) | exact H
  have Ny287 := Aside0.mk hy287
  clear hy287
  by_cases c7 : y287.length + l0.length < 8796093022208
  ·rw [if_pos c7] at H
   have LMc7 := Aside0.mk c7
   clear c7
   obtain ⟨y290, hy290⟩ : ∃ y_ : List (S154), y_ = (y287 ++ l0) := ⟨_, rfl⟩
   replace H : (if y290.length < 8796093022208 then (some (y290 ++ [(⟨a1, a2⟩ : S154)])) else (none)) = some r := by first | (rw [hy290]; with_reducible exact H) | (have H2_ := (Option.bind_some _ _).symm.trans H; rw [hy290]; with_reducible exact H2_) | (have H2_ := (Option.bind_some _ _).symm.trans H; with_reducible exact H2_) | with_reducible exact H | (rw [hy290]; exact H) | exact H
   have Ny290 := Aside0.mk hy290
   clear hy290
   by_cases c8 : y290.length < 8796093022208
   ·rw [if_pos c8] at H
    have LMc8 := Aside0.mk c8
    clear c8
    obtain ⟨y293, hy293⟩ : ∃ y_ : List (S154), y_ = (y290 ++ [(⟨a1, a2⟩ : S154)]) := ⟨_, rfl⟩
    replace H : (some y293) = some r := by first | (rw [hy293]; with_reducible exact H) | (have H2_ := (Option.bind_some _ _).symm.trans H; rw [hy293]; with_reducible exact H2_) | (have H2_ := (Option.bind_some _ _).symm.trans H; with_reducible exact H2_) | with_reducible exact H | (rw [hy293]; exact H) | exact H
    have Ny293 := Aside0.mk hy293
    clear hy293
    obtain rfl := Option.some.inj H
    obtain ⟨Ao9, co9, eo9⟩ := Kd.R_slice HO0.out
    subst eo9
    go_enter Try.func112, Try.ntmps112
    go_wp2_with (first | ((with_reducible refine gate_callee (f := 113) rfl ?_); refine goesL_ (some 10) rfl rfl Try.func113 (by kernel_rfl) rfl #[.slice Ao9 l0.length co9, .int .i64 a1, .int .i64 a2] rfl (by (try simp only [List.map_toArray, List.map_cons, List.map_nil]); first | done | rfl | (simp only [List.length_drop, List.length_take]; rfl)) ?_; (with_reducible refine (ref02_Has.calls k _ _ l0 a1 a2 false _ ?side1 ?side2 A4.out).mono ?_); (case side1 => repeat (first | exact (Kd.R_reads' HO0.out).2.2 | (with_reducible refine Kd.C_alloc ?_ _) | (with_reducible refine Kd.C_drewN ?_ _) | (with_reducible refine Kd.C_drew ?_))); (case side2 => exact (Kd.R_reads' HO0.out).2.1); rintro e w' ⟨rfl, ⟨nd, rfl⟩⟩; refine ⟨_, rfl, ?_⟩) | ((with_reducible refine gate_dst (N := 12) rfl ?_); refine Kd.R_lit k154 _ 154 ?hg (N := 12) ?hd (xs := ([] : List (S154))) (inner := []) (ok := fun _ => True) (okp := fun _ => True) ?hr ?hp (fun _ hk => hk) trivial (Below.refl _ _) (Nat.le_refl _) (by simp) ?_; (case hd => rfl); (case hg => rfl); (case hr => first | (go_simp; done) | (go_simp; rfl)); (case hp => exact (Reps.none _ _)); intro v288 w10 ho11 hb hg_ hnew_; clear hg_ hnew_; (first | rw [← Ny287.out] at ho11 | (simp only [Int.reduceToNat] at ho11; rw [← Ny287.out] at ho11)); have n0_ := Aside0.mk (Kd.R_elder' (by (with_reducible repeat (first | apply Kd.R_alloc | apply Kd.R_drewN | apply Kd.R_drew)); exact HO0.out) (Kd.R_base ho11) hb); have n1_ := Aside0.mk (Kd.R_lower (Kd.R_new' (Kd.R_newM (M := fun k_ => (P0_ k_ ∨ w.heap.size ≤ k_)) ho11 (by first | exact HK.out.1 | exact (show Kept w _ (fun k_ => P0_ k_) from by repeat (first | (with_reducible first | exact HK.out | apply Kept.alloc | apply Kept.drewN | apply Kept.drew) | exact HK.out)).1) (fun k_ h_ => .inr h_)) (Kd.R_lt (by (with_reducible repeat (first | apply Kd.R_alloc | apply Kd.R_drewN | apply Kd.R_drew)); exact HO0.out))) (below_size (by repeat (first | (with_reducible first | exact HB.out | apply below_alloc | apply pw_below_drewN | apply below_drew1))))); have n2_ := Aside0.mk (Kept.below (S := (fun k_ => P0_ k_)) (by repeat (first | (with_reducible first | exact HK.out | apply Kept.alloc | apply Kept.drewN | apply Kept.drew) | exact HK.out)) hb); have n3_ := Aside0.mk (below_step (by repeat (first | (with_reducible first | exact HB.out | apply below_alloc | apply pw_below_drewN | apply below_drew1))) hb); clear HO0; clear HK; clear HB; have HO0 := n0_; have HO289 := n1_; have HK := n2_; have HB := n3_; clear n0_ n1_ n2_ n3_; clear hb ho11) | ((with_reducible refine gate_builtin (b := .append) (xs := #[.tmp 12, .tmp 13]) rfl ?_); at_builtin; refine Kd.R_append_rows k154 (w0 := w0) w0.heap.size rfl (.tmp 12) (.tmp 13) 123 154 (.agg #[(.int .i64 0), (.int .i64 0)]) 16 rfl Try.underlying123 info154 rfl (by decide) (by omega) v288 y287 l0 _ _ _ (fun k_ => (P0_ k_ ∨ w.heap.size ≤ k_) ∧ some k_ ≠ (.slice Ao9 l0.length co9 : Value).ownBlock) (fun _ => False) rfl rfl ?aO ?aR (fun _ _ h => h) (fun _ h => h.elim) ?aF ?aB ?aS ?aL ?_; (case aR => repeat (first | exact (Kd.R_reads' HO0.out).2.2 | (with_reducible refine Kd.C_alloc ?_ _) | (with_reducible refine Kd.C_drewN ?_ _) | (with_reducible refine Kd.C_drew ?_))); (case aB => exact (by repeat (first | (with_reducible first | exact HB.out | apply below_alloc | apply pw_below_drewN | apply below_drew1)))); (case aF => exact (fun k_ hk => ⟨(.inr (Nat.le_trans (by first | exact HK.out.1 | exact (show Kept w _ (fun k_ => P0_ k_) from by repeat (first | (with_reducible first | exact HK.out | apply Kept.alloc | apply Kept.drewN | apply Kept.drew) | exact HK.out)).1) hk)), Kd.fresh' (Kd.R_lt (by (with_reducible repeat (first | apply Kd.R_alloc | apply Kd.R_drewN | apply Kd.R_drew)); exact HO0.out)) k_ hk⟩)); (case aO => exact (by (with_reducible repeat (first | apply Kd.R_alloc | apply Kd.R_drewN | apply Kd.R_drew)); exact Kd.R_mono HO289.out (fun _ hk => ⟨hk.1.1, hk.2⟩))); (case aS => exact (below_size (by repeat (first | (with_reducible first | exact HB.out | apply below_alloc | apply pw_below_drewN | apply below_drew1))))); (case aL => have := LMc7.out; omega); intro v291 w12 ho hb hg hat; rw [← Ny290.out] at ho; have n0_ := Aside0.mk (Kd.R_after (ok := (fun k_ => (P0_ k_ ∨ w.heap.size ≤ k_))) (by (with_reducible repeat (first | apply Kd.R_alloc | apply Kd.R_drewN | apply Kd.R_drew)); exact HO0.out) hg hat); have n1_ := Aside0.mk (hb); have n2_ := Aside0.mk (Kept.of_grown (S := (fun k_ => P0_ k_)) hg (by repeat (first | (with_reducible first | exact HK.out | apply Kept.alloc | apply Kept.drewN | apply Kept.drew) | exact HK.out)) (fun k_ e_ => (HO289.out.1 k_ e_).1.1)); have n3_ := Aside0.mk (ho); clear HO0; clear HB; clear HK; clear HO289; have HO0 := n0_; have HB := n1_; have HK := n2_; have HO292 := n3_; clear n0_ n1_ n2_ n3_; clear ho hb hg hat) | ((with_reducible refine gate_builtin (b := .append) (xs := #[.tmp 14, .tmp 18]) rfl ?_); at_builtin; refine Kd.R_append k154 (w0 := w0) w0.heap.size rfl (.tmp 14) (.tmp 18) 123 154 (.agg #[(.int .i64 0), (.int .i64 0)]) 16 rfl Try.underlying123 info154 rfl (by decide) (by omega) v291 y290 (⟨a1, a2⟩ : S154) [.int .i64 a1, .int .i64 a2] (fun k_ => (P0_ k_ ∨ w.heap.size ≤ k_) ∧ some k_ ≠ (.slice Ao9 l0.length co9 : Value).ownBlock) (fun _ => False) rfl rfl ?aP (fun _ hk => hk.elim) ?aF ?aO ?aB ?aS ?aL ?_; (case aP => exact k154_mkM _ _ _ (⟨a1, a2⟩ : S154)); (case aB => exact (by repeat (first | (with_reducible first | exact HB.out | apply below_alloc | apply pw_below_drewN | apply below_drew1)))); (case aF => exact (fun k_ hk => ⟨(.inr (Nat.le_trans (by first | exact HK.out.1 | exact (show Kept w _ (fun k_ => P0_ k_) from by repeat (first | (with_reducible first | exact HK.out | apply Kept.alloc | apply Kept.drewN | apply Kept.drew) | exact HK.out)).1) hk)), Kd.fresh' (Kd.R_lt (by (with_reducible repeat (first | apply Kd.R_alloc | apply Kd.R_drewN | apply Kd.R_drew)); exact HO0.out)) k_ hk⟩)); (case aO => exact (by (with_reducible repeat (first | apply Kd.R_alloc | apply Kd.R_drewN | apply Kd.R_drew)); exact HO292.out)); (case aS => exact (below_size (by repeat (first | (with_reducible first | exact HB.out | apply below_alloc | apply pw_below_drewN | apply below_drew1))))); (case aL => have := LMc8.out; omega); intro v294 w13 ho hb hg hat; rw [← Ny293.out] at ho; have n0_ := Aside0.mk (Kd.R_after (ok := (fun k_ => (P0_ k_ ∨ w.heap.size ≤ k_))) (by (with_reducible repeat (first | apply Kd.R_alloc | apply Kd.R_drewN | apply Kd.R_drew)); exact HO0.out) hg hat); have n1_ := Aside0.mk (hb); have n2_ := Aside0.mk (Kept.of_grown (S := (fun k_ => P0_ k_)) hg (by repeat (first | (with_reducible first | exact HK.out | apply Kept.alloc | apply Kept.drewN | apply Kept.drew) | exact HK.out)) (fun k_ e_ => (HO292.out.1 k_ e_).1)); have n3_ := Aside0.mk (ho); clear HO0; clear HB; clear HK; clear HO292; have HO0 := n0_; have HB := n1_; have HK := n2_; have HO295 := n3_; clear n0_ n1_ n2_ n3_; clear ho hb hg hat))
    go_ret
    exact ⟨_, by first | rfl | (simp <;> rfl) | (simp [*] <;> rfl), by (with_reducible repeat (first | apply Kd.R_alloc | apply Kd.R_drewN | apply Kd.R_drew)); exact Kd.R_mono HO295.out (fun _ hk => hk.1), by repeat (first | (with_reducible first | exact HB.out | apply below_alloc | apply pw_below_drewN | apply below_drew1)), by repeat (first | (with_reducible first | exact HK.out | apply Kept.alloc | apply Kept.drewN | apply Kept.drew) | exact HK.out)⟩
   ·rw [if_neg c8] at H
    exact absurd H (by simp)
  ·rw [if_neg c7] at H
   exact absurd H (by simp)
end Go.Proofs.Ytfocaefnmfkojaa.Q
namespace Go.Proofs.Ytfocaefnmfkojaa.Q
open Go.RowKit Go.Proofs.YtfocaefnmfkojaaW.PrintWords Go.Proofs.YtfocaefnmfkojaaW.PrintLast Go.Proofs.YtfocaefnmfkojaaW.PrintMore
attribute [local go_sem] max2_int min2_int max_two min_two max_three min_three max_four min_four   -- for this text's walks alone
set_option linter.unusedVariables false
set_option linter.unusedSimpArgs false
def ref11_follows.l0 : Nat → List (S154) → Int → Int → List Int → Int → Int → Int → Option (Bool)
 | 0, _, _, _, _, _, _, _ => none
 | k + 1, x0, x1, x2, x3, x4, x5, x13 => if x13 < x1 then ((ref02_Has.f k x0 x13 x5).bind fun t296 => (if t296 = true then ((ref09_Has.f x2 2).bind fun t297 => (if t297 = true then ((ref02_Has.f k x0 x4 x13).bind fun t298 => (if t298 = true then (some true) else ((ref09_Has.f x2 4).bind fun t299 => (if t299 = true then ((ref11_Ahead.f k x3 x4 x13).bind fun t300 => (if t300 = true then (some true) else (ref11_follows.l0 k x0 x1 x2 x3 x4 x5 (wrap64 (x13 + 1))))) else (ref11_follows.l0 k x0 x1 x2 x3 x4 x5 (wrap64 (x13 + 1))))))) else ((ref09_Has.f x2 4).bind fun t301 => (if t301 = true then ((ref11_Ahead.f k x3 x4 x13).bind fun t302 => (if t302 = true then (some true) else (ref11_follows.l0 k x0 x1 x2 x3 x4 x5 (wrap64 (x13 + 1))))) else (ref11_follows.l0 k x0 x1 x2 x3 x4 x5 (wrap64 (x13 + 1))))))) else (ref11_follows.l0 k x0 x1 x2 x3 x4 x5 (wrap64 (x13 + 1))))) else (some false)
def ref11_follows.f (k : Nat) (l0 : List (S154)) (a1 : Int) (a2 : Int) (l3 : List Int) (a4 : Int) (a5 : Int) : Option (Bool) := ref11_follows.l0 k l0 a1 a2 l3 a4 a5 0
theorem ref11_follows.mono_l : ∀ k, (∀ y0 y1 y2 y3 y4 y5 y6, LeO (ref11_follows.l0 k y0 y1 y2 y3 y4 y5 y6) (ref11_follows.l0 (k + 1) y0 y1 y2 y3 y4 y5 y6))
 | 0 => fun _ _ _ _ _ _ _ r h => by simp [ref11_follows.l0] at h
 | k + 1 => by
  have ih0 := ref11_follows.mono_l k
  ·intro y0 y1 y2 y3 y4 y5 y6
   unfold ref11_follows.l0
   repeat' first
   | (with_reducible exact ih0 _ _ _ _ _ _ _)
   | (with_reducible exact ref02_Has.mono _ _ _ _)
   | (with_reducible exact ref11_Ahead.mono _ _ _ _)
   | (with_reducible exact LeO.refl _)
   | (with_reducible exact LeO.none _)
   | (with_reducible refine LeO.ite ?_ ?_)
   | (with_reducible refine LeO.bind ?_ (fun _ => ?_))
   | exact ih0 _ _ _ _ _ _ _
   | exact ref02_Has.mono _ _ _ _
   | exact ref11_Ahead.mono _ _ _ _
   | exact LeO.none _
   | refine LeO.ite ?_ ?_
   | refine LeO.bind ?_ (fun _ => ?_)
theorem ref11_follows.mono : ∀ a0 a1 a2 a3 a4 a5 k, LeO (ref11_follows.f k a0 a1 a2 a3 a4 a5) (ref11_follows.f (k + 1) a0 a1 a2 a3 a4 a5) := by
 intro a0 a1 a2 a3 a4 a5 k
 have ih0 := ref11_follows.mono_l k
 unfold ref11_follows.f
 repeat' first
   | (with_reducible exact ih0 _ _ _ _ _ _ _)
   | (with_reducible exact ref02_Has.mono _ _ _ _)
   | (with_reducible exact ref11_Ahead.mono _ _ _ _)
   | (with_reducible exact LeO.refl _)
   | (with_reducible exact LeO.none _)
   | (with_reducible refine LeO.ite ?_ ?_)
   | (with_reducible refine LeO.bind ?_ (fun _ => ?_))
   | exact ih0 _ _ _ _ _ _ _
   | exact ref02_Has.mono _ _ _ _
   | exact ref11_Ahead.mono _ _ _ _
   | exact LeO.none _
   | refine LeO.ite ?_ ?_
   | refine LeO.bind ?_ (fun _ => ?_)
set_option maxHeartbeats 8000000 in
set_option maxRecDepth 100000 in
theorem ref11_follows.calls (k : Nat) (A0 : Option Addr) (c0 : Nat) (l0 : List (S154)) (a1 : Int) (a2 : Int) (A3 : Option Addr) (c3 : Nat) (l3 : List Int) (a4 : Int) (a5 : Int) (r : Bool) (w : World) (hr0 : Kd.C k154 w A0 l0.length l0) (hc0 : l0.length ≤ c0) (hr3 : Kd.C (Kd.int .i64) w A3 l3.length l3) (hc3 : l3.length ≤ c3) (h : ref11_follows.f k l0 a1 a2 l3 a4 a5 = some r) :
  Calls Try.prog 114 #[.slice A0 l0.length c0, .int .i64 a1, .int .i64 a2, .slice A3 l3.length c3, .int .i64 a4, .int .i64 a5] w fun e w' => e = .returned (.bool r) ∧ Drawn0 w w' := by
 have HR0 := Aside0.mk hr0
 have HC0 := Aside0.mk hc0
 clear hr0 hc0
 have HR3 := Aside0.mk hr3
 have HC3 := Aside0.mk hc3
 clear hr3 hc3
 have H : (ref11_follows.l0 k l0 a1 a2 l3 a4 a5 0) = some r := h
 clear h
 have H' := Aside0.mk H
 clear H
 go_enter Try.func114, Try.ntmps114
 go_wp2
 go_loopg [13] k (fun kq v13 w' => ∃ (x13_1 : Int), v13 = .int .i64 x13_1 ∧ Aside0 (ref11_follows.l0 kq l0 a1 a2 l3 a4 a5 x13_1 = some r) ∧ Aside0 (kq ≤ k) ∧ Drawn0 w w')
 case atStart => exact ⟨(0), (by first | rfl | (simp; done) | (simp [*]; done)), H', ⟨Nat.le_refl _⟩, by repeat (first | exact Drawn0.refl _ | apply Drawn0.step)⟩
 case round =>
  clear H'
  try clear c1
  try clear p2
  try clear c3
  obtain ⟨x13_1, rfl, HA, HK1, ⟨m1, rfl⟩⟩ := hrel
  cases gk with
  | zero => exact absurd HA.out (by simp [ref11_follows.l0])
  | succ k1 =>
   have H := HA.out
   clear HA
   simp only [ref11_follows.l0] at H
   by_cases c7 : x13_1 < a1
   ·rw [if_pos c7] at H
    have c7b0 : decide (x13_1 < a1) = true := decide_eq_true c7
    clear c7
    replace H := Option.bind_eq_some_iff.mp H
    obtain ⟨t296, A80, H⟩ := H
    replace H : (if t296 = true then ((ref09_Has.f a2 2).bind fun t297 => (if t297 = true then ((ref02_Has.f k1 l0 a4 x13_1).bind fun t298 => (if t298 = true then (some true) else ((ref09_Has.f a2 4).bind fun t299 => (if t299 = true then ((ref11_Ahead.f k1 l3 a4 x13_1).bind fun t300 => (if t300 = true then (some true) else (ref11_follows.l0 k1 l0 a1 a2 l3 a4 a5 (wrap64 (x13_1 + 1))))) else (ref11_follows.l0 k1 l0 a1 a2 l3 a4 a5 (wrap64 (x13_1 + 1))))))) else ((ref09_Has.f a2 4).bind fun t301 => (if t301 = true then ((ref11_Ahead.f k1 l3 a4 x13_1).bind fun t302 => (if t302 = true then (some true) else (ref11_follows.l0 k1 l0 a1 a2 l3 a4 a5 (wrap64 (x13_1 + 1))))) else (ref11_follows.l0 k1 l0 a1 a2 l3 a4 a5 (wrap64 (x13_1 + 1))))))) else (ref11_follows.l0 k1 l0 a1 a2 l3 a4 a5 (wrap64 (x13_1 + 1)))) = some r := H
    have A8 := Aside0.mk A80
    clear A80
    by_cases c9 : t296 = true
    ·subst c9
     have H1 : ((ref09_Has.f a2 2).bind fun t297 => (if t297 = true then ((ref02_Has.f k1 l0 a4 x13_1).bind fun t298 => (if t298 = true then (some true) else ((ref09_Has.f a2 4).bind fun t299 => (if t299 = true then ((ref11_Ahead.f k1 l3 a4 x13_1).bind fun t300 => (if t300 = true then (some true) else (ref11_follows.l0 k1 l0 a1 a2 l3 a4 a5 (wrap64 (x13_1 + 1))))) else (ref11_follows.l0 k1 l0 a1 a2 l3 a4 a5 (wrap64 (x13_1 + 1))))))) else ((ref09_Has.f a2 4).bind fun t301 => (if t301 = true then ((ref11_Ahead.f k1 l3 a4 x13_1).bind fun t302 => (if t302 = true then (some true) else (ref11_follows.l0 k1 l0 a1 a2 l3 a4 a5 (wrap64 (x13_1 + 1))))) else (ref11_follows.l0 k1 l0 a1 a2 l3 a4 a5 (wrap64 (x13_1 + 1))))))) = some r := by rw [if_pos rfl] at H; exact H
     clear H
     have H := H1
     clear H1
     replace H := Option.bind_eq_some_iff.mp H
     obtain ⟨t297, A100, H⟩ := H
     replace H : (if t297 = true then ((ref02_Has.f k1 l0 a4 x13_1).bind fun t298 => (if t298 = true then (some true) else ((ref09_Has.f a2 4).bind fun t299 => (if t299 = true then ((ref11_Ahead.f k1 l3 a4 x13_1).bind fun t300 => (if t300 = true then (some true) else (ref11_follows.l0 k1 l0 a1 a2 l3 a4 a5 (wrap64 (x13_1 + 1))))) else (ref11_follows.l0 k1 l0 a1 a2 l3 a4 a5 (wrap64 (x13_1 + 1))))))) else ((ref09_Has.f a2 4).bind fun t301 => (if t301 = true then ((ref11_Ahead.f k1 l3 a4 x13_1).bind fun t302 => (if t302 = true then (some true) else (ref11_follows.l0 k1 l0 a1 a2 l3 a4 a5 (wrap64 (x13_1 + 1))))) else (ref11_follows.l0 k1 l0 a1 a2 l3 a4 a5 (wrap64 (x13_1 + 1)))))) = some r := H
     have A10 := Aside0.mk A100
     clear A100
     by_cases c11 : t297 = true
     ·subst c11
      have H1 : ((ref02_Has.f k1 l0 a4 x13_1).bind fun t298 => (if t298 = true then (some true) else ((ref09_Has.f a2 4).bind fun t299 => (if t299 = true then ((ref11_Ahead.f k1 l3 a4 x13_1).bind fun t300 => (if t300 = true then (some true) else (ref11_follows.l0 k1 l0 a1 a2 l3 a4 a5 (wrap64 (x13_1 + 1))))) else (ref11_follows.l0 k1 l0 a1 a2 l3 a4 a5 (wrap64 (x13_1 + 1))))))) = some r := by rw [if_pos rfl] at H; exact H
      clear H
      have H := H1
      clear H1
      replace H := Option.bind_eq_some_iff.mp H
      obtain ⟨t298, A120, H⟩ := H
      replace H : (if t298 = true then (some true) else ((ref09_Has.f a2 4).bind fun t299 => (if t299 = true then ((ref11_Ahead.f k1 l3 a4 x13_1).bind fun t300 => (if t300 = true then (some true) else (ref11_follows.l0 k1 l0 a1 a2 l3 a4 a5 (wrap64 (x13_1 + 1))))) else (ref11_follows.l0 k1 l0 a1 a2 l3 a4 a5 (wrap64 (x13_1 + 1)))))) = some r := H
      have A12 := Aside0.mk A120
      clear A120
      by_cases c13 : t298 = true
      ·subst c13
       have H1 : (some true) = some r := by rw [if_pos rfl] at H; exact H
       clear H
       have H := H1
       clear H1
       obtain rfl := Option.some.inj H
       go_wp2_with (first | ((with_reducible refine gate_callee (f := 113) rfl ?_); refine goesL_ (some 22) rfl rfl Try.func113 (by kernel_rfl) rfl #[.slice A0 l0.length c0, .int .i64 x13_1, .int .i64 a5] rfl (by (try simp only [List.map_toArray, List.map_cons, List.map_nil]); first | done | rfl | (simp only [List.length_drop, List.length_take]; rfl)) ?_; (with_reducible refine (ref02_Has.calls k1 _ _ l0 x13_1 a5 true _ ?side1 ?side2 A8.out).mono ?_); (case side1 => repeat (first | exact HR0.out | (with_reducible refine Kd.C_alloc ?_ _) | (with_reducible refine Kd.C_drewN ?_ _) | (with_reducible refine Kd.C_drew ?_))); (case side2 => exact HC0.out); rintro e w' ⟨rfl, ⟨nd, rfl⟩⟩; refine ⟨_, rfl, ?_⟩) | ((with_reducible refine gate_callee (f := 18) rfl ?_); refine goesL_ (some 24) rfl rfl Try.func18 (by kernel_rfl) rfl #[.int .i64 a2, .int .i64 2] rfl (by (try simp only [List.map_toArray, List.map_cons, List.map_nil]); first | done | rfl | (simp only [List.length_drop, List.length_take]; rfl)) ?_; (with_reducible refine (ref09_Has.calls a2 2 true _ A10.out).mono ?_); rintro e w' ⟨rfl, ⟨nd, rfl⟩⟩; refine ⟨_, rfl, ?_⟩) | (go_at_call 113; (with_reducible refine (ref02_Has.calls k1 _ _ l0 a4 x13_1 true _ ?side1 ?side2 A12.out).mono ?_); (case side1 => repeat (first | exact HR0.out | (with_reducible refine Kd.C_alloc ?_ _) | (with_reducible refine Kd.C_drewN ?_ _) | (with_reducible refine Kd.C_drew ?_))); (case side2 => exact HC0.out); rintro e w' ⟨rfl, ⟨nd, rfl⟩⟩))
       go_ret
       exact ⟨by first | rfl | (simp; done) | (simp [*]; done), by repeat (first | exact Drawn0.refl _ | apply Drawn0.step)⟩
      ·replace c13 := Bool.eq_false_iff.mpr c13
       subst c13
       have H1 : ((ref09_Has.f a2 4).bind fun t299 => (if t299 = true then ((ref11_Ahead.f k1 l3 a4 x13_1).bind fun t300 => (if t300 = true then (some true) else (ref11_follows.l0 k1 l0 a1 a2 l3 a4 a5 (wrap64 (x13_1 + 1))))) else (ref11_follows.l0 k1 l0 a1 a2 l3 a4 a5 (wrap64 (x13_1 + 1))))) = some r := by rw [if_neg (show ¬ (false = true) by decide)] at H; exact H
       clear H
       have H := H1
       clear H1
       replace H := Option.bind_eq_some_iff.mp H
       obtain ⟨t299, A140, H⟩ := H
       replace H : (if t299 = true then ((ref11_Ahead.f k1 l3 a4 x13_1).bind fun t300 => (if t300 = true then (some true) else (ref11_follows.l0 k1 l0 a1 a2 l3 a4 a5 (wrap64 (x13_1 + 1))))) else (ref11_follows.l0 k1 l0 a1 a2 l3 a4 a5 (wrap64 (x13_1 + 1)))) = some r := H
       have A14 := Aside0.mk A140
       clear A140
       by_cases c15 : t299 = true
       ·subst c15
        have H1 : ((ref11_Ahead.f k1 l3 a4 x13_1).bind fun t300 => (if t300 = true then (some true) else (ref11_follows.l0 k1 l0 a1 a2 l3 a4 a5 (wrap64 (x13_1 + 1))))) = some r := by rw [if_pos rfl] at H; exact H
        clear H
        have H := H1
        clear H1
        replace H := Option.bind_eq_some_iff.mp H
        obtain ⟨t300, A160, H⟩ := H
        replace H : (if t300 = true then (some true) else (ref11_follows.l0 k1 l0 a1 a2 l3 a4 a5 (wrap64 (x13_1 + 1)))) = some r := H
        have A16 := Aside0.mk A160
        clear A160
        by_cases c17 : t300 = true
        ·subst c17
         have H1 : (some true) = some r := by rw [if_pos rfl] at H; exact H
         clear H
         have H := H1
         clear H1
         obtain rfl := Option.some.inj H
         go_wp2_with (first | ((with_reducible refine gate_callee (f := 113) rfl ?_); refine goesL_ (some 22) rfl rfl Try.func113 (by kernel_rfl) rfl #[.slice A0 l0.length c0, .int .i64 x13_1, .int .i64 a5] rfl (by (try simp only [List.map_toArray, List.map_cons, List.map_nil]); first | done | rfl | (simp only [List.length_drop, List.length_take]; rfl)) ?_; (with_reducible refine (ref02_Has.calls k1 _ _ l0 x13_1 a5 true _ ?side1 ?side2 A8.out).mono ?_); (case side1 => repeat (first | exact HR0.out | (with_reducible refine Kd.C_alloc ?_ _) | (with_reducible refine Kd.C_drewN ?_ _) | (with_reducible refine Kd.C_drew ?_))); (case side2 => exact HC0.out); rintro e w' ⟨rfl, ⟨nd, rfl⟩⟩; refine ⟨_, rfl, ?_⟩) | ((with_reducible refine gate_callee (f := 18) rfl ?_); refine goesL_ (some 24) rfl rfl Try.func18 (by kernel_rfl) rfl #[.int .i64 a2, .int .i64 2] rfl (by (try simp only [List.map_toArray, List.map_cons, List.map_nil]); first | done | rfl | (simp only [List.length_drop, List.length_take]; rfl)) ?_; (with_reducible refine (ref09_Has.calls a2 2 true _ A10.out).mono ?_); rintro e w' ⟨rfl, ⟨nd, rfl⟩⟩; refine ⟨_, rfl, ?_⟩) | (go_at_call 113; (with_reducible refine (ref02_Has.calls k1 _ _ l0 a4 x13_1 false _ ?side1 ?side2 A12.out).mono ?_); (case side1 => repeat (first | exact HR0.out | (with_reducible refine Kd.C_alloc ?_ _) | (with_reducible refine Kd.C_drewN ?_ _) | (with_reducible refine Kd.C_drew ?_))); (case side2 => exact HC0.out); rintro e w' ⟨rfl, ⟨nd, rfl⟩⟩) | (go_at_call 18; (with_reducible refine (ref09_Has.calls a2 4 true _ A14.out).mono ?_); rintro e w' ⟨rfl, ⟨nd, rfl⟩⟩) | (go_at_call 118; (with_reducible refine (ref11_Ahead.calls k1 _ _ l3 a4 x13_1 true _ ?side1 ?side2 A16.out).mono ?_); (case side1 => repeat (first | exact HR3.out | (with_reducible refine Kd.C_alloc ?_ _) | (with_reducible refine Kd.C_drewN ?_ _) | (with_reducible refine Kd.C_drew ?_))); (case side2 => exact HC3.out); rintro e w' ⟨rfl, ⟨nd, rfl⟩⟩))
         go_ret
         exact ⟨by first | rfl | (simp; done) | (simp [*]; done), by repeat (first | exact Drawn0.refl _ | apply Drawn0.step)⟩
        ·replace c17 := Bool.eq_false_iff.mpr c17
         subst c17
         have H1 : (ref11_follows.l0 k1 l0 a1 a2 l3 a4 a5 (wrap64 (x13_1 + 1))) = some r := by rw [if_neg (show ¬ (false = true) by decide)] at H; exact H
         clear H
         have H := H1
         clear H1
         have H' := Aside0.mk H
         clear H
         go_wp2_with (first | ((with_reducible refine gate_callee (f := 113) rfl ?_); refine goesL_ (some 22) rfl rfl Try.func113 (by kernel_rfl) rfl #[.slice A0 l0.length c0, .int .i64 x13_1, .int .i64 a5] rfl (by (try simp only [List.map_toArray, List.map_cons, List.map_nil]); first | done | rfl | (simp only [List.length_drop, List.length_take]; rfl)) ?_; (with_reducible refine (ref02_Has.calls k1 _ _ l0 x13_1 a5 true _ ?side1 ?side2 A8.out).mono ?_); (case side1 => repeat (first | exact HR0.out | (with_reducible refine Kd.C_alloc ?_ _) | (with_reducible refine Kd.C_drewN ?_ _) | (with_reducible refine Kd.C_drew ?_))); (case side2 => exact HC0.out); rintro e w' ⟨rfl, ⟨nd, rfl⟩⟩; refine ⟨_, rfl, ?_⟩) | ((with_reducible refine gate_callee (f := 18) rfl ?_); refine goesL_ (some 24) rfl rfl Try.func18 (by kernel_rfl) rfl #[.int .i64 a2, .int .i64 2] rfl (by (try simp only [List.map_toArray, List.map_cons, List.map_nil]); first | done | rfl | (simp only [List.length_drop, List.length_take]; rfl)) ?_; (with_reducible refine (ref09_Has.calls a2 2 true _ A10.out).mono ?_); rintro e w' ⟨rfl, ⟨nd, rfl⟩⟩; refine ⟨_, rfl, ?_⟩) | (go_at_call 113; (with_reducible refine (ref02_Has.calls k1 _ _ l0 a4 x13_1 false _ ?side1 ?side2 A12.out).mono ?_); (case side1 => repeat (first | exact HR0.out | (with_reducible refine Kd.C_alloc ?_ _) | (with_reducible refine Kd.C_drewN ?_ _) | (with_reducible refine Kd.C_drew ?_))); (case side2 => exact HC0.out); rintro e w' ⟨rfl, ⟨nd, rfl⟩⟩) | (go_at_call 18; (with_reducible refine (ref09_Has.calls a2 4 true _ A14.out).mono ?_); rintro e w' ⟨rfl, ⟨nd, rfl⟩⟩) | (go_at_call 118; (with_reducible refine (ref11_Ahead.calls k1 _ _ l3 a4 x13_1 false _ ?side1 ?side2 A16.out).mono ?_); (case side1 => repeat (first | exact HR3.out | (with_reducible refine Kd.C_alloc ?_ _) | (with_reducible refine Kd.C_drewN ?_ _) | (with_reducible refine Kd.C_drew ?_))); (case side2 => exact HC3.out); rintro e w' ⟨rfl, ⟨nd, rfl⟩⟩))
         go_roundg k1
         case measure => have := HK1.out; omega
         case rel => exact ⟨(wrap64 (x13_1 + 1)), (by first | rfl | (simp; done) | (simp [*]; done)), H', ⟨by have := HK1.out; omega⟩, by repeat (first | exact Drawn0.refl _ | apply Drawn0.step)⟩
       ·replace c15 := Bool.eq_false_iff.mpr c15
        subst c15
        have H1 : (ref11_follows.l0 k1 l0 a1 a2 l3 a4 a5 (wrap64 (x13_1 + 1))) = some r := by rw [if_neg (show ¬ (false = true) by decide)] at H; exact H
        clear H
        have H := H1
        clear H1
        have H' := Aside0.mk H
        clear H
        go_wp2_with (first | ((with_reducible refine gate_callee (f := 113) rfl ?_); refine goesL_ (some 22) rfl rfl Try.func113 (by kernel_rfl) rfl #[.slice A0 l0.length c0, .int .i64 x13_1, .int .i64 a5] rfl (by (try simp only [List.map_toArray, List.map_cons, List.map_nil]); first | done | rfl | (simp only [List.length_drop, List.length_take]; rfl)) ?_; (with_reducible refine (ref02_Has.calls k1 _ _ l0 x13_1 a5 true _ ?side1 ?side2 A8.out).mono ?_); (case side1 => repeat (first | exact HR0.out | (with_reducible refine Kd.C_alloc ?_ _) | (with_reducible refine Kd.C_drewN ?_ _) | (with_reducible refine Kd.C_drew ?_))); (case side2 => exact HC0.out); rintro e w' ⟨rfl, ⟨nd, rfl⟩⟩; refine ⟨_, rfl, ?_⟩) | ((with_reducible refine gate_callee (f := 18) rfl ?_); refine goesL_ (some 24) rfl rfl Try.func18 (by kernel_rfl) rfl #[.int .i64 a2, .int .i64 2] rfl (by (try simp only [List.map_toArray, List.map_cons, List.map_nil]); first | done | rfl | (simp only [List.length_drop, List.length_take]; rfl)) ?_; (with_reducible refine (ref09_Has.calls a2 2 true _ A10.out).mono ?_); rintro e w' ⟨rfl, ⟨nd, rfl⟩⟩; refine ⟨_, rfl, ?_⟩) | (go_at_call 113; (with_reducible refine (ref02_Has.calls k1 _ _ l0 a4 x13_1 false _ ?side1 ?side2 A12.out).mono ?_); (case side1 => repeat (first | exact HR0.out | (with_reducible refine Kd.C_alloc ?_ _) | (with_reducible refine Kd.C_drewN ?_ _) | (with_reducible refine Kd.C_drew ?_))); (case side2 => exact HC0.out); rintro e w' ⟨rfl, ⟨nd, rfl⟩⟩) | (go_at_call 18; (with_reducible refine (ref09_Has.calls a2 4 false _ A14.out).mono ?_); rintro e w' ⟨rfl, ⟨nd, rfl⟩⟩))
        go_roundg k1
        case measure => have := HK1.out; omega
        case rel => exact ⟨(wrap64 (x13_1 + 1)), (by first | rfl | (simp; done) | (simp [*]; done)), H', ⟨by have := HK1.out; omega⟩, by repeat (first | exact Drawn0.refl _ | apply Drawn0.step)⟩
     ·replace c11 := Bool.eq_false_iff.mpr c11
      subst c11
      have H1 : ((ref09_Has.f a2 4).bind fun t301 => (if t301 = true then ((ref11_Ahead.f k1 l3 a4 x13_1).bind fun t302 => (if t302 = true then (some true) else (ref11_follows.l0 k1 l0 a1 a2 l3 a4 a5 (wrap64 (x13_1 + 1))))) else (ref11_follows.l0 k1 l0 a1 a2 l3 a4 a5 (wrap64 (x13_1 + 1))))) = some r := by rw [if_neg (show ¬ (false = true) by decide)] at H; exact H
      clear H
      have H := H1
      clear H1
      replace H := Option.bind_eq_some_iff.mp H
      obtain ⟨t301, A180, H⟩ := H
      replace H : (if t301 = true then ((ref11_Ahead.f k1 l3 a4 x13_1).bind fun t302 => (if t302 = true then (some true) else (ref11_follows.l0 k1 l0 a1 a2 l3 a4 a5 (wrap64 (x13_1 + 1))))) else (ref11_follows.l0 k1 l0 a1 a2 l3 a4 a5 (wrap64 (x13_1 + 1)))) = some r := H
      have A18 := Aside0.mk A180
      clear A180
      by_cases c19 : t301 = true
      ·subst c19
       have H1 : ((ref11_Ahead.f k1 l3 a4 x13_1).bind fun t302 => (if t302 = true then (some true) else (ref11_follows.l0 k1 l0 a1 a2 l3 a4 a5 (wrap64 (x13_1 + 1))))) = some r := by rw [if_pos rfl] at H; exact H
       clear H
       have H := H1
       clear H1
       replace H := Option.bind_eq_some_iff.mp H
       obtain ⟨t302, A200, H⟩ := H
       replace H : (if t302 = true then (some true) else (ref11_follows.l0 k1 l0 a1 a2 l3 a4 a5 (wrap64 (x13_1 + 1)))) = some r := H
       have A20 := Aside0.mk A200
       clear A200
       by_cases c21 : t302 = true
       ·subst c21
        have H1 : (some true) = some r := by rw [if_pos rfl] at H; exact H
        clear H
        have H := H1
        clear H1
        obtain rfl := Option.some.inj H
        go_wp2_with (first | ((with_reducible refine gate_callee (f := 113) rfl ?_); refine goesL_ (some 22) rfl rfl Try.func113 (by kernel_rfl) rfl #[.slice A0 l0.length c0, .int .i64 x13_1, .int .i64 a5] rfl (by (try simp only [List.map_toArray, List.map_cons, List.map_nil]); first | done | rfl | (simp only [List.length_drop, List.length_take]; rfl)) ?_; (with_reducible refine (ref02_Has.calls k1 _ _ l0 x13_1 a5 true _ ?side1 ?side2 A8.out).mono ?_); (case side1 => repeat (first | exact HR0.out | (with_reducible refine Kd.C_alloc ?_ _) | (with_reducible refine Kd.C_drewN ?_ _) | (with_reducible refine Kd.C_drew ?_))); (case side2 => exact HC0.out); rintro e w' ⟨rfl, ⟨nd, rfl⟩⟩; refine ⟨_, rfl, ?_⟩) | ((with_reducible refine gate_callee (f := 18) rfl ?_); refine goesL_ (some 24) rfl rfl Try.func18 (by kernel_rfl) rfl #[.int .i64 a2, .int .i64 2] rfl (by (try simp only [List.map_toArray, List.map_cons, List.map_nil]); first | done | rfl | (simp only [List.length_drop, List.length_take]; rfl)) ?_; (with_reducible refine (ref09_Has.calls a2 2 false _ A10.out).mono ?_); rintro e w' ⟨rfl, ⟨nd, rfl⟩⟩; refine ⟨_, rfl, ?_⟩) | (go_at_call 18; (with_reducible refine (ref09_Has.calls a2 4 true _ A18.out).mono ?_); rintro e w' ⟨rfl, ⟨nd, rfl⟩⟩) | (go_at_call 118; (with_reducible refine (ref11_Ahead.calls k1 _ _ l3 a4 x13_1 true _ ?side1 ?side2 A20.out).mono ?_); (case side1 => repeat (first | exact HR3.out | (with_reducible refine Kd.C_alloc ?_ _) | (with_reducible refine Kd.C_drewN ?_ _) | (with_reducible refine Kd.C_drew ?_))); (case side2 => exact HC3.out); rintro e w' ⟨rfl, ⟨nd, rfl⟩⟩))
        go_ret
        exact ⟨by first | rfl | (simp; done) | (simp [*]; done), by repeat (first | exact Drawn0.refl _ | apply Drawn0.step)⟩
       ·replace c21 := Bool.eq_false_iff.mpr c21
        subst c21
        have H1 : (ref11_follows.l0 k1 l0 a1 a2 l3 a4 a5 (wrap64 (x13_1 + 1))) = some r := by rw [if_neg (show ¬ (false = true) by decide)] at H; exact H
        clear H
        have H := H1
        clear H1
        have H' := Aside0.mk H
        clear H
        go_wp2_with (first | ((with_reducible refine gate_callee (f := 113) rfl ?_); refine goesL_ (some 22) rfl rfl Try.func113 (by kernel_rfl) rfl #[.slice A0 l0.length c0, .int .i64 x13_1, .int .i64 a5] rfl (by (try simp only [List.map_toArray, List.map_cons, List.map_nil]); first | done | rfl | (simp only [List.length_drop, List.length_take]; rfl)) ?_; (with_reducible refine (ref02_Has.calls k1 _ _ l0 x13_1 a5 true _ ?side1 ?side2 A8.out).mono ?_); (case side1 => repeat (first | exact HR0.out | (with_reducible refine Kd.C_alloc ?_ _) | (with_reducible refine Kd.C_drewN ?_ _) | (with_reducible refine Kd.C_drew ?_))); (case side2 => exact HC0.out); rintro e w' ⟨rfl, ⟨nd, rfl⟩⟩; refine ⟨_, rfl, ?_⟩) | ((with_reducible refine gate_callee (f := 18) rfl ?_); refine goesL_ (some 24) rfl rfl Try.func18 (by kernel_rfl) rfl #[.int .i64 a2, .int .i64 2] rfl (by (try simp only [List.map_toArray, List.map_cons, List.map_nil]); first | done | rfl | (simp only [List.length_drop, List.length_take]; rfl)) ?_; (with_reducible refine (ref09_Has.calls a2 2 false _ A10.out).mono ?_); rintro e w' ⟨rfl, ⟨nd, rfl⟩⟩; refine ⟨_, rfl, ?_⟩) | (go_at_call 18; (with_reducible refine (ref09_Has.calls a2 4 true _ A18.out).mono ?_); rintro e w' ⟨rfl, ⟨nd, rfl⟩⟩) | (go_at_call 118; (with_reducible refine (ref11_Ahead.calls k1 _ _ l3 a4 x13_1 false _ ?side1 ?side2 A20.out).mono ?_); (case side1 => repeat (first | exact HR3.out | (with_reducible refine Kd.C_alloc ?_ _) | (with_reducible refine Kd.C_drewN ?_ _) | (with_reducible refine Kd.C_drew ?_))); (case side2 => exact HC3.out); rintro e w' ⟨rfl, ⟨nd, rfl⟩⟩))
        go_roundg k1
        case measure => have := HK1.out; omega
        case rel => exact ⟨(wrap64 (x13_1 + 1)), (by first | rfl | (simp; done) | (simp [*]; done)), H', ⟨by have := HK1.out; omega⟩, by repeat (first | exact Drawn0.refl _ | apply Drawn0.step)⟩
      ·replace c19 := Bool.eq_false_iff.mpr c19
       subst c19
       have H1 : (ref11_follows.l0 k1 l0 a1 a2 l3 a4 a5 (wrap64 (x13_1 + 1))) = some r := by rw [if_neg (show ¬ (false = true) by decide)] at H; exact H
       clear H
       have H := H1
       clear H1
       have H' := Aside0.mk H
       clear H
       go_wp2_with (first | ((with_reducible refine gate_callee (f := 113) rfl ?_); refine goesL_ (some 22) rfl rfl Try.func113 (by kernel_rfl) rfl #[.slice A0 l0.length c0, .int .i64 x13_1, .int .i64 a5] rfl (by (try simp only [List.map_toArray, List.map_cons, List.map_nil]); first | done | rfl | (simp only [List.length_drop, List.length_take]; rfl)) ?_; (with_reducible refine (ref02_Has.calls k1 _ _ l0 x13_1 a5 true _ ?side1 ?side2 A8.out).mono ?_); (case side1 => repeat (first | exact HR0.out | (with_reducible refine Kd.C_alloc ?_ _) | (with_reducible refine Kd.C_drewN ?_ _) | (with_reducible refine Kd.C_drew ?_))); (case side2 => exact HC0.out); rintro e w' ⟨rfl, ⟨nd, rfl⟩⟩; refine ⟨_, rfl, ?_⟩) | ((with_reducible refine gate_callee (f := 18) rfl ?_); refine goesL_ (some 24) rfl rfl Try.func18 (by kernel_rfl) rfl #[.int .i64 a2, .int .i64 2] rfl (by (try simp only [List.map_toArray, List.map_cons, List.map_nil]); first | done | rfl | (simp only [List.length_drop, List.length_take]; rfl)) ?_; (with_reducible refine (ref09_Has.calls a2 2 false _ A10.out).mono ?_); rintro e w' ⟨rfl, ⟨nd, rfl⟩⟩; refine ⟨_, rfl, ?_⟩) | (go_at_call 18; (with_reducible refine (ref09_Has.calls a2 4 false _ A18.out).mono ?_); rintro e w' ⟨rfl, ⟨nd, rfl⟩⟩))
       go_roundg k1
       case measure => have := HK1.out; omega
       case rel => exact ⟨(wrap64 (x13_1 + 1)), (by first | rfl | (simp; done) | (simp [*]; done)), H', ⟨by have := HK1.out; omega⟩, by repeat (first | exact Drawn0.refl _ | apply Drawn0.step)⟩
    ·replace c9 := Bool.eq_false_iff.mpr c9
     subst c9
     have H1 : (ref11_follows.l0 k1 l0 a1 a2 l3 a4 a5 (wrap64 (x13_1 + 1))) = some r := by rw [if_neg (show ¬ (false = true) by decide)] at H; exact H
     clear H
     have H := H1
     clear H1
     have H' := Aside0.mk H
     clear H
     go_wp2_with (first | ((with_reducible refine gate_callee (f := 113) rfl ?_); refine goesL_ (some 22) rfl rfl Try.func113 (by kernel_rfl) rfl #[.slice A0 l0.length c0, .int .i64 x13_1, .int .i64 a5] rfl (by (try simp only [List.map_toArray, List.map_cons, List.map_nil]); first | done | rfl | (simp only [List.length_drop, List.length_take]; rfl)) ?_; (with_reducible refine (ref02_Has.calls k1 _ _ l0 x13_1 a5 false _ ?side1 ?side2 A8.out).mono ?_); (case side1 => repeat (first | exact HR0.out | (with_reducible refine Kd.C_alloc ?_ _) | (with_reducible refine Kd.C_drewN ?_ _) | (with_reducible refine Kd.C_drew ?_))); (case side2 => exact HC0.out); rintro e w' ⟨rfl, ⟨nd, rfl⟩⟩; refine ⟨_, rfl, ?_⟩))
     go_roundg k1
     case measure => have := HK1.out; omega
     case rel => exact ⟨(wrap64 (x13_1 + 1)), (by first | rfl | (simp; done) | (simp [*]; done)), H', ⟨by have := HK1.out; omega⟩, by repeat (first | exact Drawn0.refl _ | apply Drawn0.step)⟩
   ·rw [if_neg c7] at H
    have c7b0 : decide (x13_1 < a1) = false := decide_eq_false c7
    clear c7
    obtain rfl := Option.some.inj H
    go_wp2
    go_ret
    exact ⟨by first | rfl | (simp; done) | (simp [*]; done), by repeat (first | exact Drawn0.refl _ | apply Drawn0.step)⟩
mutual
def ref11_Of.l0 : Nat → List (S44) → Int → List Int → List (S154) → Int → Option ((List (S154)))
 | 0, _, _, _, _, _ => none
 | k + 1, x0, x1, x2, x7, x8 => if x8 < (x0.length : Int) then (ref11_Of.l1 k x0 x1 x2 x7 x8 0) else (ref11_Of.l2 k x0 x1 x2 x7 true)
def ref11_Of.l1 : Nat → List (S44) → Int → List Int → List (S154) → Int → Int → Option ((List (S154)))
 | 0, _, _, _, _, _, _ => none
 | k + 1, x0, x1, x2, x7, x8, x9 => if x9 < (x0.length : Int) then (if x8 = x9 then (ref11_Of.l1 k x0 x1 x2 x7 x8 (wrap64 (x9 + 1))) else ((ref11_must.f k x0 x1 x2 x8 x9).bind fun t306 => (if t306 = true then ((ref02_Put.f k x7 x8 x9).bind fun t307 => (ref11_Of.l1 k x0 x1 x2 t307 x8 (wrap64 (x9 + 1)))) else (ref11_Of.l1 k x0 x1 x2 x7 x8 (wrap64 (x9 + 1)))))) else (ref11_Of.l0 k x0 x1 x2 x7 (wrap64 (x8 + 1)))
def ref11_Of.l2 : Nat → List (S44) → Int → List Int → List (S154) → Bool → Option ((List (S154)))
 | 0, _, _, _, _, _ => none
 | k + 1, x0, x1, x2, x7, x10 => if x10 = true then (ref11_Of.l3 k x0 x1 x2 x7 false 0) else (some x7)
def ref11_Of.l3 : Nat → List (S44) → Int → List Int → List (S154) → Bool → Int → Option ((List (S154)))
 | 0, _, _, _, _, _, _ => none
 | k + 1, x0, x1, x2, x7, x10, x11 => if x11 < (x0.length : Int) then (ref11_Of.l4 k x0 x1 x2 x7 x10 x11 0) else (ref11_Of.l2 k x0 x1 x2 x7 x10)
def ref11_Of.l4 : Nat → List (S44) → Int → List Int → List (S154) → Bool → Int → Int → Option ((List (S154)))
 | 0, _, _, _, _, _, _, _ => none
 | k + 1, x0, x1, x2, x7, x10, x11, x12 => if x12 < (x0.length : Int) then ((ref02_Has.f k x7 x11 x12).bind fun t310 => (if t310 = true then (ref11_Of.l4 k x0 x1 x2 x7 x10 x11 (wrap64 (x12 + 1))) else ((ref11_follows.f k x7 (x0.length : Int) x1 x2 x11 x12).bind fun t311 => (if t311 = true then ((ref02_Put.f k x7 x11 x12).bind fun t312 => (ref11_Of.l4 k x0 x1 x2 t312 true x11 (wrap64 (x12 + 1)))) else (ref11_Of.l4 k x0 x1 x2 x7 x10 x11 (wrap64 (x12 + 1))))))) else (ref11_Of.l3 k x0 x1 x2 x7 x10 (wrap64 (x11 + 1)))
end
def ref11_Of.f (k : Nat) (l0 : List (S44)) (a1 : Int) (l2 : List Int) : Option ((List (S154))) := ref11_Of.l0 k l0 a1 l2 (([] : List (S154))) 0
theorem ref11_Of.mono_l : ∀ k, (∀ y0 y1 y2 y3 y4, LeO (ref11_Of.l0 k y0 y1 y2 y3 y4) (ref11_Of.l0 (k + 1) y0 y1 y2 y3 y4)) ∧ (∀ y0 y1 y2 y3 y4 y5, LeO (ref11_Of.l1 k y0 y1 y2 y3 y4 y5) (ref11_Of.l1 (k + 1) y0 y1 y2 y3 y4 y5)) ∧ (∀ y0 y1 y2 y3 y4, LeO (ref11_Of.l2 k y0 y1 y2 y3 y4) (ref11_Of.l2 (k + 1) y0 y1 y2 y3 y4)) ∧ (∀ y0 y1 y2 y3 y4 y5, LeO (ref11_Of.l3 k y0 y1 y2 y3 y4 y5) (ref11_Of.l3 (k + 1) y0 y1 y2 y3 y4 y5)) ∧ (∀ y0 y1 y2 y3 y4 y5 y6, LeO (ref11_Of.l4 k y0 y1 y2 y3 y4 y5 y6) (ref11_Of.l4 (k + 1) y0 y1 y2 y3 y4 y5 y6))
 | 0 => ⟨fun _ _ _ _ _ r h => by simp [ref11_Of.l0] at h, fun _ _ _ _ _ _ r h => by simp [ref11_Of.l1] at h, fun _ _ _ _ _ r h => by simp [ref11_Of.l2] at h, fun _ _ _ _ _ _ r h => by simp [ref11_Of.l3] at h, fun _ _ _ _ _ _ _ r h => by simp [ref11_Of.l4] at h⟩
 | k + 1 => by
  obtain ⟨ih0, ih1, ih2, ih3, ih4⟩ := ref11_Of.mono_l k
  refine ⟨?_, ?_, ?_, ?_, ?_⟩
  ·intro y0 y1 y2 y3 y4
   unfold ref11_Of.l0
   repeat' first
   | (with_reducible exact ih0 _ _ _ _ _)
   | (with_reducible exact ih1 _ _ _ _ _ _)
   | (with_reducible exact ih2 _ _ _ _ _)
   | (with_reducible exact ih3 _ _ _ _ _ _)
   | (with_reducible exact ih4 _ _ _ _ _ _ _)
   | (with_reducible exact ref02_Has.mono _ _ _ _)
   | (with_reducible exact ref02_Put.mono _ _ _ _)
   | (with_reducible exact ref11_follows.mono _ _ _ _ _ _ _)
   | (with_reducible exact ref11_must.mono _ _ _ _ _ _)
   | (with_reducible exact LeO.refl _)
   | (with_reducible exact LeO.none _)
   | (with_reducible refine LeO.ite ?_ ?_)
   | (with_reducible refine LeO.bind ?_ (fun _ => ?_))
   | exact ih0 _ _ _ _ _
   | exact ih1 _ _ _ _ _ _
   | exact ih2 _ _ _ _ _
   | exact ih3 _ _ _ _ _ _
   | exact ih4 _ _ _ _ _ _ _
   | exact ref02_Has.mono _ _ _ _
   | exact ref02_Put.mono _ _ _ _
   | exact ref11_follows.mono _ _ _ _ _ _ _
   | exact ref11_must.mono _ _ _ _ _ _
   | exact LeO.none _
   | refine LeO.ite ?_ ?_
   | refine LeO.bind ?_ (fun _ => ?_)
  ·intro y0 y1 y2 y3 y4 y5
   unfold ref11_Of.l1
   repeat' first
   | (with_reducible exact ih0 _ _ _ _ _)
   | (with_reducible exact ih1 _ _ _ _ _ _)
   | (with_reducible exact ih2 _ _ _ _ _)
   | (with_reducible exact ih3 _ _ _ _ _ _)
   | (with_reducible exact ih4 _ _ _ _ _ _ _)
   | (with_reducible exact ref02_Has.mono _ _ _ _)
   | (with_reducible exact ref02_Put.mono _ _ _ _)
   | (with_reducible exact ref11_follows.mono _ _ _ _ _ _ _)
   | (with_reducible exact ref11_must.mono _ _ _ _ _ _)
   | (with_reducible exact LeO.refl _)
   | (with_reducible exact LeO.none _)
   | (with_reducible refine LeO.ite ?_ ?_)
   | (with_reducible refine LeO.bind ?_ (fun _ => ?_))
   | exact ih0 _ _ _ _ _
   | exact ih1 _ _ _ _ _ _
   | exact ih2 _ _ _ _ _
   | exact ih3 _ _ _ _ _ _
   | exact ih4 _ _ _ _ _ _ _
   | exact ref02_Has.mono _ _ _ _
   | exact ref02_Put.mono _ _ _ _
   | exact ref11_follows.mono _ _ _ _ _ _ _
   | exact ref11_must.mono _ _ _ _ _ _
   | exact LeO.none _
   | refine LeO.ite ?_ ?_
   | refine LeO.bind ?_ (fun _ => ?_)
  ·intro y0 y1 y2 y3 y4
   unfold ref11_Of.l2
   repeat' first
   | (with_reducible exact ih0 _ _ _ _ _)
   | (with_reducible exact ih1 _ _ _ _ _ _)
   | (with_reducible exact ih2 _ _ _ _ _)
   | (with_reducible exact ih3 _ _ _ _ _ _)
   | (with_reducible exact ih4 _ _ _ _ _ _ _)
   | (with_reducible exact ref02_Has.mono _ _ _ _)
   | (with_reducible exact ref02_Put.mono _ _ _ _)
   | (with_reducible exact ref11_follows.mono _ _ _ _ _ _ _)
   | (with_reducible exact ref11_must.mono _ _ _ _ _ _)
   | (with_reducible exact LeO.refl _)
   | (with_reducible exact LeO.none _)
   | (with_reducible refine LeO.ite ?_ ?_)
   | (with_reducible refine LeO.bind ?_ (fun _ => ?_))
   | exact ih0 _ _ _ _ _
   | exact ih1 _ _ _ _ _ _
   | exact ih2 _ _ _ _ _
   | exact ih3 _ _ _ _ _ _
   | exact ih4 _ _ _ _ _ _ _
   | exact ref02_Has.mono _ _ _ _
   | exact ref02_Put.mono _ _ _ _
   | exact ref11_follows.mono _ _ _ _ _ _ _
   | exact ref11_must.mono _ _ _ _ _ _
   | exact LeO.none _
   | refine LeO.ite ?_ ?_
   | refine LeO.bind ?_ (fun _ => ?_)
  ·intro y0 y1 y2 y3 y4 y5
   unfold ref11_Of.l3
   repeat' first
   | (with_reducible exact ih0 _ _ _ _ _)
   | (with_reducible exact ih1 _ _ _ _ _ _)
   | (with_reducible exact ih2 _ _ _ _ _)
   | (with_reducible exact ih3 _ _ _ _ _ _)
   | (with_reducible exact ih4 _ _ _ _ _ _ _)
   | (with_reducible exact ref02_Has.mono _ _ _ _)
   | (with_reducible exact ref02_Put.mono _ _ _ _)
   | (with_reducible exact ref11_follows.mono _ _ _ _ _ _ _)
   | (with_reducible exact ref11_must.mono _ _ _ _ _ _)
   | (with_reducible exact LeO.refl _)
   | (with_reducible exact LeO.none _)
   | (with_reducible refine LeO.ite ?_ ?_)
   | (with_reducible refine LeO.bind ?_ (fun _ => ?_))
   | exact ih0 _ _ _ _ _
   | exact ih1 _ _ _ _ _ _
   | exact ih2 _ _ _ _ _
   | exact ih3 _ _ _ _ _ _
   | exact ih4 _ _ _ _ _ _ _
   | exact ref02_Has.mono _ _ _ _
   | exact ref02_Put.mono _ _ _ _
   | exact ref11_follows.mono _ _ _ _ _ _ _
   | exact ref11_must.mono _ _ _ _ _ _
   | exact LeO.none _
   | refine LeO.ite ?_ ?_
   | refine LeO.bind ?_ (fun _ => ?_)
  ·intro y0 y1 y2 y3 y4 y5 y6
   unfold ref11_Of.l4
   repeat' first
   | (with_reducible exact ih0 _ _ _ _ _)
   | (with_reducible exact ih1 _ _ _ _ _ _)
   | (with_reducible exact ih2 _ _ _ _ _)
   | (with_reducible exact ih3 _ _ _ _ _ _)
   | (with_reducible exact ih4 _ _ _ _ _ _ _)
   | (with_reducible exact ref02_Has.mono _ _ _ _)
   | (with_reducible exact ref02_Put.mono _ _ _ _)
   | (with_reducible exact ref11_follows.mono _ _ _ _ _ _ _)
   | (with_reducible exact ref11_must.mono _ _ _ _ _ _)
   | (with_reducible exact LeO.refl _)
   | (with_reducible exact LeO.none _)
   | (with_reducible refine LeO.ite ?_ ?_)
   | (with_reducible refine LeO.bind ?_ (fun _ => ?_))
   | exact ih0 _ _ _ _ _
   | exact ih1 _ _ _ _ _ _
   | exact ih2 _ _ _ _ _
   | exact ih3 _ _ _ _ _ _
   | exact ih4 _ _ _ _ _ _ _
   | exact ref02_Has.mono _ _ _ _
   | exact ref02_Put.mono _ _ _ _
   | exact ref11_follows.mono _ _ _ _ _ _ _
   | exact ref11_must.mono _ _ _ _ _ _
   | exact LeO.none _
   | refine LeO.ite ?_ ?_
   | refine LeO.bind ?_ (fun _ => ?_)
theorem ref11_Of.mono : ∀ a0 a1 a2 k, LeO (ref11_Of.f k a0 a1 a2) (ref11_Of.f (k + 1) a0 a1 a2) := by
 intro a0 a1 a2 k
 obtain ⟨ih0, ih1, ih2, ih3, ih4⟩ := ref11_Of.mono_l k
 unfold ref11_Of.f
 repeat' first
   | (with_reducible exact ih0 _ _ _ _ _)
   | (with_reducible exact ih1 _ _ _ _ _ _)
   | (with_reducible exact ih2 _ _ _ _ _)
   | (with_reducible exact ih3 _ _ _ _ _ _)
   | (with_reducible exact ih4 _ _ _ _ _ _ _)
   | (with_reducible exact ref02_Has.mono _ _ _ _)
   | (with_reducible exact ref02_Put.mono _ _ _ _)
   | (with_reducible exact ref11_follows.mono _ _ _ _ _ _ _)
   | (with_reducible exact ref11_must.mono _ _ _ _ _ _)
   | (with_reducible exact LeO.refl _)
   | (with_reducible exact LeO.none _)
   | (with_reducible refine LeO.ite ?_ ?_)
   | (with_reducible refine LeO.bind ?_ (fun _ => ?_))
   | exact ih0 _ _ _ _ _
   | exact ih1 _ _ _ _ _ _
   | exact ih2 _ _ _ _ _
   | exact ih3 _ _ _ _ _ _
   | exact ih4 _ _ _ _ _ _ _
   | exact ref02_Has.mono _ _ _ _
   | exact ref02_Put.mono _ _ _ _
   | exact ref11_follows.mono _ _ _ _ _ _ _
   | exact ref11_must.mono _ _ _ _ _ _
   | exact LeO.none _
   | refine LeO.ite ?_ ?_
   | refine LeO.bind ?_ (fun _ => ?_)
set_option maxHeartbeats 8000000 in
set_option maxRecDepth 100000 in
theorem ref11_Of.calls (k : Nat) (A0 : Option Addr) (c0 : Nat) (l0 : List (S44)) (a1 : Int) (A2 : Option Addr) (c2 : Nat) (l2 : List Int) (r : List (S154)) (w : World) (hr0 : Kd.C k44 w A0 l0.length l0) (hc0 : l0.length ≤ c0) (hr2 : Kd.C (Kd.int .i64) w A2 l2.length l2) (hc2 : l2.length ≤ c2) (h : ref11_Of.f k l0 a1 l2 = some r) :
  Calls Try.prog 105 #[.slice A0 l0.length c0, .int .i64 a1, .slice A2 l2.length c2] w fun e w' => ∃ v0_ : Value, e = .returned (v0_) ∧ Kd.R k154 154 w' w.heap.size (fun _ => True) v0_ r ∧ Below w.heap.size w w' := by
 have HR0 := Aside0.mk hr0
 have HC0 := Aside0.mk hc0
 clear hr0 hc0
 have HR2 := Aside0.mk hr2
 have HC2 := Aside0.mk hc2
 clear hr2 hc2
 have HB := Aside0.mk (Below.refl w.heap.size w)
 have H : (ref11_Of.l0 k l0 a1 l2 (([] : List (S154))) 0) = some r := h
 clear h
 obtain ⟨y303, hy303⟩ : ∃ y_ : List (S154), y_ = (([] : List (S154))) := ⟨_, rfl⟩
 replace H : (ref11_Of.l0 k l0 a1 l2 y303 0) = some r := by first | (rw [hy303]; with_reducible exact H) | (have H2_ := (Option.bind_some _ _).symm.trans H; rw [hy303]; with_reducible exact H2_) | (have H2_ := (Option.bind_some _ _).symm.trans H; with_reducible exact H2_) | with_reducible exact H | (rw [hy303]; exact H) | exact H
 have Ny303 := Aside0.mk hy303
 clear hy303
 have H' := Aside0.mk H
 clear H
 go_enter Try.func105, Try.ntmps105
 go_wp2_with (first | ((with_reducible refine gate_dst (N := 13) rfl ?_); (try (refine gate_guard (by rfl) ?_; dsimp only)); refine Kd.R_lit k154 _ 154 ?hg (N := 13) ?hd (xs := ([] : List (S154))) (inner := []) (ok := fun _ => True) (okp := fun _ => True) ?hr ?hp (fun _ hk => hk) trivial (Below.refl _ _) (Nat.le_refl _) (by simp) ?_; (case hd => rfl); (case hg => rfl); (case hr => first | (go_simp; done) | (go_simp; rfl)); (case hp => exact (Reps.none _ _)); intro v304 w4 ho5 hb hg_ hnew_; clear hg_ hnew_; (first | rw [← Ny303.out] at ho5 | (simp only [Int.reduceToNat] at ho5; rw [← Ny303.out] at ho5)); have n0_ := Aside0.mk (Kd.R_lower ho5 (below_size (by repeat (first | (with_reducible first | exact HB.out | apply below_alloc | apply pw_below_drewN | apply below_drew1))))); have n1_ := Aside0.mk (below_step (by repeat (first | (with_reducible first | exact HB.out | apply below_alloc | apply pw_below_drewN | apply below_drew1))) hb); clear HB; have HO305 := n0_; have HB := n1_; clear n0_ n1_; clear hb ho5))
 go_loopg [7, 8] k (fun kq v7 v8 w' => ∃ (x7_1 : List (S154)) (x8_1 : Int), v8 = .int .i64 x8_1 ∧ Aside0 (ref11_Of.l0 kq l0 a1 l2 x7_1 x8_1 = some r) ∧ Aside0 (kq ≤ k) ∧ Aside0 (Kd.R k154 154 w' w.heap.size (fun _ => True) v7 x7_1) ∧ Aside0 (Below w.heap.size w w'))
 case atStart => exact ⟨(y303), (0), (by first | rfl | (simp; done) | (simp [*]; done)), H', ⟨Nat.le_refl _⟩, ⟨by (with_reducible repeat (first | apply Kd.R_alloc | apply Kd.R_drewN | apply Kd.R_drew)); exact HO305.out⟩, ⟨by repeat (first | (with_reducible first | exact HB.out | apply below_alloc | apply pw_below_drewN | apply below_drew1))⟩⟩
 case round =>
  clear H'
  try clear c1
  try clear c2
  try clear p2
  obtain ⟨x7_1, x8_1, rfl, HA, HK1, HO_7, HB⟩ := hrel
  cases gk with
  | zero => exact absurd HA.out (by simp [ref11_Of.l0])
  | succ k1 =>
   have H := HA.out
   clear HA
   simp only [ref11_Of.l0] at H
   by_cases c6 : x8_1 < (l0.length : Int)
   ·rw [if_pos c6] at H
    have c6b0 : decide (x8_1 < (l0.length : Int)) = true := decide_eq_true c6
    clear c6
    have H' := Aside0.mk H
    clear H
    go_wp2
    go_loopg [7, 9] k1 (fun kq v7 v9 w' => ∃ (x7_2 : List (S154)) (x9_2 : Int), v9 = .int .i64 x9_2 ∧ Aside0 (ref11_Of.l1 kq l0 a1 l2 x7_2 x8_1 x9_2 = some r) ∧ Aside0 (kq ≤ k1) ∧ Aside0 (Kd.R k154 154 w' w.heap.size (fun _ => True) v7 x7_2) ∧ Aside0 (Below w.heap.size w w'))
    case atStart => exact ⟨(x7_1), (0), (by first | rfl | (simp; done) | (simp [*]; done)), H', ⟨Nat.le_refl _⟩, ⟨by (with_reducible repeat (first | apply Kd.R_alloc | apply Kd.R_drewN | apply Kd.R_drew)); exact HO_7.out⟩, ⟨by repeat (first | (with_reducible first | exact HB.out | apply below_alloc | apply pw_below_drewN | apply below_drew1))⟩⟩
    case round =>
     clear H'
     try clear c1
     try clear c2
     try clear p2
     try clear c6
     try clear c6b0
     try clear p2
     obtain ⟨x7_2, x9_2, rfl, HA, HK2, HO_7, HB⟩ := hrel
     cases gk with
     | zero => exact absurd HA.out (by simp [ref11_Of.l1])
     | succ k2 =>
      have H := HA.out
      clear HA
      simp only [ref11_Of.l1] at H
      by_cases c7 : x9_2 < (l0.length : Int)
      ·rw [if_pos c7] at H
       have c7b0 : decide (x9_2 < (l0.length : Int)) = true := decide_eq_true c7
       clear c7
       by_cases c8 : x8_1 = x9_2
       ·rw [if_pos c8] at H
        have c8b0 : (x8_1 == x9_2) = true := beq_iff_eq.mpr c8
        have c8b1 : (x8_1 != x9_2) = false := bne_eq_false_iff_eq.mpr c8
        clear c8
        have H' := Aside0.mk H
        clear H
        go_wp2
        go_roundg k2
        case measure => have := HK1.out; have := HK2.out; omega
        case rel => exact ⟨(x7_2), (wrap64 (x9_2 + 1)), (by first | rfl | (simp; done) | (simp [*]; done)), H', ⟨by have := HK1.out; have := HK2.out; omega⟩, ⟨by (with_reducible repeat (first | apply Kd.R_alloc | apply Kd.R_drewN | apply Kd.R_drew)); exact HO_7.out⟩, ⟨by repeat (first | (with_reducible first | exact HB.out | apply below_alloc | apply pw_below_drewN | apply below_drew1))⟩⟩
       ·rw [if_neg c8] at H
        have c8b0 : (x8_1 == x9_2) = false := beq_eq_false_iff_ne.mpr c8
        have c8b1 : (x8_1 != x9_2) = true := bne_iff_ne.mpr c8
        replace H := Option.bind_eq_some_iff.mp H
        obtain ⟨t306, A90, H⟩ := H
        replace H : (if t306 = true then ((ref02_Put.f k2 x7_2 x8_1 x9_2).bind fun t307 => (ref11_Of.l1 k2 l0 a1 l2 t307 x8_1 (wrap64 (x9_2 + 1)))) else (ref11_Of.l1 k2 l0 a1 l2 x7_2 x8_1 (wrap64 (x9_2 + 1)))) = some r := H
        have A9 := Aside0.mk A90
        clear A90
        by_cases c10 : t306 = true
        ·subst c10
         have H1 : ((ref02_Put.f k2 x7_2 x8_1 x9_2).bind fun t307 => (ref11_Of.l1 k2 l0 a1 l2 t307 x8_1 (wrap64 (x9_2 + 1)))) = some r := by rw [if_pos rfl] at H; exact H
         clear H
         have H := H1
         clear H1
         replace H := Option.bind_eq_some_iff.mp H
         obtain ⟨t307, A110, H⟩ := H
         replace H : (ref11_Of.l1 k2 l0 a1 l2 t307 x8_1 (wrap64 (x9_2 + 1))) = some r := H
         have A11 := Aside0.mk A110
         clear A110
         have H' := Aside0.mk H
         clear H
         go_wp2_with (first | (go_at_call 111; (with_reducible refine (ref11_must.calls k2 _ _ l0 a1 _ _ l2 x8_1 x9_2 true _ ?side1 ?side2 ?side3 ?side4 A9.out).mono ?_); (case side1 => repeat (first | exact (Kd.C_below HR0.out HB.out) | (with_reducible refine Kd.C_alloc ?_ _) | (with_reducible refine Kd.C_drewN ?_ _) | (with_reducible refine Kd.C_drew ?_))); (case side2 => exact HC0.out); (case side3 => repeat (first | exact (Kd.C_below HR2.out HB.out) | (with_reducible refine Kd.C_alloc ?_ _) | (with_reducible refine Kd.C_drewN ?_ _) | (with_reducible refine Kd.C_drew ?_))); (case side4 => exact HC2.out); rintro e w12 ⟨rfl, hb⟩; have n0_ := Aside0.mk (Kd.R_below (by (with_reducible repeat (first | apply Kd.R_alloc | apply Kd.R_drewN | apply Kd.R_drew)); exact HO_7.out) hb); have n1_ := Aside0.mk (below_step (by repeat (first | (with_reducible first | exact HB.out | apply below_alloc | apply pw_below_drewN | apply below_drew1))) hb); clear HO_7; clear HB; have HO_7 := n0_; have HB := n1_; clear n0_ n1_; (try clear hb); (try clear hb2); (try clear hk); (try clear hi); obtain ⟨Ao13, co13, eo13⟩ := Kd.R_slice HO_7.out; subst eo13) | ((with_reducible refine gate_callee (f := 112) rfl ?_); refine goesL_ (some 40) rfl rfl Try.func112 (by kernel_rfl) rfl #[.slice Ao13 x7_2.length co13, .int .i64 x8_1, .int .i64 x9_2] rfl (by (try simp only [List.map_toArray, List.map_cons, List.map_nil]); first | done | rfl | (simp only [List.length_drop, List.length_take]; rfl)) ?_; (with_reducible refine (ref02_Put.calls k2 (fun k_ => some k_ = (.slice Ao13 x7_2.length co13 : Value).ownBlock) (.slice Ao13 x7_2.length co13) x7_2 x8_1 x9_2 t307 w _ ?side1 ?side2 A11.out).mono ?_); (case side1 => repeat (first | (with_reducible first | exact HB.out | apply below_alloc | apply pw_below_drewN | apply below_drew1))); (case side2 => exact Kd.R_tight rfl HO_7.out); rintro e w14 ⟨v308, rfl, ho0, hb, hkp⟩; refine ⟨_, rfl, ?_⟩; have n0_ := Aside0.mk (Kd.R_mono (ok' := fun k_ => True) ho0 (fun k_ hk_ => trivial)); have n1_ := Aside0.mk (hb); clear HB; clear HO_7; have HO309 := n0_; have HB := n1_; clear n0_ n1_; (try clear hb); (try clear hkp); (try clear ho0)))
         go_roundg k2
         case measure => have := HK1.out; have := HK2.out; omega
         case rel => exact ⟨(t307), (wrap64 (x9_2 + 1)), (by first | rfl | (simp; done) | (simp [*]; done)), H', ⟨by have := HK1.out; have := HK2.out; omega⟩, ⟨by (with_reducible repeat (first | apply Kd.R_alloc | apply Kd.R_drewN | apply Kd.R_drew)); exact HO309.out⟩, ⟨by repeat (first | (with_reducible first | exact HB.out | apply below_alloc | apply pw_below_drewN | apply below_drew1))⟩⟩
        ·replace c10 := Bool.eq_false_iff.mpr c10
         subst c10
         have H1 : (ref11_Of.l1 k2 l0 a1 l2 x7_2 x8_1 (wrap64 (x9_2 + 1))) = some r := by rw [if_neg (show ¬ (false = true) by decide)] at H; exact H
         clear H
         have H := H1
         clear H1
         have H' := Aside0.mk H
         clear H
         go_wp2_with (first | (go_at_call 111; (with_reducible refine (ref11_must.calls k2 _ _ l0 a1 _ _ l2 x8_1 x9_2 false _ ?side1 ?side2 ?side3 ?side4 A9.out).mono ?_); (case side1 => repeat (first | exact (Kd.C_below HR0.out HB.out) | (with_reducible refine Kd.C_alloc ?_ _) | (with_reducible refine Kd.C_drewN ?_ _) | (with_reducible refine Kd.C_drew ?_))); (case side2 => exact HC0.out); (case side3 => repeat (first | exact (Kd.C_below HR2.out HB.out) | (with_reducible refine Kd.C_alloc ?_ _) | (with_reducible refine Kd.C_drewN ?_ _) | (with_reducible refine Kd.C_drew ?_))); (case side4 => exact HC2.out); rintro e w15 ⟨rfl, hb⟩; have n0_ := Aside0.mk (Kd.R_below (by (with_reducible repeat (first | apply Kd.R_alloc | apply Kd.R_drewN | apply Kd.R_drew)); exact HO_7.out) hb); have n1_ := Aside0.mk (below_step (by repeat (first | (with_reducible first | exact HB.out | apply below_alloc | apply pw_below_drewN | apply below_drew1))) hb); clear HO_7; clear HB; have HO_7 := n0_; have HB := n1_; clear n0_ n1_; (try clear hb); (try clear hb2); (try clear hk); (try clear hi)))
         go_roundg k2
         case measure => have := HK1.out; have := HK2.out; omega
         case rel => exact ⟨(x7_2), (wrap64 (x9_2 + 1)), (by first | rfl | (simp; done) | (simp [*]; done)), H', ⟨by have := HK1.out; have := HK2.out; omega⟩, ⟨by (with_reducible repeat (first | apply Kd.R_alloc | apply Kd.R_drewN | apply Kd.R_drew)); exact HO_7.out⟩, ⟨by repeat (first | (with_reducible first | exact HB.out | apply below_alloc | apply pw_below_drewN | apply below_drew1))⟩⟩
      ·rw [if_neg c7] at H
       have c7b0 : decide (x9_2 < (l0.length : Int)) = false := decide_eq_false c7
       clear c7
       have H' := Aside0.mk H
       clear H
       go_wp2
       go_roundg k2
       case measure => have := HK1.out; have := HK2.out; omega
       case rel => exact ⟨(x7_2), (wrap64 (x8_1 + 1)), (by first | rfl | (simp; done) | (simp [*]; done)), H', ⟨by have := HK1.out; have := HK2.out; omega⟩, ⟨by (with_reducible repeat (first | apply Kd.R_alloc | apply Kd.R_drewN | apply Kd.R_drew)); exact HO_7.out⟩, ⟨by repeat (first | (with_reducible first | exact HB.out | apply below_alloc | apply pw_below_drewN | apply below_drew1))⟩⟩
   ·rw [if_neg c6] at H
    have c6b0 : decide (x8_1 < (l0.length : Int)) = false := decide_eq_false c6
    clear c6
    have H' := Aside0.mk H
    clear H
    go_wp2
    go_loopg [7, 10] k1 (fun kq v7 v10 w' => ∃ (x7_2 : List (S154)) (x10_2 : Bool), v10 = .bool x10_2 ∧ Aside0 (ref11_Of.l2 kq l0 a1 l2 x7_2 x10_2 = some r) ∧ Aside0 (kq ≤ k1) ∧ Aside0 (Kd.R k154 154 w' w.heap.size (fun _ => True) v7 x7_2) ∧ Aside0 (Below w.heap.size w w'))
    case atStart => exact ⟨(x7_1), (true), (by first | rfl | (simp; done) | (simp [*]; done)), H', ⟨Nat.le_refl _⟩, ⟨by (with_reducible repeat (first | apply Kd.R_alloc | apply Kd.R_drewN | apply Kd.R_drew)); exact HO_7.out⟩, ⟨by repeat (first | (with_reducible first | exact HB.out | apply below_alloc | apply pw_below_drewN | apply below_drew1))⟩⟩
    case round =>
     clear H'
     try clear c1
     try clear c2
     try clear p2
     try clear c6
     try clear c6b0
     try clear p6
     try clear c7
     try clear c7b0
     try clear c8
     try clear c8b0
     try clear c8b1
     try clear c10
     try clear c11
     try clear p2
     obtain ⟨x7_2, x10_2, rfl, HA, HK2, HO_7, HB⟩ := hrel
     cases gk with
     | zero => exact absurd HA.out (by simp [ref11_Of.l2])
     | succ k2 =>
      have H := HA.out
      clear HA
      simp only [ref11_Of.l2] at H
      by_cases c16 : x10_2 = true
      ·subst c16
       have H1 : (ref11_Of.l3 k2 l0 a1 l2 x7_2 false 0) = some r := by rw [if_pos rfl] at H; exact H
       clear H
       have H := H1
       clear H1
       have H' := Aside0.mk H
       clear H
       go_wp2
       go_loopg [7, 10, 11] k2 (fun kq v7 v10 v11 w' => ∃ (x7_3 : List (S154)) (x10_3 : Bool) (x11_3 : Int), v10 = .bool x10_3 ∧ v11 = .int .i64 x11_3 ∧ Aside0 (ref11_Of.l3 kq l0 a1 l2 x7_3 x10_3 x11_3 = some r) ∧ Aside0 (kq ≤ k2) ∧ Aside0 (Kd.R k154 154 w' w.heap.size (fun _ => True) v7 x7_3) ∧ Aside0 (Below w.heap.size w w'))
       case atStart => exact ⟨(x7_2), (false), (0), (by first | rfl | (simp; done) | (simp [*]; done)), (by first | rfl | (simp; done) | (simp [*]; done)), H', ⟨Nat.le_refl _⟩, ⟨by (with_reducible repeat (first | apply Kd.R_alloc | apply Kd.R_drewN | apply Kd.R_drew)); exact HO_7.out⟩, ⟨by repeat (first | (with_reducible first | exact HB.out | apply below_alloc | apply pw_below_drewN | apply below_drew1))⟩⟩
       case round =>
        clear H'
        try clear c1
        try clear c2
        try clear p2
        try clear c6
        try clear c6b0
        try clear p6
        try clear c7
        try clear c7b0
        try clear c8
        try clear c8b0
        try clear c8b1
        try clear c10
        try clear c11
        try clear c16
        try clear p2
        try clear p6
        obtain ⟨x7_3, x10_3, x11_3, rfl, rfl, HA, HK3, HO_7, HB⟩ := hrel
        cases gk with
        | zero => exact absurd HA.out (by simp [ref11_Of.l3])
        | succ k3 =>
         have H := HA.out
         clear HA
         simp only [ref11_Of.l3] at H
         by_cases c17 : x11_3 < (l0.length : Int)
         ·rw [if_pos c17] at H
          have c17b0 : decide (x11_3 < (l0.length : Int)) = true := decide_eq_true c17
          clear c17
          have H' := Aside0.mk H
          clear H
          go_wp2
          go_loopg [7, 10, 12] k3 (fun kq v7 v10 v12 w' => ∃ (x7_4 : List (S154)) (x10_4 : Bool) (x12_4 : Int), v10 = .bool x10_4 ∧ v12 = .int .i64 x12_4 ∧ Aside0 (ref11_Of.l4 kq l0 a1 l2 x7_4 x10_4 x11_3 x12_4 = some r) ∧ Aside0 (kq ≤ k3) ∧ Aside0 (Kd.R k154 154 w' w.heap.size (fun _ => True) v7 x7_4) ∧ Aside0 (Below w.heap.size w w'))
          case atStart => exact ⟨(x7_3), (x10_3), (0), (by first | rfl | (simp; done) | (simp [*]; done)), (by first | rfl | (simp; done) | (simp [*]; done)), H', ⟨Nat.le_refl _⟩, ⟨by (with_reducible repeat (first | apply Kd.R_alloc | apply Kd.R_drewN | apply Kd.R_drew)); exact HO_7.out⟩, ⟨by repeat (first | (with_reducible first | exact HB.out | apply below_alloc | apply pw_below_drewN | apply below_drew1))⟩⟩
          case round =>
           clear H'
           try clear c1
           try clear c2
           try clear p2
           try clear c6
           try clear c6b0
           try clear p6
           try clear c7
           try clear c7b0
           try clear c8
           try clear c8b0
           try clear c8b1
           try clear c10
           try clear c11
           try clear c16
           try clear c17
           try clear c17b0
           try clear p2
           try clear p6
           obtain ⟨x7_4, x10_4, x12_4, rfl, rfl, HA, HK4, HO_7, HB⟩ := hrel
           cases gk with
           | zero => exact absurd HA.out (by simp [ref11_Of.l4])
           | succ k4 =>
            have H := HA.out
            clear HA
            simp only [ref11_Of.l4] at H
            by_cases c18 : x12_4 < (l0.length : Int)
            ·rw [if_pos c18] at H
             have c18b0 : decide (x12_4 < (l0.length : Int)) = true := decide_eq_true c18
             clear c18
             replace H := Option.bind_eq_some_iff.mp H
             obtain ⟨t310, A190, H⟩ := H
             replace H : (if t310 = true then (ref11_Of.l4 k4 l0 a1 l2 x7_4 x10_4 x11_3 (wrap64 (x12_4 + 1))) else ((ref11_follows.f k4 x7_4 (l0.length : Int) a1 l2 x11_3 x12_4).bind fun t311 => (if t311 = true then ((ref02_Put.f k4 x7_4 x11_3 x12_4).bind fun t312 => (ref11_Of.l4 k4 l0 a1 l2 t312 true x11_3 (wrap64 (x12_4 + 1)))) else (ref11_Of.l4 k4 l0 a1 l2 x7_4 x10_4 x11_3 (wrap64 (x12_4 + 1)))))) = some r := H
             have A19 := Aside0.mk A190
             clear A190
             by_cases c20 : t310 = true
             ·subst c20
              have H1 : (ref11_Of.l4 k4 l0 a1 l2 x7_4 x10_4 x11_3 (wrap64 (x12_4 + 1))) = some r := by rw [if_pos rfl] at H; exact H
              clear H
              have H := H1
              clear H1
              have H' := Aside0.mk H
              clear H
              obtain ⟨Ao21, co21, eo21⟩ := Kd.R_slice HO_7.out
              subst eo21
              go_wp2_with (first | ((with_reducible refine gate_callee (f := 113) rfl ?_); refine goesL_ (some 57) rfl rfl Try.func113 (by kernel_rfl) rfl #[.slice Ao21 x7_4.length co21, .int .i64 x11_3, .int .i64 x12_4] rfl (by (try simp only [List.map_toArray, List.map_cons, List.map_nil]); first | done | rfl | (simp only [List.length_drop, List.length_take]; rfl)) ?_; (with_reducible refine (ref02_Has.calls k4 _ _ x7_4 x11_3 x12_4 true _ ?side1 ?side2 A19.out).mono ?_); (case side1 => repeat (first | exact (Kd.R_reads' HO_7.out).2.2 | (with_reducible refine Kd.C_alloc ?_ _) | (with_reducible refine Kd.C_drewN ?_ _) | (with_reducible refine Kd.C_drew ?_))); (case side2 => exact (Kd.R_reads' HO_7.out).2.1); rintro e w' ⟨rfl, ⟨nd, rfl⟩⟩; refine ⟨_, rfl, ?_⟩))
              go_roundg k4
              case measure => have := HK1.out; have := HK2.out; have := HK3.out; have := HK4.out; omega
              case rel => exact ⟨(x7_4), (x10_4), (wrap64 (x12_4 + 1)), (by first | rfl | (simp; done) | (simp [*]; done)), (by first | rfl | (simp; done) | (simp [*]; done)), H', ⟨by have := HK1.out; have := HK2.out; have := HK3.out; have := HK4.out; omega⟩, ⟨by (with_reducible repeat (first | apply Kd.R_alloc | apply Kd.R_drewN | apply Kd.R_drew)); exact HO_7.out⟩, ⟨by repeat (first | (with_reducible first | exact HB.out | apply below_alloc | apply pw_below_drewN | apply below_drew1))⟩⟩
             ·replace c20 := Bool.eq_false_iff.mpr c20
              subst c20
              have H1 : ((ref11_follows.f k4 x7_4 (l0.length : Int) a1 l2 x11_3 x12_4).bind fun t311 => (if t311 = true then ((ref02_Put.f k4 x7_4 x11_3 x12_4).bind fun t312 => (ref11_Of.l4 k4 l0 a1 l2 t312 true x11_3 (wrap64 (x12_4 + 1)))) else (ref11_Of.l4 k4 l0 a1 l2 x7_4 x10_4 x11_3 (wrap64 (x12_4 + 1))))) = some r := by rw [if_neg (show ¬ (false = true) by decide)] at H; exact H
              clear H
              have H := H1
              clear H1
              replace H := Option.bind_eq_some_iff.mp H
              obtain ⟨t311, A220, H⟩ := H
              replace H : (if t311 = true then ((ref02_Put.f k4 x7_4 x11_3 x12_4).bind fun t312 => (ref11_Of.l4 k4 l0 a1 l2 t312 true x11_3 (wrap64 (x12_4 + 1)))) else (ref11_Of.l4 k4 l0 a1 l2 x7_4 x10_4 x11_3 (wrap64 (x12_4 + 1)))) = some r := H
              have A22 := Aside0.mk A220
              clear A220
              by_cases c23 : t311 = true
              ·subst c23
               have H1 : ((ref02_Put.f k4 x7_4 x11_3 x12_4).bind fun t312 => (ref11_Of.l4 k4 l0 a1 l2 t312 true x11_3 (wrap64 (x12_4 + 1)))) = some r := by rw [if_pos rfl] at H; exact H
               clear H
               have H := H1
               clear H1
               replace H := Option.bind_eq_some_iff.mp H
               obtain ⟨t312, A240, H⟩ := H
               replace H : (ref11_Of.l4 k4 l0 a1 l2 t312 true x11_3 (wrap64 (x12_4 + 1))) = some r := H
               have A24 := Aside0.mk A240
               clear A240
               have H' := Aside0.mk H
               clear H
               obtain ⟨Ao25, co25, eo25⟩ := Kd.R_slice HO_7.out
               subst eo25
               go_wp2_with (first | ((with_reducible refine gate_callee (f := 113) rfl ?_); refine goesL_ (some 57) rfl rfl Try.func113 (by kernel_rfl) rfl #[.slice Ao25 x7_4.length co25, .int .i64 x11_3, .int .i64 x12_4] rfl (by (try simp only [List.map_toArray, List.map_cons, List.map_nil]); first | done | rfl | (simp only [List.length_drop, List.length_take]; rfl)) ?_; (with_reducible refine (ref02_Has.calls k4 _ _ x7_4 x11_3 x12_4 false _ ?side1 ?side2 A19.out).mono ?_); (case side1 => repeat (first | exact (Kd.R_reads' HO_7.out).2.2 | (with_reducible refine Kd.C_alloc ?_ _) | (with_reducible refine Kd.C_drewN ?_ _) | (with_reducible refine Kd.C_drew ?_))); (case side2 => exact (Kd.R_reads' HO_7.out).2.1); rintro e w' ⟨rfl, ⟨nd, rfl⟩⟩; refine ⟨_, rfl, ?_⟩) | (go_at_call 114; (with_reducible refine (ref11_follows.calls k4 _ _ x7_4 (l0.length : Int) a1 _ _ l2 x11_3 x12_4 true _ ?side1 ?side2 ?side3 ?side4 A22.out).mono ?_); (case side1 => repeat (first | exact (Kd.R_reads' HO_7.out).2.2 | (with_reducible refine Kd.C_alloc ?_ _) | (with_reducible refine Kd.C_drewN ?_ _) | (with_reducible refine Kd.C_drew ?_))); (case side2 => exact (Kd.R_reads' HO_7.out).2.1); (case side3 => repeat (first | exact (Kd.C_below HR2.out (by repeat (first | (with_reducible first | exact HB.out | apply below_alloc | apply pw_below_drewN | apply below_drew1)))) | (with_reducible refine Kd.C_alloc ?_ _) | (with_reducible refine Kd.C_drewN ?_ _) | (with_reducible refine Kd.C_drew ?_))); (case side4 => exact HC2.out); rintro e w' ⟨rfl, ⟨nd, rfl⟩⟩) | ((with_reducible refine gate_callee (f := 112) rfl ?_); refine goesL_ (some 72) rfl rfl Try.func112 (by kernel_rfl) rfl #[.slice Ao25 x7_4.length co25, .int .i64 x11_3, .int .i64 x12_4] rfl (by (try simp only [List.map_toArray, List.map_cons, List.map_nil]); first | done | rfl | (simp only [List.length_drop, List.length_take]; rfl)) ?_; (with_reducible refine (ref02_Put.calls k4 (fun k_ => some k_ = (.slice Ao25 x7_4.length co25 : Value).ownBlock) (.slice Ao25 x7_4.length co25) x7_4 x11_3 x12_4 t312 w _ ?side1 ?side2 A24.out).mono ?_); (case side1 => repeat (first | (with_reducible first | exact HB.out | apply below_alloc | apply pw_below_drewN | apply below_drew1))); (case side2 => exact Kd.R_tight rfl HO_7.out); rintro e w26 ⟨v313, rfl, ho0, hb, hkp⟩; refine ⟨_, rfl, ?_⟩; have n0_ := Aside0.mk (Kd.R_mono (ok' := fun k_ => True) ho0 (fun k_ hk_ => trivial)); have n1_ := Aside0.mk (hb); clear HB; clear HO_7; have HO314 := n0_; have HB := n1_; clear n0_ n1_; (try clear hb); (try clear hkp); (try clear ho0)))
               go_roundg k4
               case measure => have := HK1.out; have := HK2.out; have := HK3.out; have := HK4.out; omega
               case rel => exact ⟨(t312), (true), (wrap64 (x12_4 + 1)), (by first | rfl | (simp; done) | (simp [*]; done)), (by first | rfl | (simp; done) | (simp [*]; done)), H', ⟨by have := HK1.out; have := HK2.out; have := HK3.out; have := HK4.out; omega⟩, ⟨by (with_reducible repeat (first | apply Kd.R_alloc | apply Kd.R_drewN | apply Kd.R_drew)); exact HO314.out⟩, ⟨by repeat (first | (with_reducible first | exact HB.out | apply below_alloc | apply pw_below_drewN | apply below_drew1))⟩⟩
              ·replace c23 := Bool.eq_false_iff.mpr c23
               subst c23
               have H1 : (ref11_Of.l4 k4 l0 a1 l2 x7_4 x10_4 x11_3 (wrap64 (x12_4 + 1))) = some r := by rw [if_neg (show ¬ (false = true) by decide)] at H; exact H
               clear H
               have H := H1
               clear H1
               have H' := Aside0.mk H
               clear H
               obtain ⟨Ao27, co27, eo27⟩ := Kd.R_slice HO_7.out
               subst eo27
               go_wp2_with (first | ((with_reducible refine gate_callee (f := 113) rfl ?_); refine goesL_ (some 57) rfl rfl Try.func113 (by kernel_rfl) rfl #[.slice Ao27 x7_4.length co27, .int .i64 x11_3, .int .i64 x12_4] rfl (by (try simp only [List.map_toArray, List.map_cons, List.map_nil]); first | done | rfl | (simp only [List.length_drop, List.length_take]; rfl)) ?_; (with_reducible refine (ref02_Has.calls k4 _ _ x7_4 x11_3 x12_4 false _ ?side1 ?side2 A19.out).mono ?_); (case side1 => repeat (first | exact (Kd.R_reads' HO_7.out).2.2 | (with_reducible refine Kd.C_alloc ?_ _) | (with_reducible refine Kd.C_drewN ?_ _) | (with_reducible refine Kd.C_drew ?_))); (case side2 => exact (Kd.R_reads' HO_7.out).2.1); rintro e w' ⟨rfl, ⟨nd, rfl⟩⟩; refine ⟨_, rfl, ?_⟩) | (go_at_call 114; (with_reducible refine (ref11_follows.calls k4 _ _ x7_4 (l0.length : Int) a1 _ _ l2 x11_3 x12_4 false _ ?side1 ?side2 ?side3 ?side4 A22.out).mono ?_); (case side1 => repeat (first | exact (Kd.R_reads' HO_7.out).2.2 | (with_reducible refine Kd.C_alloc ?_ _) | (with_reducible refine Kd.C_drewN ?_ _) | (with_reducible refine Kd.C_drew ?_))); (case side2 => exact (Kd.R_reads' HO_7.out).2.1); (case side3 => repeat (first | exact (Kd.C_below HR2.out (by repeat (first | (with_reducible first | exact HB.out | apply below_alloc | apply pw_below_drewN | apply below_drew1)))) | (with_reducible refine Kd.C_alloc ?_ _) | (with_reducible refine Kd.C_drewN ?_ _) | (with_reducible refine Kd.C_drew ?_))); (case side4 => exact HC2.out); rintro e w' ⟨rfl, ⟨nd, rfl⟩⟩))
               go_roundg k4
               case measure => have := HK1.out; have := HK2.out; have := HK3.out; have := HK4.out; omega
               case rel => exact ⟨(x7_4), (x10_4), (wrap64 (x12_4 + 1)), (by first | rfl | (simp; done) | (simp [*]; done)), (by first | rfl | (simp; done) | (simp [*]; done)), H', ⟨by have := HK1.out; have := HK2.out; have := HK3.out; have := HK4.out; omega⟩, ⟨by (with_reducible repeat (first | apply Kd.R_alloc | apply Kd.R_drewN | apply Kd.R_drew)); exact HO_7.out⟩, ⟨by repeat (first | (with_reducible first | exact HB.out | apply below_alloc | apply pw_below_drewN | apply below_drew1))⟩⟩
            ·rw [if_neg c18] at H
             have c18b0 : decide (x12_4 < (l0.length : Int)) = false := decide_eq_false c18
             clear c18
             have H' := Aside0.mk H
             clear H
             go_wp2
             go_roundg k4
             case measure => have := HK1.out; have := HK2.out; have := HK3.out; have := HK4.out; omega
             case rel => exact ⟨(x7_4), (x10_4), (wrap64 (x11_3 + 1)), (by first | rfl | (simp; done) | (simp [*]; done)), (by first | rfl | (simp; done) | (simp [*]; done)), H', ⟨by have := HK1.out; have := HK2.out; have := HK3.out; have := HK4.out; omega⟩, ⟨by (with_reducible repeat (first | apply Kd.R_alloc | apply Kd.R_drewN | apply Kd.R_drew)); exact HO_7.out⟩, ⟨by repeat (first | (with_reducible first | exact HB.out | apply below_alloc | apply pw_below_drewN | apply below_drew1))⟩⟩
         ·rw [if_neg c17] at H
          have c17b0 : decide (x11_3 < (l0.length : Int)) = false := decide_eq_false c17
          clear c17
          have H' := Aside0.mk H
          clear H
          go_wp2
          go_roundg k3
          case measure => have := HK1.out; have := HK2.out; have := HK3.out; omega
          case rel => exact ⟨(x7_3), (x10_3), (by first | rfl | (simp; done) | (simp [*]; done)), H', ⟨by have := HK1.out; have := HK2.out; have := HK3.out; omega⟩, ⟨by (with_reducible repeat (first | apply Kd.R_alloc | apply Kd.R_drewN | apply Kd.R_drew)); exact HO_7.out⟩, ⟨by repeat (first | (with_reducible first | exact HB.out | apply below_alloc | apply pw_below_drewN | apply below_drew1))⟩⟩
      ·replace c16 := Bool.eq_false_iff.mpr c16
       subst c16
       have H1 : (some x7_2) = some r := by rw [if_neg (show ¬ (false = true) by decide)] at H; exact H
       clear H
       have H := H1
       clear H1
       obtain rfl := Option.some.inj H
       go_wp2
       go_ret
       exact ⟨_, by first | rfl | (simp <;> rfl) | (simp [*] <;> rfl), by (with_reducible repeat (first | apply Kd.R_alloc | apply Kd.R_drewN | apply Kd.R_drew)); exact HO_7.out, by repeat (first | (with_reducible first | exact HB.out | apply below_alloc | apply pw_below_drewN | apply below_drew1))⟩
end Go.Proofs.Ytfocaefnmfkojaa.Q
namespace Go.Proofs.Ytfocaefnmfkojaa.Q
open Go.RowKit Go.Proofs.YtfocaefnmfkojaaW.PrintWords Go.Proofs.YtfocaefnmfkojaaW.PrintLast Go.Proofs.YtfocaefnmfkojaaW.PrintMore
attribute [local go_sem] max2_int min2_int max_two min_two max_three min_three max_four min_four   -- for this text's walks alone
set_option linter.unusedVariables false
set_option linter.unusedSimpArgs false
def ref12_last.l0 : Nat → List (S44) → List Int → List (S154) → Int → Int → Int → Int → Option (Int)
 | 0, _, _, _, _, _, _, _ => none
 | k + 1, x0, x1, x2, x3, x4, x11, x12 => if x12 < (x1.length : Int) then (if 0 ≤ x12 then ((ref02_Has.f k x2 (rd x1 x12) x3).bind fun t316 => (if t316 = true then ((ref08_Writes.f k x0 (rd x1 x12) x4).bind fun t318 => (if t318 = true then (ref12_last.l0 k x0 x1 x2 x3 x4 (rd x1 x12) (wrap64 (x12 + 1))) else (ref12_last.l0 k x0 x1 x2 x3 x4 x11 (wrap64 (x12 + 1))))) else (ref12_last.l0 k x0 x1 x2 x3 x4 x11 (wrap64 (x12 + 1))))) else (none)) else (some x11)
def ref12_last.f (k : Nat) (l0 : List (S44)) (l1 : List Int) (l2 : List (S154)) (a3 : Int) (a4 : Int) : Option (Int) := ref12_last.l0 k l0 l1 l2 a3 a4 (-1) 0
theorem ref12_last.mono_l : ∀ k, (∀ y0 y1 y2 y3 y4 y5 y6, LeO (ref12_last.l0 k y0 y1 y2 y3 y4 y5 y6) (ref12_last.l0 (k + 1) y0 y1 y2 y3 y4 y5 y6))
 | 0 => fun _ _ _ _ _ _ _ r h => by simp [ref12_last.l0] at h
 | k + 1 => by
  have ih0 := ref12_last.mono_l k
  ·intro y0 y1 y2 y3 y4 y5 y6
   unfold ref12_last.l0
   repeat' first
   | (with_reducible exact ih0 _ _ _ _ _ _ _)
   | (with_reducible exact ref02_Has.mono _ _ _ _)
   | (with_reducible exact ref08_Writes.mono _ _ _ _)
   | (with_reducible exact LeO.refl _)
   | (with_reducible exact LeO.none _)
   | (with_reducible refine LeO.ite ?_ ?_)
   | (with_reducible refine LeO.bind ?_ (fun _ => ?_))
   | exact ih0 _ _ _ _ _ _ _
   | exact ref02_Has.mono _ _ _ _
   | exact ref08_Writes.mono _ _ _ _
   | exact LeO.none _
   | refine LeO.ite ?_ ?_
   | refine LeO.bind ?_ (fun _ => ?_)
theorem ref12_last.mono : ∀ a0 a1 a2 a3 a4 k, LeO (ref12_last.f k a0 a1 a2 a3 a4) (ref12_last.f (k + 1) a0 a1 a2 a3 a4) := by
 intro a0 a1 a2 a3 a4 k
 have ih0 := ref12_last.mono_l k
 unfold ref12_last.f
 repeat' first
   | (with_reducible exact ih0 _ _ _ _ _ _ _)
   | (with_reducible exact ref02_Has.mono _ _ _ _)
   | (with_reducible exact ref08_Writes.mono _ _ _ _)
   | (with_reducible exact LeO.refl _)
   | (with_reducible exact LeO.none _)
   | (with_reducible refine LeO.ite ?_ ?_)
   | (with_reducible refine LeO.bind ?_ (fun _ => ?_))
   | exact ih0 _ _ _ _ _ _ _
   | exact ref02_Has.mono _ _ _ _
   | exact ref08_Writes.mono _ _ _ _
   | exact LeO.none _
   | refine LeO.ite ?_ ?_
   | refine LeO.bind ?_ (fun _ => ?_)
set_option maxHeartbeats 8000000 in
set_option maxRecDepth 100000 in
theorem ref12_last.calls (k : Nat) (A0 : Option Addr) (c0 : Nat) (l0 : List (S44)) (A1 : Option Addr) (c1 : Nat) (l1 : List Int) (A2 : Option Addr) (c2 : Nat) (l2 : List (S154)) (a3 : Int) (a4 : Int) (r : Int) (w : World) (hr0 : Kd.C k44 w A0 l0.length l0) (hc0 : l0.length ≤ c0) (hr1 : Kd.C (Kd.int .i64) w A1 l1.length l1) (hc1 : l1.length ≤ c1) (hr2 : Kd.C k154 w A2 l2.length l2) (hc2 : l2.length ≤ c2) (h : ref12_last.f k l0 l1 l2 a3 a4 = some r) :
  Calls Try.prog 115 #[.slice A0 l0.length c0, .slice A1 l1.length c1, .slice A2 l2.length c2, .int .i64 a3, .int .i64 a4] w fun e w' => e = .returned (.int .i64 r) ∧ Below w.heap.size w w' := by
 have HR0 := Aside0.mk hr0
 have HC0 := Aside0.mk hc0
 clear hr0 hc0
 have HR1 := Aside0.mk hr1
 have HC1 := Aside0.mk hc1
 clear hr1 hc1
 have HR2 := Aside0.mk hr2
 have HC2 := Aside0.mk hc2
 clear hr2 hc2
 have HB := Aside0.mk (Below.refl w.heap.size w)
 have H : (ref12_last.l0 k l0 l1 l2 a3 a4 (-1) 0) = some r := h
 clear h
 have H' := Aside0.mk H
 clear H
 go_enter Try.func115, Try.ntmps115
 go_wp2
 go_loopg [11, 12] k (fun kq v11 v12 w' => ∃ (x11_1 : Int) (x12_1 : Int), v11 = .int .i64 x11_1 ∧ v12 = .int .i64 x12_1 ∧ Aside0 (ref12_last.l0 kq l0 l1 l2 a3 a4 x11_1 x12_1 = some r) ∧ Aside0 (kq ≤ k) ∧ Aside0 (Below w.heap.size w w'))
 case atStart => exact ⟨((-1)), (0), (by first | rfl | (simp; done) | (simp [*]; done)), (by first | rfl | (simp; done) | (simp [*]; done)), H', ⟨Nat.le_refl _⟩, ⟨by repeat (first | (with_reducible first | exact HB.out | apply below_alloc | apply pw_below_drewN | apply below_drew1))⟩⟩
 case round =>
  clear H'
  try clear c1
  try clear c2
  try clear p2
  obtain ⟨x11_1, x12_1, rfl, rfl, HA, HK1, HB⟩ := hrel
  cases gk with
  | zero => exact absurd HA.out (by simp [ref12_last.l0])
  | succ k1 =>
   have H := HA.out
   clear HA
   simp only [ref12_last.l0] at H
   by_cases c6 : x12_1 < (l1.length : Int)
   ·rw [if_pos c6] at H
    have c6b0 : decide (x12_1 < (l1.length : Int)) = true := decide_eq_true c6
    clear c6
    by_cases c7 : 0 ≤ x12_1
    ·rw [if_pos c7] at H
     have c7b0 : decide (0 ≤ x12_1) = true := decide_eq_true c7
     clear c7
     replace H := Option.bind_eq_some_iff.mp H
     obtain ⟨t316, A80, H⟩ := H
     replace H : (if t316 = true then ((ref08_Writes.f k1 l0 (rd l1 x12_1) a4).bind fun t318 => (if t318 = true then (ref12_last.l0 k1 l0 l1 l2 a3 a4 (rd l1 x12_1) (wrap64 (x12_1 + 1))) else (ref12_last.l0 k1 l0 l1 l2 a3 a4 x11_1 (wrap64 (x12_1 + 1))))) else (ref12_last.l0 k1 l0 l1 l2 a3 a4 x11_1 (wrap64 (x12_1 + 1)))) = some r := H
     have A8 := Aside0.mk A80
     clear A80
     by_cases c9 : t316 = true
     ·subst c9
      have H1 : ((ref08_Writes.f k1 l0 (rd l1 x12_1) a4).bind fun t318 => (if t318 = true then (ref12_last.l0 k1 l0 l1 l2 a3 a4 (rd l1 x12_1) (wrap64 (x12_1 + 1))) else (ref12_last.l0 k1 l0 l1 l2 a3 a4 x11_1 (wrap64 (x12_1 + 1))))) = some r := by rw [if_pos rfl] at H; exact H
      clear H
      have H := H1
      clear H1
      replace H := Option.bind_eq_some_iff.mp H
      obtain ⟨t318, A100, H⟩ := H
      replace H : (if t318 = true then (ref12_last.l0 k1 l0 l1 l2 a3 a4 (rd l1 x12_1) (wrap64 (x12_1 + 1))) else (ref12_last.l0 k1 l0 l1 l2 a3 a4 x11_1 (wrap64 (x12_1 + 1)))) = some r := H
      have A10 := Aside0.mk A100
      clear A100
      by_cases c11 : t318 = true
      ·subst c11
       have H1 : (ref12_last.l0 k1 l0 l1 l2 a3 a4 (rd l1 x12_1) (wrap64 (x12_1 + 1))) = some r := by rw [if_pos rfl] at H; exact H
       clear H
       have H := H1
       clear H1
       have H' := Aside0.mk H
       clear H
       have p315 : 0 ≤ (x12_1 : Int) := of_decide_eq_true (by assumption)
       have q315 : x12_1 < (l1.length : Int) := of_decide_eq_true (by assumption)
       obtain ⟨ad315, e315, hx315_0⟩ := Kd.at_int HR1.out x12_1 p315 q315
       cases e315
       replace hx315_0 := (HB.out.cell (World.block_lt_of_cell? w _ hx315_0)).trans hx315_0
       replace p315 := eq_true p315
       replace q315 := eq_true q315
       go_wp2_with (first | ((with_reducible refine gate_callee (f := 113) rfl ?_); refine goesL_ (some 25) rfl rfl Try.func113 (by kernel_rfl) rfl #[.slice A2 l2.length c2, .int .i64 (rd l1 x12_1), .int .i64 a3] rfl (by (try simp only [List.map_toArray, List.map_cons, List.map_nil]); first | done | rfl | (simp only [List.length_drop, List.length_take]; rfl)) ?_; (with_reducible refine (ref02_Has.calls k1 _ _ l2 (rd l1 x12_1) a3 true _ ?side1 ?side2 A8.out).mono ?_); (case side1 => repeat (first | exact (Kd.C_below HR2.out HB.out) | (with_reducible refine Kd.C_alloc ?_ _) | (with_reducible refine Kd.C_drewN ?_ _) | (with_reducible refine Kd.C_drew ?_))); (case side2 => exact HC2.out); rintro e w' ⟨rfl, ⟨nd, rfl⟩⟩; refine ⟨_, rfl, ?_⟩; have p317 : 0 ≤ (x12_1 : Int) := of_decide_eq_true (by assumption); have q317 : x12_1 < (l1.length : Int) := of_decide_eq_true (by assumption); obtain ⟨ad317, e317, hx317_0⟩ := Kd.at_int HR1.out x12_1 p317 q317; obtain rfl : ad315 = ad317 := (by injection e317); replace hx317_0 := (HB.out.cell (World.block_lt_of_cell? w _ hx317_0)).trans hx317_0; replace p317 := eq_true p317; replace q317 := eq_true q317) | (go_at_call 82; (with_reducible refine (ref08_Writes.calls k1 _ _ l0 (rd l1 x12_1) a4 true _ ?side1 ?side2 A10.out).mono ?_); (case side1 => repeat (first | exact (Kd.C_below HR0.out (by repeat (first | (with_reducible first | exact HB.out | apply below_alloc | apply pw_below_drewN | apply below_drew1)))) | (with_reducible refine Kd.C_alloc ?_ _) | (with_reducible refine Kd.C_drewN ?_ _) | (with_reducible refine Kd.C_drew ?_))); (case side2 => exact HC0.out); rintro e w12 ⟨rfl, hb⟩; have n0_ := Aside0.mk (below_step (by repeat (first | (with_reducible first | exact HB.out | apply below_alloc | apply pw_below_drewN | apply below_drew1))) hb); clear HB; have HB := n0_; clear n0_; (try clear hb); (try clear hb2); (try clear hk); (try clear hi); have p319 : 0 ≤ (x12_1 : Int) := of_decide_eq_true (by assumption); have q319 : x12_1 < (l1.length : Int) := of_decide_eq_true (by assumption); obtain ⟨ad319, e319, hx319_0⟩ := Kd.at_int HR1.out x12_1 p319 q319; obtain rfl : ad315 = ad319 := (by injection e319); replace hx319_0 := (HB.out.cell (World.block_lt_of_cell? w _ hx319_0)).trans hx319_0; replace p319 := eq_true p319; replace q319 := eq_true q319))
       go_roundg k1
       case measure => have := HK1.out; omega
       case rel => exact ⟨(rd l1 x12_1), (wrap64 (x12_1 + 1)), (by first | rfl | (simp; done) | (simp [*]; done)), (by first | rfl | (simp; done) | (simp [*]; done)), H', ⟨by have := HK1.out; omega⟩, ⟨by repeat (first | (with_reducible first | exact HB.out | apply below_alloc | apply pw_below_drewN | apply below_drew1))⟩⟩
      ·replace c11 := Bool.eq_false_iff.mpr c11
       subst c11
       have H1 : (ref12_last.l0 k1 l0 l1 l2 a3 a4 x11_1 (wrap64 (x12_1 + 1))) = some r := by rw [if_neg (show ¬ (false = true) by decide)] at H; exact H
       clear H
       have H := H1
       clear H1
       have H' := Aside0.mk H
       clear H
       have p315 : 0 ≤ (x12_1 : Int) := of_decide_eq_true (by assumption)
       have q315 : x12_1 < (l1.length : Int) := of_decide_eq_true (by assumption)
       obtain ⟨ad315, e315, hx315_0⟩ := Kd.at_int HR1.out x12_1 p315 q315
       cases e315
       replace hx315_0 := (HB.out.cell (World.block_lt_of_cell? w _ hx315_0)).trans hx315_0
       replace p315 := eq_true p315
       replace q315 := eq_true q315
       go_wp2_with (first | ((with_reducible refine gate_callee (f := 113) rfl ?_); refine goesL_ (some 25) rfl rfl Try.func113 (by kernel_rfl) rfl #[.slice A2 l2.length c2, .int .i64 (rd l1 x12_1), .int .i64 a3] rfl (by (try simp only [List.map_toArray, List.map_cons, List.map_nil]); first | done | rfl | (simp only [List.length_drop, List.length_take]; rfl)) ?_; (with_reducible refine (ref02_Has.calls k1 _ _ l2 (rd l1 x12_1) a3 true _ ?side1 ?side2 A8.out).mono ?_); (case side1 => repeat (first | exact (Kd.C_below HR2.out HB.out) | (with_reducible refine Kd.C_alloc ?_ _) | (with_reducible refine Kd.C_drewN ?_ _) | (with_reducible refine Kd.C_drew ?_))); (case side2 => exact HC2.out); rintro e w' ⟨rfl, ⟨nd, rfl⟩⟩; refine ⟨_, rfl, ?_⟩; have p317 : 0 ≤ (x12_1 : Int) := of_decide_eq_true (by assumption); have q317 : x12_1 < (l1.length : Int) := of_decide_eq_true (by assumption); obtain ⟨ad317, e317, hx317_0⟩ := Kd.at_int HR1.out x12_1 p317 q317; obtain rfl : ad315 = ad317 := (by injection e317); replace hx317_0 := (HB.out.cell (World.block_lt_of_cell? w _ hx317_0)).trans hx317_0; replace p317 := eq_true p317; replace q317 := eq_true q317) | (go_at_call 82; (with_reducible refine (ref08_Writes.calls k1 _ _ l0 (rd l1 x12_1) a4 false _ ?side1 ?side2 A10.out).mono ?_); (case side1 => repeat (first | exact (Kd.C_below HR0.out (by repeat (first | (with_reducible first | exact HB.out | apply below_alloc | apply pw_below_drewN | apply below_drew1)))) | (with_reducible refine Kd.C_alloc ?_ _) | (with_reducible refine Kd.C_drewN ?_ _) | (with_reducible refine Kd.C_drew ?_))); (case side2 => exact HC0.out); rintro e w13 ⟨rfl, hb⟩; have n0_ := Aside0.mk (below_step (by repeat (first | (with_reducible first | exact HB.out | apply below_alloc | apply pw_below_drewN | apply below_drew1))) hb); clear HB; have HB := n0_; clear n0_; (try clear hb); (try clear hb2); (try clear hk); (try clear hi)))
       go_roundg k1
       case measure => have := HK1.out; omega
       case rel => exact ⟨(x11_1), (wrap64 (x12_1 + 1)), (by first | rfl | (simp; done) | (simp [*]; done)), (by first | rfl | (simp; done) | (simp [*]; done)), H', ⟨by have := HK1.out; omega⟩, ⟨by repeat (first | (with_reducible first | exact HB.out | apply below_alloc | apply pw_below_drewN | apply below_drew1))⟩⟩
     ·replace c9 := Bool.eq_false_iff.mpr c9
      subst c9
      have H1 : (ref12_last.l0 k1 l0 l1 l2 a3 a4 x11_1 (wrap64 (x12_1 + 1))) = some r := by rw [if_neg (show ¬ (false = true) by decide)] at H; exact H
      clear H
      have H := H1
      clear H1
      have H' := Aside0.mk H
      clear H
      have p315 : 0 ≤ (x12_1 : Int) := of_decide_eq_true (by assumption)
      have q315 : x12_1 < (l1.length : Int) := of_decide_eq_true (by assumption)
      obtain ⟨ad315, e315, hx315_0⟩ := Kd.at_int HR1.out x12_1 p315 q315
      cases e315
      replace hx315_0 := (HB.out.cell (World.block_lt_of_cell? w _ hx315_0)).trans hx315_0
      replace p315 := eq_true p315
      replace q315 := eq_true q315
      go_wp2_with (first | ((with_reducible refine gate_callee (f := 113) rfl ?_); refine goesL_ (some 25) rfl rfl Try.func113 (by kernel_rfl) rfl #[.slice A2 l2.length c2, .int .i64 (rd l1 x12_1), .int .i64 a3] rfl (by (try simp only [List.map_toArray, List.map_cons, List.map_nil]); first | done | rfl | (simp only [List.length_drop, List.length_take]; rfl)) ?_; (with_reducible refine (ref02_Has.calls k1 _ _ l2 (rd l1 x12_1) a3 false _ ?side1 ?side2 A8.out).mono ?_); (case side1 => repeat (first | exact (Kd.C_below HR2.out HB.out) | (with_reducible refine Kd.C_alloc ?_ _) | (with_reducible refine Kd.C_drewN ?_ _) | (with_reducible refine Kd.C_drew ?_))); (case side2 => exact HC2.out); rintro e w' ⟨rfl, ⟨nd, rfl⟩⟩; refine ⟨_, rfl, ?_⟩))
      go_roundg k1
      case measure => have := HK1.out; omega
      case rel => exact ⟨(x11_1), (wrap64 (x12_1 + 1)), (by first | rfl | (simp; done) | (simp [*]; done)), (by first | rfl | (simp; done) | (simp [*]; done)), H', ⟨by have := HK1.out; omega⟩, ⟨by repeat (first | (with_reducible first | exact HB.out | apply below_alloc | apply pw_below_drewN | apply below_drew1))⟩⟩
    ·rw [if_neg c7] at H
     exact absurd H (by simp)
   ·rw [if_neg c6] at H
    have c6b0 : decide (x12_1 < (l1.length : Int)) = false := decide_eq_false c6
    clear c6
    obtain rfl := Option.some.inj H
    go_wp2
    go_ret
    exact ⟨by first | rfl | (simp <;> rfl) | (simp [*] <;> rfl), by repeat (first | (with_reducible first | exact HB.out | apply below_alloc | apply pw_below_drewN | apply below_drew1))⟩
end Go.Proofs.Ytfocaefnmfkojaa.Q
namespace Go.Proofs.Ytfocaefnmfkojaa.Q
open Go.RowKit Go.Proofs.YtfocaefnmfkojaaW.PrintWords Go.Proofs.YtfocaefnmfkojaaW.PrintLast Go.Proofs.YtfocaefnmfkojaaW.PrintMore
attribute [local go_sem] max2_int min2_int max_two min_two max_three min_three max_four min_four   -- for this text's walks alone
set_option linter.unusedVariables false
set_option linter.unusedSimpArgs false
mutual
def ref12_Right.l0 : Nat → List (S44) → List Int → List (S154) → Int → Option (Bool)
 | 0, _, _, _, _ => none
 | k + 1, x0, x1, x2, x7 => if x7 < (x2.length : Int) then (if 0 ≤ x7 then ((ref11_Place.f k x1 ((rd_T154 x2 x7).f0)).bind fun t322 => ((ref11_Place.f k x1 ((rd_T154 x2 x7).f1)).bind fun t324 => (if t322 < 0 then (some false) else (if t324 < 0 then (some false) else (if t322 ≥ t324 then (some false) else (ref12_Right.l0 k x0 x1 x2 (wrap64 (x7 + 1)))))))) else (none)) else (ref12_Right.l1 k x0 x1 x2 0)
def ref12_Right.l1 : Nat → List (S44) → List Int → List (S154) → Int → Option (Bool)
 | 0, _, _, _, _ => none
 | k + 1, x0, x1, x2, x10 => if x10 < (x0.length : Int) then ((ref08_Reads.f k x0 x10).bind fun t325 => (ref12_Right.l2 k x0 x1 x2 x10 t325 0)) else (some true)
def ref12_Right.l2 : Nat → List (S44) → List Int → List (S154) → Int → List (S86) → Int → Option (Bool)
 | 0, _, _, _, _, _, _ => none
 | k + 1, x0, x1, x2, x10, x11, x12 => if x12 < (x11.length : Int) then (if 0 ≤ x12 then ((ref12_last.f k x0 x1 x2 x10 ((rd_T86 x11 x12).f0)).bind fun t329 => (if t329 = ((rd_T86 x11 x12).f1) then (ref12_Right.l2 k x0 x1 x2 x10 x11 (wrap64 (x12 + 1))) else (some false))) else (none)) else (ref12_Right.l1 k x0 x1 x2 (wrap64 (x10 + 1)))
end
def ref12_Right.f (k : Nat) (l0 : List (S44)) (l1 : List Int) (l2 : List (S154)) : Option (Bool) := (ref12_Row.f k (l0.length : Int) l1).bind fun t320 => (if t320 = true then (ref12_Right.l0 k l0 l1 l2 0) else (some false))
theorem ref12_Right.mono_l : ∀ k, (∀ y0 y1 y2 y3, LeO (ref12_Right.l0 k y0 y1 y2 y3) (ref12_Right.l0 (k + 1) y0 y1 y2 y3)) ∧ (∀ y0 y1 y2 y3, LeO (ref12_Right.l1 k y0 y1 y2 y3) (ref12_Right.l1 (k + 1) y0 y1 y2 y3)) ∧ (∀ y0 y1 y2 y3 y4 y5, LeO (ref12_Right.l2 k y0 y1 y2 y3 y4 y5) (ref12_Right.l2 (k + 1) y0 y1 y2 y3 y4 y5))
 | 0 => ⟨fun _ _ _ _ r h => by simp [ref12_Right.l0] at h, fun _ _ _ _ r h => by simp [ref12_Right.l1] at h, fun _ _ _ _ _ _ r h => by simp [ref12_Right.l2] at h⟩
 | k + 1 => by
  obtain ⟨ih0, ih1, ih2⟩ := ref12_Right.mono_l k
  refine ⟨?_, ?_, ?_⟩
  ·intro y0 y1 y2 y3
   unfold ref12_Right.l0
   repeat' first
   | (with_reducible exact ih0 _ _ _ _)
   | (with_reducible exact ih1 _ _ _ _)
   | (with_reducible exact ih2 _ _ _ _ _ _)
   | (with_reducible exact ref08_Reads.mono _ _ _)
   | (with_reducible exact ref11_Place.mono _ _ _)
   | (with_reducible exact ref12_Row.mono _ _ _)
   | (with_reducible exact ref12_last.mono _ _ _ _ _ _)
   | (with_reducible exact LeO.refl _)
   | (with_reducible exact LeO.none _)
   | (with_reducible refine LeO.ite ?_ ?_)
   | (with_reducible refine LeO.bind ?_ (fun _ => ?_))
   | exact ih0 _ _ _ _
   | exact ih1 _ _ _ _
   | exact ih2 _ _ _ _ _ _
   | exact ref08_Reads.mono _ _ _
   | exact ref11_Place.mono _ _ _
   | exact ref12_Row.mono _ _ _
   | exact ref12_last.mono _ _ _ _ _ _
   | exact LeO.none _
   | refine LeO.ite ?_ ?_
   | refine LeO.bind ?_ (fun _ => ?_)
  ·intro y0 y1 y2 y3
   unfold ref12_Right.l1
   repeat' first
   | (with_reducible exact ih0 _ _ _ _)
   | (with_reducible exact ih1 _ _ _ _)
   | (with_reducible exact ih2 _ _ _ _ _ _)
   | (with_reducible exact ref08_Reads.mono _ _ _)
   | (with_reducible exact ref11_Place.mono _ _ _)
   | (with_reducible exact ref12_Row.mono _ _ _)
   | (with_reducible exact ref12_last.mono _ _ _ _ _ _)
   | (with_reducible exact LeO.refl _)
   | (with_reducible exact LeO.none _)
   | (with_reducible refine LeO.ite ?_ ?_)
   | (with_reducible refine LeO.bind ?_ (fun _ => ?_))
   | exact ih0 _ _ _ _
   | exact ih1 _ _ _ _
   | exact ih2 _ _ _ _ _ _
   | exact ref08_Reads.mono _ _ _
   | exact ref11_Place.mono _ _ _
   | exact ref12_Row.mono _ _ _
   | exact ref12_last.mono _ _ _ _ _ _
   | exact LeO.none _
   | refine LeO.ite ?_ ?_
   | refine LeO.bind ?_ (fun _ => ?_)
  ·intro y0 y1 y2 y3 y4 y5
   unfold ref12_Right.l2
   repeat' first
   | (with_reducible exact ih0 _ _ _ _)
   | (with_reducible exact ih1 _ _ _ _)
   | (with_reducible exact ih2 _ _ _ _ _ _)
   | (with_reducible exact ref08_Reads.mono _ _ _)
   | (with_reducible exact ref11_Place.mono _ _ _)
   | (with_reducible exact ref12_Row.mono _ _ _)
   | (with_reducible exact ref12_last.mono _ _ _ _ _ _)
   | (with_reducible exact LeO.refl _)
   | (with_reducible exact LeO.none _)
   | (with_reducible refine LeO.ite ?_ ?_)
   | (with_reducible refine LeO.bind ?_ (fun _ => ?_))
   | exact ih0 _ _ _ _
   | exact ih1 _ _ _ _
   | exact ih2 _ _ _ _ _ _
   | exact ref08_Reads.mono _ _ _
   | exact ref11_Place.mono _ _ _
   | exact ref12_Row.mono _ _ _
   | exact ref12_last.mono _ _ _ _ _ _
   | exact LeO.none _
   | refine LeO.ite ?_ ?_
   | refine LeO.bind ?_ (fun _ => ?_)
theorem ref12_Right.mono : ∀ a0 a1 a2 k, LeO (ref12_Right.f k a0 a1 a2) (ref12_Right.f (k + 1) a0 a1 a2) := by
 intro a0 a1 a2 k
 obtain ⟨ih0, ih1, ih2⟩ := ref12_Right.mono_l k
 unfold ref12_Right.f
 repeat' first
   | (with_reducible exact ih0 _ _ _ _)
   | (with_reducible exact ih1 _ _ _ _)
   | (with_reducible exact ih2 _ _ _ _ _ _)
   | (with_reducible exact ref08_Reads.mono _ _ _)
   | (with_reducible exact ref11_Place.mono _ _ _)
   | (with_reducible exact ref12_Row.mono _ _ _)
   | (with_reducible exact ref12_last.mono _ _ _ _ _ _)
   | (with_reducible exact LeO.refl _)
   | (with_reducible exact LeO.none _)
   | (with_reducible refine LeO.ite ?_ ?_)
   | (with_reducible refine LeO.bind ?_ (fun _ => ?_))
   | exact ih0 _ _ _ _
   | exact ih1 _ _ _ _
   | exact ih2 _ _ _ _ _ _
   | exact ref08_Reads.mono _ _ _
   | exact ref11_Place.mono _ _ _
   | exact ref12_Row.mono _ _ _
   | exact ref12_last.mono _ _ _ _ _ _
   | exact LeO.none _
   | refine LeO.ite ?_ ?_
   | refine LeO.bind ?_ (fun _ => ?_)
def ref12_Right.T17 : Bool × List (List Nat × List Nat) := (true, [([], []), ([], []), ([], []), ([], []), ([], []), ([], []), ([4, 5], [4, 5]), ([6], [6]), ([7], [7]), ([0, 1, 2, 3, 8], [0, 1, 2, 3, 8]), ([], []), ([], []), ([10, 11], [10, 11]), ([12], [12]), ([13], [13]), ([9, 14], [9, 14])])
def ref12_Right.B17 : List Nat := [0, 0, 0, 0, 0, 0, 48, 112, 240, 511, 0, 0, 3072, 7168, 15360, 32767]
theorem ref12_Right.tab17 : rtab .any (opsOf Try.f106 17) = ref12_Right.T17 := by kernel_rfl
theorem ref12_Right.bits17 : waitsOk ref12_Right.T17.2 ref12_Right.B17 = true := by kernel_rfl
set_option maxHeartbeats 8000000 in
set_option maxRecDepth 100000 in
theorem ref12_Right.calls (k : Nat) (A0 : Option Addr) (c0 : Nat) (l0 : List (S44)) (A1 : Option Addr) (c1 : Nat) (l1 : List Int) (A2 : Option Addr) (c2 : Nat) (l2 : List (S154)) (r : Bool) (w : World) (hr0 : Kd.C k44 w A0 l0.length l0) (hc0 : l0.length ≤ c0) (hr1 : Kd.C (Kd.int .i64) w A1 l1.length l1) (hc1 : l1.length ≤ c1) (hr2 : Kd.C k154 w A2 l2.length l2) (hc2 : l2.length ≤ c2) (h : ref12_Right.f k l0 l1 l2 = some r) :
  Calls Try.prog 106 #[.slice A0 l0.length c0, .slice A1 l1.length c1, .slice A2 l2.length c2] w fun e w' => e = .returned (.bool r) ∧ Below w.heap.size w w' := by
 have HR0 := Aside0.mk hr0
 have HC0 := Aside0.mk hc0
 clear hr0 hc0
 have HR1 := Aside0.mk hr1
 have HC1 := Aside0.mk hc1
 clear hr1 hc1
 have HR2 := Aside0.mk hr2
 have HC2 := Aside0.mk hc2
 clear hr2 hc2
 have HB := Aside0.mk (Below.refl w.heap.size w)
 have H : ((ref12_Row.f k (l0.length : Int) l1).bind fun t320 => (if t320 = true then (ref12_Right.l0 k l0 l1 l2 0) else (some false))) = some r := h
 clear h
 replace H := Option.bind_eq_some_iff.mp H
 obtain ⟨t320, A40, H⟩ := H
 replace H : (if t320 = true then (ref12_Right.l0 k l0 l1 l2 0) else (some false)) = some r := H
 have A4 := Aside0.mk A40
 clear A40
 by_cases c5 : t320 = true
 ·subst c5
  have H1 : (ref12_Right.l0 k l0 l1 l2 0) = some r := by rw [if_pos rfl] at H; exact H
  clear H
  have H := H1
  clear H1
  have H' := Aside0.mk H
  clear H
  go_enter Try.func106, Try.ntmps106
  go_wp2_with (first | ((with_reducible refine gate_callee (f := 104) rfl ?_); refine goesL_ (some 16) rfl rfl Try.func104 (by kernel_rfl) rfl #[.int .i64 (l0.length : Int), .slice A1 l1.length c1] rfl (by (try simp only [List.map_toArray, List.map_cons, List.map_nil]); first | done | rfl | (simp only [List.length_drop, List.length_take]; rfl)) ?_; (with_reducible refine (ref12_Row.calls k (l0.length : Int) _ _ l1 true _ ?side1 ?side2 A4.out).mono ?_); (case side1 => repeat (first | exact HR1.out | (with_reducible refine Kd.C_alloc ?_ _) | (with_reducible refine Kd.C_drewN ?_ _) | (with_reducible refine Kd.C_drew ?_))); (case side2 => exact HC1.out); rintro e w' ⟨rfl, ⟨nd, rfl⟩⟩; refine ⟨_, rfl, ?_⟩))
  go_loopg [7] k (fun kq v7 w' => ∃ (x7_1 : Int), v7 = .int .i64 x7_1 ∧ Aside0 (ref12_Right.l0 kq l0 l1 l2 x7_1 = some r) ∧ Aside0 (kq ≤ k) ∧ Aside0 (Below w.heap.size w w'))
  case atStart => exact ⟨(0), (by first | rfl | (simp; done) | (simp [*]; done)), H', ⟨Nat.le_refl _⟩, ⟨by repeat (first | (with_reducible first | exact HB.out | apply below_alloc | apply pw_below_drewN | apply below_drew1))⟩⟩
  case round =>
   clear H'
   try clear c1
   try clear c2
   try clear p2
   try clear c5
   obtain ⟨x7_1, rfl, HA, HK1, HB⟩ := hrel
   cases gk with
   | zero => exact absurd HA.out (by simp [ref12_Right.l0])
   | succ k1 =>
    have H := HA.out
    clear HA
    simp only [ref12_Right.l0] at H
    by_cases c6 : x7_1 < (l2.length : Int)
    ·rw [if_pos c6] at H
     have c6b0 : decide (x7_1 < (l2.length : Int)) = true := decide_eq_true c6
     clear c6
     by_cases c7 : 0 ≤ x7_1
     ·rw [if_pos c7] at H
      have c7b0 : decide (0 ≤ x7_1) = true := decide_eq_true c7
      clear c7
      replace H := Option.bind_eq_some_iff.mp H
      obtain ⟨t322, A80, H⟩ := H
      replace H : ((ref11_Place.f k1 l1 ((rd_T154 l2 x7_1).f1)).bind fun t324 => (if t322 < 0 then (some false) else (if t324 < 0 then (some false) else (if t322 ≥ t324 then (some false) else (ref12_Right.l0 k1 l0 l1 l2 (wrap64 (x7_1 + 1))))))) = some r := H
      have A8 := Aside0.mk A80
      clear A80
      replace H := Option.bind_eq_some_iff.mp H
      obtain ⟨t324, A90, H⟩ := H
      replace H : (if t322 < 0 then (some false) else (if t324 < 0 then (some false) else (if t322 ≥ t324 then (some false) else (ref12_Right.l0 k1 l0 l1 l2 (wrap64 (x7_1 + 1)))))) = some r := H
      have A9 := Aside0.mk A90
      clear A90
      by_cases c10 : t322 < 0
      ·rw [if_pos c10] at H
       have c10b0 : decide (t322 < 0) = true := decide_eq_true c10
       clear c10
       obtain rfl := Option.some.inj H
       have p321 : 0 ≤ (x7_1 : Int) := of_decide_eq_true (by assumption)
       have q321 : x7_1 < (l2.length : Int) := of_decide_eq_true (by assumption)
       obtain ⟨ad321, e321, hx321_0, hx321_1⟩ := at_T154 HR2.out x7_1 p321 q321
       cases e321
       replace hx321_0 := (HB.out.cell (World.block_lt_of_cell? w _ hx321_0)).trans hx321_0
       replace hx321_1 := (HB.out.cell (World.block_lt_of_cell? w _ hx321_1)).trans hx321_1
       replace p321 := eq_true p321
       replace q321 := eq_true q321
       go_wp2_with (first | ((with_reducible refine gate_callee (f := 110) rfl ?_); refine goesL_ (some 30) rfl rfl Try.func110 (by kernel_rfl) rfl #[.slice A1 l1.length c1, .int .i64 ((rd_T154 l2 x7_1).f0)] rfl (by (try simp only [List.map_toArray, List.map_cons, List.map_nil]); first | done | rfl | (simp only [List.length_drop, List.length_take]; rfl)) ?_; (with_reducible refine (ref11_Place.calls k1 _ _ l1 ((rd_T154 l2 x7_1).f0) t322 _ ?side1 ?side2 A8.out).mono ?_); (case side1 => repeat (first | exact (Kd.C_below HR1.out HB.out) | (with_reducible refine Kd.C_alloc ?_ _) | (with_reducible refine Kd.C_drewN ?_ _) | (with_reducible refine Kd.C_drew ?_))); (case side2 => exact HC1.out); rintro e w' ⟨rfl, ⟨nd, rfl⟩⟩; refine ⟨_, rfl, ?_⟩; have p323 : 0 ≤ (x7_1 : Int) := of_decide_eq_true (by assumption); have q323 : x7_1 < (l2.length : Int) := of_decide_eq_true (by assumption); obtain ⟨ad323, e323, hx323_0, hx323_1⟩ := at_T154 HR2.out x7_1 p323 q323; obtain rfl : ad321 = ad323 := (by injection e323); replace hx323_0 := (HB.out.cell (World.block_lt_of_cell? w _ hx323_0)).trans hx323_0; replace hx323_1 := (HB.out.cell (World.block_lt_of_cell? w _ hx323_1)).trans hx323_1; replace p323 := eq_true p323; replace q323 := eq_true q323) | ((with_reducible refine gate_callee (f := 110) rfl ?_); refine goesL_ (some 37) rfl rfl Try.func110 (by kernel_rfl) rfl #[.slice A1 l1.length c1, .int .i64 ((rd_T154 l2 x7_1).f1)] rfl (by (try simp only [List.map_toArray, List.map_cons, List.map_nil]); first | done | rfl | (simp only [List.length_drop, List.length_take]; rfl)) ?_; (with_reducible refine (ref11_Place.calls k1 _ _ l1 ((rd_T154 l2 x7_1).f1) t324 _ ?side1 ?side2 A9.out).mono ?_); (case side1 => repeat (first | exact (Kd.C_below HR1.out (by repeat (first | (with_reducible first | exact HB.out | apply below_alloc | apply pw_below_drewN | apply below_drew1)))) | (with_reducible refine Kd.C_alloc ?_ _) | (with_reducible refine Kd.C_drewN ?_ _) | (with_reducible refine Kd.C_drew ?_))); (case side2 => exact HC1.out); rintro e w' ⟨rfl, ⟨nd, rfl⟩⟩; refine ⟨_, rfl, ?_⟩))
       go_ret
       exact ⟨by first | rfl | (simp <;> rfl) | (simp [*] <;> rfl), by repeat (first | (with_reducible first | exact HB.out | apply below_alloc | apply pw_below_drewN | apply below_drew1))⟩
      ·rw [if_neg c10] at H
       have c10b0 : decide (t322 < 0) = false := decide_eq_false c10
       clear c10
       by_cases c11 : t324 < 0
       ·rw [if_pos c11] at H
        have c11b0 : decide (t324 < 0) = true := decide_eq_true c11
        clear c11
        obtain rfl := Option.some.inj H
        have p321 : 0 ≤ (x7_1 : Int) := of_decide_eq_true (by assumption)
        have q321 : x7_1 < (l2.length : Int) := of_decide_eq_true (by assumption)
        obtain ⟨ad321, e321, hx321_0, hx321_1⟩ := at_T154 HR2.out x7_1 p321 q321
        cases e321
        replace hx321_0 := (HB.out.cell (World.block_lt_of_cell? w _ hx321_0)).trans hx321_0
        replace hx321_1 := (HB.out.cell (World.block_lt_of_cell? w _ hx321_1)).trans hx321_1
        replace p321 := eq_true p321
        replace q321 := eq_true q321
        go_wp2_with (first | ((with_reducible refine gate_callee (f := 110) rfl ?_); refine goesL_ (some 30) rfl rfl Try.func110 (by kernel_rfl) rfl #[.slice A1 l1.length c1, .int .i64 ((rd_T154 l2 x7_1).f0)] rfl (by (try simp only [List.map_toArray, List.map_cons, List.map_nil]); first | done | rfl | (simp only [List.length_drop, List.length_take]; rfl)) ?_; (with_reducible refine (ref11_Place.calls k1 _ _ l1 ((rd_T154 l2 x7_1).f0) t322 _ ?side1 ?side2 A8.out).mono ?_); (case side1 => repeat (first | exact (Kd.C_below HR1.out HB.out) | (with_reducible refine Kd.C_alloc ?_ _) | (with_reducible refine Kd.C_drewN ?_ _) | (with_reducible refine Kd.C_drew ?_))); (case side2 => exact HC1.out); rintro e w' ⟨rfl, ⟨nd, rfl⟩⟩; refine ⟨_, rfl, ?_⟩; have p323 : 0 ≤ (x7_1 : Int) := of_decide_eq_true (by assumption); have q323 : x7_1 < (l2.length : Int) := of_decide_eq_true (by assumption); obtain ⟨ad323, e323, hx323_0, hx323_1⟩ := at_T154 HR2.out x7_1 p323 q323; obtain rfl : ad321 = ad323 := (by injection e323); replace hx323_0 := (HB.out.cell (World.block_lt_of_cell? w _ hx323_0)).trans hx323_0; replace hx323_1 := (HB.out.cell (World.block_lt_of_cell? w _ hx323_1)).trans hx323_1; replace p323 := eq_true p323; replace q323 := eq_true q323) | ((with_reducible refine gate_callee (f := 110) rfl ?_); refine goesL_ (some 37) rfl rfl Try.func110 (by kernel_rfl) rfl #[.slice A1 l1.length c1, .int .i64 ((rd_T154 l2 x7_1).f1)] rfl (by (try simp only [List.map_toArray, List.map_cons, List.map_nil]); first | done | rfl | (simp only [List.length_drop, List.length_take]; rfl)) ?_; (with_reducible refine (ref11_Place.calls k1 _ _ l1 ((rd_T154 l2 x7_1).f1) t324 _ ?side1 ?side2 A9.out).mono ?_); (case side1 => repeat (first | exact (Kd.C_below HR1.out (by repeat (first | (with_reducible first | exact HB.out | apply below_alloc | apply pw_below_drewN | apply below_drew1)))) | (with_reducible refine Kd.C_alloc ?_ _) | (with_reducible refine Kd.C_drewN ?_ _) | (with_reducible refine Kd.C_drew ?_))); (case side2 => exact HC1.out); rintro e w' ⟨rfl, ⟨nd, rfl⟩⟩; refine ⟨_, rfl, ?_⟩))
        go_ret
        exact ⟨by first | rfl | (simp <;> rfl) | (simp [*] <;> rfl), by repeat (first | (with_reducible first | exact HB.out | apply below_alloc | apply pw_below_drewN | apply below_drew1))⟩
       ·rw [if_neg c11] at H
        have c11b0 : decide (t324 < 0) = false := decide_eq_false c11
        clear c11
        by_cases c12 : t322 ≥ t324
        ·rw [if_pos c12] at H
         have c12b0 : decide (t324 ≤ t322) = true := decide_eq_true c12
         clear c12
         obtain rfl := Option.some.inj H
         have p321 : 0 ≤ (x7_1 : Int) := of_decide_eq_true (by assumption)
         have q321 : x7_1 < (l2.length : Int) := of_decide_eq_true (by assumption)
         obtain ⟨ad321, e321, hx321_0, hx321_1⟩ := at_T154 HR2.out x7_1 p321 q321
         cases e321
         replace hx321_0 := (HB.out.cell (World.block_lt_of_cell? w _ hx321_0)).trans hx321_0
         replace hx321_1 := (HB.out.cell (World.block_lt_of_cell? w _ hx321_1)).trans hx321_1
         replace p321 := eq_true p321
         replace q321 := eq_true q321
         go_wp2_with (first | ((with_reducible refine gate_callee (f := 110) rfl ?_); refine goesL_ (some 30) rfl rfl Try.func110 (by kernel_rfl) rfl #[.slice A1 l1.length c1, .int .i64 ((rd_T154 l2 x7_1).f0)] rfl (by (try simp only [List.map_toArray, List.map_cons, List.map_nil]); first | done | rfl | (simp only [List.length_drop, List.length_take]; rfl)) ?_; (with_reducible refine (ref11_Place.calls k1 _ _ l1 ((rd_T154 l2 x7_1).f0) t322 _ ?side1 ?side2 A8.out).mono ?_); (case side1 => repeat (first | exact (Kd.C_below HR1.out HB.out) | (with_reducible refine Kd.C_alloc ?_ _) | (with_reducible refine Kd.C_drewN ?_ _) | (with_reducible refine Kd.C_drew ?_))); (case side2 => exact HC1.out); rintro e w' ⟨rfl, ⟨nd, rfl⟩⟩; refine ⟨_, rfl, ?_⟩; have p323 : 0 ≤ (x7_1 : Int) := of_decide_eq_true (by assumption); have q323 : x7_1 < (l2.length : Int) := of_decide_eq_true (by assumption); obtain ⟨ad323, e323, hx323_0, hx323_1⟩ := at_T154 HR2.out x7_1 p323 q323; obtain rfl : ad321 = ad323 := (by injection e323); replace hx323_0 := (HB.out.cell (World.block_lt_of_cell? w _ hx323_0)).trans hx323_0; replace hx323_1 := (HB.out.cell (World.block_lt_of_cell? w _ hx323_1)).trans hx323_1; replace p323 := eq_true p323; replace q323 := eq_true q323) | ((with_reducible refine gate_callee (f := 110) rfl ?_); refine goesL_ (some 37) rfl rfl Try.func110 (by kernel_rfl) rfl #[.slice A1 l1.length c1, .int .i64 ((rd_T154 l2 x7_1).f1)] rfl (by (try simp only [List.map_toArray, List.map_cons, List.map_nil]); first | done | rfl | (simp only [List.length_drop, List.length_take]; rfl)) ?_; (with_reducible refine (ref11_Place.calls k1 _ _ l1 ((rd_T154 l2 x7_1).f1) t324 _ ?side1 ?side2 A9.out).mono ?_); (case side1 => repeat (first | exact (Kd.C_below HR1.out (by repeat (first | (with_reducible first | exact HB.out | apply below_alloc | apply pw_below_drewN | apply below_drew1)))) | (with_reducible refine Kd.C_alloc ?_ _) | (with_reducible refine Kd.C_drewN ?_ _) | (with_reducible refine Kd.C_drew ?_))); (case side2 => exact HC1.out); rintro e w' ⟨rfl, ⟨nd, rfl⟩⟩; refine ⟨_, rfl, ?_⟩))
         go_ret
         exact ⟨by first | rfl | (simp <;> rfl) | (simp [*] <;> rfl), by repeat (first | (with_reducible first | exact HB.out | apply below_alloc | apply pw_below_drewN | apply below_drew1))⟩
        ·rw [if_neg c12] at H
         have c12b0 : decide (t324 ≤ t322) = false := decide_eq_false c12
         clear c12
         have H' := Aside0.mk H
         clear H
         have p321 : 0 ≤ (x7_1 : Int) := of_decide_eq_true (by assumption)
         have q321 : x7_1 < (l2.length : Int) := of_decide_eq_true (by assumption)
         obtain ⟨ad321, e321, hx321_0, hx321_1⟩ := at_T154 HR2.out x7_1 p321 q321
         cases e321
         replace hx321_0 := (HB.out.cell (World.block_lt_of_cell? w _ hx321_0)).trans hx321_0
         replace hx321_1 := (HB.out.cell (World.block_lt_of_cell? w _ hx321_1)).trans hx321_1
         replace p321 := eq_true p321
         replace q321 := eq_true q321
         go_wp2_with (first | ((with_reducible refine gate_callee (f := 110) rfl ?_); refine goesL_ (some 30) rfl rfl Try.func110 (by kernel_rfl) rfl #[.slice A1 l1.length c1, .int .i64 ((rd_T154 l2 x7_1).f0)] rfl (by (try simp only [List.map_toArray, List.map_cons, List.map_nil]); first | done | rfl | (simp only [List.length_drop, List.length_take]; rfl)) ?_; (with_reducible refine (ref11_Place.calls k1 _ _ l1 ((rd_T154 l2 x7_1).f0) t322 _ ?side1 ?side2 A8.out).mono ?_); (case side1 => repeat (first | exact (Kd.C_below HR1.out HB.out) | (with_reducible refine Kd.C_alloc ?_ _) | (with_reducible refine Kd.C_drewN ?_ _) | (with_reducible refine Kd.C_drew ?_))); (case side2 => exact HC1.out); rintro e w' ⟨rfl, ⟨nd, rfl⟩⟩; refine ⟨_, rfl, ?_⟩; have p323 : 0 ≤ (x7_1 : Int) := of_decide_eq_true (by assumption); have q323 : x7_1 < (l2.length : Int) := of_decide_eq_true (by assumption); obtain ⟨ad323, e323, hx323_0, hx323_1⟩ := at_T154 HR2.out x7_1 p323 q323; obtain rfl : ad321 = ad323 := (by injection e323); replace hx323_0 := (HB.out.cell (World.block_lt_of_cell? w _ hx323_0)).trans hx323_0; replace hx323_1 := (HB.out.cell (World.block_lt_of_cell? w _ hx323_1)).trans hx323_1; replace p323 := eq_true p323; replace q323 := eq_true q323) | ((with_reducible refine gate_callee (f := 110) rfl ?_); refine goesL_ (some 37) rfl rfl Try.func110 (by kernel_rfl) rfl #[.slice A1 l1.length c1, .int .i64 ((rd_T154 l2 x7_1).f1)] rfl (by (try simp only [List.map_toArray, List.map_cons, List.map_nil]); first | done | rfl | (simp only [List.length_drop, List.length_take]; rfl)) ?_; (with_reducible refine (ref11_Place.calls k1 _ _ l1 ((rd_T154 l2 x7_1).f1) t324 _ ?side1 ?side2 A9.out).mono ?_); (case side1 => repeat (first | exact (Kd.C_below HR1.out (by repeat (first | (with_reducible first | exact HB.out | apply below_alloc | apply pw_below_drewN | apply below_drew1)))) | (with_reducible refine Kd.C_alloc ?_ _) | (with_reducible refine Kd.C_drewN ?_ _) | (with_reducible refine Kd.C_drew ?_))); (case side2 => exact HC1.out); rintro e w' ⟨rfl, ⟨nd, rfl⟩⟩; refine ⟨_, rfl, ?_⟩))
         go_roundg k1
         case measure => have := HK1.out; omega
         case rel => exact ⟨(wrap64 (x7_1 + 1)), (by first | rfl | (simp; done) | (simp [*]; done)), H', ⟨by have := HK1.out; omega⟩, ⟨by repeat (first | (with_reducible first | exact HB.out | apply below_alloc | apply pw_below_drewN | apply below_drew1))⟩⟩
     ·rw [if_neg c7] at H
      exact absurd H (by simp)
    ·rw [if_neg c6] at H
     have c6b0 : decide (x7_1 < (l2.length : Int)) = false := decide_eq_false c6
     clear c6
     have H' := Aside0.mk H
     clear H
     go_wp2
     go_loopg [10] k1 (fun kq v10 w' => ∃ (x10_2 : Int), v10 = .int .i64 x10_2 ∧ Aside0 (ref12_Right.l1 kq l0 l1 l2 x10_2 = some r) ∧ Aside0 (kq ≤ k1) ∧ Aside0 (Below w.heap.size w w'))
     case atStart => exact ⟨(0), (by first | rfl | (simp; done) | (simp [*]; done)), H', ⟨Nat.le_refl _⟩, ⟨by repeat (first | (with_reducible first | exact HB.out | apply below_alloc | apply pw_below_drewN | apply below_drew1))⟩⟩
     case round =>
      clear H'
      try clear c1
      try clear c2
      try clear p2
      try clear p3
      try clear q3
      try clear hx3
      try clear c5
      try clear c6
      try clear c6b0
      try clear p6
      try clear c7
      try clear c7b0
      try clear c10
      try clear c10b0
      try clear c11
      try clear c11b0
      try clear c12
      try clear c12b0
      try clear hx321_0
      try clear hx321_1
      try clear hx323_0
      try clear hx323_1
      try clear p2
      try clear p321
      try clear p323
      try clear q321
      try clear q323
      obtain ⟨x10_2, rfl, HA, HK2, HB⟩ := hrel
      cases gk with
      | zero => exact absurd HA.out (by simp [ref12_Right.l1])
      | succ k2 =>
       have H := HA.out
       clear HA
       simp only [ref12_Right.l1] at H
       by_cases c13 : x10_2 < (l0.length : Int)
       ·rw [if_pos c13] at H
        have c13b0 : decide (x10_2 < (l0.length : Int)) = true := decide_eq_true c13
        clear c13
        replace H := Option.bind_eq_some_iff.mp H
        obtain ⟨t325, A140, H⟩ := H
        replace H : (ref12_Right.l2 k2 l0 l1 l2 x10_2 t325 0) = some r := H
        have A14 := Aside0.mk A140
        clear A140
        have H' := Aside0.mk H
        clear H
        go_wp2_with (first | ((with_reducible refine gate_callee (f := 43) rfl ?_); refine goesL_ (some 57) rfl rfl Try.func43 (by kernel_rfl) rfl #[.slice A0 l0.length c0, .int .i64 x10_2] rfl (by (try simp only [List.map_toArray, List.map_cons, List.map_nil]); first | done | rfl | (simp only [List.length_drop, List.length_take]; rfl)) ?_; (with_reducible refine (ref08_Reads.calls k2 _ _ l0 x10_2 t325 _ ?side1 ?side2 A14.out).mono ?_); (case side1 => repeat (first | exact (Kd.C_below HR0.out HB.out) | (with_reducible refine Kd.C_alloc ?_ _) | (with_reducible refine Kd.C_drewN ?_ _) | (with_reducible refine Kd.C_drew ?_))); (case side2 => exact HC0.out); rintro e w15 ⟨v326, rfl, ho0, hb⟩; refine ⟨_, rfl, ?_⟩; have n0_ := Aside0.mk (Kd.R_lower ho0 (below_size (by repeat (first | (with_reducible first | exact HB.out | apply below_alloc | apply pw_below_drewN | apply below_drew1))))); have n1_ := Aside0.mk (below_step (by repeat (first | (with_reducible first | exact HB.out | apply below_alloc | apply pw_below_drewN | apply below_drew1))) hb); clear HB; have HO327 := n0_; have HB := n1_; clear n0_ n1_; (try clear hb); (try clear hb2); (try clear hk); (try clear hi); (try clear ho0)))
        go_loopg [12] k2 (fun kq v12 w' => ∃ (x12_3 : Int), v12 = .int .i64 x12_3 ∧ Aside0 (ref12_Right.l2 kq l0 l1 l2 x10_2 t325 x12_3 = some r) ∧ Aside0 (kq ≤ k2) ∧ Aside0 (Kd.R k86 86 w' w.heap.size (fun _ => True) v326 t325) ∧ Aside0 (Below w.heap.size w w'))
        case atStart => exact ⟨(0), (by first | rfl | (simp; done) | (simp [*]; done)), H', ⟨Nat.le_refl _⟩, ⟨by (with_reducible repeat (first | apply Kd.R_alloc | apply Kd.R_drewN | apply Kd.R_drew)); exact HO327.out⟩, ⟨by repeat (first | (with_reducible first | exact HB.out | apply below_alloc | apply pw_below_drewN | apply below_drew1))⟩⟩
        case round =>
         clear H'
         try clear c1
         try clear c2
         try clear p2
         try clear p3
         try clear q3
         try clear hx3
         try clear c4
         try clear c5
         try clear c6
         try clear c6b0
         try clear p6
         try clear c7
         try clear c7b0
         try clear c10
         try clear c10b0
         try clear c11
         try clear c11b0
         try clear c12
         try clear c12b0
         try clear c13
         try clear c13b0
         try clear hx321_0
         try clear hx321_1
         try clear hx323_0
         try clear hx323_1
         try clear p2
         try clear p3
         try clear p321
         try clear p323
         try clear p6
         try clear q3
         try clear q321
         try clear q323
         obtain ⟨x12_3, rfl, HA, HK3, HO_11, HB⟩ := hrel
         cases gk with
         | zero => exact absurd HA.out (by simp [ref12_Right.l2])
         | succ k3 =>
          have H := HA.out
          clear HA
          simp only [ref12_Right.l2] at H
          by_cases c16 : x12_3 < (t325.length : Int)
          ·rw [if_pos c16] at H
           have c16b0 : decide (x12_3 < (t325.length : Int)) = true := decide_eq_true c16
           clear c16
           by_cases c17 : 0 ≤ x12_3
           ·rw [if_pos c17] at H
            have c17b0 : decide (0 ≤ x12_3) = true := decide_eq_true c17
            clear c17
            replace H := Option.bind_eq_some_iff.mp H
            obtain ⟨t329, A180, H⟩ := H
            replace H : (if t329 = ((rd_T86 t325 x12_3).f1) then (ref12_Right.l2 k3 l0 l1 l2 x10_2 t325 (wrap64 (x12_3 + 1))) else (some false)) = some r := H
            have A18 := Aside0.mk A180
            clear A180
            by_cases c19 : t329 = ((rd_T86 t325 x12_3).f1)
            ·rw [if_pos c19] at H
             have c19b0 : (t329 == ((rd_T86 t325 x12_3).f1)) = true := beq_iff_eq.mpr c19
             have c19b1 : (t329 != ((rd_T86 t325 x12_3).f1)) = false := bne_eq_false_iff_eq.mpr c19
             clear c19
             have H' := Aside0.mk H
             clear H
             obtain ⟨Ao20, co20, eo20⟩ := Kd.R_slice HO_11.out
             subst eo20
             try go_wp2
             have n0_ := Aside0.mk (Kd.R_drew HO_11.out)
             have n1_ := Aside0.mk (below_drew1 HB.out)
             clear HO_11
             clear HB
             have HO_11 := n0_
             have HB := n1_
             clear n0_ n1_
             have p328 : 0 ≤ (x12_3 : Int) := of_decide_eq_true (by assumption)
             have q328 : x12_3 < (t325.length : Int) := of_decide_eq_true (by assumption)
             obtain ⟨ad328, e328, hx328_0, hx328_1⟩ := at_T86 (Kd.R_reads' HO_11.out).2.2 x12_3 p328 q328
             cases e328
             replace p328 := eq_true p328
             replace q328 := eq_true q328
             have p330 : 0 ≤ (x12_3 : Int) := of_decide_eq_true (by assumption)
             have q330 : x12_3 < (t325.length : Int) := of_decide_eq_true (by assumption)
             obtain ⟨ad330, e330, hx330_0, hx330_1⟩ := at_T86 (Kd.R_reads' HO_11.out).2.2 x12_3 p330 q330
             obtain rfl : ad328 = ad330 := (by injection e330)
             replace p330 := eq_true p330
             replace q330 := eq_true q330
             refine start_ (n := 16) (S := fun w' => w'.cell? (ad328.add ((x12_3).toNat * 2)) = some (.int .i64 ((rd_T86 t325 x12_3).f0)) ∧ w'.cell? ⟨(ad328.add ((x12_3).toNat * 2)).block, (ad328.add ((x12_3).toNat * 2)).off + 1, none⟩ = some (.int .i64 ((rd_T86 t325 x12_3).f1)) ∧ w'.cell? (ad328.add ((x12_3).toNat * 2)) = some (.int .i64 ((rd_T86 t325 x12_3).f0)) ∧ w'.cell? ⟨(ad328.add ((x12_3).toNat * 2)).block, (ad328.add ((x12_3).toNat * 2)).off + 1, none⟩ = some (.int .i64 ((rd_T86 t325 x12_3).f1))) (ds := []) #[false, false, false, false, false, false, false, false, false, false, false, false, false, false, false, false] (by kernel_rfl) rfl rfl ⟨hx328_0, hx328_1, hx330_0, hx330_1⟩ (fun hHeld => ?_); refine with_tabW ref12_Right.tab17 ref12_Right.bits17 (fun HT_ HW_ => ?_)
             generalize wr.drew = w21 at HO_11 HB hx328_0 hx328_1 hx330_0 hx330_1 hHeld ⊢
             refine pure_ (i := 0) (N := some 64) (v := ?_) (a' := ?_) #[true, false, false, false, false, false, false, false, false, false, false, false, false, false, false, false] rfl rfl (any_of HT_.out (by kernel_rfl)) (fun _ _ _ h => h) (Or.inl ⟨by rfl, ?_⟩) ?_ ?_
             rotate_left
             ·intro w'
              go_simp
              with_reducible rfl
             rotate_left
             ·simp only [Act.put, List.setIfInBounds_toArray, List.set_cons_zero, List.set_cons_succ, i64_w, i32_w]
              rfl
             refine pure_ (i := 1) (N := some 65) (v := ?_) (a' := ?_) #[true, true, false, false, false, false, false, false, false, false, false, false, false, false, false, false] rfl rfl (any_of HT_.out (by kernel_rfl)) (fun _ _ _ h => h) (Or.inl ⟨by rfl, ?_⟩) ?_ ?_
             rotate_left
             ·intro w'
              go_simp
              with_reducible rfl
             rotate_left
             ·simp only [Act.put, List.setIfInBounds_toArray, List.set_cons_zero, List.set_cons_succ, i64_w, i32_w]
              rfl
             refine pure_ (i := 2) (N := some 66) (v := ?_) (a' := ?_) #[true, true, true, false, false, false, false, false, false, false, false, false, false, false, false, false] rfl rfl (any_of HT_.out (by kernel_rfl)) (fun _ _ _ h => h) (Or.inl ⟨by rfl, ?_⟩) ?_ ?_
             rotate_left
             ·intro w'
              go_simp
              with_reducible rfl
             rotate_left
             ·simp only [Act.put, List.setIfInBounds_toArray, List.set_cons_zero, List.set_cons_succ, i64_w, i32_w]
              rfl
             refine pure_ (i := 3) (N := some 67) (v := ?_) (a' := ?_) #[true, true, true, true, false, false, false, false, false, false, false, false, false, false, false, false] rfl rfl (any_of HT_.out (by kernel_rfl)) (fun _ _ _ h => h) (Or.inl ⟨by rfl, ?_⟩) ?_ ?_
             rotate_left
             ·intro w'
              go_simp
              with_reducible rfl
             rotate_left
             ·simp only [Act.put, List.setIfInBounds_toArray, List.set_cons_zero, List.set_cons_succ, i64_w, i32_w]
              rfl
             refine pure_ (i := 4) (N := some 68) (v := ?_) (a' := ?_) #[true, true, true, true, true, false, false, false, false, false, false, false, false, false, false, false] rfl rfl (any_of HT_.out (by kernel_rfl)) (fun _ _ _ h => h) (Or.inl ⟨by rfl, ?_⟩) ?_ ?_
             rotate_left
             ·intro w'
              go_simp
              with_reducible rfl
             rotate_left
             ·simp only [Act.put, List.setIfInBounds_toArray, List.set_cons_zero, List.set_cons_succ, i64_w, i32_w]
              rfl
             refine pure_ (i := 5) (N := some 69) (v := ?_) (a' := ?_) #[true, true, true, true, true, true, false, false, false, false, false, false, false, false, false, false] rfl rfl (any_of HT_.out (by kernel_rfl)) (fun _ _ _ h => h) (Or.inl ⟨by rfl, ?_⟩) ?_ ?_
             rotate_left
             ·intro w'
              go_simp
              with_reducible rfl
             rotate_left
             ·simp only [Act.put, List.setIfInBounds_toArray, List.set_cons_zero, List.set_cons_succ, i64_w, i32_w]
              rfl
             refine pure_ (i := 6) (N := some 70) (v := ?_) (a' := ?_) #[true, true, true, true, true, true, true, false, false, false, false, false, false, false, false, false] rfl rfl (any_of HT_.out (by kernel_rfl)) (fun _ _ _ h => h) (Or.inl ⟨by rfl, ?_⟩) ?_ ?_
             rotate_left
             ·intro w'
              go_simp
              with_reducible rfl
             rotate_left
             ·simp only [Act.put, List.setIfInBounds_toArray, List.set_cons_zero, List.set_cons_succ, i64_w, i32_w]
              rfl
             refine pure_ (i := 7) (N := some 71) (v := ?_) (a' := ?_) #[true, true, true, true, true, true, true, true, false, false, false, false, false, false, false, false] rfl rfl (any_of HT_.out (by kernel_rfl)) (fun _ _ _ h => h) (Or.inl ⟨by rfl, ?_⟩) ?_ ?_
             rotate_left
             ·intro w'
              go_simp
              with_reducible rfl
             rotate_left
             ·simp only [Act.put, List.setIfInBounds_toArray, List.set_cons_zero, List.set_cons_succ, i64_w, i32_w]
              rfl
             refine pure_ (i := 10) (N := some 74) (v := ?_) (a' := ?_) #[true, true, true, true, true, true, true, true, false, false, true, false, false, false, false, false] rfl rfl (any_of HT_.out (by kernel_rfl)) (fun _ _ _ h => h) (Or.inl ⟨by rfl, ?_⟩) ?_ ?_
             rotate_left
             ·intro w'
              go_simp
              with_reducible rfl
             rotate_left
             ·simp only [Act.put, List.setIfInBounds_toArray, List.set_cons_zero, List.set_cons_succ, i64_w, i32_w]
              rfl
             refine pure_ (i := 11) (N := some 75) (v := ?_) (a' := ?_) #[true, true, true, true, true, true, true, true, false, false, true, true, false, false, false, false] rfl rfl (any_of HT_.out (by kernel_rfl)) (fun _ _ _ h => h) (Or.inl ⟨by rfl, ?_⟩) ?_ ?_
             rotate_left
             ·intro w'
              go_simp
              with_reducible rfl
             rotate_left
             ·simp only [Act.put, List.setIfInBounds_toArray, List.set_cons_zero, List.set_cons_succ, i64_w, i32_w]
              rfl
             refine pure_ (i := 12) (N := some 76) (v := ?_) (a' := ?_) #[true, true, true, true, true, true, true, true, false, false, true, true, true, false, false, false] rfl rfl (any_of HT_.out (by kernel_rfl)) (fun _ _ _ h => h) (Or.inl ⟨by rfl, ?_⟩) ?_ ?_
             rotate_left
             ·intro w'
              go_simp
              with_reducible rfl
             rotate_left
             ·simp only [Act.put, List.setIfInBounds_toArray, List.set_cons_zero, List.set_cons_succ, i64_w, i32_w]
              rfl
             refine pure_ (i := 13) (N := some 77) (v := ?_) (a' := ?_) #[true, true, true, true, true, true, true, true, false, false, true, true, true, true, false, false] rfl rfl (any_of HT_.out (by kernel_rfl)) (fun _ _ _ h => h) (Or.inl ⟨by rfl, ?_⟩) ?_ ?_
             rotate_left
             ·intro w'
              go_simp
              with_reducible rfl
             rotate_left
             ·simp only [Act.put, List.setIfInBounds_toArray, List.set_cons_zero, List.set_cons_succ, i64_w, i32_w]
              rfl
             refine take_ (i := 8) (N := some 72) (v := ?_) (a' := ?_) #[true, true, true, true, true, true, true, true, true, false, true, true, true, true, false, false] rfl rfl (take_ofW HT_.out HW_.out (by kernel_rfl)) (fun _ _ _ h => h) (Or.inl ⟨by rfl, ?_⟩) hHeld ?_ ?_
             rotate_left
             ·rintro w' ⟨s0, s1, s2, s3⟩
              go_simp
              with_reducible rfl
             rotate_left
             ·simp only [Act.put, List.setIfInBounds_toArray, List.set_cons_zero, List.set_cons_succ, i64_w, i32_w]
              rfl
             refine take_ (i := 14) (N := some 78) (v := ?_) (a' := ?_) #[true, true, true, true, true, true, true, true, true, false, true, true, true, true, true, false] rfl rfl (take_ofW HT_.out HW_.out (by kernel_rfl)) (fun _ _ _ h => h) (Or.inl ⟨by rfl, ?_⟩) hHeld ?_ ?_
             rotate_left
             ·rintro w' ⟨s0, s1, s2, s3⟩
              go_simp
              with_reducible rfl
             rotate_left
             ·simp only [Act.put, List.setIfInBounds_toArray, List.set_cons_zero, List.set_cons_succ, i64_w, i32_w]
              rfl
             refine one_ (i := 9) (N := some 73) #[true, true, true, true, true, true, true, true, true, true, true, true, true, true, true, false] rfl rfl (one_of HT_.out (by kernel_rfl)) (by decide) (fun K hK => ?_)
             refine goes_ Try.func115 (by kernel_rfl) rfl #[.slice A0 l0.length c0, .slice A1 l1.length c1, .slice A2 l2.length c2, .int .i64 x10_2, .int .i64 ((rd_T86 t325 x12_3).f0)] (by rfl) rfl rfl (by (try simp only [List.map_toArray, List.map_cons, List.map_nil]); first | done | rfl | (simp only [List.length_drop, List.length_take]; rfl)) ?_
             with_reducible refine (ref12_last.calls k3 _ _ l0 _ _ l1 _ _ l2 x10_2 ((rd_T86 t325 x12_3).f0) t329 _ ?side1 ?side2 ?side3 ?side4 ?side5 ?side6 A18.out).mono ?_
             (case side1 => repeat (first | exact (Kd.C_below HR0.out HB.out) | (with_reducible refine Kd.C_alloc ?_ _) | (with_reducible refine Kd.C_drewN ?_ _) | (with_reducible refine Kd.C_drew ?_)))
             (case side2 => exact HC0.out)
             (case side3 => repeat (first | exact (Kd.C_below HR1.out HB.out) | (with_reducible refine Kd.C_alloc ?_ _) | (with_reducible refine Kd.C_drewN ?_ _) | (with_reducible refine Kd.C_drew ?_)))
             (case side4 => exact HC1.out)
             (case side5 => repeat (first | exact (Kd.C_below HR2.out HB.out) | (with_reducible refine Kd.C_alloc ?_ _) | (with_reducible refine Kd.C_drewN ?_ _) | (with_reducible refine Kd.C_drew ?_)))
             (case side6 => exact HC2.out)
             rintro e w22 ⟨rfl, hb⟩
             have HS0_ := (hb.cell (World.block_lt_of_cell? _ _ (hHeld.1))).trans (hHeld.1)
             have HS1_ := (hb.cell (World.block_lt_of_cell? _ _ (hHeld.2.1))).trans (hHeld.2.1)
             have HS2_ := (hb.cell (World.block_lt_of_cell? _ _ (hHeld.2.2.1))).trans (hHeld.2.2.1)
             have HS3_ := (hb.cell (World.block_lt_of_cell? _ _ (hHeld.2.2.2))).trans (hHeld.2.2.2)
             refine ⟨_, rfl, ?_⟩
             have n0_ := Aside0.mk (Kd.R_below (by (with_reducible repeat (first | apply Kd.R_alloc | apply Kd.R_drewN | apply Kd.R_drew)); exact HO_11.out) hb)
             have n1_ := Aside0.mk (below_step (by repeat (first | (with_reducible first | exact HB.out | apply below_alloc | apply pw_below_drewN | apply below_drew1))) hb)
             clear HO_11
             clear HB
             have HO_11 := n0_
             have HB := n1_
             clear n0_ n1_
             (try clear hb)
             (try clear hb2)
             (try clear hk)
             (try clear hi)
             refine hK.out _ _ ⟨HS0_, HS1_, HS2_, HS3_⟩ (fun hHeld => ?_)
             clear hK K
             refine norm_ (a' := ?_) ?_ ?_
             rotate_left
             ·show Act.put _ (some 73) _ = _
              simp only [Act.put, List.setIfInBounds_toArray, List.set_cons_zero, List.set_cons_succ, i64_w, i32_w]
              rfl
             refine pure_ (i := 15) (N := some 79) (v := ?_) (a' := ?_) #[true, true, true, true, true, true, true, true, true, true, true, true, true, true, true, true] rfl rfl (any_of HT_.out (by kernel_rfl)) (fun _ _ _ h => h) (Or.inl ⟨by rfl, ?_⟩) ?_ ?_
             rotate_left
             ·intro w'
              go_simp
              with_reducible rfl
             rotate_left
             ·simp only [Act.put, List.setIfInBounds_toArray, List.set_cons_zero, List.set_cons_succ, i64_w, i32_w]
              rfl
             refine done_ (done_of HT_.out (by kernel_rfl)) ?_
             try go_wp2
             go_roundg k3
             case measure => have := HK1.out; have := HK2.out; have := HK3.out; omega
             case rel => exact ⟨(wrap64 (x12_3 + 1)), (by first | rfl | (simp; done) | (simp [*]; done)), H', ⟨by have := HK1.out; have := HK2.out; have := HK3.out; omega⟩, ⟨by (with_reducible repeat (first | apply Kd.R_alloc | apply Kd.R_drewN | apply Kd.R_drew)); exact HO_11.out⟩, ⟨by repeat (first | (with_reducible first | exact HB.out | apply below_alloc | apply pw_below_drewN | apply below_drew1))⟩⟩
            ·rw [if_neg c19] at H
             have c19b0 : (t329 == ((rd_T86 t325 x12_3).f1)) = false := beq_eq_false_iff_ne.mpr c19
             have c19b1 : (t329 != ((rd_T86 t325 x12_3).f1)) = true := bne_iff_ne.mpr c19
             obtain rfl := Option.some.inj H
             obtain ⟨Ao23, co23, eo23⟩ := Kd.R_slice HO_11.out
             subst eo23
             try go_wp2
             have n0_ := Aside0.mk (Kd.R_drew HO_11.out)
             have n1_ := Aside0.mk (below_drew1 HB.out)
             clear HO_11
             clear HB
             have HO_11 := n0_
             have HB := n1_
             clear n0_ n1_
             have p328 : 0 ≤ (x12_3 : Int) := of_decide_eq_true (by assumption)
             have q328 : x12_3 < (t325.length : Int) := of_decide_eq_true (by assumption)
             obtain ⟨ad328, e328, hx328_0, hx328_1⟩ := at_T86 (Kd.R_reads' HO_11.out).2.2 x12_3 p328 q328
             cases e328
             replace p328 := eq_true p328
             replace q328 := eq_true q328
             have p330 : 0 ≤ (x12_3 : Int) := of_decide_eq_true (by assumption)
             have q330 : x12_3 < (t325.length : Int) := of_decide_eq_true (by assumption)
             obtain ⟨ad330, e330, hx330_0, hx330_1⟩ := at_T86 (Kd.R_reads' HO_11.out).2.2 x12_3 p330 q330
             obtain rfl : ad328 = ad330 := (by injection e330)
             replace p330 := eq_true p330
             replace q330 := eq_true q330
             refine start_ (n := 16) (S := fun w' => w'.cell? (ad328.add ((x12_3).toNat * 2)) = some (.int .i64 ((rd_T86 t325 x12_3).f0)) ∧ w'.cell? ⟨(ad328.add ((x12_3).toNat * 2)).block, (ad328.add ((x12_3).toNat * 2)).off + 1, none⟩ = some (.int .i64 ((rd_T86 t325 x12_3).f1)) ∧ w'.cell? (ad328.add ((x12_3).toNat * 2)) = some (.int .i64 ((rd_T86 t325 x12_3).f0)) ∧ w'.cell? ⟨(ad328.add ((x12_3).toNat * 2)).block, (ad328.add ((x12_3).toNat * 2)).off + 1, none⟩ = some (.int .i64 ((rd_T86 t325 x12_3).f1))) (ds := []) #[false, false, false, false, false, false, false, false, false, false, false, false, false, false, false, false] (by kernel_rfl) rfl rfl ⟨hx328_0, hx328_1, hx330_0, hx330_1⟩ (fun hHeld => ?_); refine with_tabW ref12_Right.tab17 ref12_Right.bits17 (fun HT_ HW_ => ?_)
             generalize wr.drew = w24 at HO_11 HB hx328_0 hx328_1 hx330_0 hx330_1 hHeld ⊢
             refine pure_ (i := 0) (N := some 64) (v := ?_) (a' := ?_) #[true, false, false, false, false, false, false, false, false, false, false, false, false, false, false, false] rfl rfl (any_of HT_.out (by kernel_rfl)) (fun _ _ _ h => h) (Or.inl ⟨by rfl, ?_⟩) ?_ ?_
             rotate_left
             ·intro w'
              go_simp
              with_reducible rfl
             rotate_left
             ·simp only [Act.put, List.setIfInBounds_toArray, List.set_cons_zero, List.set_cons_succ, i64_w, i32_w]
              rfl
             refine pure_ (i := 1) (N := some 65) (v := ?_) (a' := ?_) #[true, true, false, false, false, false, false, false, false, false, false, false, false, false, false, false] rfl rfl (any_of HT_.out (by kernel_rfl)) (fun _ _ _ h => h) (Or.inl ⟨by rfl, ?_⟩) ?_ ?_
             rotate_left
             ·intro w'
              go_simp
              with_reducible rfl
             rotate_left
             ·simp only [Act.put, List.setIfInBounds_toArray, List.set_cons_zero, List.set_cons_succ, i64_w, i32_w]
              rfl
             refine pure_ (i := 2) (N := some 66) (v := ?_) (a' := ?_) #[true, true, true, false, false, false, false, false, false, false, false, false, false, false, false, false] rfl rfl (any_of HT_.out (by kernel_rfl)) (fun _ _ _ h => h) (Or.inl ⟨by rfl, ?_⟩) ?_ ?_
             rotate_left
             ·intro w'
              go_simp
              with_reducible rfl
             rotate_left
             ·simp only [Act.put, List.setIfInBounds_toArray, List.set_cons_zero, List.set_cons_succ, i64_w, i32_w]
              rfl
             refine pure_ (i := 3) (N := some 67) (v := ?_) (a' := ?_) #[true, true, true, true, false, false, false, false, false, false, false, false, false, false, false, false] rfl rfl (any_of HT_.out (by kernel_rfl)) (fun _ _ _ h => h) (Or.inl ⟨by rfl, ?_⟩) ?_ ?_
             rotate_left
             ·intro w'
              go_simp
              with_reducible rfl
             rotate_left
             ·simp only [Act.put, List.setIfInBounds_toArray, List.set_cons_zero, List.set_cons_succ, i64_w, i32_w]
              rfl
             refine pure_ (i := 4) (N := some 68) (v := ?_) (a' := ?_) #[true, true, true, true, true, false, false, false, false, false, false, false, false, false, false, false] rfl rfl (any_of HT_.out (by kernel_rfl)) (fun _ _ _ h => h) (Or.inl ⟨by rfl, ?_⟩) ?_ ?_
             rotate_left
             ·intro w'
              go_simp
              with_reducible rfl
             rotate_left
             ·simp only [Act.put, List.setIfInBounds_toArray, List.set_cons_zero, List.set_cons_succ, i64_w, i32_w]
              rfl
             refine pure_ (i := 5) (N := some 69) (v := ?_) (a' := ?_) #[true, true, true, true, true, true, false, false, false, false, false, false, false, false, false, false] rfl rfl (any_of HT_.out (by kernel_rfl)) (fun _ _ _ h => h) (Or.inl ⟨by rfl, ?_⟩) ?_ ?_
             rotate_left
             ·intro w'
              go_simp
              with_reducible rfl
             rotate_left
             ·simp only [Act.put, List.setIfInBounds_toArray, List.set_cons_zero, List.set_cons_succ, i64_w, i32_w]
              rfl
             refine pure_ (i := 6) (N := some 70) (v := ?_) (a' := ?_) #[true, true, true, true, true, true, true, false, false, false, false, false, false, false, false, false] rfl rfl (any_of HT_.out (by kernel_rfl)) (fun _ _ _ h => h) (Or.inl ⟨by rfl, ?_⟩) ?_ ?_
             rotate_left
             ·intro w'
              go_simp
              with_reducible rfl
             rotate_left
             ·simp only [Act.put, List.setIfInBounds_toArray, List.set_cons_zero, List.set_cons_succ, i64_w, i32_w]
              rfl
             refine pure_ (i := 7) (N := some 71) (v := ?_) (a' := ?_) #[true, true, true, true, true, true, true, true, false, false, false, false, false, false, false, false] rfl rfl (any_of HT_.out (by kernel_rfl)) (fun _ _ _ h => h) (Or.inl ⟨by rfl, ?_⟩) ?_ ?_
             rotate_left
             ·intro w'
              go_simp
              with_reducible rfl
             rotate_left
             ·simp only [Act.put, List.setIfInBounds_toArray, List.set_cons_zero, List.set_cons_succ, i64_w, i32_w]
              rfl
             refine pure_ (i := 10) (N := some 74) (v := ?_) (a' := ?_) #[true, true, true, true, true, true, true, true, false, false, true, false, false, false, false, false] rfl rfl (any_of HT_.out (by kernel_rfl)) (fun _ _ _ h => h) (Or.inl ⟨by rfl, ?_⟩) ?_ ?_
             rotate_left
             ·intro w'
              go_simp
              with_reducible rfl
             rotate_left
             ·simp only [Act.put, List.setIfInBounds_toArray, List.set_cons_zero, List.set_cons_succ, i64_w, i32_w]
              rfl
             refine pure_ (i := 11) (N := some 75) (v := ?_) (a' := ?_) #[true, true, true, true, true, true, true, true, false, false, true, true, false, false, false, false] rfl rfl (any_of HT_.out (by kernel_rfl)) (fun _ _ _ h => h) (Or.inl ⟨by rfl, ?_⟩) ?_ ?_
             rotate_left
             ·intro w'
              go_simp
              with_reducible rfl
             rotate_left
             ·simp only [Act.put, List.setIfInBounds_toArray, List.set_cons_zero, List.set_cons_succ, i64_w, i32_w]
              rfl
             refine pure_ (i := 12) (N := some 76) (v := ?_) (a' := ?_) #[true, true, true, true, true, true, true, true, false, false, true, true, true, false, false, false] rfl rfl (any_of HT_.out (by kernel_rfl)) (fun _ _ _ h => h) (Or.inl ⟨by rfl, ?_⟩) ?_ ?_
             rotate_left
             ·intro w'
              go_simp
              with_reducible rfl
             rotate_left
             ·simp only [Act.put, List.setIfInBounds_toArray, List.set_cons_zero, List.set_cons_succ, i64_w, i32_w]
              rfl
             refine pure_ (i := 13) (N := some 77) (v := ?_) (a' := ?_) #[true, true, true, true, true, true, true, true, false, false, true, true, true, true, false, false] rfl rfl (any_of HT_.out (by kernel_rfl)) (fun _ _ _ h => h) (Or.inl ⟨by rfl, ?_⟩) ?_ ?_
             rotate_left
             ·intro w'
              go_simp
              with_reducible rfl
             rotate_left
             ·simp only [Act.put, List.setIfInBounds_toArray, List.set_cons_zero, List.set_cons_succ, i64_w, i32_w]
              rfl
             refine take_ (i := 8) (N := some 72) (v := ?_) (a' := ?_) #[true, true, true, true, true, true, true, true, true, false, true, true, true, true, false, false] rfl rfl (take_ofW HT_.out HW_.out (by kernel_rfl)) (fun _ _ _ h => h) (Or.inl ⟨by rfl, ?_⟩) hHeld ?_ ?_
             rotate_left
             ·rintro w' ⟨s0, s1, s2, s3⟩
              go_simp
              with_reducible rfl
             rotate_left
             ·simp only [Act.put, List.setIfInBounds_toArray, List.set_cons_zero, List.set_cons_succ, i64_w, i32_w]
              rfl
             refine take_ (i := 14) (N := some 78) (v := ?_) (a' := ?_) #[true, true, true, true, true, true, true, true, true, false, true, true, true, true, true, false] rfl rfl (take_ofW HT_.out HW_.out (by kernel_rfl)) (fun _ _ _ h => h) (Or.inl ⟨by rfl, ?_⟩) hHeld ?_ ?_
             rotate_left
             ·rintro w' ⟨s0, s1, s2, s3⟩
              go_simp
              with_reducible rfl
             rotate_left
             ·simp only [Act.put, List.setIfInBounds_toArray, List.set_cons_zero, List.set_cons_succ, i64_w, i32_w]
              rfl
             refine one_ (i := 9) (N := some 73) #[true, true, true, true, true, true, true, true, true, true, true, true, true, true, true, false] rfl rfl (one_of HT_.out (by kernel_rfl)) (by decide) (fun K hK => ?_)
             refine goes_ Try.func115 (by kernel_rfl) rfl #[.slice A0 l0.length c0, .slice A1 l1.length c1, .slice A2 l2.length c2, .int .i64 x10_2, .int .i64 ((rd_T86 t325 x12_3).f0)] (by rfl) rfl rfl (by (try simp only [List.map_toArray, List.map_cons, List.map_nil]); first | done | rfl | (simp only [List.length_drop, List.length_take]; rfl)) ?_
             with_reducible refine (ref12_last.calls k3 _ _ l0 _ _ l1 _ _ l2 x10_2 ((rd_T86 t325 x12_3).f0) t329 _ ?side1 ?side2 ?side3 ?side4 ?side5 ?side6 A18.out).mono ?_
             (case side1 => repeat (first | exact (Kd.C_below HR0.out HB.out) | (with_reducible refine Kd.C_alloc ?_ _) | (with_reducible refine Kd.C_drewN ?_ _) | (with_reducible refine Kd.C_drew ?_)))
             (case side2 => exact HC0.out)
             (case side3 => repeat (first | exact (Kd.C_below HR1.out HB.out) | (with_reducible refine Kd.C_alloc ?_ _) | (with_reducible refine Kd.C_drewN ?_ _) | (with_reducible refine Kd.C_drew ?_)))
             (case side4 => exact HC1.out)
             (case side5 => repeat (first | exact (Kd.C_below HR2.out HB.out) | (with_reducible refine Kd.C_alloc ?_ _) | (with_reducible refine Kd.C_drewN ?_ _) | (with_reducible refine Kd.C_drew ?_)))
             (case side6 => exact HC2.out)
             rintro e w25 ⟨rfl, hb⟩
             have HS0_ := (hb.cell (World.block_lt_of_cell? _ _ (hHeld.1))).trans (hHeld.1)
             have HS1_ := (hb.cell (World.block_lt_of_cell? _ _ (hHeld.2.1))).trans (hHeld.2.1)
             have HS2_ := (hb.cell (World.block_lt_of_cell? _ _ (hHeld.2.2.1))).trans (hHeld.2.2.1)
             have HS3_ := (hb.cell (World.block_lt_of_cell? _ _ (hHeld.2.2.2))).trans (hHeld.2.2.2)
             refine ⟨_, rfl, ?_⟩
             have n0_ := Aside0.mk (Kd.R_below (by (with_reducible repeat (first | apply Kd.R_alloc | apply Kd.R_drewN | apply Kd.R_drew)); exact HO_11.out) hb)
             have n1_ := Aside0.mk (below_step (by repeat (first | (with_reducible first | exact HB.out | apply below_alloc | apply pw_below_drewN | apply below_drew1))) hb)
             clear HO_11
             clear HB
             have HO_11 := n0_
             have HB := n1_
             clear n0_ n1_
             (try clear hb)
             (try clear hb2)
             (try clear hk)
             (try clear hi)
             refine hK.out _ _ ⟨HS0_, HS1_, HS2_, HS3_⟩ (fun hHeld => ?_)
             clear hK K
             refine norm_ (a' := ?_) ?_ ?_
             rotate_left
             ·show Act.put _ (some 73) _ = _
              simp only [Act.put, List.setIfInBounds_toArray, List.set_cons_zero, List.set_cons_succ, i64_w, i32_w]
              rfl
             refine pure_ (i := 15) (N := some 79) (v := ?_) (a' := ?_) #[true, true, true, true, true, true, true, true, true, true, true, true, true, true, true, true] rfl rfl (any_of HT_.out (by kernel_rfl)) (fun _ _ _ h => h) (Or.inl ⟨by rfl, ?_⟩) ?_ ?_
             rotate_left
             ·intro w'
              go_simp
              with_reducible rfl
             rotate_left
             ·simp only [Act.put, List.setIfInBounds_toArray, List.set_cons_zero, List.set_cons_succ, i64_w, i32_w]
              rfl
             refine done_ (done_of HT_.out (by kernel_rfl)) ?_
             try go_wp2
             go_ret
             exact ⟨by first | rfl | (simp <;> rfl) | (simp [*] <;> rfl), by repeat (first | (with_reducible first | exact HB.out | apply below_alloc | apply pw_below_drewN | apply below_drew1))⟩
           ·rw [if_neg c17] at H
            exact absurd H (by simp)
          ·rw [if_neg c16] at H
           have c16b0 : decide (x12_3 < (t325.length : Int)) = false := decide_eq_false c16
           clear c16
           have H' := Aside0.mk H
           clear H
           obtain ⟨Ao26, co26, eo26⟩ := Kd.R_slice HO_11.out
           subst eo26
           go_wp2
           go_roundg k3
           case measure => have := HK1.out; have := HK2.out; have := HK3.out; omega
           case rel => exact ⟨(wrap64 (x10_2 + 1)), (by first | rfl | (simp; done) | (simp [*]; done)), H', ⟨by have := HK1.out; have := HK2.out; have := HK3.out; omega⟩, ⟨by repeat (first | (with_reducible first | exact HB.out | apply below_alloc | apply pw_below_drewN | apply below_drew1))⟩⟩
       ·rw [if_neg c13] at H
        have c13b0 : decide (x10_2 < (l0.length : Int)) = false := decide_eq_false c13
        clear c13
        obtain rfl := Option.some.inj H
        go_wp2
        go_ret
        exact ⟨by first | rfl | (simp <;> rfl) | (simp [*] <;> rfl), by repeat (first | (with_reducible first | exact HB.out | apply below_alloc | apply pw_below_drewN | apply below_drew1))⟩
 ·replace c5 := Bool.eq_false_iff.mpr c5
  subst c5
  have H1 : (some false) = some r := by rw [if_neg (show ¬ (false = true) by decide)] at H; exact H
  clear H
  have H := H1
  clear H1
  obtain rfl := Option.some.inj H
  go_enter Try.func106, Try.ntmps106
  go_wp2_with (first | ((with_reducible refine gate_callee (f := 104) rfl ?_); refine goesL_ (some 16) rfl rfl Try.func104 (by kernel_rfl) rfl #[.int .i64 (l0.length : Int), .slice A1 l1.length c1] rfl (by (try simp only [List.map_toArray, List.map_cons, List.map_nil]); first | done | rfl | (simp only [List.length_drop, List.length_take]; rfl)) ?_; (with_reducible refine (ref12_Row.calls k (l0.length : Int) _ _ l1 false _ ?side1 ?side2 A4.out).mono ?_); (case side1 => repeat (first | exact HR1.out | (with_reducible refine Kd.C_alloc ?_ _) | (with_reducible refine Kd.C_drewN ?_ _) | (with_reducible refine Kd.C_drew ?_))); (case side2 => exact HC1.out); rintro e w' ⟨rfl, ⟨nd, rfl⟩⟩; refine ⟨_, rfl, ?_⟩))
  go_ret
  exact ⟨by first | rfl | (simp <;> rfl) | (simp [*] <;> rfl), by repeat (first | (with_reducible first | exact HB.out | apply below_alloc | apply pw_below_drewN | apply below_drew1))⟩
end Go.Proofs.Ytfocaefnmfkojaa.Q
