/- A part of the proof of historyCopies_holds: words and contracts that its last text uses. -/
import Derived.Test.YtfocaefnmfkojaaCHistoryCopies1
namespace Go.Proofs.Ytfocaefnmfkojaa.Q
open Go.RowKit Go.Proofs.YtfocaefnmfkojaaW.PrintWords Go.Proofs.YtfocaefnmfkojaaW.PrintLast Go.Proofs.YtfocaefnmfkojaaW.PrintMore
attribute [local go_sem] max2_int min2_int max_two min_two max_three min_three max_four min_four   -- for this text's walks alone
set_option linter.unusedVariables false
set_option linter.unusedSimpArgs false
mutual
def api_Op_120.l0 : Nat → List (S46) → Int → Int → Int → Option ((List (S46)))
 | 0, _, _, _, _ => none
 | k + 1, x0, x1, x10, x11 => if x10 < x11 then (if 0 ≤ (wrap64 ((IntKind.u64.wrap (wrap64 (x10 + x11))) / 2)) then (if (wrap64 ((IntKind.u64.wrap (wrap64 (x10 + x11))) / 2)) < (x0.length : Int) then (if 0 ≤ x1 then (if x1 < (x0.length : Int) then ((txn_byKey_1.f ((rd_T46 x0 (wrap64 ((IntKind.u64.wrap (wrap64 (x10 + x11))) / 2))).f0) ((rd_T46 x0 (wrap64 ((IntKind.u64.wrap (wrap64 (x10 + x11))) / 2))).f1) ((rd_T46 x0 (wrap64 ((IntKind.u64.wrap (wrap64 (x10 + x11))) / 2))).f2) ((rd_T46 x0 x1).f0) ((rd_T46 x0 x1).f1) ((rd_T46 x0 x1).f2)).bind fun t103 => (if t103 < 0 then (api_Op_120.l0 k x0 x1 (wrap64 ((wrap64 ((IntKind.u64.wrap (wrap64 (x10 + x11))) / 2)) + 1)) x11) else (api_Op_120.l0 k x0 x1 x10 (wrap64 ((IntKind.u64.wrap (wrap64 (x10 + x11))) / 2))))) else (none)) else (none)) else (none)) else (none)) else (api_Op_120.l1 k x0 x10 x1)
def api_Op_120.l1 : Nat → List (S46) → Int → Int → Option ((List (S46)))
 | 0, _, _, _ => none
 | k + 1, x0, x10, x13 => if x13 < (wrap64 (x10 - 1)) then (if 0 ≤ (wrap64 (x13 + 1)) then (if (wrap64 (x13 + 1)) < (x0.length : Int) then (if 0 ≤ x13 then (if x13 < (x0.length : Int) then (api_Op_120.l1 k ((x0.set (x13 : Int).toNat (⟨(rd_T46 x0 (wrap64 (x13 + 1))).f0, (rd_T46 x0 (wrap64 (x13 + 1))).f1, (rd_T46 x0 (wrap64 (x13 + 1))).f2⟩ : S46)).set ((wrap64 (x13 + 1)) : Int).toNat (⟨(rd_T46 x0 x13).f0, (rd_T46 x0 x13).f1, (rd_T46 x0 x13).f2⟩ : S46)) x10 (wrap64 (x13 + 1))) else (none)) else (none)) else (none)) else (none)) else (some x0)
def api_Op_120.l2 : Nat → List (S46) → Int → Int → Int → Option ((List (S46)))
 | 0, _, _, _, _ => none
 | k + 1, x0, x2, x14, x15 => if x14 < x15 then (if 0 ≤ x2 then (if x2 < (x0.length : Int) then (if 0 ≤ (wrap64 ((IntKind.u64.wrap (wrap64 (x14 + x15))) / 2)) then (if (wrap64 ((IntKind.u64.wrap (wrap64 (x14 + x15))) / 2)) < (x0.length : Int) then ((txn_byKey_1.f ((rd_T46 x0 x2).f0) ((rd_T46 x0 x2).f1) ((rd_T46 x0 x2).f2) ((rd_T46 x0 (wrap64 ((IntKind.u64.wrap (wrap64 (x14 + x15))) / 2))).f0) ((rd_T46 x0 (wrap64 ((IntKind.u64.wrap (wrap64 (x14 + x15))) / 2))).f1) ((rd_T46 x0 (wrap64 ((IntKind.u64.wrap (wrap64 (x14 + x15))) / 2))).f2)).bind fun t110 => (if t110 < 0 then (api_Op_120.l2 k x0 x2 x14 (wrap64 ((IntKind.u64.wrap (wrap64 (x14 + x15))) / 2))) else (api_Op_120.l2 k x0 x2 (wrap64 ((wrap64 ((IntKind.u64.wrap (wrap64 (x14 + x15))) / 2)) + 1)) x15))) else (none)) else (none)) else (none)) else (none)) else (api_Op_120.l3 k x0 x14 x2)
def api_Op_120.l3 : Nat → List (S46) → Int → Int → Option ((List (S46)))
 | 0, _, _, _ => none
 | k + 1, x0, x14, x17 => if x17 > x14 then (if 0 ≤ (wrap64 (x17 - 1)) then (if (wrap64 (x17 - 1)) < (x0.length : Int) then (if 0 ≤ x17 then (if x17 < (x0.length : Int) then (api_Op_120.l3 k ((x0.set (x17 : Int).toNat (⟨(rd_T46 x0 (wrap64 (x17 - 1))).f0, (rd_T46 x0 (wrap64 (x17 - 1))).f1, (rd_T46 x0 (wrap64 (x17 - 1))).f2⟩ : S46)).set ((wrap64 (x17 - 1)) : Int).toNat (⟨(rd_T46 x0 x17).f0, (rd_T46 x0 x17).f1, (rd_T46 x0 x17).f2⟩ : S46)) x14 (wrap64 (x17 - 1))) else (none)) else (none)) else (none)) else (none)) else (some x0)
def api_Op_120.j4 : Nat → List (S46) → Int → Int → Int → Int → Int → Int → Int → Int → Option ((List (S46)))
 | 0, _, _, _, _, _, _, _, _, _ => none
 | k + 1, x0, x1, x2, x3, x4, x18, x19, x20, x21 => api_Op_120.l4 k x0 x1 x2 x3 x4 x18 x19 x20 x21 (wrap64 (x19 - 1))
def api_Op_120.l4 : Nat → List (S46) → Int → Int → Int → Int → Int → Int → Int → Int → Int → Option ((List (S46)))
 | 0, _, _, _, _, _, _, _, _, _, _ => none
 | k + 1, x0, x1, x2, x3, x4, x18, x19, x20, x21, x22 => if x20 < x21 then (if 0 ≤ (wrap64 (x22 - (wrap64 ((IntKind.u64.wrap (wrap64 (x20 + x21))) / 2)))) then (if (wrap64 (x22 - (wrap64 ((IntKind.u64.wrap (wrap64 (x20 + x21))) / 2)))) < (x0.length : Int) then (if 0 ≤ (wrap64 ((IntKind.u64.wrap (wrap64 (x20 + x21))) / 2)) then (if (wrap64 ((IntKind.u64.wrap (wrap64 (x20 + x21))) / 2)) < (x0.length : Int) then ((txn_byKey_1.f ((rd_T46 x0 (wrap64 (x22 - (wrap64 ((IntKind.u64.wrap (wrap64 (x20 + x21))) / 2))))).f0) ((rd_T46 x0 (wrap64 (x22 - (wrap64 ((IntKind.u64.wrap (wrap64 (x20 + x21))) / 2))))).f1) ((rd_T46 x0 (wrap64 (x22 - (wrap64 ((IntKind.u64.wrap (wrap64 (x20 + x21))) / 2))))).f2) ((rd_T46 x0 (wrap64 ((IntKind.u64.wrap (wrap64 (x20 + x21))) / 2))).f0) ((rd_T46 x0 (wrap64 ((IntKind.u64.wrap (wrap64 (x20 + x21))) / 2))).f1) ((rd_T46 x0 (wrap64 ((IntKind.u64.wrap (wrap64 (x20 + x21))) / 2))).f2)).bind fun t117 => (if t117 < 0 then (api_Op_120.l4 k x0 x1 x2 x3 x4 x18 x19 x20 (wrap64 ((IntKind.u64.wrap (wrap64 (x20 + x21))) / 2)) x22) else (api_Op_120.l4 k x0 x1 x2 x3 x4 x18 x19 (wrap64 ((wrap64 ((IntKind.u64.wrap (wrap64 (x20 + x21))) / 2)) + 1)) x21 x22))) else (none)) else (none)) else (none)) else (none)) else (if x20 < x2 then (api_Op_120.j6 k x0 x1 x2 x3 x4 x18 x20 (wrap64 (x19 - x20)) (decide (x2 < (wrap64 (x19 - x20))))) else (api_Op_120.j6 k x0 x1 x2 x3 x4 x18 x20 (wrap64 (x19 - x20)) false))
def api_Op_120.j6 : Nat → List (S46) → Int → Int → Int → Int → Int → Int → Int → Bool → Option ((List (S46)))
 | 0, _, _, _, _, _, _, _, _, _ => none
 | k + 1, x0, x1, x2, x3, x4, x18, x20, x24, x185 => if x185 = true then ((api_Op_121.f k x0 x20 x2 x24 x4).bind fun t118 => (api_Op_120.j7 k t118 x1 x3 x4 x18 x20 x24)) else (api_Op_120.j7 k x0 x1 x3 x4 x18 x20 x24)
def api_Op_120.j7 : Nat → List (S46) → Int → Int → Int → Int → Int → Int → Option ((List (S46)))
 | 0, _, _, _, _, _, _, _ => none
 | k + 1, x0, x1, x3, x4, x18, x20, x24 => if x1 < x20 then (api_Op_120.j8 k x0 x1 x3 x4 x18 x20 x24 (decide (x20 < x18))) else (api_Op_120.j8 k x0 x1 x3 x4 x18 x20 x24 false)
def api_Op_120.j8 : Nat → List (S46) → Int → Int → Int → Int → Int → Int → Bool → Option ((List (S46)))
 | 0, _, _, _, _, _, _, _, _ => none
 | k + 1, x0, x1, x3, x4, x18, x20, x24, x199 => if x199 = true then ((api_Op_120.f k x0 x1 x20 x18 x4).bind fun t119 => (if x18 < x24 then (if x24 < x3 then ((api_Op_120.f k t119 x18 x24 x3 x4).bind fun t120 => (some t120)) else (some t119)) else (some t119))) else (if x18 < x24 then (if x24 < x3 then ((api_Op_120.f k x0 x18 x24 x3 x4).bind fun t121 => (some t121)) else (some x0)) else (some x0))
def api_Op_120.f : Nat → List (S46) → Int → Int → Int → Int → Option ((List (S46)))
 | 0, _, _, _, _, _ => none
 | k + 1, l0, a1, a2, a3, a4 => if (wrap64 (a2 - a1)) = 1 then (api_Op_120.l0 k l0 a1 a2 a3) else (if (wrap64 (a3 - a2)) = 1 then (api_Op_120.l2 k l0 a2 a1 a2) else (if a2 > (wrap64 ((IntKind.u64.wrap (wrap64 (a1 + a3))) / 2)) then (api_Op_120.j4 k l0 a1 a2 a3 a4 (wrap64 ((IntKind.u64.wrap (wrap64 (a1 + a3))) / 2)) (wrap64 ((wrap64 ((IntKind.u64.wrap (wrap64 (a1 + a3))) / 2)) + a2)) (wrap64 ((wrap64 ((wrap64 ((IntKind.u64.wrap (wrap64 (a1 + a3))) / 2)) + a2)) - a3)) (wrap64 ((IntKind.u64.wrap (wrap64 (a1 + a3))) / 2))) else (api_Op_120.j4 k l0 a1 a2 a3 a4 (wrap64 ((IntKind.u64.wrap (wrap64 (a1 + a3))) / 2)) (wrap64 ((wrap64 ((IntKind.u64.wrap (wrap64 (a1 + a3))) / 2)) + a2)) a1 a2)))
end
def api_Op_120.T5 : Bool × List (List Nat × List Nat) := (true, [([], []), ([], []), ([], []), ([1, 2], [1, 2]), ([3], [3]), ([], []), ([], []), ([5, 6], [5, 6]), ([7], [7]), ([0, 4, 8], [0, 4, 8]), ([9], [9])])
def api_Op_120.B5 : List Nat := [0, 0, 0, 6, 14, 0, 0, 96, 224, 511, 1023]
theorem api_Op_120.tab5 : rtab .any (opsOf Try.f120 5) = api_Op_120.T5 := by kernel_rfl
theorem api_Op_120.bits5 : waitsOk api_Op_120.T5.2 api_Op_120.B5 = true := by kernel_rfl
def api_Op_120.T11 : Bool × List (List Nat × List Nat) := (true, [([], []), ([], []), ([], []), ([], []), ([3], [3]), ([], []), ([], []), ([6], [6]), ([5, 7], [5, 7]), ([8], [8]), ([], []), ([], []), ([10, 11], [10, 11]), ([12], [12]), ([0, 1, 0, 1, 5, 6, 7, 8, 9, 13], [0, 1]), ([14, 9, 0, 1, 5, 6, 7, 8, 9, 13], [9, 14]), ([2, 4, 0, 1, 2, 3, 4, 5, 6, 7, 8, 9, 10, 11, 12, 13, 14, 15], [2, 4]), ([16, 13, 15, 0, 1, 2, 3, 4, 5, 6, 7, 8, 9, 10, 11, 12, 13, 14, 15], [13, 16])])
def api_Op_120.B11 : List Nat := [0, 0, 0, 0, 8, 0, 0, 64, 224, 480, 0, 0, 3072, 7168, 16355, 32739, 65535, 131071]
theorem api_Op_120.tab11 : rtab .any (opsOf Try.f120 11) = api_Op_120.T11 := by kernel_rfl
theorem api_Op_120.bits11 : waitsOk api_Op_120.T11.2 api_Op_120.B11 = true := by kernel_rfl
def api_Op_120.T17 : Bool × List (List Nat × List Nat) := (true, [([], []), ([], []), ([], []), ([1, 2], [1, 2]), ([3], [3]), ([], []), ([], []), ([5, 6], [5, 6]), ([7], [7]), ([0, 4, 8], [0, 4, 8]), ([9], [9]), ([10], [10])])
def api_Op_120.B17 : List Nat := [0, 0, 0, 6, 14, 0, 0, 96, 224, 511, 1023, 2047]
theorem api_Op_120.tab17 : rtab .any (opsOf Try.f120 17) = api_Op_120.T17 := by kernel_rfl
theorem api_Op_120.bits17 : waitsOk api_Op_120.T17.2 api_Op_120.B17 = true := by kernel_rfl
def api_Op_120.T23 : Bool × List (List Nat × List Nat) := (true, [([], []), ([], []), ([], []), ([], []), ([3], [3]), ([], []), ([], []), ([6], [6]), ([5, 7], [5, 7]), ([8], [8]), ([], []), ([], []), ([10, 11], [10, 11]), ([12], [12]), ([0, 1, 0, 1, 5, 6, 7, 8, 9, 13], [0, 1]), ([14, 9, 0, 1, 5, 6, 7, 8, 9, 13], [9, 14]), ([2, 4, 0, 1, 2, 3, 4, 5, 6, 7, 8, 9, 10, 11, 12, 13, 14, 15], [2, 4]), ([16, 13, 15, 0, 1, 2, 3, 4, 5, 6, 7, 8, 9, 10, 11, 12, 13, 14, 15], [13, 16])])
def api_Op_120.B23 : List Nat := [0, 0, 0, 0, 8, 0, 0, 64, 224, 480, 0, 0, 3072, 7168, 16355, 32739, 65535, 131071]
theorem api_Op_120.tab23 : rtab .any (opsOf Try.f120 23) = api_Op_120.T23 := by kernel_rfl
theorem api_Op_120.bits23 : waitsOk api_Op_120.T23.2 api_Op_120.B23 = true := by kernel_rfl
def api_Op_120.T35 : Bool × List (List Nat × List Nat) := (true, [([], []), ([], []), ([], []), ([], []), ([2, 3], [2, 3]), ([1, 4], [1, 4]), ([5], [5]), ([], []), ([], []), ([7, 8], [7, 8]), ([9], [9]), ([0, 6, 10], [0, 6, 10]), ([11], [11]), ([12], [12])])
def api_Op_120.B35 : List Nat := [0, 0, 0, 0, 12, 30, 62, 0, 0, 384, 896, 2047, 4095, 8191]
theorem api_Op_120.tab35 : rtab .any (opsOf Try.f120 35) = api_Op_120.T35 := by kernel_rfl
theorem api_Op_120.bits35 : waitsOk api_Op_120.T35.2 api_Op_120.B35 = true := by kernel_rfl
set_option maxHeartbeats 8000000 in
set_option maxRecDepth 100000 in
theorem api_Op_120.calls_p0 (k : Nat) (ih : ∀ m, m < k + 1 → ∀ (P0_ : Nat → Prop) (u9000_ : Value) (l0 : List (S46)) (a1 : Int) (a2 : Int) (a3 : Int) (a4 : Int) (r : List (S46)) (w0 w : World) (hB : Below w0.heap.size w0 w) (ho0 : Kd.R k46 46 w w0.heap.size P0_ u9000_ l0) (h : api_Op_120.f m l0 a1 a2 a3 a4 = some r), Calls Try.prog 120 #[u9000_, .int .i64 a1, .int .i64 a2, .int .i64 a3, .func (.func 108) #[] #[]] w fun e w' => e = .returned (.tuple #[]) ∧ Kd.R k46 46 w' w0.heap.size (fun k_ => (P0_ k_ ∨ w.heap.size ≤ k_)) u9000_ r ∧ Below w0.heap.size w0 w' ∧ Kept w w' (fun k_ => P0_ k_)) : ∀ (P0_ : Nat → Prop) (u9000_ : Value) (l0 : List (S46)) (a1 : Int) (a2 : Int) (a3 : Int) (a4 : Int) (r : List (S46)) (w0 w : World) (hB : Below w0.heap.size w0 w) (ho0 : Kd.R k46 46 w w0.heap.size P0_ u9000_ l0) (h : api_Op_120.f (k + 1) l0 a1 a2 a3 a4 = some r) (c6 : (wrap64 (a2 - a1)) = 1),
  Calls Try.prog 120 #[u9000_, .int .i64 a1, .int .i64 a2, .int .i64 a3, .func (.func 108) #[] #[]] w fun e w' => e = .returned (.tuple #[]) ∧ Kd.R k46 46 w' w0.heap.size (fun k_ => (P0_ k_ ∨ w.heap.size ≤ k_)) u9000_ r ∧ Below w0.heap.size w0 w' ∧ Kept w w' (fun k_ => P0_ k_) := by
 intro P0_ u9000_ l0 a1 a2 a3 a4 r w0 w hB ho0 h c6
 simp only [api_Op_120.f] at h
 have hu46 := Try.underlying46
 have HO0 := Aside0.mk (show Kd.R k46 46 w w0.heap.size (fun k_ => (P0_ k_ ∨ w.heap.size ≤ k_)) u9000_ l0 from Kd.R_mono ho0 (fun k_ hk => (.inl hk)))
 have HK := Aside0.mk (Kept.refl w (fun k_ => P0_ k_))
 have HW0 := Aside0.mk hB.size
 have HB := Aside0.mk hB
 clear hB
 have H : (if (wrap64 (a2 - a1)) = 1 then (api_Op_120.l0 k l0 a1 a2 a3) else (if (wrap64 (a3 - a2)) = 1 then (api_Op_120.l2 k l0 a2 a1 a2) else (if a2 > (wrap64 ((IntKind.u64.wrap (wrap64 (a1 + a3))) / 2)) then (api_Op_120.j4 k l0 a1 a2 a3 a4 (wrap64 ((IntKind.u64.wrap (wrap64 (a1 + a3))) / 2)) (wrap64 ((wrap64 ((IntKind.u64.wrap (wrap64 (a1 + a3))) / 2)) + a2)) (wrap64 ((wrap64 ((wrap64 ((IntKind.u64.wrap (wrap64 (a1 + a3))) / 2)) + a2)) - a3)) (wrap64 ((IntKind.u64.wrap (wrap64 (a1 + a3))) / 2))) else (api_Op_120.j4 k l0 a1 a2 a3 a4 (wrap64 ((IntKind.u64.wrap (wrap64 (a1 + a3))) / 2)) (wrap64 ((wrap64 ((IntKind.u64.wrap (wrap64 (a1 + a3))) / 2)) + a2)) a1 a2)))) = some r := h
 clear h
 ·rw [if_pos c6] at H
  have c6b0 : ((wrap64 (a2 - a1)) == 1) = true := beq_iff_eq.mpr c6
  have c6b1 : ((wrap64 (a2 - a1)) != 1) = false := bne_eq_false_iff_eq.mpr c6
  clear c6
  have H' := Aside0.mk H
  clear H
  go_enter Try.func120, Try.ntmps120
  go_wp2
  go_loopg [10, 11] k (fun kq v10 v11 w' => ∃ (x10_1 : Int) (x11_1 : Int), v10 = .int .i64 x10_1 ∧ v11 = .int .i64 x11_1 ∧ Aside0 (api_Op_120.l0 kq l0 a1 x10_1 x11_1 = some r) ∧ Aside0 (kq ≤ k) ∧ Aside0 (Kd.R k46 46 w' w0.heap.size (fun k_ => (P0_ k_ ∨ w.heap.size ≤ k_)) u9000_ l0) ∧ Aside0 (Kept w w' (fun k_ => P0_ k_)) ∧ Aside0 (Below w0.heap.size w0 w'))
  case atStart => exact ⟨(a2), (a3), (by first | rfl | (simp; done) | (simp [*]; done)), (by first | rfl | (simp; done) | (simp [*]; done)), H', ⟨Nat.le_refl _⟩, ⟨by (with_reducible repeat (first | apply Kd.R_alloc | apply Kd.R_drewN | apply Kd.R_drew)); exact HO0.out⟩, ⟨by repeat (first | (with_reducible first | exact HK.out | apply Kept.alloc | apply Kept.drewN | apply Kept.drew) | exact HK.out)⟩, ⟨by repeat (first | (with_reducible first | exact HB.out | apply below_alloc | apply pw_below_drewN | apply below_drew1))⟩⟩
  case round =>
   clear H'
   try clear c1
   try clear p2
   try clear c6
   try clear c6b0
   try clear c6b1
   try clear p6
   obtain ⟨x10_1, x11_1, rfl, rfl, HA, HK1, HO_0, HK, HB⟩ := hrel
   cases gk with
   | zero => exact absurd HA.out (by simp [api_Op_120.l0])
   | succ k1 =>
    have H := HA.out
    clear HA
    simp only [api_Op_120.l0] at H
    by_cases c7 : x10_1 < x11_1
    ·rw [if_pos c7] at H
     have c7b0 : decide (x10_1 < x11_1) = true := decide_eq_true c7
     clear c7
     obtain ⟨ji8, hji8⟩ : ∃ j_ : Int, (wrap64 ((IntKind.u64.wrap (wrap64 (x10_1 + x11_1))) / 2)) = j_ := ⟨_, rfl⟩
     replace H : (if 0 ≤ (ji8) then (if (ji8) < (l0.length : Int) then (if 0 ≤ a1 then (if a1 < (l0.length : Int) then ((txn_byKey_1.f ((rd_T46 l0 (ji8)).f0) ((rd_T46 l0 (ji8)).f1) ((rd_T46 l0 (ji8)).f2) ((rd_T46 l0 a1).f0) ((rd_T46 l0 a1).f1) ((rd_T46 l0 a1).f2)).bind fun t103 => (if t103 < 0 then (api_Op_120.l0 k1 l0 a1 (wrap64 ((ji8) + 1)) x11_1) else (api_Op_120.l0 k1 l0 a1 x10_1 ji8))) else (none)) else (none)) else (none)) else (none)) = some r := by first | (rw [hji8] at H; exact H) | (simp only [hji8] at H ⊢; exact H)
     have hji8w : (IntKind.i64.wrap ((IntKind.u64.wrap (wrap64 (x10_1 + x11_1))) / 2)) = ji8 := (i64_w _).trans hji8
     by_cases c9 : 0 ≤ (ji8)
     ·rw [if_pos c9] at H
      have c9b0 : decide (0 ≤ (ji8)) = true := decide_eq_true c9
      clear c9
      by_cases c10 : (ji8) < (l0.length : Int)
      ·rw [if_pos c10] at H
       have c10b0 : decide ((ji8) < (l0.length : Int)) = true := decide_eq_true c10
       clear c10
       by_cases c11 : 0 ≤ a1
       ·rw [if_pos c11] at H
        have c11b0 : decide (0 ≤ a1) = true := decide_eq_true c11
        clear c11
        by_cases c12 : a1 < (l0.length : Int)
        ·rw [if_pos c12] at H
         have c12b0 : decide (a1 < (l0.length : Int)) = true := decide_eq_true c12
         clear c12
         replace H := Option.bind_eq_some_iff.mp H
         obtain ⟨t103, A130, H⟩ := H
         replace H : (if t103 < 0 then (api_Op_120.l0 k1 l0 a1 (wrap64 ((ji8) + 1)) x11_1) else (api_Op_120.l0 k1 l0 a1 x10_1 ji8)) = some r := H
         have A13 := Aside0.mk A130
         clear A130
         by_cases c14 : t103 < 0
         ·rw [if_pos c14] at H
          have c14b0 : decide (t103 < 0) = true := decide_eq_true c14
          clear c14
          have H' := Aside0.mk H
          clear H
          try go_wp2
          have n0_ := Aside0.mk (Kd.R_drew HO_0.out)
          have n1_ := Aside0.mk (Kept.drew HK.out)
          have n2_ := Aside0.mk (below_drew1 HB.out)
          clear HO_0
          clear HK
          clear HB
          have HO_0 := n0_
          have HK := n1_
          have HB := n2_
          clear n0_ n1_ n2_
          obtain ⟨Ao16, co16, eo16⟩ := Kd.R_slice HO_0.out
          (first | subst eo16 | (injection eo16 with f1_ f2_ f3_; have f4_ := f1_.symm; have f5_ := f3_.symm; clear f1_ f2_ f3_; subst f4_; subst f5_))
          have p101 : 0 ≤ ((ji8) : Int) := of_decide_eq_true (by assumption)
          have q101 : (ji8) < (l0.length : Int) := of_decide_eq_true (by assumption)
          obtain ⟨ad101, e101, hx101_0, hx101_1, hx101_2⟩ := at_T46 (Kd.R_reads' HO_0.out).2.2 (ji8) p101 q101
          cases e101
          replace p101 := eq_true p101
          replace q101 := eq_true q101
          have p102 : 0 ≤ (a1 : Int) := of_decide_eq_true (by assumption)
          have q102 : a1 < (l0.length : Int) := of_decide_eq_true (by assumption)
          obtain ⟨ad102, e102, hx102_0, hx102_1, hx102_2⟩ := at_T46 (Kd.R_reads' HO_0.out).2.2 a1 p102 q102
          obtain rfl : ad101 = ad102 := (by injection e102)
          replace p102 := eq_true p102
          replace q102 := eq_true q102
          refine start_ (n := 11) (S := fun w' => w'.cell? (ad101.add (((ji8)).toNat * 3)) = some (.bool ((rd_T46 l0 (ji8)).f0)) ∧ w'.cell? ⟨(ad101.add (((ji8)).toNat * 3)).block, (ad101.add (((ji8)).toNat * 3)).off + 1, none⟩ = some (.int .i64 ((rd_T46 l0 (ji8)).f1)) ∧ w'.cell? ⟨(ad101.add (((ji8)).toNat * 3)).block, (ad101.add (((ji8)).toNat * 3)).off + 2, none⟩ = some (.int .i64 ((rd_T46 l0 (ji8)).f2)) ∧ w'.cell? (ad101.add ((a1).toNat * 3)) = some (.bool ((rd_T46 l0 a1).f0)) ∧ w'.cell? ⟨(ad101.add ((a1).toNat * 3)).block, (ad101.add ((a1).toNat * 3)).off + 1, none⟩ = some (.int .i64 ((rd_T46 l0 a1).f1)) ∧ w'.cell? ⟨(ad101.add ((a1).toNat * 3)).block, (ad101.add ((a1).toNat * 3)).off + 2, none⟩ = some (.int .i64 ((rd_T46 l0 a1).f2))) (ds := []) #[false, false, false, false, false, false, false, false, false, false, false] (by kernel_rfl) rfl rfl ⟨hx101_0, hx101_1, hx101_2, hx102_0, hx102_1, hx102_2⟩ (fun hHeld => ?_); refine with_tabW api_Op_120.tab5 api_Op_120.bits5 (fun HT_ HW_ => ?_)
          generalize wr.drew = w15 at HO_0 HK HB hx101_0 hx101_1 hx101_2 hx102_0 hx102_1 hx102_2 hHeld ⊢
          refine pure_ (i := 0) (N := some 40) (v := ?_) (a' := ?_) #[true, false, false, false, false, false, false, false, false, false, false] rfl rfl (any_of HT_.out (by kernel_rfl)) (fun _ _ _ h => h) (Or.inl ⟨by rfl, ?_⟩) ?_ ?_
          rotate_left
          ·intro w'
           go_simp
           with_reducible rfl
          rotate_left
          ·simp only [Act.put, List.setIfInBounds_toArray, List.set_cons_zero, List.set_cons_succ, i64_w, i32_w]
           rfl
          refine pure_ (i := 1) (N := some 41) (v := ?_) (a' := ?_) #[true, true, false, false, false, false, false, false, false, false, false] rfl rfl (any_of HT_.out (by kernel_rfl)) (fun _ _ _ h => h) (Or.inl ⟨by rfl, ?_⟩) ?_ ?_
          rotate_left
          ·intro w'
           go_simp
           with_reducible rfl
          rotate_left
          ·simp only [Act.put, List.setIfInBounds_toArray, List.set_cons_zero, List.set_cons_succ, i64_w, i32_w]
           rfl
          refine pure_ (i := 2) (N := some 42) (v := ?_) (a' := ?_) #[true, true, true, false, false, false, false, false, false, false, false] rfl rfl (any_of HT_.out (by kernel_rfl)) (fun _ _ _ h => h) (Or.inl ⟨by rfl, ?_⟩) ?_ ?_
          rotate_left
          ·intro w'
           go_simp
           with_reducible rfl
          rotate_left
          ·simp only [Act.put, List.setIfInBounds_toArray, List.set_cons_zero, List.set_cons_succ, i64_w, i32_w]
           rfl
          refine pure_ (i := 3) (N := some 43) (v := ?_) (a' := ?_) #[true, true, true, true, false, false, false, false, false, false, false] rfl rfl (any_of HT_.out (by kernel_rfl)) (fun _ _ _ h => h) (Or.inl ⟨by rfl, ?_⟩) ?_ ?_
          rotate_left
          ·intro w'
           go_simp
           with_reducible rfl
          rotate_left
          ·simp only [Act.put, List.setIfInBounds_toArray, List.set_cons_zero, List.set_cons_succ, i64_w, i32_w]
           rfl
          refine pure_ (i := 5) (N := some 45) (v := ?_) (a' := ?_) #[true, true, true, true, false, true, false, false, false, false, false] rfl rfl (any_of HT_.out (by kernel_rfl)) (fun _ _ _ h => h) (Or.inl ⟨by rfl, ?_⟩) ?_ ?_
          rotate_left
          ·intro w'
           go_simp
           with_reducible rfl
          rotate_left
          ·simp only [Act.put, List.setIfInBounds_toArray, List.set_cons_zero, List.set_cons_succ, i64_w, i32_w]
           rfl
          refine pure_ (i := 6) (N := some 46) (v := ?_) (a' := ?_) #[true, true, true, true, false, true, true, false, false, false, false] rfl rfl (any_of HT_.out (by kernel_rfl)) (fun _ _ _ h => h) (Or.inl ⟨by rfl, ?_⟩) ?_ ?_
          rotate_left
          ·intro w'
           go_simp
           with_reducible rfl
          rotate_left
          ·simp only [Act.put, List.setIfInBounds_toArray, List.set_cons_zero, List.set_cons_succ, i64_w, i32_w]
           rfl
          refine pure_ (i := 7) (N := some 47) (v := ?_) (a' := ?_) #[true, true, true, true, false, true, true, true, false, false, false] rfl rfl (any_of HT_.out (by kernel_rfl)) (fun _ _ _ h => h) (Or.inl ⟨by rfl, ?_⟩) ?_ ?_
          rotate_left
          ·intro w'
           go_simp
           with_reducible rfl
          rotate_left
          ·simp only [Act.put, List.setIfInBounds_toArray, List.set_cons_zero, List.set_cons_succ, i64_w, i32_w]
           rfl
          refine take_ (i := 4) (N := some 44) (v := ?_) (a' := ?_) #[true, true, true, true, true, true, true, true, false, false, false] rfl rfl (take_ofW HT_.out HW_.out (by kernel_rfl)) (fun _ _ _ h => h) (Or.inl ⟨by rfl, ?_⟩) hHeld ?_ ?_
          rotate_left
          ·rintro w' ⟨s0, s1, s2, s3, s4, s5⟩
           go_simp
           with_reducible rfl
          rotate_left
          ·simp only [Act.put, List.setIfInBounds_toArray, List.set_cons_zero, List.set_cons_succ, i64_w, i32_w]
           rfl
          refine take_ (i := 8) (N := some 48) (v := ?_) (a' := ?_) #[true, true, true, true, true, true, true, true, true, false, false] rfl rfl (take_ofW HT_.out HW_.out (by kernel_rfl)) (fun _ _ _ h => h) (Or.inl ⟨by rfl, ?_⟩) hHeld ?_ ?_
          rotate_left
          ·rintro w' ⟨s0, s1, s2, s3, s4, s5⟩
           go_simp
           with_reducible rfl
          rotate_left
          ·simp only [Act.put, List.setIfInBounds_toArray, List.set_cons_zero, List.set_cons_succ, i64_w, i32_w]
           rfl
          refine one_ (i := 9) (N := some 49) #[true, true, true, true, true, true, true, true, true, true, false] rfl rfl (one_of HT_.out (by kernel_rfl)) (by decide) (fun K hK => ?_)
          refine H.goesV_ Try.func108 (by kernel_rfl) rfl #[.agg #[.bool ((rd_T46 l0 (ji8)).f0), .int .i64 ((rd_T46 l0 (ji8)).f1), .int .i64 ((rd_T46 l0 (ji8)).f2)], .agg #[.bool ((rd_T46 l0 a1).f0), .int .i64 ((rd_T46 l0 a1).f1), .int .i64 ((rd_T46 l0 a1).f2)]] (by rfl) rfl rfl rfl (by (try simp only [List.map_toArray, List.map_cons, List.map_nil]); first | done | (simp only [hji8]; rfl) | rfl | (simp only [List.length_drop, List.length_take]; rfl)) ?_
          with_reducible refine (txn_byKey_1.calls ((rd_T46 l0 (ji8)).f0) ((rd_T46 l0 (ji8)).f1) ((rd_T46 l0 (ji8)).f2) ((rd_T46 l0 a1).f0) ((rd_T46 l0 a1).f1) ((rd_T46 l0 a1).f2) t103 _ A13.out).mono ?_
          rintro e w17 ⟨rfl, hb⟩
          have HS0_ := (hb.cell (World.block_lt_of_cell? _ _ (hHeld.1))).trans (hHeld.1)
          have HS1_ := (hb.cell (World.block_lt_of_cell? _ _ (hHeld.2.1))).trans (hHeld.2.1)
          have HS2_ := (hb.cell (World.block_lt_of_cell? _ _ (hHeld.2.2.1))).trans (hHeld.2.2.1)
          have HS3_ := (hb.cell (World.block_lt_of_cell? _ _ (hHeld.2.2.2.1))).trans (hHeld.2.2.2.1)
          have HS4_ := (hb.cell (World.block_lt_of_cell? _ _ (hHeld.2.2.2.2.1))).trans (hHeld.2.2.2.2.1)
          have HS5_ := (hb.cell (World.block_lt_of_cell? _ _ (hHeld.2.2.2.2.2))).trans (hHeld.2.2.2.2.2)
          refine ⟨_, rfl, ?_⟩
          have n0_ := Aside0.mk (Kd.R_below (by (with_reducible repeat (first | apply Kd.R_alloc | apply Kd.R_drewN | apply Kd.R_drew)); exact HO_0.out) hb)
          have n1_ := Aside0.mk (Kept.below (S := (fun k_ => P0_ k_)) (by repeat (first | (with_reducible first | exact HK.out | apply Kept.alloc | apply Kept.drewN | apply Kept.drew) | exact HK.out)) hb)
          have n2_ := Aside0.mk (below_step (by repeat (first | (with_reducible first | exact HB.out | apply below_alloc | apply pw_below_drewN | apply below_drew1))) hb)
          clear HO_0
          clear HK
          clear HB
          have HO_0 := n0_
          have HK := n1_
          have HB := n2_
          clear n0_ n1_ n2_
          (try clear hb)
          (try clear hb2)
          (try clear hk)
          (try clear hi)
          refine hK.out _ _ ⟨HS0_, HS1_, HS2_, HS3_, HS4_, HS5_⟩ (fun hHeld => ?_)
          clear hK K
          refine norm_ (a' := ?_) ?_ ?_
          rotate_left
          ·show Act.put _ (some 49) _ = _
           simp only [Act.put, List.setIfInBounds_toArray, List.set_cons_zero, List.set_cons_succ, i64_w, i32_w]
           rfl
          refine pure_ (i := 10) (N := some 50) (v := ?_) (a' := ?_) #[true, true, true, true, true, true, true, true, true, true, true] rfl rfl (any_of HT_.out (by kernel_rfl)) (fun _ _ _ h => h) (Or.inl ⟨by rfl, ?_⟩) ?_ ?_
          rotate_left
          ·intro w'
           go_simp
           with_reducible rfl
          rotate_left
          ·simp only [Act.put, List.setIfInBounds_toArray, List.set_cons_zero, List.set_cons_succ, i64_w, i32_w]
           rfl
          refine done_ (done_of HT_.out (by kernel_rfl)) ?_
          try go_wp2
          go_roundg k1
          case measure => have := HK1.out; omega
          case rel => exact ⟨(wrap64 ((ji8) + 1)), (x11_1), (by first | rfl | (simp; done) | (simp only [← hji8] <;> (first | rfl | simp)) | (simp [*]; done)), (by first | rfl | (simp; done) | (simp [*]; done)), H', ⟨by have := HK1.out; omega⟩, ⟨by (with_reducible repeat (first | apply Kd.R_alloc | apply Kd.R_drewN | apply Kd.R_drew)); exact HO_0.out⟩, ⟨by repeat (first | (with_reducible first | exact HK.out | apply Kept.alloc | apply Kept.drewN | apply Kept.drew) | exact HK.out)⟩, ⟨by repeat (first | (with_reducible first | exact HB.out | apply below_alloc | apply pw_below_drewN | apply below_drew1))⟩⟩
         ·rw [if_neg c14] at H
          have c14b0 : decide (t103 < 0) = false := decide_eq_false c14
          clear c14
          have H' := Aside0.mk H
          clear H
          try go_wp2
          have n0_ := Aside0.mk (Kd.R_drew HO_0.out)
          have n1_ := Aside0.mk (Kept.drew HK.out)
          have n2_ := Aside0.mk (below_drew1 HB.out)
          clear HO_0
          clear HK
          clear HB
          have HO_0 := n0_
          have HK := n1_
          have HB := n2_
          clear n0_ n1_ n2_
          obtain ⟨Ao19, co19, eo19⟩ := Kd.R_slice HO_0.out
          (first | subst eo19 | (injection eo19 with f1_ f2_ f3_; have f4_ := f1_.symm; have f5_ := f3_.symm; clear f1_ f2_ f3_; subst f4_; subst f5_))
          have p101 : 0 ≤ ((ji8) : Int) := of_decide_eq_true (by assumption)
          have q101 : (ji8) < (l0.length : Int) := of_decide_eq_true (by assumption)
          obtain ⟨ad101, e101, hx101_0, hx101_1, hx101_2⟩ := at_T46 (Kd.R_reads' HO_0.out).2.2 (ji8) p101 q101
          cases e101
          replace p101 := eq_true p101
          replace q101 := eq_true q101
          have p102 : 0 ≤ (a1 : Int) := of_decide_eq_true (by assumption)
          have q102 : a1 < (l0.length : Int) := of_decide_eq_true (by assumption)
          obtain ⟨ad102, e102, hx102_0, hx102_1, hx102_2⟩ := at_T46 (Kd.R_reads' HO_0.out).2.2 a1 p102 q102
          obtain rfl : ad101 = ad102 := (by injection e102)
          replace p102 := eq_true p102
          replace q102 := eq_true q102
          refine start_ (n := 11) (S := fun w' => w'.cell? (ad101.add (((ji8)).toNat * 3)) = some (.bool ((rd_T46 l0 (ji8)).f0)) ∧ w'.cell? ⟨(ad101.add (((ji8)).toNat * 3)).block, (ad101.add (((ji8)).toNat * 3)).off + 1, none⟩ = some (.int .i64 ((rd_T46 l0 (ji8)).f1)) ∧ w'.cell? ⟨(ad101.add (((ji8)).toNat * 3)).block, (ad101.add (((ji8)).toNat * 3)).off + 2, none⟩ = some (.int .i64 ((rd_T46 l0 (ji8)).f2)) ∧ w'.cell? (ad101.add ((a1).toNat * 3)) = some (.bool ((rd_T46 l0 a1).f0)) ∧ w'.cell? ⟨(ad101.add ((a1).toNat * 3)).block, (ad101.add ((a1).toNat * 3)).off + 1, none⟩ = some (.int .i64 ((rd_T46 l0 a1).f1)) ∧ w'.cell? ⟨(ad101.add ((a1).toNat * 3)).block, (ad101.add ((a1).toNat * 3)).off + 2, none⟩ = some (.int .i64 ((rd_T46 l0 a1).f2))) (ds := []) #[false, false, false, false, false, false, false, false, false, false, false] (by kernel_rfl) rfl rfl ⟨hx101_0, hx101_1, hx101_2, hx102_0, hx102_1, hx102_2⟩ (fun hHeld => ?_); refine with_tabW api_Op_120.tab5 api_Op_120.bits5 (fun HT_ HW_ => ?_)
          generalize wr.drew = w18 at HO_0 HK HB hx101_0 hx101_1 hx101_2 hx102_0 hx102_1 hx102_2 hHeld ⊢
          refine pure_ (i := 0) (N := some 40) (v := ?_) (a' := ?_) #[true, false, false, false, false, false, false, false, false, false, false] rfl rfl (any_of HT_.out (by kernel_rfl)) (fun _ _ _ h => h) (Or.inl ⟨by rfl, ?_⟩) ?_ ?_
          rotate_left
          ·intro w'
           go_simp
           with_reducible rfl
          rotate_left
          ·simp only [Act.put, List.setIfInBounds_toArray, List.set_cons_zero, List.set_cons_succ, i64_w, i32_w]
           rfl
          refine pure_ (i := 1) (N := some 41) (v := ?_) (a' := ?_) #[true, true, false, false, false, false, false, false, false, false, false] rfl rfl (any_of HT_.out (by kernel_rfl)) (fun _ _ _ h => h) (Or.inl ⟨by rfl, ?_⟩) ?_ ?_
          rotate_left
          ·intro w'
           go_simp
           with_reducible rfl
          rotate_left
          ·simp only [Act.put, List.setIfInBounds_toArray, List.set_cons_zero, List.set_cons_succ, i64_w, i32_w]
           rfl
          refine pure_ (i := 2) (N := some 42) (v := ?_) (a' := ?_) #[true, true, true, false, false, false, false, false, false, false, false] rfl rfl (any_of HT_.out (by kernel_rfl)) (fun _ _ _ h => h) (Or.inl ⟨by rfl, ?_⟩) ?_ ?_
          rotate_left
          ·intro w'
           go_simp
           with_reducible rfl
          rotate_left
          ·simp only [Act.put, List.setIfInBounds_toArray, List.set_cons_zero, List.set_cons_succ, i64_w, i32_w]
           rfl
          refine pure_ (i := 3) (N := some 43) (v := ?_) (a' := ?_) #[true, true, true, true, false, false, false, false, false, false, false] rfl rfl (any_of HT_.out (by kernel_rfl)) (fun _ _ _ h => h) (Or.inl ⟨by rfl, ?_⟩) ?_ ?_
          rotate_left
          ·intro w'
           go_simp
           with_reducible rfl
          rotate_left
          ·simp only [Act.put, List.setIfInBounds_toArray, List.set_cons_zero, List.set_cons_succ, i64_w, i32_w]
           rfl
          refine pure_ (i := 5) (N := some 45) (v := ?_) (a' := ?_) #[true, true, true, true, false, true, false, false, false, false, false] rfl rfl (any_of HT_.out (by kernel_rfl)) (fun _ _ _ h => h) (Or.inl ⟨by rfl, ?_⟩) ?_ ?_
          rotate_left
          ·intro w'
           go_simp
           with_reducible rfl
          rotate_left
          ·simp only [Act.put, List.setIfInBounds_toArray, List.set_cons_zero, List.set_cons_succ, i64_w, i32_w]
           rfl
          refine pure_ (i := 6) (N := some 46) (v := ?_) (a' := ?_) #[true, true, true, true, false, true, true, false, false, false, false] rfl rfl (any_of HT_.out (by kernel_rfl)) (fun _ _ _ h => h) (Or.inl ⟨by rfl, ?_⟩) ?_ ?_
          rotate_left
          ·intro w'
           go_simp
           with_reducible rfl
          rotate_left
          ·simp only [Act.put, List.setIfInBounds_toArray, List.set_cons_zero, List.set_cons_succ, i64_w, i32_w]
           rfl
          refine pure_ (i := 7) (N := some 47) (v := ?_) (a' := ?_) #[true, true, true, true, false, true, true, true, false, false, false] rfl rfl (any_of HT_.out (by kernel_rfl)) (fun _ _ _ h => h) (Or.inl ⟨by rfl, ?_⟩) ?_ ?_
          rotate_left
          ·intro w'
           go_simp
           with_reducible rfl
          rotate_left
          ·simp only [Act.put, List.setIfInBounds_toArray, List.set_cons_zero, List.set_cons_succ, i64_w, i32_w]
           rfl
          refine take_ (i := 4) (N := some 44) (v := ?_) (a' := ?_) #[true, true, true, true, true, true, true, true, false, false, false] rfl rfl (take_ofW HT_.out HW_.out (by kernel_rfl)) (fun _ _ _ h => h) (Or.inl ⟨by rfl, ?_⟩) hHeld ?_ ?_
          rotate_left
          ·rintro w' ⟨s0, s1, s2, s3, s4, s5⟩
           go_simp
           with_reducible rfl
          rotate_left
          ·simp only [Act.put, List.setIfInBounds_toArray, List.set_cons_zero, List.set_cons_succ, i64_w, i32_w]
           rfl
          refine take_ (i := 8) (N := some 48) (v := ?_) (a' := ?_) #[true, true, true, true, true, true, true, true, true, false, false] rfl rfl (take_ofW HT_.out HW_.out (by kernel_rfl)) (fun _ _ _ h => h) (Or.inl ⟨by rfl, ?_⟩) hHeld ?_ ?_
          rotate_left
          ·rintro w' ⟨s0, s1, s2, s3, s4, s5⟩
           go_simp
           with_reducible rfl
          rotate_left
          ·simp only [Act.put, List.setIfInBounds_toArray, List.set_cons_zero, List.set_cons_succ, i64_w, i32_w]
           rfl
          refine one_ (i := 9) (N := some 49) #[true, true, true, true, true, true, true, true, true, true, false] rfl rfl (one_of HT_.out (by kernel_rfl)) (by decide) (fun K hK => ?_)
          refine H.goesV_ Try.func108 (by kernel_rfl) rfl #[.agg #[.bool ((rd_T46 l0 (ji8)).f0), .int .i64 ((rd_T46 l0 (ji8)).f1), .int .i64 ((rd_T46 l0 (ji8)).f2)], .agg #[.bool ((rd_T46 l0 a1).f0), .int .i64 ((rd_T46 l0 a1).f1), .int .i64 ((rd_T46 l0 a1).f2)]] (by rfl) rfl rfl rfl (by (try simp only [List.map_toArray, List.map_cons, List.map_nil]); first | done | (simp only [hji8]; rfl) | rfl | (simp only [List.length_drop, List.length_take]; rfl)) ?_
          with_reducible refine (txn_byKey_1.calls ((rd_T46 l0 (ji8)).f0) ((rd_T46 l0 (ji8)).f1) ((rd_T46 l0 (ji8)).f2) ((rd_T46 l0 a1).f0) ((rd_T46 l0 a1).f1) ((rd_T46 l0 a1).f2) t103 _ A13.out).mono ?_
          rintro e w20 ⟨rfl, hb⟩
          have HS0_ := (hb.cell (World.block_lt_of_cell? _ _ (hHeld.1))).trans (hHeld.1)
          have HS1_ := (hb.cell (World.block_lt_of_cell? _ _ (hHeld.2.1))).trans (hHeld.2.1)
          have HS2_ := (hb.cell (World.block_lt_of_cell? _ _ (hHeld.2.2.1))).trans (hHeld.2.2.1)
          have HS3_ := (hb.cell (World.block_lt_of_cell? _ _ (hHeld.2.2.2.1))).trans (hHeld.2.2.2.1)
          have HS4_ := (hb.cell (World.block_lt_of_cell? _ _ (hHeld.2.2.2.2.1))).trans (hHeld.2.2.2.2.1)
          have HS5_ := (hb.cell (World.block_lt_of_cell? _ _ (hHeld.2.2.2.2.2))).trans (hHeld.2.2.2.2.2)
          refine ⟨_, rfl, ?_⟩
          have n0_ := Aside0.mk (Kd.R_below (by (with_reducible repeat (first | apply Kd.R_alloc | apply Kd.R_drewN | apply Kd.R_drew)); exact HO_0.out) hb)
          have n1_ := Aside0.mk (Kept.below (S := (fun k_ => P0_ k_)) (by repeat (first | (with_reducible first | exact HK.out | apply Kept.alloc | apply Kept.drewN | apply Kept.drew) | exact HK.out)) hb)
          have n2_ := Aside0.mk (below_step (by repeat (first | (with_reducible first | exact HB.out | apply below_alloc | apply pw_below_drewN | apply below_drew1))) hb)
          clear HO_0
          clear HK
          clear HB
          have HO_0 := n0_
          have HK := n1_
          have HB := n2_
          clear n0_ n1_ n2_
          (try clear hb)
          (try clear hb2)
          (try clear hk)
          (try clear hi)
          refine hK.out _ _ ⟨HS0_, HS1_, HS2_, HS3_, HS4_, HS5_⟩ (fun hHeld => ?_)
          clear hK K
          refine norm_ (a' := ?_) ?_ ?_
          rotate_left
          ·show Act.put _ (some 49) _ = _
           simp only [Act.put, List.setIfInBounds_toArray, List.set_cons_zero, List.set_cons_succ, i64_w, i32_w]
           rfl
          refine pure_ (i := 10) (N := some 50) (v := ?_) (a' := ?_) #[true, true, true, true, true, true, true, true, true, true, true] rfl rfl (any_of HT_.out (by kernel_rfl)) (fun _ _ _ h => h) (Or.inl ⟨by rfl, ?_⟩) ?_ ?_
          rotate_left
          ·intro w'
           go_simp
           with_reducible rfl
          rotate_left
          ·simp only [Act.put, List.setIfInBounds_toArray, List.set_cons_zero, List.set_cons_succ, i64_w, i32_w]
           rfl
          refine done_ (done_of HT_.out (by kernel_rfl)) ?_
          try go_wp2
          go_roundg k1
          case measure => have := HK1.out; omega
          case rel => exact ⟨(x10_1), (ji8), (by first | rfl | (simp; done) | (simp [*]; done)), (by first | rfl | (simp; done) | (simp only [← hji8] <;> (first | rfl | simp)) | (simp [*]; done)), H', ⟨by have := HK1.out; omega⟩, ⟨by (with_reducible repeat (first | apply Kd.R_alloc | apply Kd.R_drewN | apply Kd.R_drew)); exact HO_0.out⟩, ⟨by repeat (first | (with_reducible first | exact HK.out | apply Kept.alloc | apply Kept.drewN | apply Kept.drew) | exact HK.out)⟩, ⟨by repeat (first | (with_reducible first | exact HB.out | apply below_alloc | apply pw_below_drewN | apply below_drew1))⟩⟩
        ·rw [if_neg c12] at H
         exact absurd H (by simp)
       ·rw [if_neg c11] at H
        exact absurd H (by simp)
      ·rw [if_neg c10] at H
       exact absurd H (by simp)
     ·rw [if_neg c9] at H
      exact absurd H (by simp)
    ·rw [if_neg c7] at H
     have c7b0 : decide (x10_1 < x11_1) = false := decide_eq_false c7
     clear c7
     have H' := Aside0.mk H
     clear H
     go_wp2
     go_loopg [13] k1 (fun kq v13 w' => ∃ (x0_2 : List (S46)) (x13_2 : Int), v13 = .int .i64 x13_2 ∧ Aside0 (api_Op_120.l1 kq x0_2 x10_1 x13_2 = some r) ∧ Aside0 (kq ≤ k1) ∧ Aside0 (Kd.R k46 46 w' w0.heap.size (fun k_ => (P0_ k_ ∨ w.heap.size ≤ k_)) u9000_ x0_2) ∧ Aside0 (Kept w w' (fun k_ => P0_ k_)) ∧ Aside0 (Below w0.heap.size w0 w'))
     case atStart => exact ⟨(l0), (a1), (by first | rfl | (simp; done) | (simp [*]; done)), H', ⟨Nat.le_refl _⟩, ⟨by (with_reducible repeat (first | apply Kd.R_alloc | apply Kd.R_drewN | apply Kd.R_drew)); exact HO_0.out⟩, ⟨by repeat (first | (with_reducible first | exact HK.out | apply Kept.alloc | apply Kept.drewN | apply Kept.drew) | exact HK.out)⟩, ⟨by repeat (first | (with_reducible first | exact HB.out | apply below_alloc | apply pw_below_drewN | apply below_drew1))⟩⟩
     case round =>
      clear H'
      try clear c1
      try clear p1
      try clear q1
      try clear hx1
      try clear p2
      try clear c6
      try clear c6b0
      try clear c6b1
      try clear p6
      try clear c7
      try clear c7b0
      try clear c9
      try clear c9b0
      try clear c10
      try clear c10b0
      try clear p10
      try clear q10
      try clear hx10
      try clear c11
      try clear c11b0
      try clear c12
      try clear c12b0
      try clear c14
      try clear c14b0
      try clear hx101_0
      try clear hx101_1
      try clear hx101_2
      try clear hx102_0
      try clear hx102_1
      try clear hx102_2
      try clear p101
      try clear p102
      try clear p2
      try clear p6
      try clear q101
      try clear q102
      obtain ⟨x0_2, x13_2, rfl, HA, HK2, HO_0, HK, HB⟩ := hrel
      cases gk with
      | zero => exact absurd HA.out (by simp [api_Op_120.l1])
      | succ k2 =>
       have H := HA.out
       clear HA
       simp only [api_Op_120.l1] at H
       by_cases c21 : x13_2 < (wrap64 (x10_1 - 1))
       ·rw [if_pos c21] at H
        have c21b0 : decide (x13_2 < (wrap64 (x10_1 - 1))) = true := decide_eq_true c21
        clear c21
        obtain ⟨ji22, hji22⟩ : ∃ j_ : Int, (wrap64 (x13_2 + 1)) = j_ := ⟨_, rfl⟩
        replace H : (if 0 ≤ (ji22) then (if (ji22) < (x0_2.length : Int) then (if 0 ≤ x13_2 then (if x13_2 < (x0_2.length : Int) then (api_Op_120.l1 k2 ((x0_2.set (x13_2 : Int).toNat (⟨(rd_T46 x0_2 (ji22)).f0, (rd_T46 x0_2 (ji22)).f1, (rd_T46 x0_2 (ji22)).f2⟩ : S46)).set ((ji22) : Int).toNat (⟨(rd_T46 x0_2 x13_2).f0, (rd_T46 x0_2 x13_2).f1, (rd_T46 x0_2 x13_2).f2⟩ : S46)) x10_1 ji22) else (none)) else (none)) else (none)) else (none)) = some r := by first | (rw [hji22] at H; exact H) | (simp only [hji22] at H ⊢; exact H)
        have hji22w : (IntKind.i64.wrap (x13_2 + 1)) = ji22 := (i64_w _).trans hji22
        by_cases c23 : 0 ≤ (ji22)
        ·rw [if_pos c23] at H
         have c23b0 : decide (0 ≤ (ji22)) = true := decide_eq_true c23
         clear c23
         by_cases c24 : (ji22) < (x0_2.length : Int)
         ·rw [if_pos c24] at H
          have c24b0 : decide ((ji22) < (x0_2.length : Int)) = true := decide_eq_true c24
          clear c24
          by_cases c25 : 0 ≤ x13_2
          ·rw [if_pos c25] at H
           have c25b0 : decide (0 ≤ x13_2) = true := decide_eq_true c25
           clear c25
           by_cases c26 : x13_2 < (x0_2.length : Int)
           ·rw [if_pos c26] at H
            have c26b0 : decide (x13_2 < (x0_2.length : Int)) = true := decide_eq_true c26
            clear c26
            obtain ⟨y106, hy106⟩ : ∃ y_ : List (S46), y_ = (x0_2.set (x13_2 : Int).toNat (⟨(rd_T46 x0_2 (ji22)).f0, (rd_T46 x0_2 (ji22)).f1, (rd_T46 x0_2 (ji22)).f2⟩ : S46)) := ⟨_, rfl⟩
            replace H : (api_Op_120.l1 k2 (y106.set ((ji22) : Int).toNat (⟨(rd_T46 x0_2 x13_2).f0, (rd_T46 x0_2 x13_2).f1, (rd_T46 x0_2 x13_2).f2⟩ : S46)) x10_1 ji22) = some r := by first | (rw [hy106]; with_reducible exact H) | (have H2_ := (Option.bind_some _ _).symm.trans H; rw [hy106]; with_reducible exact H2_) | (have H2_ := (Option.bind_some _ _).symm.trans H; with_reducible exact H2_) | with_reducible exact H | (rw [hy106]; exact H) | exact H
            have Ny106 := Aside0.mk hy106
            clear hy106
            obtain ⟨y107, hy107⟩ : ∃ y_ : List (S46), y_ = (y106.set ((ji22) : Int).toNat (⟨(rd_T46 x0_2 x13_2).f0, (rd_T46 x0_2 x13_2).f1, (rd_T46 x0_2 x13_2).f2⟩ : S46)) := ⟨_, rfl⟩
            replace H : (api_Op_120.l1 k2 y107 x10_1 ji22) = some r := by first | (rw [hy107]; with_reducible exact H) | (have H2_ := (Option.bind_some _ _).symm.trans H; rw [hy107]; with_reducible exact H2_) | (have H2_ := (Option.bind_some _ _).symm.trans H; with_reducible exact H2_) | with_reducible exact H | (rw [hy107]; exact H) | exact H
            have Ny107 := Aside0.mk hy107
            clear hy107
            have H' := Aside0.mk H
            clear H
            try go_wp2
            have n0_ := Aside0.mk (Kd.R_drew HO_0.out)
            have n1_ := Aside0.mk (Kept.drew HK.out)
            have n2_ := Aside0.mk (below_drew1 HB.out)
            clear HO_0
            clear HK
            clear HB
            have HO_0 := n0_
            have HK := n1_
            have HB := n2_
            clear n0_ n1_ n2_
            obtain ⟨Ao30, co30, eo30⟩ := Kd.R_slice HO_0.out
            (first | subst eo30 | (injection eo30 with f1_ f2_ f3_; have f4_ := f1_.symm; have f5_ := f3_.symm; clear f1_ f2_ f3_; subst f4_; subst f5_))
            have p104 : 0 ≤ ((ji22) : Int) := of_decide_eq_true (by assumption)
            have q104 : (ji22) < (x0_2.length : Int) := of_decide_eq_true (by assumption)
            obtain ⟨ad104, e104, hx104_0, hx104_1, hx104_2⟩ := at_T46 (Kd.R_reads' HO_0.out).2.2 (ji22) p104 q104
            cases e104
            replace p104 := eq_true p104
            replace q104 := eq_true q104
            have p105 : 0 ≤ (x13_2 : Int) := of_decide_eq_true (by assumption)
            have q105 : x13_2 < (x0_2.length : Int) := of_decide_eq_true (by assumption)
            obtain ⟨ad105, e105, hx105_0, hx105_1, hx105_2⟩ := at_T46 (Kd.R_reads' HO_0.out).2.2 x13_2 p105 q105
            obtain rfl : ad104 = ad105 := (by injection e105)
            replace p105 := eq_true p105
            replace q105 := eq_true q105
            have p27 : 0 ≤ (x13_2 : Int) := of_decide_eq_true (by assumption)
            have q27 : (x13_2 : Int) < ((x0_2.length : Int) : Int) := of_decide_eq_true (by assumption)
            obtain ⟨go27, co27, eo27, gb27, gl27, cl27, HG27⟩ := Kd.R_form HO_0.out (by omega)
            (first | cases eo27 | (injection eo27 with ea_ en_ ec_; (first | subst ea_ | (injection ea_ with ea_; subst ea_)); subst ec_; clear en_))
            have GB27 := Aside0.mk gb27
            have GG27 := Aside0.mk HG27
            clear gb27 gl27 HG27
            have HMgo27 := Aside0.mk (show (P0_ go27 ∨ w.heap.size ≤ go27) from (HO_0.out.1 _ rfl))
            (first | simp only [add_plain] at hx104_0 | skip)
            (first | simp only [add_plain] at hx104_1 | skip)
            (first | simp only [add_plain] at hx104_2 | skip)
            (first | simp only [add_plain] at hx105_0 | skip)
            (first | simp only [add_plain] at hx105_1 | skip)
            (first | simp only [add_plain] at hx105_2 | skip)
            obtain ⟨ce27, hcl27, hM27, hcc27, hfr27⟩ := Kd.R_elem HO_0.out z46 (x13_2 : Int) p27 q27
            obtain rfl := k46_openM hM27
            have hx27_0 : World.cell? _ ⟨go27, (x13_2 : Int).toNat * 3, none⟩ = some (.bool ((rd_T46 x0_2 x13_2).f0)) := hcc27 0 _ rfl
            have hx27_1 : World.cell? _ ⟨go27, (x13_2 : Int).toNat * 3 + 1, none⟩ = some (.int .i64 ((rd_T46 x0_2 x13_2).f1)) := hcc27 1 _ rfl
            have hx27_2 : World.cell? _ ⟨go27, (x13_2 : Int).toNat * 3 + 2, none⟩ = some (.int .i64 ((rd_T46 x0_2 x13_2).f2)) := hcc27 2 _ rfl
            have hf27_0 : World.frozen? _ ⟨go27, (x13_2 : Int).toNat * 3, none⟩ = false := hfr27 0
            have hf27_1 : World.frozen? _ ⟨go27, (x13_2 : Int).toNat * 3 + 1, none⟩ = false := hfr27 1
            have hf27_2 : World.frozen? _ ⟨go27, (x13_2 : Int).toNat * 3 + 2, none⟩ = false := hfr27 2
            clear hcl27 hcc27 hfr27 hM27
            replace p27 := eq_true p27
            replace q27 := eq_true q27
            obtain ⟨ce31, hcl31, hM31, hcc31, hfr31⟩ := Kd.R_elem HO_0.out z46 (x13_2 : Int) (of_decide_eq_true (by assumption)) (by have h_ : (x13_2 : Int) < ((x0_2.length : Int) : Int) := of_decide_eq_true (by assumption); first | exact h_ | (have e_ := (Kd.R_reads' HO_0.out).1; omega) | simpa using h_)
            obtain rfl := k46_openM hM31
            have HP31 := (Kd.R_seg HO_0.out (x13_2 : Int) (of_decide_eq_true (by assumption)) (by have h_ : (x13_2 : Int) < ((x0_2.length : Int) : Int) := of_decide_eq_true (by assumption); first | exact h_ | (have e_ := (Kd.R_reads' HO_0.out).1; omega) | simpa using h_) (seg := [.bool ((rd_T46 x0_2 (ji22)).f0), .int .i64 ((rd_T46 x0_2 (ji22)).f1), .int .i64 ((rd_T46 x0_2 (ji22)).f2)]) (j := 0) hcl31 hcc31 (show 3 ≤ 3 from by decide) (x' := (⟨(rd_T46 x0_2 (ji22)).f0, (rd_T46 x0_2 (ji22)).f1, (rd_T46 x0_2 (ji22)).f2⟩ : S46)) (k46_mkM _ _ _ (⟨(rd_T46 x0_2 (ji22)).f0, (rd_T46 x0_2 (ji22)).f1, (rd_T46 x0_2 (ji22)).f2⟩ : S46) ) (fun _ hk => hk)).1
            rw [← Ny106.out] at HP31
            have HQ31 := Aside0.mk HP31
            clear hcl31 hcc31 hfr31 hM31 HP31
            have p28 : 0 ≤ ((ji22) : Int) := of_decide_eq_true (by assumption)
            have q28 : ((ji22) : Int) < ((x0_2.length : Int) : Int) := of_decide_eq_true (by assumption)
            obtain ⟨ce28, hcl28, hM28, hcc28, hfr28⟩ := Kd.R_elem HQ31.out z46 ((ji22) : Int) p28 q28
            obtain rfl := k46_openM hM28
            have hx28_0 : World.cell? _ ⟨go27, ((ji22) : Int).toNat * 3, none⟩ = some (.bool ((rd_T46 y106 (ji22)).f0)) := hcc28 0 _ rfl
            have hx28_1 : World.cell? _ ⟨go27, ((ji22) : Int).toNat * 3 + 1, none⟩ = some (.int .i64 ((rd_T46 y106 (ji22)).f1)) := hcc28 1 _ rfl
            have hx28_2 : World.cell? _ ⟨go27, ((ji22) : Int).toNat * 3 + 2, none⟩ = some (.int .i64 ((rd_T46 y106 (ji22)).f2)) := hcc28 2 _ rfl
            have hf28_0 : World.frozen? _ ⟨go27, ((ji22) : Int).toNat * 3, none⟩ = false := hfr28 0
            have hf28_1 : World.frozen? _ ⟨go27, ((ji22) : Int).toNat * 3 + 1, none⟩ = false := hfr28 1
            have hf28_2 : World.frozen? _ ⟨go27, ((ji22) : Int).toNat * 3 + 2, none⟩ = false := hfr28 2
            clear hcl28 hcc28 hfr28 hM28
            replace p28 := eq_true p28
            replace q28 := eq_true q28
            obtain ⟨ce32, hcl32, hM32, hcc32, hfr32⟩ := Kd.R_elem HQ31.out z46 ((ji22) : Int) (of_decide_eq_true (by assumption)) (by have h_ : ((ji22) : Int) < ((x0_2.length : Int) : Int) := of_decide_eq_true (by assumption); first | exact h_ | (have e_ := (Kd.R_reads' HO_0.out).1; omega) | simpa using h_)
            obtain rfl := k46_openM hM32
            have HP32 := (Kd.R_seg HQ31.out ((ji22) : Int) (of_decide_eq_true (by assumption)) (by have h_ : ((ji22) : Int) < ((x0_2.length : Int) : Int) := of_decide_eq_true (by assumption); first | exact h_ | (have e_ := (Kd.R_reads' HO_0.out).1; omega) | simpa using h_) (seg := [.bool ((rd_T46 x0_2 x13_2).f0), .int .i64 ((rd_T46 x0_2 x13_2).f1), .int .i64 ((rd_T46 x0_2 x13_2).f2)]) (j := 0) hcl32 hcc32 (show 3 ≤ 3 from by decide) (x' := (⟨(rd_T46 x0_2 x13_2).f0, (rd_T46 x0_2 x13_2).f1, (rd_T46 x0_2 x13_2).f2⟩ : S46)) (k46_mkM _ _ _ (⟨(rd_T46 x0_2 x13_2).f0, (rd_T46 x0_2 x13_2).f1, (rd_T46 x0_2 x13_2).f2⟩ : S46) ) (fun _ hk => hk)).1
            rw [← Ny107.out] at HP32
            have HQ32 := Aside0.mk HP32
            clear hcl32 hcc32 hfr32 hM32 HP32
            refine start_ (n := 18) (S := fun w' => w'.cell? ⟨go27, ((ji22)).toNat * 3, none⟩ = some (.bool ((rd_T46 x0_2 (ji22)).f0)) ∧ w'.cell? ⟨go27, ((ji22)).toNat * 3 + 1, none⟩ = some (.int .i64 ((rd_T46 x0_2 (ji22)).f1)) ∧ w'.cell? ⟨go27, ((ji22)).toNat * 3 + 2, none⟩ = some (.int .i64 ((rd_T46 x0_2 (ji22)).f2)) ∧ w'.cell? ⟨go27, ((x13_2).toNat * 3), none⟩ = some (.bool ((rd_T46 x0_2 x13_2).f0)) ∧ w'.cell? ⟨go27, ((x13_2).toNat * 3) + 1, none⟩ = some (.int .i64 ((rd_T46 x0_2 x13_2).f1)) ∧ w'.cell? ⟨go27, ((x13_2).toNat * 3) + 2, none⟩ = some (.int .i64 ((rd_T46 x0_2 x13_2).f2))) (ds := [15, 17]) #[false, false, false, false, false, false, false, false, false, false, false, false, false, false, false, false, false, false] (by kernel_rfl) rfl rfl ⟨hx104_0, hx104_1, hx104_2, hx105_0, hx105_1, hx105_2⟩ (fun hHeld => ?_); refine with_tabW api_Op_120.tab11 api_Op_120.bits11 (fun HT_ HW_ => ?_)
            generalize wr.drew = w29 at HO_0 HK HB GG27 HQ31 HQ32 hf27_0 hf27_1 hf27_2 hf28_0 hf28_1 hf28_2 hx104_0 hx104_1 hx104_2 hx105_0 hx105_1 hx105_2 hx27_0 hx27_1 hx27_2 hx28_0 hx28_1 hx28_2 hHeld ⊢
            refine pure_ (i := 0) (N := some 61) (v := ?_) (a' := ?_) #[true, false, false, false, false, false, false, false, false, false, false, false, false, false, false, false, false, false] rfl rfl (any_of HT_.out (by kernel_rfl)) (fun _ _ _ h => h) (Or.inl ⟨by rfl, ?_⟩) ?_ ?_
            rotate_left
            ·intro w'
             go_simp
             with_reducible rfl
            rotate_left
            ·simp only [Act.put, List.setIfInBounds_toArray, List.set_cons_zero, List.set_cons_succ, i64_w, i32_w]
             rfl
            refine pure_ (i := 1) (N := some 62) (v := ?_) (a' := ?_) #[true, true, false, false, false, false, false, false, false, false, false, false, false, false, false, false, false, false] rfl rfl (any_of HT_.out (by kernel_rfl)) (fun _ _ _ h => h) (Or.inl ⟨by rfl, ?_⟩) ?_ ?_
            rotate_left
            ·intro w'
             go_simp
             with_reducible rfl
            rotate_left
            ·simp only [Act.put, List.setIfInBounds_toArray, List.set_cons_zero, List.set_cons_succ, i64_w, i32_w]
             rfl
            refine pure_ (i := 2) (N := some 63) (v := ?_) (a' := ?_) #[true, true, true, false, false, false, false, false, false, false, false, false, false, false, false, false, false, false] rfl rfl (any_of HT_.out (by kernel_rfl)) (fun _ _ _ h => h) (Or.inl ⟨by rfl, ?_⟩) ?_ ?_
            rotate_left
            ·intro w'
             go_simp
             with_reducible rfl
            rotate_left
            ·simp only [Act.put, List.setIfInBounds_toArray, List.set_cons_zero, List.set_cons_succ, i64_w, i32_w]
             rfl
            refine pure_ (i := 3) (N := some 64) (v := ?_) (a' := ?_) #[true, true, true, true, false, false, false, false, false, false, false, false, false, false, false, false, false, false] rfl rfl (any_of HT_.out (by kernel_rfl)) (fun _ _ _ h => h) (Or.inl ⟨by rfl, ?_⟩) ?_ ?_
            rotate_left
            ·intro w'
             go_simp
             with_reducible rfl
            rotate_left
            ·simp only [Act.put, List.setIfInBounds_toArray, List.set_cons_zero, List.set_cons_succ, i64_w, i32_w]
             rfl
            refine pure_ (i := 4) (N := some 65) (v := ?_) (a' := ?_) #[true, true, true, true, true, false, false, false, false, false, false, false, false, false, false, false, false, false] rfl rfl (any_of HT_.out (by kernel_rfl)) (fun _ _ _ h => h) (Or.inl ⟨by rfl, ?_⟩) ?_ ?_
            rotate_left
            ·intro w'
             go_simp
             with_reducible rfl
            rotate_left
            ·simp only [Act.put, List.setIfInBounds_toArray, List.set_cons_zero, List.set_cons_succ, i64_w, i32_w]
             rfl
            refine pure_ (i := 5) (N := some 66) (v := ?_) (a' := ?_) #[true, true, true, true, true, true, false, false, false, false, false, false, false, false, false, false, false, false] rfl rfl (any_of HT_.out (by kernel_rfl)) (fun _ _ _ h => h) (Or.inl ⟨by rfl, ?_⟩) ?_ ?_
            rotate_left
            ·intro w'
             go_simp
             with_reducible rfl
            rotate_left
            ·simp only [Act.put, List.setIfInBounds_toArray, List.set_cons_zero, List.set_cons_succ, i64_w, i32_w]
             rfl
            refine pure_ (i := 6) (N := some 67) (v := ?_) (a' := ?_) #[true, true, true, true, true, true, true, false, false, false, false, false, false, false, false, false, false, false] rfl rfl (any_of HT_.out (by kernel_rfl)) (fun _ _ _ h => h) (Or.inl ⟨by rfl, ?_⟩) ?_ ?_
            rotate_left
            ·intro w'
             go_simp
             with_reducible rfl
            rotate_left
            ·simp only [Act.put, List.setIfInBounds_toArray, List.set_cons_zero, List.set_cons_succ, i64_w, i32_w]
             rfl
            refine pure_ (i := 7) (N := some 68) (v := ?_) (a' := ?_) #[true, true, true, true, true, true, true, true, false, false, false, false, false, false, false, false, false, false] rfl rfl (any_of HT_.out (by kernel_rfl)) (fun _ _ _ h => h) (Or.inl ⟨by rfl, ?_⟩) ?_ ?_
            rotate_left
            ·intro w'
             go_simp
             with_reducible rfl
            rotate_left
            ·simp only [Act.put, List.setIfInBounds_toArray, List.set_cons_zero, List.set_cons_succ, i64_w, i32_w]
             rfl
            refine pure_ (i := 8) (N := some 69) (v := ?_) (a' := ?_) #[true, true, true, true, true, true, true, true, true, false, false, false, false, false, false, false, false, false] rfl rfl (any_of HT_.out (by kernel_rfl)) (fun _ _ _ h => h) (Or.inl ⟨by rfl, ?_⟩) ?_ ?_
            rotate_left
            ·intro w'
             go_simp
             with_reducible rfl
            rotate_left
            ·simp only [Act.put, List.setIfInBounds_toArray, List.set_cons_zero, List.set_cons_succ, i64_w, i32_w]
             rfl
            refine pure_ (i := 10) (N := some 71) (v := ?_) (a' := ?_) #[true, true, true, true, true, true, true, true, true, false, true, false, false, false, false, false, false, false] rfl rfl (any_of HT_.out (by kernel_rfl)) (fun _ _ _ h => h) (Or.inl ⟨by rfl, ?_⟩) ?_ ?_
            rotate_left
            ·intro w'
             go_simp
             with_reducible rfl
            rotate_left
            ·simp only [Act.put, List.setIfInBounds_toArray, List.set_cons_zero, List.set_cons_succ, i64_w, i32_w]
             rfl
            refine pure_ (i := 11) (N := some 72) (v := ?_) (a' := ?_) #[true, true, true, true, true, true, true, true, true, false, true, true, false, false, false, false, false, false] rfl rfl (any_of HT_.out (by kernel_rfl)) (fun _ _ _ h => h) (Or.inl ⟨by rfl, ?_⟩) ?_ ?_
            rotate_left
            ·intro w'
             go_simp
             with_reducible rfl
            rotate_left
            ·simp only [Act.put, List.setIfInBounds_toArray, List.set_cons_zero, List.set_cons_succ, i64_w, i32_w]
             rfl
            refine pure_ (i := 12) (N := some 73) (v := ?_) (a' := ?_) #[true, true, true, true, true, true, true, true, true, false, true, true, true, false, false, false, false, false] rfl rfl (any_of HT_.out (by kernel_rfl)) (fun _ _ _ h => h) (Or.inl ⟨by rfl, ?_⟩) ?_ ?_
            rotate_left
            ·intro w'
             go_simp
             with_reducible rfl
            rotate_left
            ·simp only [Act.put, List.setIfInBounds_toArray, List.set_cons_zero, List.set_cons_succ, i64_w, i32_w]
             rfl
            refine take_ (i := 9) (N := some 70) (v := ?_) (a' := ?_) #[true, true, true, true, true, true, true, true, true, true, true, true, true, false, false, false, false, false] rfl rfl (take_ofW HT_.out HW_.out (by kernel_rfl)) (fun _ _ _ h => h) (Or.inl ⟨by rfl, ?_⟩) hHeld ?_ ?_
            rotate_left
            ·rintro w' ⟨s0, s1, s2, s3, s4, s5⟩
             go_simp
             with_reducible rfl
            rotate_left
            ·simp only [Act.put, List.setIfInBounds_toArray, List.set_cons_zero, List.set_cons_succ, i64_w, i32_w]
             rfl
            refine take_ (i := 13) (N := some 74) (v := ?_) (a' := ?_) #[true, true, true, true, true, true, true, true, true, true, true, true, true, true, false, false, false, false] rfl rfl (take_ofW HT_.out HW_.out (by kernel_rfl)) (fun _ _ _ h => h) (Or.inl ⟨by rfl, ?_⟩) hHeld ?_ ?_
            rotate_left
            ·rintro w' ⟨s0, s1, s2, s3, s4, s5⟩
             go_simp
             with_reducible rfl
            rotate_left
            ·simp only [Act.put, List.setIfInBounds_toArray, List.set_cons_zero, List.set_cons_succ, i64_w, i32_w]
             rfl
            refine pure_ (i := 14) (N := some 75) (v := ?_) (a' := ?_) #[true, true, true, true, true, true, true, true, true, true, true, true, true, true, true, false, false, false] rfl rfl (any_of HT_.out (by kernel_rfl)) (fun _ _ _ h => h) (Or.inl ⟨by rfl, ?_⟩) ?_ ?_
            rotate_left
            ·intro w'
             go_simp
             with_reducible rfl
            rotate_left
            ·simp only [Act.put, List.setIfInBounds_toArray, List.set_cons_zero, List.set_cons_succ, i64_w, i32_w]
             rfl
            refine last_ (i := 15) (N := none) #[true, true, true, true, true, true, true, true, true, true, true, true, true, true, true, true, false, false] rfl rfl (one_of HT_.out (by kernel_rfl)) (by decide) (fun K hK => ?_)
            refine skip_ (w1 := ?_) (by rfl) rfl ?_ ?_
            rotate_left
            ·have e_0 := hx28_0; have e_1 := hx28_1; have e_2 := hx28_2; have f_0 := hf28_0; have f_1 := hf28_1; have f_2 := hf28_2
             (try simp [World.setCells, show k46.sz = 3 from rfl, Nat.add_assoc, go_sem] at e_0 e_1 e_2 f_0 f_1 f_2)
             go_simp
             rfl
            refine hK.out _ _ ?_
            clear hK K
            refine pure_ (i := 16) (N := some 76) (v := ?_) (a' := ?_) #[true, true, true, true, true, true, true, true, true, true, true, true, true, true, true, true, true, false] rfl rfl (any_of HT_.out (by kernel_rfl)) (fun _ _ _ h => h) (Or.inl ⟨by rfl, ?_⟩) ?_ ?_
            rotate_left
            ·intro w'
             go_simp
             with_reducible rfl
            rotate_left
            ·simp only [Act.put, List.setIfInBounds_toArray, List.set_cons_zero, List.set_cons_succ, i64_w, i32_w]
             rfl
            refine last_ (i := 17) (N := none) #[true, true, true, true, true, true, true, true, true, true, true, true, true, true, true, true, true, true] rfl rfl (one_of HT_.out (by kernel_rfl)) (by decide) (fun K hK => ?_)
            refine skip_ (w1 := ?_) (by rfl) rfl ?_ ?_
            rotate_left
            ·have e_0 := hx28_0; have e_1 := hx28_1; have e_2 := hx28_2; have f_0 := hf28_0; have f_1 := hf28_1; have f_2 := hf28_2
             (try simp [World.setCells, show k46.sz = 3 from rfl, Nat.add_assoc, go_sem] at e_0 e_1 e_2 f_0 f_1 f_2)
             go_simp
             rfl
            refine hK.out _ _ ?_
            clear hK K
            refine done_ (done_of HT_.out (by kernel_rfl)) ?_
            try go_wp2
            go_roundg k2
            case measure => have := HK1.out; have := HK2.out; omega
            case rel => exact ⟨(y107), (ji22), (by first | rfl | (simp; done) | (simp only [← hji22] <;> (first | rfl | simp)) | (simp [*]; done)), H', ⟨by have := HK1.out; have := HK2.out; omega⟩, ⟨by (with_reducible repeat (first | apply Kd.R_alloc | apply Kd.R_drewN | apply Kd.R_drew)); exact HQ32.out⟩, ⟨by repeat (first | (with_reducible first | exact HK.out | apply Kept.alloc | apply Kept.drewN | apply Kept.drew | refine Kept.setCell ?_ HMgo27.out _ | refine Kept.setCell ?_ HMgo27.out _ | refine Kept.setCell ?_ HMgo27.out _ | refine Kept.setCell ?_ HMgo27.out _ | refine Kept.setCell ?_ HMgo27.out _ | refine Kept.setCell ?_ HMgo27.out _) | exact HK.out)⟩, ⟨by repeat (first | (with_reducible first | exact HB.out | apply below_alloc | apply pw_below_drewN | apply below_drew1 | refine below_set ?_ GB27.out | refine below_set ?_ GB27.out | refine below_set ?_ GB27.out | refine below_set ?_ GB27.out | refine below_set ?_ GB27.out | refine below_set ?_ GB27.out))⟩⟩
           ·rw [if_neg c26] at H
            exact absurd H (by simp)
          ·rw [if_neg c25] at H
           exact absurd H (by simp)
         ·rw [if_neg c24] at H
          exact absurd H (by simp)
        ·rw [if_neg c23] at H
         exact absurd H (by simp)
       ·rw [if_neg c21] at H
        have c21b0 : decide (x13_2 < (wrap64 (x10_1 - 1))) = false := decide_eq_false c21
        clear c21
        obtain rfl := Option.some.inj H
        go_wp2
        first | go_end0 | ((try simp only [Exit.inBlock, Exit.then]); refine bodyPost_ret (results_none rfl _ _ _) rfl ?_)
        exact ⟨by first | rfl | (simp <;> rfl) | (simp [*] <;> rfl), by (with_reducible repeat (first | apply Kd.R_alloc | apply Kd.R_drewN | apply Kd.R_drew)); exact HO_0.out, by repeat (first | (with_reducible first | exact HB.out | apply below_alloc | apply pw_below_drewN | apply below_drew1)), by repeat (first | (with_reducible first | exact HK.out | apply Kept.alloc | apply Kept.drewN | apply Kept.drew) | exact HK.out)⟩
set_option maxHeartbeats 8000000 in
set_option maxRecDepth 100000 in
theorem api_Op_120.calls_p1 (k : Nat) (ih : ∀ m, m < k + 1 → ∀ (P0_ : Nat → Prop) (u9000_ : Value) (l0 : List (S46)) (a1 : Int) (a2 : Int) (a3 : Int) (a4 : Int) (r : List (S46)) (w0 w : World) (hB : Below w0.heap.size w0 w) (ho0 : Kd.R k46 46 w w0.heap.size P0_ u9000_ l0) (h : api_Op_120.f m l0 a1 a2 a3 a4 = some r), Calls Try.prog 120 #[u9000_, .int .i64 a1, .int .i64 a2, .int .i64 a3, .func (.func 108) #[] #[]] w fun e w' => e = .returned (.tuple #[]) ∧ Kd.R k46 46 w' w0.heap.size (fun k_ => (P0_ k_ ∨ w.heap.size ≤ k_)) u9000_ r ∧ Below w0.heap.size w0 w' ∧ Kept w w' (fun k_ => P0_ k_)) : ∀ (P0_ : Nat → Prop) (u9000_ : Value) (l0 : List (S46)) (a1 : Int) (a2 : Int) (a3 : Int) (a4 : Int) (r : List (S46)) (w0 w : World) (hB : Below w0.heap.size w0 w) (ho0 : Kd.R k46 46 w w0.heap.size P0_ u9000_ l0) (h : api_Op_120.f (k + 1) l0 a1 a2 a3 a4 = some r) (c6 : ¬ ((wrap64 (a2 - a1)) = 1)) (c33 : (wrap64 (a3 - a2)) = 1),
  Calls Try.prog 120 #[u9000_, .int .i64 a1, .int .i64 a2, .int .i64 a3, .func (.func 108) #[] #[]] w fun e w' => e = .returned (.tuple #[]) ∧ Kd.R k46 46 w' w0.heap.size (fun k_ => (P0_ k_ ∨ w.heap.size ≤ k_)) u9000_ r ∧ Below w0.heap.size w0 w' ∧ Kept w w' (fun k_ => P0_ k_) := by
 intro P0_ u9000_ l0 a1 a2 a3 a4 r w0 w hB ho0 h c6 c33
 simp only [api_Op_120.f] at h
 have hu46 := Try.underlying46
 have HO0 := Aside0.mk (show Kd.R k46 46 w w0.heap.size (fun k_ => (P0_ k_ ∨ w.heap.size ≤ k_)) u9000_ l0 from Kd.R_mono ho0 (fun k_ hk => (.inl hk)))
 have HK := Aside0.mk (Kept.refl w (fun k_ => P0_ k_))
 have HW0 := Aside0.mk hB.size
 have HB := Aside0.mk hB
 clear hB
 have H : (if (wrap64 (a2 - a1)) = 1 then (api_Op_120.l0 k l0 a1 a2 a3) else (if (wrap64 (a3 - a2)) = 1 then (api_Op_120.l2 k l0 a2 a1 a2) else (if a2 > (wrap64 ((IntKind.u64.wrap (wrap64 (a1 + a3))) / 2)) then (api_Op_120.j4 k l0 a1 a2 a3 a4 (wrap64 ((IntKind.u64.wrap (wrap64 (a1 + a3))) / 2)) (wrap64 ((wrap64 ((IntKind.u64.wrap (wrap64 (a1 + a3))) / 2)) + a2)) (wrap64 ((wrap64 ((wrap64 ((IntKind.u64.wrap (wrap64 (a1 + a3))) / 2)) + a2)) - a3)) (wrap64 ((IntKind.u64.wrap (wrap64 (a1 + a3))) / 2))) else (api_Op_120.j4 k l0 a1 a2 a3 a4 (wrap64 ((IntKind.u64.wrap (wrap64 (a1 + a3))) / 2)) (wrap64 ((wrap64 ((IntKind.u64.wrap (wrap64 (a1 + a3))) / 2)) + a2)) a1 a2)))) = some r := h
 clear h
 ·rw [if_neg c6] at H
  have c6b0 : ((wrap64 (a2 - a1)) == 1) = false := beq_eq_false_iff_ne.mpr c6
  have c6b1 : ((wrap64 (a2 - a1)) != 1) = true := bne_iff_ne.mpr c6
  ·rw [if_pos c33] at H
   have c33b0 : ((wrap64 (a3 - a2)) == 1) = true := beq_iff_eq.mpr c33
   have c33b1 : ((wrap64 (a3 - a2)) != 1) = false := bne_eq_false_iff_eq.mpr c33
   clear c33
   have H' := Aside0.mk H
   clear H
   go_enter Try.func120, Try.ntmps120
   go_wp2
   go_loopg [14, 15] k (fun kq v14 v15 w' => ∃ (x14_1 : Int) (x15_1 : Int), v14 = .int .i64 x14_1 ∧ v15 = .int .i64 x15_1 ∧ Aside0 (api_Op_120.l2 kq l0 a2 x14_1 x15_1 = some r) ∧ Aside0 (kq ≤ k) ∧ Aside0 (Kd.R k46 46 w' w0.heap.size (fun k_ => (P0_ k_ ∨ w.heap.size ≤ k_)) u9000_ l0) ∧ Aside0 (Kept w w' (fun k_ => P0_ k_)) ∧ Aside0 (Below w0.heap.size w0 w'))
   case atStart => exact ⟨(a1), (a2), (by first | rfl | (simp; done) | (simp [*]; done)), (by first | rfl | (simp; done) | (simp [*]; done)), H', ⟨Nat.le_refl _⟩, ⟨by (with_reducible repeat (first | apply Kd.R_alloc | apply Kd.R_drewN | apply Kd.R_drew)); exact HO0.out⟩, ⟨by repeat (first | (with_reducible first | exact HK.out | apply Kept.alloc | apply Kept.drewN | apply Kept.drew) | exact HK.out)⟩, ⟨by repeat (first | (with_reducible first | exact HB.out | apply below_alloc | apply pw_below_drewN | apply below_drew1))⟩⟩
   case round =>
    clear H'
    try clear c1
    try clear p1
    try clear q1
    try clear hx1
    try clear c2
    try clear p2
    try clear q2
    try clear hx2
    try clear c3
    try clear c6
    try clear c6b0
    try clear c6b1
    try clear p6
    try clear c7
    try clear c7b0
    try clear c9
    try clear c9b0
    try clear c10
    try clear c10b0
    try clear p10
    try clear q10
    try clear hx10
    try clear c11
    try clear c11b0
    try clear c12
    try clear c12b0
    try clear c14
    try clear c14b0
    try clear c21
    try clear c21b0
    try clear c23
    try clear c23b0
    try clear c24
    try clear c24b0
    try clear c25
    try clear c25b0
    try clear c26
    try clear c26b0
    try clear c27
    try clear p27
    try clear q27
    try clear hx27
    try clear hf27
    try clear c28
    try clear p28
    try clear q28
    try clear hx28
    try clear hf28
    try clear c31
    try clear c32
    try clear c33
    try clear c33b0
    try clear c33b1
    try clear hx101_0
    try clear hx101_1
    try clear hx101_2
    try clear hx102_0
    try clear hx102_1
    try clear hx102_2
    try clear hx104_0
    try clear hx104_1
    try clear hx104_2
    try clear hx105_0
    try clear hx105_1
    try clear hx105_2
    try clear hx27_0
    try clear hx27_1
    try clear hx27_2
    try clear hx28_0
    try clear hx28_1
    try clear hx28_2
    try clear p1
    try clear p10
    try clear p101
    try clear p102
    try clear p104
    try clear p105
    try clear p2
    try clear p27
    try clear p28
    try clear p6
    try clear q1
    try clear q10
    try clear q101
    try clear q102
    try clear q104
    try clear q105
    try clear q27
    try clear q28
    obtain ⟨x14_1, x15_1, rfl, rfl, HA, HK1, HO_0, HK, HB⟩ := hrel
    cases gk with
    | zero => exact absurd HA.out (by simp [api_Op_120.l2])
    | succ k1 =>
     have H := HA.out
     clear HA
     simp only [api_Op_120.l2] at H
     by_cases c34 : x14_1 < x15_1
     ·rw [if_pos c34] at H
      have c34b0 : decide (x14_1 < x15_1) = true := decide_eq_true c34
      clear c34
      by_cases c35 : 0 ≤ a2
      ·rw [if_pos c35] at H
       have c35b0 : decide (0 ≤ a2) = true := decide_eq_true c35
       clear c35
       by_cases c36 : a2 < (l0.length : Int)
       ·rw [if_pos c36] at H
        have c36b0 : decide (a2 < (l0.length : Int)) = true := decide_eq_true c36
        clear c36
        obtain ⟨ji37, hji37⟩ : ∃ j_ : Int, (wrap64 ((IntKind.u64.wrap (wrap64 (x14_1 + x15_1))) / 2)) = j_ := ⟨_, rfl⟩
        replace H : (if 0 ≤ (ji37) then (if (ji37) < (l0.length : Int) then ((txn_byKey_1.f ((rd_T46 l0 a2).f0) ((rd_T46 l0 a2).f1) ((rd_T46 l0 a2).f2) ((rd_T46 l0 (ji37)).f0) ((rd_T46 l0 (ji37)).f1) ((rd_T46 l0 (ji37)).f2)).bind fun t110 => (if t110 < 0 then (api_Op_120.l2 k1 l0 a2 x14_1 ji37) else (api_Op_120.l2 k1 l0 a2 (wrap64 ((ji37) + 1)) x15_1))) else (none)) else (none)) = some r := by first | (rw [hji37] at H; exact H) | (simp only [hji37] at H ⊢; exact H)
        have hji37w : (IntKind.i64.wrap ((IntKind.u64.wrap (wrap64 (x14_1 + x15_1))) / 2)) = ji37 := (i64_w _).trans hji37
        by_cases c38 : 0 ≤ (ji37)
        ·rw [if_pos c38] at H
         have c38b0 : decide (0 ≤ (ji37)) = true := decide_eq_true c38
         clear c38
         by_cases c39 : (ji37) < (l0.length : Int)
         ·rw [if_pos c39] at H
          have c39b0 : decide ((ji37) < (l0.length : Int)) = true := decide_eq_true c39
          clear c39
          replace H := Option.bind_eq_some_iff.mp H
          obtain ⟨t110, A400, H⟩ := H
          replace H : (if t110 < 0 then (api_Op_120.l2 k1 l0 a2 x14_1 ji37) else (api_Op_120.l2 k1 l0 a2 (wrap64 ((ji37) + 1)) x15_1)) = some r := H
          have A40 := Aside0.mk A400
          clear A400
          by_cases c41 : t110 < 0
          ·rw [if_pos c41] at H
           have c41b0 : decide (t110 < 0) = true := decide_eq_true c41
           clear c41
           have H' := Aside0.mk H
           clear H
           try go_wp2
           have n0_ := Aside0.mk (Kd.R_drew HO_0.out)
           have n1_ := Aside0.mk (Kept.drew HK.out)
           have n2_ := Aside0.mk (below_drew1 HB.out)
           clear HO_0
           clear HK
           clear HB
           have HO_0 := n0_
           have HK := n1_
           have HB := n2_
           clear n0_ n1_ n2_
           obtain ⟨Ao43, co43, eo43⟩ := Kd.R_slice HO_0.out
           (first | subst eo43 | (injection eo43 with f1_ f2_ f3_; have f4_ := f1_.symm; have f5_ := f3_.symm; clear f1_ f2_ f3_; subst f4_; subst f5_))
           have p108 : 0 ≤ (a2 : Int) := of_decide_eq_true (by assumption)
           have q108 : a2 < (l0.length : Int) := of_decide_eq_true (by assumption)
           obtain ⟨ad108, e108, hx108_0, hx108_1, hx108_2⟩ := at_T46 (Kd.R_reads' HO_0.out).2.2 a2 p108 q108
           cases e108
           replace p108 := eq_true p108
           replace q108 := eq_true q108
           have p109 : 0 ≤ ((ji37) : Int) := of_decide_eq_true (by assumption)
           have q109 : (ji37) < (l0.length : Int) := of_decide_eq_true (by assumption)
           obtain ⟨ad109, e109, hx109_0, hx109_1, hx109_2⟩ := at_T46 (Kd.R_reads' HO_0.out).2.2 (ji37) p109 q109
           obtain rfl : ad108 = ad109 := (by injection e109)
           replace p109 := eq_true p109
           replace q109 := eq_true q109
           refine start_ (n := 12) (S := fun w' => w'.cell? (ad108.add ((a2).toNat * 3)) = some (.bool ((rd_T46 l0 a2).f0)) ∧ w'.cell? ⟨(ad108.add ((a2).toNat * 3)).block, (ad108.add ((a2).toNat * 3)).off + 1, none⟩ = some (.int .i64 ((rd_T46 l0 a2).f1)) ∧ w'.cell? ⟨(ad108.add ((a2).toNat * 3)).block, (ad108.add ((a2).toNat * 3)).off + 2, none⟩ = some (.int .i64 ((rd_T46 l0 a2).f2)) ∧ w'.cell? (ad108.add (((ji37)).toNat * 3)) = some (.bool ((rd_T46 l0 (ji37)).f0)) ∧ w'.cell? ⟨(ad108.add (((ji37)).toNat * 3)).block, (ad108.add (((ji37)).toNat * 3)).off + 1, none⟩ = some (.int .i64 ((rd_T46 l0 (ji37)).f1)) ∧ w'.cell? ⟨(ad108.add (((ji37)).toNat * 3)).block, (ad108.add (((ji37)).toNat * 3)).off + 2, none⟩ = some (.int .i64 ((rd_T46 l0 (ji37)).f2))) (ds := []) #[false, false, false, false, false, false, false, false, false, false, false, false] (by kernel_rfl) rfl rfl ⟨hx108_0, hx108_1, hx108_2, hx109_0, hx109_1, hx109_2⟩ (fun hHeld => ?_); refine with_tabW api_Op_120.tab17 api_Op_120.bits17 (fun HT_ HW_ => ?_)
           generalize wr.drew = w42 at HO_0 HK HB hx108_0 hx108_1 hx108_2 hx109_0 hx109_1 hx109_2 hHeld ⊢
           refine pure_ (i := 0) (N := some 92) (v := ?_) (a' := ?_) #[true, false, false, false, false, false, false, false, false, false, false, false] rfl rfl (any_of HT_.out (by kernel_rfl)) (fun _ _ _ h => h) (Or.inl ⟨by rfl, ?_⟩) ?_ ?_
           rotate_left
           ·intro w'
            go_simp
            with_reducible rfl
           rotate_left
           ·simp only [Act.put, List.setIfInBounds_toArray, List.set_cons_zero, List.set_cons_succ, i64_w, i32_w]
            rfl
           refine pure_ (i := 1) (N := some 93) (v := ?_) (a' := ?_) #[true, true, false, false, false, false, false, false, false, false, false, false] rfl rfl (any_of HT_.out (by kernel_rfl)) (fun _ _ _ h => h) (Or.inl ⟨by rfl, ?_⟩) ?_ ?_
           rotate_left
           ·intro w'
            go_simp
            with_reducible rfl
           rotate_left
           ·simp only [Act.put, List.setIfInBounds_toArray, List.set_cons_zero, List.set_cons_succ, i64_w, i32_w]
            rfl
           refine pure_ (i := 2) (N := some 94) (v := ?_) (a' := ?_) #[true, true, true, false, false, false, false, false, false, false, false, false] rfl rfl (any_of HT_.out (by kernel_rfl)) (fun _ _ _ h => h) (Or.inl ⟨by rfl, ?_⟩) ?_ ?_
           rotate_left
           ·intro w'
            go_simp
            with_reducible rfl
           rotate_left
           ·simp only [Act.put, List.setIfInBounds_toArray, List.set_cons_zero, List.set_cons_succ, i64_w, i32_w]
            rfl
           refine pure_ (i := 3) (N := some 95) (v := ?_) (a' := ?_) #[true, true, true, true, false, false, false, false, false, false, false, false] rfl rfl (any_of HT_.out (by kernel_rfl)) (fun _ _ _ h => h) (Or.inl ⟨by rfl, ?_⟩) ?_ ?_
           rotate_left
           ·intro w'
            go_simp
            with_reducible rfl
           rotate_left
           ·simp only [Act.put, List.setIfInBounds_toArray, List.set_cons_zero, List.set_cons_succ, i64_w, i32_w]
            rfl
           refine pure_ (i := 5) (N := some 97) (v := ?_) (a' := ?_) #[true, true, true, true, false, true, false, false, false, false, false, false] rfl rfl (any_of HT_.out (by kernel_rfl)) (fun _ _ _ h => h) (Or.inl ⟨by rfl, ?_⟩) ?_ ?_
           rotate_left
           ·intro w'
            go_simp
            with_reducible rfl
           rotate_left
           ·simp only [Act.put, List.setIfInBounds_toArray, List.set_cons_zero, List.set_cons_succ, i64_w, i32_w]
            rfl
           refine pure_ (i := 6) (N := some 98) (v := ?_) (a' := ?_) #[true, true, true, true, false, true, true, false, false, false, false, false] rfl rfl (any_of HT_.out (by kernel_rfl)) (fun _ _ _ h => h) (Or.inl ⟨by rfl, ?_⟩) ?_ ?_
           rotate_left
           ·intro w'
            go_simp
            with_reducible rfl
           rotate_left
           ·simp only [Act.put, List.setIfInBounds_toArray, List.set_cons_zero, List.set_cons_succ, i64_w, i32_w]
            rfl
           refine pure_ (i := 7) (N := some 99) (v := ?_) (a' := ?_) #[true, true, true, true, false, true, true, true, false, false, false, false] rfl rfl (any_of HT_.out (by kernel_rfl)) (fun _ _ _ h => h) (Or.inl ⟨by rfl, ?_⟩) ?_ ?_
           rotate_left
           ·intro w'
            go_simp
            with_reducible rfl
           rotate_left
           ·simp only [Act.put, List.setIfInBounds_toArray, List.set_cons_zero, List.set_cons_succ, i64_w, i32_w]
            rfl
           refine take_ (i := 4) (N := some 96) (v := ?_) (a' := ?_) #[true, true, true, true, true, true, true, true, false, false, false, false] rfl rfl (take_ofW HT_.out HW_.out (by kernel_rfl)) (fun _ _ _ h => h) (Or.inl ⟨by rfl, ?_⟩) hHeld ?_ ?_
           rotate_left
           ·rintro w' ⟨s0, s1, s2, s3, s4, s5⟩
            go_simp
            with_reducible rfl
           rotate_left
           ·simp only [Act.put, List.setIfInBounds_toArray, List.set_cons_zero, List.set_cons_succ, i64_w, i32_w]
            rfl
           refine take_ (i := 8) (N := some 100) (v := ?_) (a' := ?_) #[true, true, true, true, true, true, true, true, true, false, false, false] rfl rfl (take_ofW HT_.out HW_.out (by kernel_rfl)) (fun _ _ _ h => h) (Or.inl ⟨by rfl, ?_⟩) hHeld ?_ ?_
           rotate_left
           ·rintro w' ⟨s0, s1, s2, s3, s4, s5⟩
            go_simp
            with_reducible rfl
           rotate_left
           ·simp only [Act.put, List.setIfInBounds_toArray, List.set_cons_zero, List.set_cons_succ, i64_w, i32_w]
            rfl
           refine one_ (i := 9) (N := some 101) #[true, true, true, true, true, true, true, true, true, true, false, false] rfl rfl (one_of HT_.out (by kernel_rfl)) (by decide) (fun K hK => ?_)
           refine H.goesV_ Try.func108 (by kernel_rfl) rfl #[.agg #[.bool ((rd_T46 l0 a2).f0), .int .i64 ((rd_T46 l0 a2).f1), .int .i64 ((rd_T46 l0 a2).f2)], .agg #[.bool ((rd_T46 l0 (ji37)).f0), .int .i64 ((rd_T46 l0 (ji37)).f1), .int .i64 ((rd_T46 l0 (ji37)).f2)]] (by rfl) rfl rfl rfl (by (try simp only [List.map_toArray, List.map_cons, List.map_nil]); first | done | (simp only [hji37]; rfl) | rfl | (simp only [List.length_drop, List.length_take]; rfl)) ?_
           with_reducible refine (txn_byKey_1.calls ((rd_T46 l0 a2).f0) ((rd_T46 l0 a2).f1) ((rd_T46 l0 a2).f2) ((rd_T46 l0 (ji37)).f0) ((rd_T46 l0 (ji37)).f1) ((rd_T46 l0 (ji37)).f2) t110 _ A40.out).mono ?_
           rintro e w44 ⟨rfl, hb⟩
           have HS0_ := (hb.cell (World.block_lt_of_cell? _ _ (hHeld.1))).trans (hHeld.1)
           have HS1_ := (hb.cell (World.block_lt_of_cell? _ _ (hHeld.2.1))).trans (hHeld.2.1)
           have HS2_ := (hb.cell (World.block_lt_of_cell? _ _ (hHeld.2.2.1))).trans (hHeld.2.2.1)
           have HS3_ := (hb.cell (World.block_lt_of_cell? _ _ (hHeld.2.2.2.1))).trans (hHeld.2.2.2.1)
           have HS4_ := (hb.cell (World.block_lt_of_cell? _ _ (hHeld.2.2.2.2.1))).trans (hHeld.2.2.2.2.1)
           have HS5_ := (hb.cell (World.block_lt_of_cell? _ _ (hHeld.2.2.2.2.2))).trans (hHeld.2.2.2.2.2)
           refine ⟨_, rfl, ?_⟩
           have n0_ := Aside0.mk (Kd.R_below (by (with_reducible repeat (first | apply Kd.R_alloc | apply Kd.R_drewN | apply Kd.R_drew)); exact HO_0.out) hb)
           have n1_ := Aside0.mk (Kept.below (S := (fun k_ => P0_ k_)) (by repeat (first | (with_reducible first | exact HK.out | apply Kept.alloc | apply Kept.drewN | apply Kept.drew) | exact HK.out)) hb)
           have n2_ := Aside0.mk (below_step (by repeat (first | (with_reducible first | exact HB.out | apply below_alloc | apply pw_below_drewN | apply below_drew1))) hb)
           clear HO_0
           clear HK
           clear HB
           have HO_0 := n0_
           have HK := n1_
           have HB := n2_
           clear n0_ n1_ n2_
           (try clear hb)
           (try clear hb2)
           (try clear hk)
           (try clear hi)
           refine hK.out _ _ ⟨HS0_, HS1_, HS2_, HS3_, HS4_, HS5_⟩ (fun hHeld => ?_)
           clear hK K
           refine norm_ (a' := ?_) ?_ ?_
           rotate_left
           ·show Act.put _ (some 101) _ = _
            simp only [Act.put, List.setIfInBounds_toArray, List.set_cons_zero, List.set_cons_succ, i64_w, i32_w]
            rfl
           refine pure_ (i := 10) (N := some 102) (v := ?_) (a' := ?_) #[true, true, true, true, true, true, true, true, true, true, true, false] rfl rfl (any_of HT_.out (by kernel_rfl)) (fun _ _ _ h => h) (Or.inl ⟨by rfl, ?_⟩) ?_ ?_
           rotate_left
           ·intro w'
            go_simp
            with_reducible rfl
           rotate_left
           ·simp only [Act.put, List.setIfInBounds_toArray, List.set_cons_zero, List.set_cons_succ, i64_w, i32_w]
            rfl
           refine pure_ (i := 11) (N := some 103) (v := ?_) (a' := ?_) #[true, true, true, true, true, true, true, true, true, true, true, true] rfl rfl (any_of HT_.out (by kernel_rfl)) (fun _ _ _ h => h) (Or.inl ⟨by rfl, ?_⟩) ?_ ?_
           rotate_left
           ·intro w'
            go_simp
            with_reducible rfl
           rotate_left
           ·simp only [Act.put, List.setIfInBounds_toArray, List.set_cons_zero, List.set_cons_succ, i64_w, i32_w]
            rfl
           refine done_ (done_of HT_.out (by kernel_rfl)) ?_
           try go_wp2
           go_roundg k1
           case measure => have := HK1.out; omega
           case rel => exact ⟨(x14_1), (ji37), (by first | rfl | (simp; done) | (simp [*]; done)), (by first | rfl | (simp; done) | (simp only [← hji37] <;> (first | rfl | simp)) | (simp [*]; done)), H', ⟨by have := HK1.out; omega⟩, ⟨by (with_reducible repeat (first | apply Kd.R_alloc | apply Kd.R_drewN | apply Kd.R_drew)); exact HO_0.out⟩, ⟨by repeat (first | (with_reducible first | exact HK.out | apply Kept.alloc | apply Kept.drewN | apply Kept.drew) | exact HK.out)⟩, ⟨by repeat (first | (with_reducible first | exact HB.out | apply below_alloc | apply pw_below_drewN | apply below_drew1))⟩⟩
          ·rw [if_neg c41] at H
           have c41b0 : decide (t110 < 0) = false := decide_eq_false c41
           clear c41
           have H' := Aside0.mk H
           clear H
           try go_wp2
           have n0_ := Aside0.mk (Kd.R_drew HO_0.out)
           have n1_ := Aside0.mk (Kept.drew HK.out)
           have n2_ := Aside0.mk (below_drew1 HB.out)
           clear HO_0
           clear HK
           clear HB
           have HO_0 := n0_
           have HK := n1_
           have HB := n2_
           clear n0_ n1_ n2_
           obtain ⟨Ao46, co46, eo46⟩ := Kd.R_slice HO_0.out
           (first | subst eo46 | (injection eo46 with f1_ f2_ f3_; have f4_ := f1_.symm; have f5_ := f3_.symm; clear f1_ f2_ f3_; subst f4_; subst f5_))
           have p108 : 0 ≤ (a2 : Int) := of_decide_eq_true (by assumption)
           have q108 : a2 < (l0.length : Int) := of_decide_eq_true (by assumption)
           obtain ⟨ad108, e108, hx108_0, hx108_1, hx108_2⟩ := at_T46 (Kd.R_reads' HO_0.out).2.2 a2 p108 q108
           cases e108
           replace p108 := eq_true p108
           replace q108 := eq_true q108
           have p109 : 0 ≤ ((ji37) : Int) := of_decide_eq_true (by assumption)
           have q109 : (ji37) < (l0.length : Int) := of_decide_eq_true (by assumption)
           obtain ⟨ad109, e109, hx109_0, hx109_1, hx109_2⟩ := at_T46 (Kd.R_reads' HO_0.out).2.2 (ji37) p109 q109
           obtain rfl : ad108 = ad109 := (by injection e109)
           replace p109 := eq_true p109
           replace q109 := eq_true q109
           refine start_ (n := 12) (S := fun w' => w'.cell? (ad108.add ((a2).toNat * 3)) = some (.bool ((rd_T46 l0 a2).f0)) ∧ w'.cell? ⟨(ad108.add ((a2).toNat * 3)).block, (ad108.add ((a2).toNat * 3)).off + 1, none⟩ = some (.int .i64 ((rd_T46 l0 a2).f1)) ∧ w'.cell? ⟨(ad108.add ((a2).toNat * 3)).block, (ad108.add ((a2).toNat * 3)).off + 2, none⟩ = some (.int .i64 ((rd_T46 l0 a2).f2)) ∧ w'.cell? (ad108.add (((ji37)).toNat * 3)) = some (.bool ((rd_T46 l0 (ji37)).f0)) ∧ w'.cell? ⟨(ad108.add (((ji37)).toNat * 3)).block, (ad108.add (((ji37)).toNat * 3)).off + 1, none⟩ = some (.int .i64 ((rd_T46 l0 (ji37)).f1)) ∧ w'.cell? ⟨(ad108.add (((ji37)).toNat * 3)).block, (ad108.add (((ji37)).toNat * 3)).off + 2, none⟩ = some (.int .i64 ((rd_T46 l0 (ji37)).f2))) (ds := []) #[false, false, false, false, false, false, false, false, false, false, false, false] (by kernel_rfl) rfl rfl ⟨hx108_0, hx108_1, hx108_2, hx109_0, hx109_1, hx109_2⟩ (fun hHeld => ?_); refine with_tabW api_Op_120.tab17 api_Op_120.bits17 (fun HT_ HW_ => ?_)
           generalize wr.drew = w45 at HO_0 HK HB hx108_0 hx108_1 hx108_2 hx109_0 hx109_1 hx109_2 hHeld ⊢
           refine pure_ (i := 0) (N := some 92) (v := ?_) (a' := ?_) #[true, false, false, false, false, false, false, false, false, false, false, false] rfl rfl (any_of HT_.out (by kernel_rfl)) (fun _ _ _ h => h) (Or.inl ⟨by rfl, ?_⟩) ?_ ?_
           rotate_left
           ·intro w'
            go_simp
            with_reducible rfl
           rotate_left
           ·simp only [Act.put, List.setIfInBounds_toArray, List.set_cons_zero, List.set_cons_succ, i64_w, i32_w]
            rfl
           refine pure_ (i := 1) (N := some 93) (v := ?_) (a' := ?_) #[true, true, false, false, false, false, false, false, false, false, false, false] rfl rfl (any_of HT_.out (by kernel_rfl)) (fun _ _ _ h => h) (Or.inl ⟨by rfl, ?_⟩) ?_ ?_
           rotate_left
           ·intro w'
            go_simp
            with_reducible rfl
           rotate_left
           ·simp only [Act.put, List.setIfInBounds_toArray, List.set_cons_zero, List.set_cons_succ, i64_w, i32_w]
            rfl
           refine pure_ (i := 2) (N := some 94) (v := ?_) (a' := ?_) #[true, true, true, false, false, false, false, false, false, false, false, false] rfl rfl (any_of HT_.out (by kernel_rfl)) (fun _ _ _ h => h) (Or.inl ⟨by rfl, ?_⟩) ?_ ?_
           rotate_left
           ·intro w'
            go_simp
            with_reducible rfl
           rotate_left
           ·simp only [Act.put, List.setIfInBounds_toArray, List.set_cons_zero, List.set_cons_succ, i64_w, i32_w]
            rfl
           refine pure_ (i := 3) (N := some 95) (v := ?_) (a' := ?_) #[true, true, true, true, false, false, false, false, false, false, false, false] rfl rfl (any_of HT_.out (by kernel_rfl)) (fun _ _ _ h => h) (Or.inl ⟨by rfl, ?_⟩) ?_ ?_
           rotate_left
           ·intro w'
            go_simp
            with_reducible rfl
           rotate_left
           ·simp only [Act.put, List.setIfInBounds_toArray, List.set_cons_zero, List.set_cons_succ, i64_w, i32_w]
            rfl
           refine pure_ (i := 5) (N := some 97) (v := ?_) (a' := ?_) #[true, true, true, true, false, true, false, false, false, false, false, false] rfl rfl (any_of HT_.out (by kernel_rfl)) (fun _ _ _ h => h) (Or.inl ⟨by rfl, ?_⟩) ?_ ?_
           rotate_left
           ·intro w'
            go_simp
            with_reducible rfl
           rotate_left
           ·simp only [Act.put, List.setIfInBounds_toArray, List.set_cons_zero, List.set_cons_succ, i64_w, i32_w]
            rfl
           refine pure_ (i := 6) (N := some 98) (v := ?_) (a' := ?_) #[true, true, true, true, false, true, true, false, false, false, false, false] rfl rfl (any_of HT_.out (by kernel_rfl)) (fun _ _ _ h => h) (Or.inl ⟨by rfl, ?_⟩) ?_ ?_
           rotate_left
           ·intro w'
            go_simp
            with_reducible rfl
           rotate_left
           ·simp only [Act.put, List.setIfInBounds_toArray, List.set_cons_zero, List.set_cons_succ, i64_w, i32_w]
            rfl
           refine pure_ (i := 7) (N := some 99) (v := ?_) (a' := ?_) #[true, true, true, true, false, true, true, true, false, false, false, false] rfl rfl (any_of HT_.out (by kernel_rfl)) (fun _ _ _ h => h) (Or.inl ⟨by rfl, ?_⟩) ?_ ?_
           rotate_left
           ·intro w'
            go_simp
            with_reducible rfl
           rotate_left
           ·simp only [Act.put, List.setIfInBounds_toArray, List.set_cons_zero, List.set_cons_succ, i64_w, i32_w]
            rfl
           refine take_ (i := 4) (N := some 96) (v := ?_) (a' := ?_) #[true, true, true, true, true, true, true, true, false, false, false, false] rfl rfl (take_ofW HT_.out HW_.out (by kernel_rfl)) (fun _ _ _ h => h) (Or.inl ⟨by rfl, ?_⟩) hHeld ?_ ?_
           rotate_left
           ·rintro w' ⟨s0, s1, s2, s3, s4, s5⟩
            go_simp
            with_reducible rfl
           rotate_left
           ·simp only [Act.put, List.setIfInBounds_toArray, List.set_cons_zero, List.set_cons_succ, i64_w, i32_w]
            rfl
           refine take_ (i := 8) (N := some 100) (v := ?_) (a' := ?_) #[true, true, true, true, true, true, true, true, true, false, false, false] rfl rfl (take_ofW HT_.out HW_.out (by kernel_rfl)) (fun _ _ _ h => h) (Or.inl ⟨by rfl, ?_⟩) hHeld ?_ ?_
           rotate_left
           ·rintro w' ⟨s0, s1, s2, s3, s4, s5⟩
            go_simp
            with_reducible rfl
           rotate_left
           ·simp only [Act.put, List.setIfInBounds_toArray, List.set_cons_zero, List.set_cons_succ, i64_w, i32_w]
            rfl
           refine one_ (i := 9) (N := some 101) #[true, true, true, true, true, true, true, true, true, true, false, false] rfl rfl (one_of HT_.out (by kernel_rfl)) (by decide) (fun K hK => ?_)
           refine H.goesV_ Try.func108 (by kernel_rfl) rfl #[.agg #[.bool ((rd_T46 l0 a2).f0), .int .i64 ((rd_T46 l0 a2).f1), .int .i64 ((rd_T46 l0 a2).f2)], .agg #[.bool ((rd_T46 l0 (ji37)).f0), .int .i64 ((rd_T46 l0 (ji37)).f1), .int .i64 ((rd_T46 l0 (ji37)).f2)]] (by rfl) rfl rfl rfl (by (try simp only [List.map_toArray, List.map_cons, List.map_nil]); first | done | (simp only [hji37]; rfl) | rfl | (simp only [List.length_drop, List.length_take]; rfl)) ?_
           with_reducible refine (txn_byKey_1.calls ((rd_T46 l0 a2).f0) ((rd_T46 l0 a2).f1) ((rd_T46 l0 a2).f2) ((rd_T46 l0 (ji37)).f0) ((rd_T46 l0 (ji37)).f1) ((rd_T46 l0 (ji37)).f2) t110 _ A40.out).mono ?_
           rintro e w47 ⟨rfl, hb⟩
           have HS0_ := (hb.cell (World.block_lt_of_cell? _ _ (hHeld.1))).trans (hHeld.1)
           have HS1_ := (hb.cell (World.block_lt_of_cell? _ _ (hHeld.2.1))).trans (hHeld.2.1)
           have HS2_ := (hb.cell (World.block_lt_of_cell? _ _ (hHeld.2.2.1))).trans (hHeld.2.2.1)
           have HS3_ := (hb.cell (World.block_lt_of_cell? _ _ (hHeld.2.2.2.1))).trans (hHeld.2.2.2.1)
           have HS4_ := (hb.cell (World.block_lt_of_cell? _ _ (hHeld.2.2.2.2.1))).trans (hHeld.2.2.2.2.1)
           have HS5_ := (hb.cell (World.block_lt_of_cell? _ _ (hHeld.2.2.2.2.2))).trans (hHeld.2.2.2.2.2)
           refine ⟨_, rfl, ?_⟩
           have n0_ := Aside0.mk (Kd.R_below (by (with_reducible repeat (first | apply Kd.R_alloc | apply Kd.R_drewN | apply Kd.R_drew)); exact HO_0.out) hb)
           have n1_ := Aside0.mk (Kept.below (S := (fun k_ => P0_ k_)) (by repeat (first | (with_reducible first | exact HK.out | apply Kept.alloc | apply Kept.drewN | apply Kept.drew) | exact HK.out)) hb)
           have n2_ := Aside0.mk (below_step (by repeat (first | (with_reducible first | exact HB.out | apply below_alloc | apply pw_below_drewN | apply below_drew1))) hb)
           clear HO_0
           clear HK
           clear HB
           have HO_0 := n0_
           have HK := n1_
           have HB := n2_
           clear n0_ n1_ n2_
           (try clear hb)
           (try clear hb2)
           (try clear hk)
           (try clear hi)
           refine hK.out _ _ ⟨HS0_, HS1_, HS2_, HS3_, HS4_, HS5_⟩ (fun hHeld => ?_)
           clear hK K
           refine norm_ (a' := ?_) ?_ ?_
           rotate_left
           ·show Act.put _ (some 101) _ = _
            simp only [Act.put, List.setIfInBounds_toArray, List.set_cons_zero, List.set_cons_succ, i64_w, i32_w]
            rfl
           refine pure_ (i := 10) (N := some 102) (v := ?_) (a' := ?_) #[true, true, true, true, true, true, true, true, true, true, true, false] rfl rfl (any_of HT_.out (by kernel_rfl)) (fun _ _ _ h => h) (Or.inl ⟨by rfl, ?_⟩) ?_ ?_
           rotate_left
           ·intro w'
            go_simp
            with_reducible rfl
           rotate_left
           ·simp only [Act.put, List.setIfInBounds_toArray, List.set_cons_zero, List.set_cons_succ, i64_w, i32_w]
            rfl
           refine pure_ (i := 11) (N := some 103) (v := ?_) (a' := ?_) #[true, true, true, true, true, true, true, true, true, true, true, true] rfl rfl (any_of HT_.out (by kernel_rfl)) (fun _ _ _ h => h) (Or.inl ⟨by rfl, ?_⟩) ?_ ?_
           rotate_left
           ·intro w'
            go_simp
            with_reducible rfl
           rotate_left
           ·simp only [Act.put, List.setIfInBounds_toArray, List.set_cons_zero, List.set_cons_succ, i64_w, i32_w]
            rfl
           refine done_ (done_of HT_.out (by kernel_rfl)) ?_
           try go_wp2
           go_roundg k1
           case measure => have := HK1.out; omega
           case rel => exact ⟨(wrap64 ((ji37) + 1)), (x15_1), (by first | rfl | (simp; done) | (simp only [← hji37] <;> (first | rfl | simp)) | (simp [*]; done)), (by first | rfl | (simp; done) | (simp [*]; done)), H', ⟨by have := HK1.out; omega⟩, ⟨by (with_reducible repeat (first | apply Kd.R_alloc | apply Kd.R_drewN | apply Kd.R_drew)); exact HO_0.out⟩, ⟨by repeat (first | (with_reducible first | exact HK.out | apply Kept.alloc | apply Kept.drewN | apply Kept.drew) | exact HK.out)⟩, ⟨by repeat (first | (with_reducible first | exact HB.out | apply below_alloc | apply pw_below_drewN | apply below_drew1))⟩⟩
         ·rw [if_neg c39] at H
          exact absurd H (by simp)
        ·rw [if_neg c38] at H
         exact absurd H (by simp)
       ·rw [if_neg c36] at H
        exact absurd H (by simp)
      ·rw [if_neg c35] at H
       exact absurd H (by simp)
     ·rw [if_neg c34] at H
      have c34b0 : decide (x14_1 < x15_1) = false := decide_eq_false c34
      clear c34
      have H' := Aside0.mk H
      clear H
      go_wp2
      go_loopg [17] k1 (fun kq v17 w' => ∃ (x0_2 : List (S46)) (x17_2 : Int), v17 = .int .i64 x17_2 ∧ Aside0 (api_Op_120.l3 kq x0_2 x14_1 x17_2 = some r) ∧ Aside0 (kq ≤ k1) ∧ Aside0 (Kd.R k46 46 w' w0.heap.size (fun k_ => (P0_ k_ ∨ w.heap.size ≤ k_)) u9000_ x0_2) ∧ Aside0 (Kept w w' (fun k_ => P0_ k_)) ∧ Aside0 (Below w0.heap.size w0 w'))
      case atStart => exact ⟨(l0), (a2), (by first | rfl | (simp; done) | (simp [*]; done)), H', ⟨Nat.le_refl _⟩, ⟨by (with_reducible repeat (first | apply Kd.R_alloc | apply Kd.R_drewN | apply Kd.R_drew)); exact HO_0.out⟩, ⟨by repeat (first | (with_reducible first | exact HK.out | apply Kept.alloc | apply Kept.drewN | apply Kept.drew) | exact HK.out)⟩, ⟨by repeat (first | (with_reducible first | exact HB.out | apply below_alloc | apply pw_below_drewN | apply below_drew1))⟩⟩
      case round =>
       clear H'
       try clear c1
       try clear p1
       try clear q1
       try clear hx1
       try clear c2
       try clear p2
       try clear q2
       try clear hx2
       try clear c3
       try clear c4
       try clear c6
       try clear c6b0
       try clear c6b1
       try clear p6
       try clear c7
       try clear c7b0
       try clear c9
       try clear c9b0
       try clear c10
       try clear c10b0
       try clear p10
       try clear q10
       try clear hx10
       try clear c11
       try clear c11b0
       try clear c12
       try clear c12b0
       try clear c14
       try clear c14b0
       try clear c21
       try clear c21b0
       try clear c23
       try clear c23b0
       try clear c24
       try clear c24b0
       try clear c25
       try clear c25b0
       try clear c26
       try clear c26b0
       try clear c27
       try clear p27
       try clear q27
       try clear hx27
       try clear hf27
       try clear c28
       try clear p28
       try clear q28
       try clear hx28
       try clear hf28
       try clear c31
       try clear c32
       try clear c33
       try clear c33b0
       try clear c33b1
       try clear c34
       try clear c34b0
       try clear c35
       try clear c35b0
       try clear c36
       try clear c36b0
       try clear c38
       try clear c38b0
       try clear c39
       try clear c39b0
       try clear c41
       try clear c41b0
       try clear hx101_0
       try clear hx101_1
       try clear hx101_2
       try clear hx102_0
       try clear hx102_1
       try clear hx102_2
       try clear hx104_0
       try clear hx104_1
       try clear hx104_2
       try clear hx105_0
       try clear hx105_1
       try clear hx105_2
       try clear hx108_0
       try clear hx108_1
       try clear hx108_2
       try clear hx109_0
       try clear hx109_1
       try clear hx109_2
       try clear hx27_0
       try clear hx27_1
       try clear hx27_2
       try clear hx28_0
       try clear hx28_1
       try clear hx28_2
       try clear p1
       try clear p10
       try clear p101
       try clear p102
       try clear p104
       try clear p105
       try clear p108
       try clear p109
       try clear p2
       try clear p27
       try clear p28
       try clear p6
       try clear q1
       try clear q10
       try clear q101
       try clear q102
       try clear q104
       try clear q105
       try clear q108
       try clear q109
       try clear q2
       try clear q27
       try clear q28
       obtain ⟨x0_2, x17_2, rfl, HA, HK2, HO_0, HK, HB⟩ := hrel
       cases gk with
       | zero => exact absurd HA.out (by simp [api_Op_120.l3])
       | succ k2 =>
        have H := HA.out
        clear HA
        simp only [api_Op_120.l3] at H
        by_cases c48 : x17_2 > x14_1
        ·rw [if_pos c48] at H
         have c48b0 : decide (x14_1 < x17_2) = true := decide_eq_true c48
         clear c48
         obtain ⟨ji49, hji49⟩ : ∃ j_ : Int, (wrap64 (x17_2 - 1)) = j_ := ⟨_, rfl⟩
         replace H : (if 0 ≤ (ji49) then (if (ji49) < (x0_2.length : Int) then (if 0 ≤ x17_2 then (if x17_2 < (x0_2.length : Int) then (api_Op_120.l3 k2 ((x0_2.set (x17_2 : Int).toNat (⟨(rd_T46 x0_2 (ji49)).f0, (rd_T46 x0_2 (ji49)).f1, (rd_T46 x0_2 (ji49)).f2⟩ : S46)).set ((ji49) : Int).toNat (⟨(rd_T46 x0_2 x17_2).f0, (rd_T46 x0_2 x17_2).f1, (rd_T46 x0_2 x17_2).f2⟩ : S46)) x14_1 ji49) else (none)) else (none)) else (none)) else (none)) = some r := by first | (rw [hji49] at H; exact H) | (simp only [hji49] at H ⊢; exact H)
         have hji49w : (IntKind.i64.wrap (x17_2 - 1)) = ji49 := (i64_w _).trans hji49
         by_cases c50 : 0 ≤ (ji49)
         ·rw [if_pos c50] at H
          have c50b0 : decide (0 ≤ (ji49)) = true := decide_eq_true c50
          clear c50
          by_cases c51 : (ji49) < (x0_2.length : Int)
          ·rw [if_pos c51] at H
           have c51b0 : decide ((ji49) < (x0_2.length : Int)) = true := decide_eq_true c51
           clear c51
           by_cases c52 : 0 ≤ x17_2
           ·rw [if_pos c52] at H
            have c52b0 : decide (0 ≤ x17_2) = true := decide_eq_true c52
            clear c52
            by_cases c53 : x17_2 < (x0_2.length : Int)
            ·rw [if_pos c53] at H
             have c53b0 : decide (x17_2 < (x0_2.length : Int)) = true := decide_eq_true c53
             clear c53
             obtain ⟨y113, hy113⟩ : ∃ y_ : List (S46), y_ = (x0_2.set (x17_2 : Int).toNat (⟨(rd_T46 x0_2 (ji49)).f0, (rd_T46 x0_2 (ji49)).f1, (rd_T46 x0_2 (ji49)).f2⟩ : S46)) := ⟨_, rfl⟩
             replace H : (api_Op_120.l3 k2 (y113.set ((ji49) : Int).toNat (⟨(rd_T46 x0_2 x17_2).f0, (rd_T46 x0_2 x17_2).f1, (rd_T46 x0_2 x17_2).f2⟩ : S46)) x14_1 ji49) = some r := by first | (rw [hy113]; with_reducible exact H) | (have H2_ := (Option.bind_some _ _).symm.trans H; rw [hy113]; with_reducible exact H2_) | (have H2_ := (Option.bind_some _ _).symm.trans H; with_reducible exact H2_) | with_reducible exact H | (rw [hy113]; exact H) | exact H
             have Ny113 := Aside0.mk hy113
             clear hy113
             obtain ⟨y114, hy114⟩ : ∃ y_ : List (S46), y_ = (y113.set ((ji49) : Int).toNat (⟨(rd_T46 x0_2 x17_2).f0, (rd_T46 x0_2 x17_2).f1, (rd_T46 x0_2 x17_2).f2⟩ : S46)) := ⟨_, rfl⟩
             replace H : (api_Op_120.l3 k2 y114 x14_1 ji49) = some r := by first | (rw [hy114]; with_reducible exact H) | (have H2_ := (Option.bind_some _ _).symm.trans H; rw [hy114]; with_reducible exact H2_) | (have H2_ := (Option.bind_some _ _).symm.trans H; with_reducible exact H2_) | with_reducible exact H | (rw [hy114]; exact H) | exact H
             have Ny114 := Aside0.mk hy114
             clear hy114
             have H' := Aside0.mk H
             clear H
             try go_wp2
             have n0_ := Aside0.mk (Kd.R_drew HO_0.out)
             have n1_ := Aside0.mk (Kept.drew HK.out)
             have n2_ := Aside0.mk (below_drew1 HB.out)
             clear HO_0
             clear HK
             clear HB
             have HO_0 := n0_
             have HK := n1_
             have HB := n2_
             clear n0_ n1_ n2_
             obtain ⟨Ao57, co57, eo57⟩ := Kd.R_slice HO_0.out
             (first | subst eo57 | (injection eo57 with f1_ f2_ f3_; have f4_ := f1_.symm; have f5_ := f3_.symm; clear f1_ f2_ f3_; subst f4_; subst f5_))
             have p111 : 0 ≤ ((ji49) : Int) := of_decide_eq_true (by assumption)
             have q111 : (ji49) < (x0_2.length : Int) := of_decide_eq_true (by assumption)
             obtain ⟨ad111, e111, hx111_0, hx111_1, hx111_2⟩ := at_T46 (Kd.R_reads' HO_0.out).2.2 (ji49) p111 q111
             cases e111
             replace p111 := eq_true p111
             replace q111 := eq_true q111
             have p112 : 0 ≤ (x17_2 : Int) := of_decide_eq_true (by assumption)
             have q112 : x17_2 < (x0_2.length : Int) := of_decide_eq_true (by assumption)
             obtain ⟨ad112, e112, hx112_0, hx112_1, hx112_2⟩ := at_T46 (Kd.R_reads' HO_0.out).2.2 x17_2 p112 q112
             obtain rfl : ad111 = ad112 := (by injection e112)
             replace p112 := eq_true p112
             replace q112 := eq_true q112
             have p54 : 0 ≤ (x17_2 : Int) := of_decide_eq_true (by assumption)
             have q54 : (x17_2 : Int) < ((x0_2.length : Int) : Int) := of_decide_eq_true (by assumption)
             obtain ⟨go54, co54, eo54, gb54, gl54, cl54, HG54⟩ := Kd.R_form HO_0.out (by omega)
             (first | cases eo54 | (injection eo54 with ea_ en_ ec_; (first | subst ea_ | (injection ea_ with ea_; subst ea_)); subst ec_; clear en_))
             have GB54 := Aside0.mk gb54
             have GG54 := Aside0.mk HG54
             clear gb54 gl54 HG54
             have HMgo54 := Aside0.mk (show (P0_ go54 ∨ w.heap.size ≤ go54) from (HO_0.out.1 _ rfl))
             (first | simp only [add_plain] at hx111_0 | skip)
             (first | simp only [add_plain] at hx111_1 | skip)
             (first | simp only [add_plain] at hx111_2 | skip)
             (first | simp only [add_plain] at hx112_0 | skip)
             (first | simp only [add_plain] at hx112_1 | skip)
             (first | simp only [add_plain] at hx112_2 | skip)
             obtain ⟨ce54, hcl54, hM54, hcc54, hfr54⟩ := Kd.R_elem HO_0.out z46 (x17_2 : Int) p54 q54
             obtain rfl := k46_openM hM54
             have hx54_0 : World.cell? _ ⟨go54, (x17_2 : Int).toNat * 3, none⟩ = some (.bool ((rd_T46 x0_2 x17_2).f0)) := hcc54 0 _ rfl
             have hx54_1 : World.cell? _ ⟨go54, (x17_2 : Int).toNat * 3 + 1, none⟩ = some (.int .i64 ((rd_T46 x0_2 x17_2).f1)) := hcc54 1 _ rfl
             have hx54_2 : World.cell? _ ⟨go54, (x17_2 : Int).toNat * 3 + 2, none⟩ = some (.int .i64 ((rd_T46 x0_2 x17_2).f2)) := hcc54 2 _ rfl
             have hf54_0 : World.frozen? _ ⟨go54, (x17_2 : Int).toNat * 3, none⟩ = false := hfr54 0
             have hf54_1 : World.frozen? _ ⟨go54, (x17_2 : Int).toNat * 3 + 1, none⟩ = false := hfr54 1
             have hf54_2 : World.frozen? _ ⟨go54, (x17_2 : Int).toNat * 3 + 2, none⟩ = false := hfr54 2
             clear hcl54 hcc54 hfr54 hM54
             replace p54 := eq_true p54
             replace q54 := eq_true q54
             obtain ⟨ce58, hcl58, hM58, hcc58, hfr58⟩ := Kd.R_elem HO_0.out z46 (x17_2 : Int) (of_decide_eq_true (by assumption)) (by have h_ : (x17_2 : Int) < ((x0_2.length : Int) : Int) := of_decide_eq_true (by assumption); first | exact h_ | (have e_ := (Kd.R_reads' HO_0.out).1; omega) | simpa using h_)
             obtain rfl := k46_openM hM58
             have HP58 := (Kd.R_seg HO_0.out (x17_2 : Int) (of_decide_eq_true (by assumption)) (by have h_ : (x17_2 : Int) < ((x0_2.length : Int) : Int) := of_decide_eq_true (by assumption); first | exact h_ | (have e_ := (Kd.R_reads' HO_0.out).1; omega) | simpa using h_) (seg := [.bool ((rd_T46 x0_2 (ji49)).f0), .int .i64 ((rd_T46 x0_2 (ji49)).f1), .int .i64 ((rd_T46 x0_2 (ji49)).f2)]) (j := 0) hcl58 hcc58 (show 3 ≤ 3 from by decide) (x' := (⟨(rd_T46 x0_2 (ji49)).f0, (rd_T46 x0_2 (ji49)).f1, (rd_T46 x0_2 (ji49)).f2⟩ : S46)) (k46_mkM _ _ _ (⟨(rd_T46 x0_2 (ji49)).f0, (rd_T46 x0_2 (ji49)).f1, (rd_T46 x0_2 (ji49)).f2⟩ : S46) ) (fun _ hk => hk)).1
             rw [← Ny113.out] at HP58
             have HQ58 := Aside0.mk HP58
             clear hcl58 hcc58 hfr58 hM58 HP58
             have p55 : 0 ≤ ((ji49) : Int) := of_decide_eq_true (by assumption)
             have q55 : ((ji49) : Int) < ((x0_2.length : Int) : Int) := of_decide_eq_true (by assumption)
             obtain ⟨ce55, hcl55, hM55, hcc55, hfr55⟩ := Kd.R_elem HQ58.out z46 ((ji49) : Int) p55 q55
             obtain rfl := k46_openM hM55
             have hx55_0 : World.cell? _ ⟨go54, ((ji49) : Int).toNat * 3, none⟩ = some (.bool ((rd_T46 y113 (ji49)).f0)) := hcc55 0 _ rfl
             have hx55_1 : World.cell? _ ⟨go54, ((ji49) : Int).toNat * 3 + 1, none⟩ = some (.int .i64 ((rd_T46 y113 (ji49)).f1)) := hcc55 1 _ rfl
             have hx55_2 : World.cell? _ ⟨go54, ((ji49) : Int).toNat * 3 + 2, none⟩ = some (.int .i64 ((rd_T46 y113 (ji49)).f2)) := hcc55 2 _ rfl
             have hf55_0 : World.frozen? _ ⟨go54, ((ji49) : Int).toNat * 3, none⟩ = false := hfr55 0
             have hf55_1 : World.frozen? _ ⟨go54, ((ji49) : Int).toNat * 3 + 1, none⟩ = false := hfr55 1
             have hf55_2 : World.frozen? _ ⟨go54, ((ji49) : Int).toNat * 3 + 2, none⟩ = false := hfr55 2
             clear hcl55 hcc55 hfr55 hM55
             replace p55 := eq_true p55
             replace q55 := eq_true q55
             obtain ⟨ce59, hcl59, hM59, hcc59, hfr59⟩ := Kd.R_elem HQ58.out z46 ((ji49) : Int) (of_decide_eq_true (by assumption)) (by have h_ : ((ji49) : Int) < ((x0_2.length : Int) : Int) := of_decide_eq_true (by assumption); first | exact h_ | (have e_ := (Kd.R_reads' HO_0.out).1; omega) | simpa using h_)
             obtain rfl := k46_openM hM59
             have HP59 := (Kd.R_seg HQ58.out ((ji49) : Int) (of_decide_eq_true (by assumption)) (by have h_ : ((ji49) : Int) < ((x0_2.length : Int) : Int) := of_decide_eq_true (by assumption); first | exact h_ | (have e_ := (Kd.R_reads' HO_0.out).1; omega) | simpa using h_) (seg := [.bool ((rd_T46 x0_2 x17_2).f0), .int .i64 ((rd_T46 x0_2 x17_2).f1), .int .i64 ((rd_T46 x0_2 x17_2).f2)]) (j := 0) hcl59 hcc59 (show 3 ≤ 3 from by decide) (x' := (⟨(rd_T46 x0_2 x17_2).f0, (rd_T46 x0_2 x17_2).f1, (rd_T46 x0_2 x17_2).f2⟩ : S46)) (k46_mkM _ _ _ (⟨(rd_T46 x0_2 x17_2).f0, (rd_T46 x0_2 x17_2).f1, (rd_T46 x0_2 x17_2).f2⟩ : S46) ) (fun _ hk => hk)).1
             rw [← Ny114.out] at HP59
             have HQ59 := Aside0.mk HP59
             clear hcl59 hcc59 hfr59 hM59 HP59
             refine start_ (n := 18) (S := fun w' => w'.cell? ⟨go54, ((ji49)).toNat * 3, none⟩ = some (.bool ((rd_T46 x0_2 (ji49)).f0)) ∧ w'.cell? ⟨go54, ((ji49)).toNat * 3 + 1, none⟩ = some (.int .i64 ((rd_T46 x0_2 (ji49)).f1)) ∧ w'.cell? ⟨go54, ((ji49)).toNat * 3 + 2, none⟩ = some (.int .i64 ((rd_T46 x0_2 (ji49)).f2)) ∧ w'.cell? ⟨go54, ((x17_2).toNat * 3), none⟩ = some (.bool ((rd_T46 x0_2 x17_2).f0)) ∧ w'.cell? ⟨go54, ((x17_2).toNat * 3) + 1, none⟩ = some (.int .i64 ((rd_T46 x0_2 x17_2).f1)) ∧ w'.cell? ⟨go54, ((x17_2).toNat * 3) + 2, none⟩ = some (.int .i64 ((rd_T46 x0_2 x17_2).f2))) (ds := [15, 17]) #[false, false, false, false, false, false, false, false, false, false, false, false, false, false, false, false, false, false] (by kernel_rfl) rfl rfl ⟨hx111_0, hx111_1, hx111_2, hx112_0, hx112_1, hx112_2⟩ (fun hHeld => ?_); refine with_tabW api_Op_120.tab23 api_Op_120.bits23 (fun HT_ HW_ => ?_)
             generalize wr.drew = w56 at HO_0 HK HB GG54 HQ58 HQ59 hf54_0 hf54_1 hf54_2 hf55_0 hf55_1 hf55_2 hx111_0 hx111_1 hx111_2 hx112_0 hx112_1 hx112_2 hx54_0 hx54_1 hx54_2 hx55_0 hx55_1 hx55_2 hHeld ⊢
             refine pure_ (i := 0) (N := some 113) (v := ?_) (a' := ?_) #[true, false, false, false, false, false, false, false, false, false, false, false, false, false, false, false, false, false] rfl rfl (any_of HT_.out (by kernel_rfl)) (fun _ _ _ h => h) (Or.inl ⟨by rfl, ?_⟩) ?_ ?_
             rotate_left
             ·intro w'
              go_simp
              with_reducible rfl
             rotate_left
             ·simp only [Act.put, List.setIfInBounds_toArray, List.set_cons_zero, List.set_cons_succ, i64_w, i32_w]
              rfl
             refine pure_ (i := 1) (N := some 114) (v := ?_) (a' := ?_) #[true, true, false, false, false, false, false, false, false, false, false, false, false, false, false, false, false, false] rfl rfl (any_of HT_.out (by kernel_rfl)) (fun _ _ _ h => h) (Or.inl ⟨by rfl, ?_⟩) ?_ ?_
             rotate_left
             ·intro w'
              go_simp
              with_reducible rfl
             rotate_left
             ·simp only [Act.put, List.setIfInBounds_toArray, List.set_cons_zero, List.set_cons_succ, i64_w, i32_w]
              rfl
             refine pure_ (i := 2) (N := some 115) (v := ?_) (a' := ?_) #[true, true, true, false, false, false, false, false, false, false, false, false, false, false, false, false, false, false] rfl rfl (any_of HT_.out (by kernel_rfl)) (fun _ _ _ h => h) (Or.inl ⟨by rfl, ?_⟩) ?_ ?_
             rotate_left
             ·intro w'
              go_simp
              with_reducible rfl
             rotate_left
             ·simp only [Act.put, List.setIfInBounds_toArray, List.set_cons_zero, List.set_cons_succ, i64_w, i32_w]
              rfl
             refine pure_ (i := 3) (N := some 116) (v := ?_) (a' := ?_) #[true, true, true, true, false, false, false, false, false, false, false, false, false, false, false, false, false, false] rfl rfl (any_of HT_.out (by kernel_rfl)) (fun _ _ _ h => h) (Or.inl ⟨by rfl, ?_⟩) ?_ ?_
             rotate_left
             ·intro w'
              go_simp
              with_reducible rfl
             rotate_left
             ·simp only [Act.put, List.setIfInBounds_toArray, List.set_cons_zero, List.set_cons_succ, i64_w, i32_w]
              rfl
             refine pure_ (i := 4) (N := some 117) (v := ?_) (a' := ?_) #[true, true, true, true, true, false, false, false, false, false, false, false, false, false, false, false, false, false] rfl rfl (any_of HT_.out (by kernel_rfl)) (fun _ _ _ h => h) (Or.inl ⟨by rfl, ?_⟩) ?_ ?_
             rotate_left
             ·intro w'
              go_simp
              with_reducible rfl
             rotate_left
             ·simp only [Act.put, List.setIfInBounds_toArray, List.set_cons_zero, List.set_cons_succ, i64_w, i32_w]
              rfl
             refine pure_ (i := 5) (N := some 118) (v := ?_) (a' := ?_) #[true, true, true, true, true, true, false, false, false, false, false, false, false, false, false, false, false, false] rfl rfl (any_of HT_.out (by kernel_rfl)) (fun _ _ _ h => h) (Or.inl ⟨by rfl, ?_⟩) ?_ ?_
             rotate_left
             ·intro w'
              go_simp
              with_reducible rfl
             rotate_left
             ·simp only [Act.put, List.setIfInBounds_toArray, List.set_cons_zero, List.set_cons_succ, i64_w, i32_w]
              rfl
             refine pure_ (i := 6) (N := some 119) (v := ?_) (a' := ?_) #[true, true, true, true, true, true, true, false, false, false, false, false, false, false, false, false, false, false] rfl rfl (any_of HT_.out (by kernel_rfl)) (fun _ _ _ h => h) (Or.inl ⟨by rfl, ?_⟩) ?_ ?_
             rotate_left
             ·intro w'
              go_simp
              with_reducible rfl
             rotate_left
             ·simp only [Act.put, List.setIfInBounds_toArray, List.set_cons_zero, List.set_cons_succ, i64_w, i32_w]
              rfl
             refine pure_ (i := 7) (N := some 120) (v := ?_) (a' := ?_) #[true, true, true, true, true, true, true, true, false, false, false, false, false, false, false, false, false, false] rfl rfl (any_of HT_.out (by kernel_rfl)) (fun _ _ _ h => h) (Or.inl ⟨by rfl, ?_⟩) ?_ ?_
             rotate_left
             ·intro w'
              go_simp
              with_reducible rfl
             rotate_left
             ·simp only [Act.put, List.setIfInBounds_toArray, List.set_cons_zero, List.set_cons_succ, i64_w, i32_w]
              rfl
             refine pure_ (i := 8) (N := some 121) (v := ?_) (a' := ?_) #[true, true, true, true, true, true, true, true, true, false, false, false, false, false, false, false, false, false] rfl rfl (any_of HT_.out (by kernel_rfl)) (fun _ _ _ h => h) (Or.inl ⟨by rfl, ?_⟩) ?_ ?_
             rotate_left
             ·intro w'
              go_simp
              with_reducible rfl
             rotate_left
             ·simp only [Act.put, List.setIfInBounds_toArray, List.set_cons_zero, List.set_cons_succ, i64_w, i32_w]
              rfl
             refine pure_ (i := 10) (N := some 123) (v := ?_) (a' := ?_) #[true, true, true, true, true, true, true, true, true, false, true, false, false, false, false, false, false, false] rfl rfl (any_of HT_.out (by kernel_rfl)) (fun _ _ _ h => h) (Or.inl ⟨by rfl, ?_⟩) ?_ ?_
             rotate_left
             ·intro w'
              go_simp
              with_reducible rfl
             rotate_left
             ·simp only [Act.put, List.setIfInBounds_toArray, List.set_cons_zero, List.set_cons_succ, i64_w, i32_w]
              rfl
             refine pure_ (i := 11) (N := some 124) (v := ?_) (a' := ?_) #[true, true, true, true, true, true, true, true, true, false, true, true, false, false, false, false, false, false] rfl rfl (any_of HT_.out (by kernel_rfl)) (fun _ _ _ h => h) (Or.inl ⟨by rfl, ?_⟩) ?_ ?_
             rotate_left
             ·intro w'
              go_simp
              with_reducible rfl
             rotate_left
             ·simp only [Act.put, List.setIfInBounds_toArray, List.set_cons_zero, List.set_cons_succ, i64_w, i32_w]
              rfl
             refine pure_ (i := 12) (N := some 125) (v := ?_) (a' := ?_) #[true, true, true, true, true, true, true, true, true, false, true, true, true, false, false, false, false, false] rfl rfl (any_of HT_.out (by kernel_rfl)) (fun _ _ _ h => h) (Or.inl ⟨by rfl, ?_⟩) ?_ ?_
             rotate_left
             ·intro w'
              go_simp
              with_reducible rfl
             rotate_left
             ·simp only [Act.put, List.setIfInBounds_toArray, List.set_cons_zero, List.set_cons_succ, i64_w, i32_w]
              rfl
             refine take_ (i := 9) (N := some 122) (v := ?_) (a' := ?_) #[true, true, true, true, true, true, true, true, true, true, true, true, true, false, false, false, false, false] rfl rfl (take_ofW HT_.out HW_.out (by kernel_rfl)) (fun _ _ _ h => h) (Or.inl ⟨by rfl, ?_⟩) hHeld ?_ ?_
             rotate_left
             ·rintro w' ⟨s0, s1, s2, s3, s4, s5⟩
              go_simp
              with_reducible rfl
             rotate_left
             ·simp only [Act.put, List.setIfInBounds_toArray, List.set_cons_zero, List.set_cons_succ, i64_w, i32_w]
              rfl
             refine take_ (i := 13) (N := some 126) (v := ?_) (a' := ?_) #[true, true, true, true, true, true, true, true, true, true, true, true, true, true, false, false, false, false] rfl rfl (take_ofW HT_.out HW_.out (by kernel_rfl)) (fun _ _ _ h => h) (Or.inl ⟨by rfl, ?_⟩) hHeld ?_ ?_
             rotate_left
             ·rintro w' ⟨s0, s1, s2, s3, s4, s5⟩
              go_simp
              with_reducible rfl
             rotate_left
             ·simp only [Act.put, List.setIfInBounds_toArray, List.set_cons_zero, List.set_cons_succ, i64_w, i32_w]
              rfl
             refine pure_ (i := 14) (N := some 127) (v := ?_) (a' := ?_) #[true, true, true, true, true, true, true, true, true, true, true, true, true, true, true, false, false, false] rfl rfl (any_of HT_.out (by kernel_rfl)) (fun _ _ _ h => h) (Or.inl ⟨by rfl, ?_⟩) ?_ ?_
             rotate_left
             ·intro w'
              go_simp
              with_reducible rfl
             rotate_left
             ·simp only [Act.put, List.setIfInBounds_toArray, List.set_cons_zero, List.set_cons_succ, i64_w, i32_w]
              rfl
             refine last_ (i := 15) (N := none) #[true, true, true, true, true, true, true, true, true, true, true, true, true, true, true, true, false, false] rfl rfl (one_of HT_.out (by kernel_rfl)) (by decide) (fun K hK => ?_)
             refine skip_ (w1 := ?_) (by rfl) rfl ?_ ?_
             rotate_left
             ·have e_0 := hx55_0; have e_1 := hx55_1; have e_2 := hx55_2; have f_0 := hf55_0; have f_1 := hf55_1; have f_2 := hf55_2
              (try simp [World.setCells, show k46.sz = 3 from rfl, Nat.add_assoc, go_sem] at e_0 e_1 e_2 f_0 f_1 f_2)
              go_simp
              rfl
             refine hK.out _ _ ?_
             clear hK K
             refine pure_ (i := 16) (N := some 128) (v := ?_) (a' := ?_) #[true, true, true, true, true, true, true, true, true, true, true, true, true, true, true, true, true, false] rfl rfl (any_of HT_.out (by kernel_rfl)) (fun _ _ _ h => h) (Or.inl ⟨by rfl, ?_⟩) ?_ ?_
             rotate_left
             ·intro w'
              go_simp
              with_reducible rfl
             rotate_left
             ·simp only [Act.put, List.setIfInBounds_toArray, List.set_cons_zero, List.set_cons_succ, i64_w, i32_w]
              rfl
             refine last_ (i := 17) (N := none) #[true, true, true, true, true, true, true, true, true, true, true, true, true, true, true, true, true, true] rfl rfl (one_of HT_.out (by kernel_rfl)) (by decide) (fun K hK => ?_)
             refine skip_ (w1 := ?_) (by rfl) rfl ?_ ?_
             rotate_left
             ·have e_0 := hx55_0; have e_1 := hx55_1; have e_2 := hx55_2; have f_0 := hf55_0; have f_1 := hf55_1; have f_2 := hf55_2
              (try simp [World.setCells, show k46.sz = 3 from rfl, Nat.add_assoc, go_sem] at e_0 e_1 e_2 f_0 f_1 f_2)
              go_simp
              rfl
             refine hK.out _ _ ?_
             clear hK K
             refine done_ (done_of HT_.out (by kernel_rfl)) ?_
             try go_wp2
             go_roundg k2
             case measure => have := HK1.out; have := HK2.out; omega
             case rel => exact ⟨(y114), (ji49), (by first | rfl | (simp; done) | (simp only [← hji49] <;> (first | rfl | simp)) | (simp [*]; done)), H', ⟨by have := HK1.out; have := HK2.out; omega⟩, ⟨by (with_reducible repeat (first | apply Kd.R_alloc | apply Kd.R_drewN | apply Kd.R_drew)); exact HQ59.out⟩, ⟨by repeat (first | (with_reducible first | exact HK.out | apply Kept.alloc | apply Kept.drewN | apply Kept.drew | refine Kept.setCell ?_ HMgo54.out _ | refine Kept.setCell ?_ HMgo54.out _ | refine Kept.setCell ?_ HMgo54.out _ | refine Kept.setCell ?_ HMgo54.out _ | refine Kept.setCell ?_ HMgo54.out _ | refine Kept.setCell ?_ HMgo54.out _) | exact HK.out)⟩, ⟨by repeat (first | (with_reducible first | exact HB.out | apply below_alloc | apply pw_below_drewN | apply below_drew1 | refine below_set ?_ GB54.out | refine below_set ?_ GB54.out | refine below_set ?_ GB54.out | refine below_set ?_ GB54.out | refine below_set ?_ GB54.out | refine below_set ?_ GB54.out))⟩⟩
            ·rw [if_neg c53] at H
             exact absurd H (by simp)
           ·rw [if_neg c52] at H
            exact absurd H (by simp)
          ·rw [if_neg c51] at H
           exact absurd H (by simp)
         ·rw [if_neg c50] at H
          exact absurd H (by simp)
        ·rw [if_neg c48] at H
         have c48b0 : decide (x14_1 < x17_2) = false := decide_eq_false c48
         clear c48
         obtain rfl := Option.some.inj H
         go_wp2
         first | go_end0 | ((try simp only [Exit.inBlock, Exit.then]); refine bodyPost_ret (results_none rfl _ _ _) rfl ?_)
         exact ⟨by first | rfl | (simp <;> rfl) | (simp [*] <;> rfl), by (with_reducible repeat (first | apply Kd.R_alloc | apply Kd.R_drewN | apply Kd.R_drew)); exact HO_0.out, by repeat (first | (with_reducible first | exact HB.out | apply below_alloc | apply pw_below_drewN | apply below_drew1)), by repeat (first | (with_reducible first | exact HK.out | apply Kept.alloc | apply Kept.drewN | apply Kept.drew) | exact HK.out)⟩
set_option maxHeartbeats 8000000 in
set_option maxRecDepth 100000 in
theorem api_Op_120.calls_n (k : Nat) (ih : ∀ m, m < k + 1 → ∀ (P0_ : Nat → Prop) (u9000_ : Value) (l0 : List (S46)) (a1 : Int) (a2 : Int) (a3 : Int) (a4 : Int) (r : List (S46)) (w0 w : World) (hB : Below w0.heap.size w0 w) (ho0 : Kd.R k46 46 w w0.heap.size P0_ u9000_ l0) (h : api_Op_120.f m l0 a1 a2 a3 a4 = some r), Calls Try.prog 120 #[u9000_, .int .i64 a1, .int .i64 a2, .int .i64 a3, .func (.func 108) #[] #[]] w fun e w' => e = .returned (.tuple #[]) ∧ Kd.R k46 46 w' w0.heap.size (fun k_ => (P0_ k_ ∨ w.heap.size ≤ k_)) u9000_ r ∧ Below w0.heap.size w0 w' ∧ Kept w w' (fun k_ => P0_ k_)) : ∀ (P0_ : Nat → Prop) (u9000_ : Value) (l0 : List (S46)) (a1 : Int) (a2 : Int) (a3 : Int) (a4 : Int) (r : List (S46)) (w0 w : World) (hB : Below w0.heap.size w0 w) (ho0 : Kd.R k46 46 w w0.heap.size P0_ u9000_ l0) (h : api_Op_120.f (k + 1) l0 a1 a2 a3 a4 = some r) (c6 : ¬ ((wrap64 (a2 - a1)) = 1)) (c33 : ¬ ((wrap64 (a3 - a2)) = 1)),
  Calls Try.prog 120 #[u9000_, .int .i64 a1, .int .i64 a2, .int .i64 a3, .func (.func 108) #[] #[]] w fun e w' => e = .returned (.tuple #[]) ∧ Kd.R k46 46 w' w0.heap.size (fun k_ => (P0_ k_ ∨ w.heap.size ≤ k_)) u9000_ r ∧ Below w0.heap.size w0 w' ∧ Kept w w' (fun k_ => P0_ k_) := by
 intro P0_ u9000_ l0 a1 a2 a3 a4 r w0 w hB ho0 h c6 c33
 simp only [api_Op_120.f] at h
 have hu46 := Try.underlying46
 have HO0 := Aside0.mk (show Kd.R k46 46 w w0.heap.size (fun k_ => (P0_ k_ ∨ w.heap.size ≤ k_)) u9000_ l0 from Kd.R_mono ho0 (fun k_ hk => (.inl hk)))
 have HK := Aside0.mk (Kept.refl w (fun k_ => P0_ k_))
 have HW0 := Aside0.mk hB.size
 have HB := Aside0.mk hB
 clear hB
 have H : (if (wrap64 (a2 - a1)) = 1 then (api_Op_120.l0 k l0 a1 a2 a3) else (if (wrap64 (a3 - a2)) = 1 then (api_Op_120.l2 k l0 a2 a1 a2) else (if a2 > (wrap64 ((IntKind.u64.wrap (wrap64 (a1 + a3))) / 2)) then (api_Op_120.j4 k l0 a1 a2 a3 a4 (wrap64 ((IntKind.u64.wrap (wrap64 (a1 + a3))) / 2)) (wrap64 ((wrap64 ((IntKind.u64.wrap (wrap64 (a1 + a3))) / 2)) + a2)) (wrap64 ((wrap64 ((wrap64 ((IntKind.u64.wrap (wrap64 (a1 + a3))) / 2)) + a2)) - a3)) (wrap64 ((IntKind.u64.wrap (wrap64 (a1 + a3))) / 2))) else (api_Op_120.j4 k l0 a1 a2 a3 a4 (wrap64 ((IntKind.u64.wrap (wrap64 (a1 + a3))) / 2)) (wrap64 ((wrap64 ((IntKind.u64.wrap (wrap64 (a1 + a3))) / 2)) + a2)) a1 a2)))) = some r := h
 clear h
 ·rw [if_neg c6] at H
  have c6b0 : ((wrap64 (a2 - a1)) == 1) = false := beq_eq_false_iff_ne.mpr c6
  have c6b1 : ((wrap64 (a2 - a1)) != 1) = true := bne_iff_ne.mpr c6
  ·rw [if_neg c33] at H
   have c33b0 : ((wrap64 (a3 - a2)) == 1) = false := beq_eq_false_iff_ne.mpr c33
   have c33b1 : ((wrap64 (a3 - a2)) != 1) = true := bne_iff_ne.mpr c33
   have HC60 := Aside0.mk H
   clear H
   go_enter Try.func120, Try.ntmps120
   go_upto_if 140 with (fail)
   go_cut [18, 19, 20, 21] (fun v18 v19 v20 v21 wc => ∃ (kq : Nat) (x18_59 : Int) (x19_59 : Int) (x20_59 : Int) (x21_59 : Int), v18 = .int .i64 x18_59 ∧ v19 = .int .i64 x19_59 ∧ v20 = .int .i64 x20_59 ∧ v21 = .int .i64 x21_59 ∧ Aside0 (api_Op_120.j4 kq l0 a1 a2 a3 a4 x18_59 x19_59 x20_59 x21_59 = some r) ∧ Aside0 (kq ≤ k) ∧ Aside0 (Kd.R k46 46 wc w0.heap.size (fun k_ => (P0_ k_ ∨ w.heap.size ≤ k_)) u9000_ l0) ∧ Aside0 (Kept w wc (fun k_ => P0_ k_)) ∧ Aside0 (Below w0.heap.size w0 wc))
   case first =>
    have H := HC60.out
    clear HC60
    by_cases c61 : a2 > (wrap64 ((IntKind.u64.wrap (wrap64 (a1 + a3))) / 2))
    ·rw [if_pos c61] at H
     have c61b0 : decide ((wrap64 ((IntKind.u64.wrap (wrap64 (a1 + a3))) / 2)) < a2) = true := decide_eq_true c61
     clear c61
     (first | rw [c61b0] | (simp only [i64_w, i32_w]; rw [c61b0]) | skip)
     have H' := Aside0.mk H
     clear H
     go_wp2
     go_meet
     case rel => exact ⟨_, (wrap64 ((IntKind.u64.wrap (wrap64 (a1 + a3))) / 2)), (wrap64 ((wrap64 ((IntKind.u64.wrap (wrap64 (a1 + a3))) / 2)) + a2)), (wrap64 ((wrap64 ((wrap64 ((IntKind.u64.wrap (wrap64 (a1 + a3))) / 2)) + a2)) - a3)), (wrap64 ((IntKind.u64.wrap (wrap64 (a1 + a3))) / 2)), (by first | rfl | (simp; done) | (simp [*]; done)), (by first | rfl | (simp; done) | (simp [*]; done)), (by first | rfl | (simp; done) | (simp [*]; done)), (by first | rfl | (simp; done) | (simp [*]; done)), H', ⟨by first | omega | exact Nat.le_refl _⟩, ⟨by (with_reducible repeat (first | apply Kd.R_alloc | apply Kd.R_drewN | apply Kd.R_drew)); exact HO0.out⟩, ⟨by repeat (first | (with_reducible first | exact HK.out | apply Kept.alloc | apply Kept.drewN | apply Kept.drew) | exact HK.out)⟩, ⟨by repeat (first | (with_reducible first | exact HB.out | apply below_alloc | apply pw_below_drewN | apply below_drew1))⟩⟩
    ·rw [if_neg c61] at H
     have c61b0 : decide ((wrap64 ((IntKind.u64.wrap (wrap64 (a1 + a3))) / 2)) < a2) = false := decide_eq_false c61
     clear c61
     (first | rw [c61b0] | (simp only [i64_w, i32_w]; rw [c61b0]) | skip)
     have H' := Aside0.mk H
     clear H
     go_wp2
     go_meet
     case rel => exact ⟨_, (wrap64 ((IntKind.u64.wrap (wrap64 (a1 + a3))) / 2)), (wrap64 ((wrap64 ((IntKind.u64.wrap (wrap64 (a1 + a3))) / 2)) + a2)), (a1), (a2), (by first | rfl | (simp; done) | (simp [*]; done)), (by first | rfl | (simp; done) | (simp [*]; done)), (by first | rfl | (simp; done) | (simp [*]; done)), (by first | rfl | (simp; done) | (simp [*]; done)), H', ⟨by first | omega | exact Nat.le_refl _⟩, ⟨by (with_reducible repeat (first | apply Kd.R_alloc | apply Kd.R_drewN | apply Kd.R_drew)); exact HO0.out⟩, ⟨by repeat (first | (with_reducible first | exact HK.out | apply Kept.alloc | apply Kept.drewN | apply Kept.drew) | exact HK.out)⟩, ⟨by repeat (first | (with_reducible first | exact HB.out | apply below_alloc | apply pw_below_drewN | apply below_drew1))⟩⟩
   case rest =>
    clear HC60
    try clear c1
    try clear p1
    try clear q1
    try clear hx1
    try clear c2
    try clear p2
    try clear q2
    try clear hx2
    try clear c3
    try clear c4
    try clear c5
    try clear p5
    try clear q5
    try clear hx5
    try clear hf5
    try clear c6
    try clear c6b0
    try clear c6b1
    try clear p6
    try clear c7
    try clear c7b0
    try clear c9
    try clear c9b0
    try clear c10
    try clear c10b0
    try clear p10
    try clear q10
    try clear hx10
    try clear c11
    try clear c11b0
    try clear p11
    try clear q11
    try clear hx11
    try clear c12
    try clear c12b0
    try clear c14
    try clear c14b0
    try clear c21
    try clear c21b0
    try clear c23
    try clear c23b0
    try clear c24
    try clear c24b0
    try clear c25
    try clear c25b0
    try clear c26
    try clear c26b0
    try clear c27
    try clear p27
    try clear q27
    try clear hx27
    try clear hf27
    try clear c28
    try clear p28
    try clear q28
    try clear hx28
    try clear hf28
    try clear c31
    try clear c32
    try clear c33
    try clear c33b0
    try clear c33b1
    try clear c34
    try clear c34b0
    try clear c35
    try clear c35b0
    try clear c36
    try clear c36b0
    try clear c38
    try clear c38b0
    try clear c39
    try clear c39b0
    try clear c41
    try clear c41b0
    try clear c48
    try clear c48b0
    try clear c50
    try clear c50b0
    try clear c51
    try clear c51b0
    try clear c52
    try clear c52b0
    try clear c53
    try clear c53b0
    try clear c54
    try clear p54
    try clear q54
    try clear hx54
    try clear hf54
    try clear c55
    try clear p55
    try clear q55
    try clear hx55
    try clear hf55
    try clear c58
    try clear c59
    try clear c61
    try clear c61b0
    try clear hx101_0
    try clear hx101_1
    try clear hx101_2
    try clear hx102_0
    try clear hx102_1
    try clear hx102_2
    try clear hx104_0
    try clear hx104_1
    try clear hx104_2
    try clear hx105_0
    try clear hx105_1
    try clear hx105_2
    try clear hx108_0
    try clear hx108_1
    try clear hx108_2
    try clear hx109_0
    try clear hx109_1
    try clear hx109_2
    try clear hx111_0
    try clear hx111_1
    try clear hx111_2
    try clear hx112_0
    try clear hx112_1
    try clear hx112_2
    try clear hx27_0
    try clear hx27_1
    try clear hx27_2
    try clear hx28_0
    try clear hx28_1
    try clear hx28_2
    try clear hx54_0
    try clear hx54_1
    try clear hx54_2
    try clear hx55_0
    try clear hx55_1
    try clear hx55_2
    try clear p1
    try clear p10
    try clear p101
    try clear p102
    try clear p104
    try clear p105
    try clear p108
    try clear p109
    try clear p111
    try clear p112
    try clear p2
    try clear p27
    try clear p28
    try clear p54
    try clear p55
    try clear p6
    try clear q1
    try clear q10
    try clear q101
    try clear q102
    try clear q104
    try clear q105
    try clear q108
    try clear q109
    try clear q111
    try clear q112
    try clear q2
    try clear q27
    try clear q28
    try clear q54
    try clear q55
    obtain ⟨kq, x18_59, x19_59, x20_59, x21_59, rfl, rfl, rfl, rfl, HA, HJ59, HO_0, HK, HB⟩ := hcut
    cases kq with
    | zero => exact absurd HA.out (by simp [api_Op_120.j4])
    | succ kj59 =>
     have H := HA.out
     clear HA
     simp only [api_Op_120.j4] at H
     have H' := Aside0.mk H
     clear H
     go_wp2
     go_loopg [20, 21] kj59 (fun kq v20 v21 w' => ∃ (x20_2 : Int) (x21_2 : Int), v20 = .int .i64 x20_2 ∧ v21 = .int .i64 x21_2 ∧ Aside0 (api_Op_120.l4 kq l0 a1 a2 a3 a4 x18_59 x19_59 x20_2 x21_2 (wrap64 (x19_59 - 1)) = some r) ∧ Aside0 (kq ≤ kj59) ∧ Aside0 (Kd.R k46 46 w' w0.heap.size (fun k_ => (P0_ k_ ∨ w.heap.size ≤ k_)) u9000_ l0) ∧ Aside0 (Kept w w' (fun k_ => P0_ k_)) ∧ Aside0 (Below w0.heap.size w0 w'))
     case atStart => exact ⟨(x20_59), (x21_59), (by first | rfl | (simp; done) | (simp [*]; done)), (by first | rfl | (simp; done) | (simp [*]; done)), H', ⟨Nat.le_refl _⟩, ⟨by (with_reducible repeat (first | apply Kd.R_alloc | apply Kd.R_drewN | apply Kd.R_drew)); exact HO_0.out⟩, ⟨by repeat (first | (with_reducible first | exact HK.out | apply Kept.alloc | apply Kept.drewN | apply Kept.drew) | exact HK.out)⟩, ⟨by repeat (first | (with_reducible first | exact HB.out | apply below_alloc | apply pw_below_drewN | apply below_drew1))⟩⟩
     case round =>
      clear H'
      try clear c1
      try clear p1
      try clear q1
      try clear hx1
      try clear c2
      try clear p2
      try clear q2
      try clear hx2
      try clear c3
      try clear c4
      try clear c5
      try clear p5
      try clear q5
      try clear hx5
      try clear hf5
      try clear c6
      try clear c6b0
      try clear c6b1
      try clear p6
      try clear c7
      try clear c7b0
      try clear c9
      try clear c9b0
      try clear c10
      try clear c10b0
      try clear p10
      try clear q10
      try clear hx10
      try clear c11
      try clear c11b0
      try clear p11
      try clear q11
      try clear hx11
      try clear c12
      try clear c12b0
      try clear c14
      try clear c14b0
      try clear c21
      try clear c21b0
      try clear c23
      try clear c23b0
      try clear c24
      try clear c24b0
      try clear c25
      try clear c25b0
      try clear c26
      try clear c26b0
      try clear c27
      try clear p27
      try clear q27
      try clear hx27
      try clear hf27
      try clear c28
      try clear p28
      try clear q28
      try clear hx28
      try clear hf28
      try clear c31
      try clear c32
      try clear c33
      try clear c33b0
      try clear c33b1
      try clear c34
      try clear c34b0
      try clear c35
      try clear c35b0
      try clear c36
      try clear c36b0
      try clear c38
      try clear c38b0
      try clear c39
      try clear c39b0
      try clear c41
      try clear c41b0
      try clear c48
      try clear c48b0
      try clear c50
      try clear c50b0
      try clear c51
      try clear c51b0
      try clear c52
      try clear c52b0
      try clear c53
      try clear c53b0
      try clear c54
      try clear p54
      try clear q54
      try clear hx54
      try clear hf54
      try clear c55
      try clear p55
      try clear q55
      try clear hx55
      try clear hf55
      try clear c58
      try clear c59
      try clear c61
      try clear c61b0
      try clear hx101_0
      try clear hx101_1
      try clear hx101_2
      try clear hx102_0
      try clear hx102_1
      try clear hx102_2
      try clear hx104_0
      try clear hx104_1
      try clear hx104_2
      try clear hx105_0
      try clear hx105_1
      try clear hx105_2
      try clear hx108_0
      try clear hx108_1
      try clear hx108_2
      try clear hx109_0
      try clear hx109_1
      try clear hx109_2
      try clear hx111_0
      try clear hx111_1
      try clear hx111_2
      try clear hx112_0
      try clear hx112_1
      try clear hx112_2
      try clear hx27_0
      try clear hx27_1
      try clear hx27_2
      try clear hx28_0
      try clear hx28_1
      try clear hx28_2
      try clear hx54_0
      try clear hx54_1
      try clear hx54_2
      try clear hx55_0
      try clear hx55_1
      try clear hx55_2
      try clear p1
      try clear p10
      try clear p101
      try clear p102
      try clear p104
      try clear p105
      try clear p108
      try clear p109
      try clear p11
      try clear p111
      try clear p112
      try clear p2
      try clear p27
      try clear p28
      try clear p5
      try clear p54
      try clear p55
      try clear p6
      try clear q1
      try clear q10
      try clear q101
      try clear q102
      try clear q104
      try clear q105
      try clear q108
      try clear q109
      try clear q11
      try clear q111
      try clear q112
      try clear q2
      try clear q27
      try clear q28
      try clear q5
      try clear q54
      try clear q55
      obtain ⟨x20_2, x21_2, rfl, rfl, HA, HK2, HO_0, HK, HB⟩ := hrel
      cases gk with
      | zero => exact absurd HA.out (by simp [api_Op_120.l4])
      | succ k2 =>
       have H := HA.out
       clear HA
       simp only [api_Op_120.l4] at H
       by_cases c62 : x20_2 < x21_2
       ·as_aux_lemma =>
        rw [if_pos c62] at H
        have c62b0 : decide (x20_2 < x21_2) = true := decide_eq_true c62
        clear c62
        obtain ⟨ji63, hji63⟩ : ∃ j_ : Int, (wrap64 ((wrap64 (x19_59 - 1)) - (wrap64 ((IntKind.u64.wrap (wrap64 (x20_2 + x21_2))) / 2)))) = j_ := ⟨_, rfl⟩
        replace H : (if 0 ≤ (ji63) then (if (ji63) < (l0.length : Int) then (if 0 ≤ (wrap64 ((IntKind.u64.wrap (wrap64 (x20_2 + x21_2))) / 2)) then (if (wrap64 ((IntKind.u64.wrap (wrap64 (x20_2 + x21_2))) / 2)) < (l0.length : Int) then ((txn_byKey_1.f ((rd_T46 l0 (ji63)).f0) ((rd_T46 l0 (ji63)).f1) ((rd_T46 l0 (ji63)).f2) ((rd_T46 l0 (wrap64 ((IntKind.u64.wrap (wrap64 (x20_2 + x21_2))) / 2))).f0) ((rd_T46 l0 (wrap64 ((IntKind.u64.wrap (wrap64 (x20_2 + x21_2))) / 2))).f1) ((rd_T46 l0 (wrap64 ((IntKind.u64.wrap (wrap64 (x20_2 + x21_2))) / 2))).f2)).bind fun t117 => (if t117 < 0 then (api_Op_120.l4 k2 l0 a1 a2 a3 a4 x18_59 x19_59 x20_2 (wrap64 ((IntKind.u64.wrap (wrap64 (x20_2 + x21_2))) / 2)) (wrap64 (x19_59 - 1))) else (api_Op_120.l4 k2 l0 a1 a2 a3 a4 x18_59 x19_59 (wrap64 ((wrap64 ((IntKind.u64.wrap (wrap64 (x20_2 + x21_2))) / 2)) + 1)) x21_2 (wrap64 (x19_59 - 1))))) else (none)) else (none)) else (none)) else (none)) = some r := by first | (rw [hji63] at H; exact H) | (simp only [hji63] at H ⊢; exact H)
        have hji63w : (IntKind.i64.wrap ((wrap64 (x19_59 - 1)) - (wrap64 ((IntKind.u64.wrap (wrap64 (x20_2 + x21_2))) / 2)))) = ji63 := (i64_w _).trans hji63
        by_cases c64 : 0 ≤ (ji63)
        ·rw [if_pos c64] at H
         have c64b0 : decide (0 ≤ (ji63)) = true := decide_eq_true c64
         clear c64
         by_cases c65 : (ji63) < (l0.length : Int)
         ·rw [if_pos c65] at H
          have c65b0 : decide ((ji63) < (l0.length : Int)) = true := decide_eq_true c65
          clear c65
          obtain ⟨ji66, hji66⟩ : ∃ j_ : Int, (wrap64 ((IntKind.u64.wrap (wrap64 (x20_2 + x21_2))) / 2)) = j_ := ⟨_, rfl⟩
          replace H : (if 0 ≤ (ji66) then (if (ji66) < (l0.length : Int) then ((txn_byKey_1.f ((rd_T46 l0 (ji63)).f0) ((rd_T46 l0 (ji63)).f1) ((rd_T46 l0 (ji63)).f2) ((rd_T46 l0 (ji66)).f0) ((rd_T46 l0 (ji66)).f1) ((rd_T46 l0 (ji66)).f2)).bind fun t117 => (if t117 < 0 then (api_Op_120.l4 k2 l0 a1 a2 a3 a4 x18_59 x19_59 x20_2 ji66 (wrap64 (x19_59 - 1))) else (api_Op_120.l4 k2 l0 a1 a2 a3 a4 x18_59 x19_59 (wrap64 ((ji66) + 1)) x21_2 (wrap64 (x19_59 - 1))))) else (none)) else (none)) = some r := by first | (rw [hji66] at H; exact H) | (simp only [hji66] at H ⊢; exact H)
          have hji66w : (IntKind.i64.wrap ((IntKind.u64.wrap (wrap64 (x20_2 + x21_2))) / 2)) = ji66 := (i64_w _).trans hji66
          try rw [hji66] at hji63 hji63w
          by_cases c67 : 0 ≤ (ji66)
          ·rw [if_pos c67] at H
           have c67b0 : decide (0 ≤ (ji66)) = true := decide_eq_true c67
           clear c67
           by_cases c68 : (ji66) < (l0.length : Int)
           ·rw [if_pos c68] at H
            have c68b0 : decide ((ji66) < (l0.length : Int)) = true := decide_eq_true c68
            clear c68
            replace H := Option.bind_eq_some_iff.mp H
            obtain ⟨t117, A690, H⟩ := H
            replace H : (if t117 < 0 then (api_Op_120.l4 k2 l0 a1 a2 a3 a4 x18_59 x19_59 x20_2 ji66 (wrap64 (x19_59 - 1))) else (api_Op_120.l4 k2 l0 a1 a2 a3 a4 x18_59 x19_59 (wrap64 ((ji66) + 1)) x21_2 (wrap64 (x19_59 - 1)))) = some r := H
            have A69 := Aside0.mk A690
            clear A690
            by_cases c70 : t117 < 0
            ·as_aux_lemma =>
             rw [if_pos c70] at H
             have c70b0 : decide (t117 < 0) = true := decide_eq_true c70
             clear c70
             have H' := Aside0.mk H
             clear H
             try go_wp2
             have n0_ := Aside0.mk (Kd.R_drew HO_0.out)
             have n1_ := Aside0.mk (Kept.drew HK.out)
             have n2_ := Aside0.mk (below_drew1 HB.out)
             clear HO_0
             clear HK
             clear HB
             have HO_0 := n0_
             have HK := n1_
             have HB := n2_
             clear n0_ n1_ n2_
             obtain ⟨Ao72, co72, eo72⟩ := Kd.R_slice HO_0.out
             (first | subst eo72 | (injection eo72 with f1_ f2_ f3_; have f4_ := f1_.symm; have f5_ := f3_.symm; clear f1_ f2_ f3_; subst f4_; subst f5_))
             have p115 : 0 ≤ ((ji63) : Int) := of_decide_eq_true (by assumption)
             have q115 : (ji63) < (l0.length : Int) := of_decide_eq_true (by assumption)
             obtain ⟨ad115, e115, hx115_0, hx115_1, hx115_2⟩ := at_T46 (Kd.R_reads' HO_0.out).2.2 (ji63) p115 q115
             cases e115
             replace p115 := eq_true p115
             replace q115 := eq_true q115
             have p116 : 0 ≤ ((ji66) : Int) := of_decide_eq_true (by assumption)
             have q116 : (ji66) < (l0.length : Int) := of_decide_eq_true (by assumption)
             obtain ⟨ad116, e116, hx116_0, hx116_1, hx116_2⟩ := at_T46 (Kd.R_reads' HO_0.out).2.2 (ji66) p116 q116
             obtain rfl : ad115 = ad116 := (by injection e116)
             replace p116 := eq_true p116
             replace q116 := eq_true q116
             refine start_ (n := 14) (S := fun w' => w'.cell? (ad115.add (((ji63)).toNat * 3)) = some (.bool ((rd_T46 l0 (ji63)).f0)) ∧ w'.cell? ⟨(ad115.add (((ji63)).toNat * 3)).block, (ad115.add (((ji63)).toNat * 3)).off + 1, none⟩ = some (.int .i64 ((rd_T46 l0 (ji63)).f1)) ∧ w'.cell? ⟨(ad115.add (((ji63)).toNat * 3)).block, (ad115.add (((ji63)).toNat * 3)).off + 2, none⟩ = some (.int .i64 ((rd_T46 l0 (ji63)).f2)) ∧ w'.cell? (ad115.add (((ji66)).toNat * 3)) = some (.bool ((rd_T46 l0 (ji66)).f0)) ∧ w'.cell? ⟨(ad115.add (((ji66)).toNat * 3)).block, (ad115.add (((ji66)).toNat * 3)).off + 1, none⟩ = some (.int .i64 ((rd_T46 l0 (ji66)).f1)) ∧ w'.cell? ⟨(ad115.add (((ji66)).toNat * 3)).block, (ad115.add (((ji66)).toNat * 3)).off + 2, none⟩ = some (.int .i64 ((rd_T46 l0 (ji66)).f2))) (ds := []) #[false, false, false, false, false, false, false, false, false, false, false, false, false, false] (by kernel_rfl) rfl rfl ⟨hx115_0, hx115_1, hx115_2, hx116_0, hx116_1, hx116_2⟩ (fun hHeld => ?_); refine with_tabW api_Op_120.tab35 api_Op_120.bits35 (fun HT_ HW_ => ?_)
             generalize wr.drew = w71 at HO_0 HK HB hx115_0 hx115_1 hx115_2 hx116_0 hx116_1 hx116_2 hHeld ⊢
             refine pure_ (i := 0) (N := some 158) (v := ?_) (a' := ?_) #[true, false, false, false, false, false, false, false, false, false, false, false, false, false] rfl rfl (any_of HT_.out (by kernel_rfl)) (fun _ _ _ h => h) (Or.inl ⟨by rfl, ?_⟩) ?_ ?_
             rotate_left
             ·intro w'
              go_simp
              with_reducible rfl
             rotate_left
             ·simp only [Act.put, List.setIfInBounds_toArray, List.set_cons_zero, List.set_cons_succ, i64_w, i32_w]
              rfl
             refine pure_ (i := 1) (N := some 159) (v := ?_) (a' := ?_) #[true, true, false, false, false, false, false, false, false, false, false, false, false, false] rfl rfl (any_of HT_.out (by kernel_rfl)) (fun _ _ _ h => h) (Or.inl ⟨by rfl, ?_⟩) ?_ ?_
             rotate_left
             ·intro w'
              go_simp
              with_reducible rfl
             rotate_left
             ·simp only [Act.put, List.setIfInBounds_toArray, List.set_cons_zero, List.set_cons_succ, i64_w, i32_w]
              rfl
             refine pure_ (i := 2) (N := some 160) (v := ?_) (a' := ?_) #[true, true, true, false, false, false, false, false, false, false, false, false, false, false] rfl rfl (any_of HT_.out (by kernel_rfl)) (fun _ _ _ h => h) (Or.inl ⟨by rfl, ?_⟩) ?_ ?_
             rotate_left
             ·intro w'
              go_simp
              with_reducible rfl
             rotate_left
             ·simp only [Act.put, List.setIfInBounds_toArray, List.set_cons_zero, List.set_cons_succ, i64_w, i32_w]
              rfl
             refine pure_ (i := 3) (N := some 161) (v := ?_) (a' := ?_) #[true, true, true, true, false, false, false, false, false, false, false, false, false, false] rfl rfl (any_of HT_.out (by kernel_rfl)) (fun _ _ _ h => h) (Or.inl ⟨by rfl, ?_⟩) ?_ ?_
             rotate_left
             ·intro w'
              go_simp
              with_reducible rfl
             rotate_left
             ·simp only [Act.put, List.setIfInBounds_toArray, List.set_cons_zero, List.set_cons_succ, i64_w, i32_w]
              rfl
             refine pure_ (i := 4) (N := some 162) (v := ?_) (a' := ?_) #[true, true, true, true, true, false, false, false, false, false, false, false, false, false] rfl rfl (any_of HT_.out (by kernel_rfl)) (fun _ _ _ h => h) (Or.inl ⟨by rfl, ?_⟩) ?_ ?_
             rotate_left
             ·intro w'
              go_simp
              with_reducible rfl
             rotate_left
             ·simp only [Act.put, List.setIfInBounds_toArray, List.set_cons_zero, List.set_cons_succ, i64_w, i32_w]
              rfl
             refine pure_ (i := 5) (N := some 163) (v := ?_) (a' := ?_) #[true, true, true, true, true, true, false, false, false, false, false, false, false, false] rfl rfl (any_of HT_.out (by kernel_rfl)) (fun _ _ _ h => h) (Or.inl ⟨by rfl, ?_⟩) ?_ ?_
             rotate_left
             ·intro w'
              go_simp
              with_reducible rfl
             rotate_left
             ·simp only [Act.put, List.setIfInBounds_toArray, List.set_cons_zero, List.set_cons_succ, i64_w, i32_w]
              rfl
             refine pure_ (i := 7) (N := some 165) (v := ?_) (a' := ?_) #[true, true, true, true, true, true, false, true, false, false, false, false, false, false] rfl rfl (any_of HT_.out (by kernel_rfl)) (fun _ _ _ h => h) (Or.inl ⟨by rfl, ?_⟩) ?_ ?_
             rotate_left
             ·intro w'
              go_simp
              with_reducible rfl
             rotate_left
             ·simp only [Act.put, List.setIfInBounds_toArray, List.set_cons_zero, List.set_cons_succ, i64_w, i32_w]
              rfl
             refine pure_ (i := 8) (N := some 166) (v := ?_) (a' := ?_) #[true, true, true, true, true, true, false, true, true, false, false, false, false, false] rfl rfl (any_of HT_.out (by kernel_rfl)) (fun _ _ _ h => h) (Or.inl ⟨by rfl, ?_⟩) ?_ ?_
             rotate_left
             ·intro w'
              go_simp
              with_reducible rfl
             rotate_left
             ·simp only [Act.put, List.setIfInBounds_toArray, List.set_cons_zero, List.set_cons_succ, i64_w, i32_w]
              rfl
             refine pure_ (i := 9) (N := some 167) (v := ?_) (a' := ?_) #[true, true, true, true, true, true, false, true, true, true, false, false, false, false] rfl rfl (any_of HT_.out (by kernel_rfl)) (fun _ _ _ h => h) (Or.inl ⟨by rfl, ?_⟩) ?_ ?_
             rotate_left
             ·intro w'
              go_simp
              with_reducible rfl
             rotate_left
             ·simp only [Act.put, List.setIfInBounds_toArray, List.set_cons_zero, List.set_cons_succ, i64_w, i32_w]
              rfl
             refine take_ (i := 6) (N := some 164) (v := ?_) (a' := ?_) #[true, true, true, true, true, true, true, true, true, true, false, false, false, false] rfl rfl (take_ofW HT_.out HW_.out (by kernel_rfl)) (fun _ _ _ h => h) (Or.inl ⟨by rfl, ?_⟩) hHeld ?_ ?_
             rotate_left
             ·rintro w' ⟨s0, s1, s2, s3, s4, s5⟩
              go_simp
              with_reducible rfl
             rotate_left
             ·simp only [Act.put, List.setIfInBounds_toArray, List.set_cons_zero, List.set_cons_succ, i64_w, i32_w]
              rfl
             refine take_ (i := 10) (N := some 168) (v := ?_) (a' := ?_) #[true, true, true, true, true, true, true, true, true, true, true, false, false, false] rfl rfl (take_ofW HT_.out HW_.out (by kernel_rfl)) (fun _ _ _ h => h) (Or.inl ⟨by rfl, ?_⟩) hHeld ?_ ?_
             rotate_left
             ·rintro w' ⟨s0, s1, s2, s3, s4, s5⟩
              go_simp
              with_reducible rfl
             rotate_left
             ·simp only [Act.put, List.setIfInBounds_toArray, List.set_cons_zero, List.set_cons_succ, i64_w, i32_w]
              rfl
             refine one_ (i := 11) (N := some 169) #[true, true, true, true, true, true, true, true, true, true, true, true, false, false] rfl rfl (one_of HT_.out (by kernel_rfl)) (by decide) (fun K hK => ?_)
             refine H.goesV_ Try.func108 (by kernel_rfl) rfl #[.agg #[.bool ((rd_T46 l0 (ji63)).f0), .int .i64 ((rd_T46 l0 (ji63)).f1), .int .i64 ((rd_T46 l0 (ji63)).f2)], .agg #[.bool ((rd_T46 l0 (ji66)).f0), .int .i64 ((rd_T46 l0 (ji66)).f1), .int .i64 ((rd_T46 l0 (ji66)).f2)]] (by rfl) rfl rfl rfl (by (try simp only [List.map_toArray, List.map_cons, List.map_nil]); first | done | (simp only [hji63, hji66]; rfl) | rfl | (simp only [List.length_drop, List.length_take]; rfl)) ?_
             with_reducible refine (txn_byKey_1.calls ((rd_T46 l0 (ji63)).f0) ((rd_T46 l0 (ji63)).f1) ((rd_T46 l0 (ji63)).f2) ((rd_T46 l0 (ji66)).f0) ((rd_T46 l0 (ji66)).f1) ((rd_T46 l0 (ji66)).f2) t117 _ A69.out).mono ?_
             rintro e w73 ⟨rfl, hb⟩
             have HS0_ := (hb.cell (World.block_lt_of_cell? _ _ (hHeld.1))).trans (hHeld.1)
             have HS1_ := (hb.cell (World.block_lt_of_cell? _ _ (hHeld.2.1))).trans (hHeld.2.1)
             have HS2_ := (hb.cell (World.block_lt_of_cell? _ _ (hHeld.2.2.1))).trans (hHeld.2.2.1)
             have HS3_ := (hb.cell (World.block_lt_of_cell? _ _ (hHeld.2.2.2.1))).trans (hHeld.2.2.2.1)
             have HS4_ := (hb.cell (World.block_lt_of_cell? _ _ (hHeld.2.2.2.2.1))).trans (hHeld.2.2.2.2.1)
             have HS5_ := (hb.cell (World.block_lt_of_cell? _ _ (hHeld.2.2.2.2.2))).trans (hHeld.2.2.2.2.2)
             refine ⟨_, rfl, ?_⟩
             have n0_ := Aside0.mk (Kd.R_below (by (with_reducible repeat (first | apply Kd.R_alloc | apply Kd.R_drewN | apply Kd.R_drew)); exact HO_0.out) hb)
             have n1_ := Aside0.mk (Kept.below (S := (fun k_ => P0_ k_)) (by repeat (first | (with_reducible first | exact HK.out | apply Kept.alloc | apply Kept.drewN | apply Kept.drew) | exact HK.out)) hb)
             have n2_ := Aside0.mk (below_step (by repeat (first | (with_reducible first | exact HB.out | apply below_alloc | apply pw_below_drewN | apply below_drew1))) hb)
             clear HO_0
             clear HK
             clear HB
             have HO_0 := n0_
             have HK := n1_
             have HB := n2_
             clear n0_ n1_ n2_
             (try clear hb)
             (try clear hb2)
             (try clear hk)
             (try clear hi)
             refine hK.out _ _ ⟨HS0_, HS1_, HS2_, HS3_, HS4_, HS5_⟩ (fun hHeld => ?_)
             clear hK K
             refine norm_ (a' := ?_) ?_ ?_
             rotate_left
             ·show Act.put _ (some 169) _ = _
              simp only [Act.put, List.setIfInBounds_toArray, List.set_cons_zero, List.set_cons_succ, i64_w, i32_w]
              rfl
             refine pure_ (i := 12) (N := some 170) (v := ?_) (a' := ?_) #[true, true, true, true, true, true, true, true, true, true, true, true, true, false] rfl rfl (any_of HT_.out (by kernel_rfl)) (fun _ _ _ h => h) (Or.inl ⟨by rfl, ?_⟩) ?_ ?_
             rotate_left
             ·intro w'
              go_simp
              with_reducible rfl
             rotate_left
             ·simp only [Act.put, List.setIfInBounds_toArray, List.set_cons_zero, List.set_cons_succ, i64_w, i32_w]
              rfl
             refine pure_ (i := 13) (N := some 171) (v := ?_) (a' := ?_) #[true, true, true, true, true, true, true, true, true, true, true, true, true, true] rfl rfl (any_of HT_.out (by kernel_rfl)) (fun _ _ _ h => h) (Or.inl ⟨by rfl, ?_⟩) ?_ ?_
             rotate_left
             ·intro w'
              go_simp
              with_reducible rfl
             rotate_left
             ·simp only [Act.put, List.setIfInBounds_toArray, List.set_cons_zero, List.set_cons_succ, i64_w, i32_w]
              rfl
             refine done_ (done_of HT_.out (by kernel_rfl)) ?_
             try go_wp2
             go_roundg k2
             case measure => have := HJ59.out; have := HK2.out; omega
             case rel => exact ⟨(x20_2), (ji66), (by first | rfl | (simp; done) | (simp [*]; done)), (by first | rfl | (simp; done) | (simp only [← hji66] <;> (first | rfl | simp)) | (simp [*]; done)), H', ⟨by have := HJ59.out; have := HK2.out; omega⟩, ⟨by (with_reducible repeat (first | apply Kd.R_alloc | apply Kd.R_drewN | apply Kd.R_drew)); exact HO_0.out⟩, ⟨by repeat (first | (with_reducible first | exact HK.out | apply Kept.alloc | apply Kept.drewN | apply Kept.drew) | exact HK.out)⟩, ⟨by repeat (first | (with_reducible first | exact HB.out | apply below_alloc | apply pw_below_drewN | apply below_drew1))⟩⟩
            ·as_aux_lemma =>
             rw [if_neg c70] at H
             have c70b0 : decide (t117 < 0) = false := decide_eq_false c70
             clear c70
             have H' := Aside0.mk H
             clear H
             try go_wp2
             have n0_ := Aside0.mk (Kd.R_drew HO_0.out)
             have n1_ := Aside0.mk (Kept.drew HK.out)
             have n2_ := Aside0.mk (below_drew1 HB.out)
             clear HO_0
             clear HK
             clear HB
             have HO_0 := n0_
             have HK := n1_
             have HB := n2_
             clear n0_ n1_ n2_
             obtain ⟨Ao75, co75, eo75⟩ := Kd.R_slice HO_0.out
             (first | subst eo75 | (injection eo75 with f1_ f2_ f3_; have f4_ := f1_.symm; have f5_ := f3_.symm; clear f1_ f2_ f3_; subst f4_; subst f5_))
             have p115 : 0 ≤ ((ji63) : Int) := of_decide_eq_true (by assumption)
             have q115 : (ji63) < (l0.length : Int) := of_decide_eq_true (by assumption)
             obtain ⟨ad115, e115, hx115_0, hx115_1, hx115_2⟩ := at_T46 (Kd.R_reads' HO_0.out).2.2 (ji63) p115 q115
             cases e115
             replace p115 := eq_true p115
             replace q115 := eq_true q115
             have p116 : 0 ≤ ((ji66) : Int) := of_decide_eq_true (by assumption)
             have q116 : (ji66) < (l0.length : Int) := of_decide_eq_true (by assumption)
             obtain ⟨ad116, e116, hx116_0, hx116_1, hx116_2⟩ := at_T46 (Kd.R_reads' HO_0.out).2.2 (ji66) p116 q116
             obtain rfl : ad115 = ad116 := (by injection e116)
             replace p116 := eq_true p116
             replace q116 := eq_true q116
             refine start_ (n := 14) (S := fun w' => w'.cell? (ad115.add (((ji63)).toNat * 3)) = some (.bool ((rd_T46 l0 (ji63)).f0)) ∧ w'.cell? ⟨(ad115.add (((ji63)).toNat * 3)).block, (ad115.add (((ji63)).toNat * 3)).off + 1, none⟩ = some (.int .i64 ((rd_T46 l0 (ji63)).f1)) ∧ w'.cell? ⟨(ad115.add (((ji63)).toNat * 3)).block, (ad115.add (((ji63)).toNat * 3)).off + 2, none⟩ = some (.int .i64 ((rd_T46 l0 (ji63)).f2)) ∧ w'.cell? (ad115.add (((ji66)).toNat * 3)) = some (.bool ((rd_T46 l0 (ji66)).f0)) ∧ w'.cell? ⟨(ad115.add (((ji66)).toNat * 3)).block, (ad115.add (((ji66)).toNat * 3)).off + 1, none⟩ = some (.int .i64 ((rd_T46 l0 (ji66)).f1)) ∧ w'.cell? ⟨(ad115.add (((ji66)).toNat * 3)).block, (ad115.add (((ji66)).toNat * 3)).off + 2, none⟩ = some (.int .i64 ((rd_T46 l0 (ji66)).f2))) (ds := []) #[false, false, false, false, false, false, false, false, false, false, false, false, false, false] (by kernel_rfl) rfl rfl ⟨hx115_0, hx115_1, hx115_2, hx116_0, hx116_1, hx116_2⟩ (fun hHeld => ?_); refine with_tabW api_Op_120.tab35 api_Op_120.bits35 (fun HT_ HW_ => ?_)
             generalize wr.drew = w74 at HO_0 HK HB hx115_0 hx115_1 hx115_2 hx116_0 hx116_1 hx116_2 hHeld ⊢
             refine pure_ (i := 0) (N := some 158) (v := ?_) (a' := ?_) #[true, false, false, false, false, false, false, false, false, false, false, false, false, false] rfl rfl (any_of HT_.out (by kernel_rfl)) (fun _ _ _ h => h) (Or.inl ⟨by rfl, ?_⟩) ?_ ?_
             rotate_left
             ·intro w'
              go_simp
              with_reducible rfl
             rotate_left
             ·simp only [Act.put, List.setIfInBounds_toArray, List.set_cons_zero, List.set_cons_succ, i64_w, i32_w]
              rfl
             refine pure_ (i := 1) (N := some 159) (v := ?_) (a' := ?_) #[true, true, false, false, false, false, false, false, false, false, false, false, false, false] rfl rfl (any_of HT_.out (by kernel_rfl)) (fun _ _ _ h => h) (Or.inl ⟨by rfl, ?_⟩) ?_ ?_
             rotate_left
             ·intro w'
              go_simp
              with_reducible rfl
             rotate_left
             ·simp only [Act.put, List.setIfInBounds_toArray, List.set_cons_zero, List.set_cons_succ, i64_w, i32_w]
              rfl
             refine pure_ (i := 2) (N := some 160) (v := ?_) (a' := ?_) #[true, true, true, false, false, false, false, false, false, false, false, false, false, false] rfl rfl (any_of HT_.out (by kernel_rfl)) (fun _ _ _ h => h) (Or.inl ⟨by rfl, ?_⟩) ?_ ?_
             rotate_left
             ·intro w'
              go_simp
              with_reducible rfl
             rotate_left
             ·simp only [Act.put, List.setIfInBounds_toArray, List.set_cons_zero, List.set_cons_succ, i64_w, i32_w]
              rfl
             refine pure_ (i := 3) (N := some 161) (v := ?_) (a' := ?_) #[true, true, true, true, false, false, false, false, false, false, false, false, false, false] rfl rfl (any_of HT_.out (by kernel_rfl)) (fun _ _ _ h => h) (Or.inl ⟨by rfl, ?_⟩) ?_ ?_
             rotate_left
             ·intro w'
              go_simp
              with_reducible rfl
             rotate_left
             ·simp only [Act.put, List.setIfInBounds_toArray, List.set_cons_zero, List.set_cons_succ, i64_w, i32_w]
              rfl
             refine pure_ (i := 4) (N := some 162) (v := ?_) (a' := ?_) #[true, true, true, true, true, false, false, false, false, false, false, false, false, false] rfl rfl (any_of HT_.out (by kernel_rfl)) (fun _ _ _ h => h) (Or.inl ⟨by rfl, ?_⟩) ?_ ?_
             rotate_left
             ·intro w'
              go_simp
              with_reducible rfl
             rotate_left
             ·simp only [Act.put, List.setIfInBounds_toArray, List.set_cons_zero, List.set_cons_succ, i64_w, i32_w]
              rfl
             refine pure_ (i := 5) (N := some 163) (v := ?_) (a' := ?_) #[true, true, true, true, true, true, false, false, false, false, false, false, false, false] rfl rfl (any_of HT_.out (by kernel_rfl)) (fun _ _ _ h => h) (Or.inl ⟨by rfl, ?_⟩) ?_ ?_
             rotate_left
             ·intro w'
              go_simp
              with_reducible rfl
             rotate_left
             ·simp only [Act.put, List.setIfInBounds_toArray, List.set_cons_zero, List.set_cons_succ, i64_w, i32_w]
              rfl
             refine pure_ (i := 7) (N := some 165) (v := ?_) (a' := ?_) #[true, true, true, true, true, true, false, true, false, false, false, false, false, false] rfl rfl (any_of HT_.out (by kernel_rfl)) (fun _ _ _ h => h) (Or.inl ⟨by rfl, ?_⟩) ?_ ?_
             rotate_left
             ·intro w'
              go_simp
              with_reducible rfl
             rotate_left
             ·simp only [Act.put, List.setIfInBounds_toArray, List.set_cons_zero, List.set_cons_succ, i64_w, i32_w]
              rfl
             refine pure_ (i := 8) (N := some 166) (v := ?_) (a' := ?_) #[true, true, true, true, true, true, false, true, true, false, false, false, false, false] rfl rfl (any_of HT_.out (by kernel_rfl)) (fun _ _ _ h => h) (Or.inl ⟨by rfl, ?_⟩) ?_ ?_
             rotate_left
             ·intro w'
              go_simp
              with_reducible rfl
             rotate_left
             ·simp only [Act.put, List.setIfInBounds_toArray, List.set_cons_zero, List.set_cons_succ, i64_w, i32_w]
              rfl
             refine pure_ (i := 9) (N := some 167) (v := ?_) (a' := ?_) #[true, true, true, true, true, true, false, true, true, true, false, false, false, false] rfl rfl (any_of HT_.out (by kernel_rfl)) (fun _ _ _ h => h) (Or.inl ⟨by rfl, ?_⟩) ?_ ?_
             rotate_left
             ·intro w'
              go_simp
              with_reducible rfl
             rotate_left
             ·simp only [Act.put, List.setIfInBounds_toArray, List.set_cons_zero, List.set_cons_succ, i64_w, i32_w]
              rfl
             refine take_ (i := 6) (N := some 164) (v := ?_) (a' := ?_) #[true, true, true, true, true, true, true, true, true, true, false, false, false, false] rfl rfl (take_ofW HT_.out HW_.out (by kernel_rfl)) (fun _ _ _ h => h) (Or.inl ⟨by rfl, ?_⟩) hHeld ?_ ?_
             rotate_left
             ·rintro w' ⟨s0, s1, s2, s3, s4, s5⟩
              go_simp
              with_reducible rfl
             rotate_left
             ·simp only [Act.put, List.setIfInBounds_toArray, List.set_cons_zero, List.set_cons_succ, i64_w, i32_w]
              rfl
             refine take_ (i := 10) (N := some 168) (v := ?_) (a' := ?_) #[true, true, true, true, true, true, true, true, true, true, true, false, false, false] rfl rfl (take_ofW HT_.out HW_.out (by kernel_rfl)) (fun _ _ _ h => h) (Or.inl ⟨by rfl, ?_⟩) hHeld ?_ ?_
             rotate_left
             ·rintro w' ⟨s0, s1, s2, s3, s4, s5⟩
              go_simp
              with_reducible rfl
             rotate_left
             ·simp only [Act.put, List.setIfInBounds_toArray, List.set_cons_zero, List.set_cons_succ, i64_w, i32_w]
              rfl
             refine one_ (i := 11) (N := some 169) #[true, true, true, true, true, true, true, true, true, true, true, true, false, false] rfl rfl (one_of HT_.out (by kernel_rfl)) (by decide) (fun K hK => ?_)
             refine H.goesV_ Try.func108 (by kernel_rfl) rfl #[.agg #[.bool ((rd_T46 l0 (ji63)).f0), .int .i64 ((rd_T46 l0 (ji63)).f1), .int .i64 ((rd_T46 l0 (ji63)).f2)], .agg #[.bool ((rd_T46 l0 (ji66)).f0), .int .i64 ((rd_T46 l0 (ji66)).f1), .int .i64 ((rd_T46 l0 (ji66)).f2)]] (by rfl) rfl rfl rfl (by (try simp only [List.map_toArray, List.map_cons, List.map_nil]); first | done | (simp only [hji63, hji66]; rfl) | rfl | (simp only [List.length_drop, List.length_take]; rfl)) ?_
             with_reducible refine (txn_byKey_1.calls ((rd_T46 l0 (ji63)).f0) ((rd_T46 l0 (ji63)).f1) ((rd_T46 l0 (ji63)).f2) ((rd_T46 l0 (ji66)).f0) ((rd_T46 l0 (ji66)).f1) ((rd_T46 l0 (ji66)).f2) t117 _ A69.out).mono ?_
             rintro e w76 ⟨rfl, hb⟩
             have HS0_ := (hb.cell (World.block_lt_of_cell? _ _ (hHeld.1))).trans (hHeld.1)
             have HS1_ := (hb.cell (World.block_lt_of_cell? _ _ (hHeld.2.1))).trans (hHeld.2.1)
             have HS2_ := (hb.cell (World.block_lt_of_cell? _ _ (hHeld.2.2.1))).trans (hHeld.2.2.1)
             have HS3_ := (hb.cell (World.block_lt_of_cell? _ _ (hHeld.2.2.2.1))).trans (hHeld.2.2.2.1)
             have HS4_ := (hb.cell (World.block_lt_of_cell? _ _ (hHeld.2.2.2.2.1))).trans (hHeld.2.2.2.2.1)
             have HS5_ := (hb.cell (World.block_lt_of_cell? _ _ (hHeld.2.2.2.2.2))).trans (hHeld.2.2.2.2.2)
             refine ⟨_, rfl, ?_⟩
             have n0_ := Aside0.mk (Kd.R_below (by (with_reducible repeat (first | apply Kd.R_alloc | apply Kd.R_drewN | apply Kd.R_drew)); exact HO_0.out) hb)
             have n1_ := Aside0.mk (Kept.below (S := (fun k_ => P0_ k_)) (by repeat (first | (with_reducible first | exact HK.out | apply Kept.alloc | apply Kept.drewN | apply Kept.drew) | exact HK.out)) hb)
             have n2_ := Aside0.mk (below_step (by repeat (first | (with_reducible first | exact HB.out | apply below_alloc | apply pw_below_drewN | apply below_drew1))) hb)
             clear HO_0
             clear HK
             clear HB
             have HO_0 := n0_
             have HK := n1_
             have HB := n2_
             clear n0_ n1_ n2_
             (try clear hb)
             (try clear hb2)
             (try clear hk)
             (try clear hi)
             refine hK.out _ _ ⟨HS0_, HS1_, HS2_, HS3_, HS4_, HS5_⟩ (fun hHeld => ?_)
             clear hK K
             refine norm_ (a' := ?_) ?_ ?_
             rotate_left
             ·show Act.put _ (some 169) _ = _
              simp only [Act.put, List.setIfInBounds_toArray, List.set_cons_zero, List.set_cons_succ, i64_w, i32_w]
              rfl
             refine pure_ (i := 12) (N := some 170) (v := ?_) (a' := ?_) #[true, true, true, true, true, true, true, true, true, true, true, true, true, false] rfl rfl (any_of HT_.out (by kernel_rfl)) (fun _ _ _ h => h) (Or.inl ⟨by rfl, ?_⟩) ?_ ?_
             rotate_left
             ·intro w'
              go_simp
              with_reducible rfl
             rotate_left
             ·simp only [Act.put, List.setIfInBounds_toArray, List.set_cons_zero, List.set_cons_succ, i64_w, i32_w]
              rfl
             refine pure_ (i := 13) (N := some 171) (v := ?_) (a' := ?_) #[true, true, true, true, true, true, true, true, true, true, true, true, true, true] rfl rfl (any_of HT_.out (by kernel_rfl)) (fun _ _ _ h => h) (Or.inl ⟨by rfl, ?_⟩) ?_ ?_
             rotate_left
             ·intro w'
              go_simp
              with_reducible rfl
             rotate_left
             ·simp only [Act.put, List.setIfInBounds_toArray, List.set_cons_zero, List.set_cons_succ, i64_w, i32_w]
              rfl
             refine done_ (done_of HT_.out (by kernel_rfl)) ?_
             try go_wp2
             go_roundg k2
             case measure => have := HJ59.out; have := HK2.out; omega
             case rel => exact ⟨(wrap64 ((ji66) + 1)), (x21_2), (by first | rfl | (simp; done) | (simp only [← hji66] <;> (first | rfl | simp)) | (simp [*]; done)), (by first | rfl | (simp; done) | (simp [*]; done)), H', ⟨by have := HJ59.out; have := HK2.out; omega⟩, ⟨by (with_reducible repeat (first | apply Kd.R_alloc | apply Kd.R_drewN | apply Kd.R_drew)); exact HO_0.out⟩, ⟨by repeat (first | (with_reducible first | exact HK.out | apply Kept.alloc | apply Kept.drewN | apply Kept.drew) | exact HK.out)⟩, ⟨by repeat (first | (with_reducible first | exact HB.out | apply below_alloc | apply pw_below_drewN | apply below_drew1))⟩⟩
           ·rw [if_neg c68] at H
            exact absurd H (by simp)
          ·rw [if_neg c67] at H
           exact absurd H (by simp)
         ·rw [if_neg c65] at H
          exact absurd H (by simp)
        ·rw [if_neg c64] at H
         exact absurd H (by simp)
       ·as_aux_lemma =>
        rw [if_neg c62] at H
        have c62b0 : decide (x20_2 < x21_2) = false := decide_eq_false c62
        clear c62
        have HC77 := Aside0.mk H
        clear H
        go_upto_region 39 with (fail)
        go_cut [185] (fun v185 wc => ∃ (kq : Nat) (x185_76 : Bool), v185 = .bool x185_76 ∧ Aside0 (api_Op_120.j6 kq l0 a1 a2 a3 a4 x18_59 x20_2 (wrap64 (x19_59 - x20_2)) x185_76 = some r) ∧ Aside0 (kq ≤ k2) ∧ Aside0 (Kd.R k46 46 wc w0.heap.size (fun k_ => (P0_ k_ ∨ w.heap.size ≤ k_)) u9000_ l0) ∧ Aside0 (Kept w wc (fun k_ => P0_ k_)) ∧ Aside0 (Below w0.heap.size w0 wc))
        case first => as_aux_lemma =>
         have H := HC77.out
         clear HC77
         by_cases c78 : x20_2 < a2
         ·rw [if_pos c78] at H
          have c78b0 : decide (x20_2 < a2) = true := decide_eq_true c78
          clear c78
          (first | rw [c78b0] | (simp only [i64_w, i32_w]; rw [c78b0]) | skip)
          have H' := Aside0.mk H
          clear H
          go_wp2
          go_meet
          case rel => exact ⟨_, (decide (a2 < (wrap64 (x19_59 - x20_2)))), (by first | rfl | (simp; done) | (simp [*]; done)), H', ⟨by have := HJ59.out; have := HK2.out; first | omega | exact Nat.le_refl _⟩, ⟨by (with_reducible repeat (first | apply Kd.R_alloc | apply Kd.R_drewN | apply Kd.R_drew)); exact HO_0.out⟩, ⟨by repeat (first | (with_reducible first | exact HK.out | apply Kept.alloc | apply Kept.drewN | apply Kept.drew) | exact HK.out)⟩, ⟨by repeat (first | (with_reducible first | exact HB.out | apply below_alloc | apply pw_below_drewN | apply below_drew1))⟩⟩
         ·rw [if_neg c78] at H
          have c78b0 : decide (x20_2 < a2) = false := decide_eq_false c78
          clear c78
          (first | rw [c78b0] | (simp only [i64_w, i32_w]; rw [c78b0]) | skip)
          have H' := Aside0.mk H
          clear H
          go_wp2
          go_meet
          case rel => exact ⟨_, (false), (by first | rfl | (simp; done) | (simp [*]; done)), H', ⟨by have := HJ59.out; have := HK2.out; first | omega | exact Nat.le_refl _⟩, ⟨by (with_reducible repeat (first | apply Kd.R_alloc | apply Kd.R_drewN | apply Kd.R_drew)); exact HO_0.out⟩, ⟨by repeat (first | (with_reducible first | exact HK.out | apply Kept.alloc | apply Kept.drewN | apply Kept.drew) | exact HK.out)⟩, ⟨by repeat (first | (with_reducible first | exact HB.out | apply below_alloc | apply pw_below_drewN | apply below_drew1))⟩⟩
        case rest => as_aux_lemma =>
         clear HC77
         try clear c1
         try clear p1
         try clear q1
         try clear hx1
         try clear c2
         try clear p2
         try clear q2
         try clear hx2
         try clear c3
         try clear c4
         try clear c5
         try clear p5
         try clear q5
         try clear hx5
         try clear hf5
         try clear c6
         try clear c6b0
         try clear c6b1
         try clear p6
         try clear c7
         try clear c7b0
         try clear c9
         try clear c9b0
         try clear c10
         try clear c10b0
         try clear p10
         try clear q10
         try clear hx10
         try clear c11
         try clear c11b0
         try clear p11
         try clear q11
         try clear hx11
         try clear c12
         try clear c12b0
         try clear c14
         try clear c14b0
         try clear c21
         try clear c21b0
         try clear c23
         try clear c23b0
         try clear c24
         try clear c24b0
         try clear c25
         try clear c25b0
         try clear c26
         try clear c26b0
         try clear c27
         try clear p27
         try clear q27
         try clear hx27
         try clear hf27
         try clear c28
         try clear p28
         try clear q28
         try clear hx28
         try clear hf28
         try clear c31
         try clear c32
         try clear c33
         try clear c33b0
         try clear c33b1
         try clear c34
         try clear c34b0
         try clear c35
         try clear c35b0
         try clear c36
         try clear c36b0
         try clear c38
         try clear c38b0
         try clear c39
         try clear c39b0
         try clear c41
         try clear c41b0
         try clear c48
         try clear c48b0
         try clear c50
         try clear c50b0
         try clear c51
         try clear c51b0
         try clear c52
         try clear c52b0
         try clear c53
         try clear c53b0
         try clear c54
         try clear p54
         try clear q54
         try clear hx54
         try clear hf54
         try clear c55
         try clear p55
         try clear q55
         try clear hx55
         try clear hf55
         try clear c58
         try clear c59
         try clear c61
         try clear c61b0
         try clear c62
         try clear c62b0
         try clear c64
         try clear c64b0
         try clear p64
         try clear c65
         try clear c65b0
         try clear c67
         try clear c67b0
         try clear c68
         try clear c68b0
         try clear c70
         try clear c70b0
         try clear c78
         try clear c78b0
         try clear hx101_0
         try clear hx101_1
         try clear hx101_2
         try clear hx102_0
         try clear hx102_1
         try clear hx102_2
         try clear hx104_0
         try clear hx104_1
         try clear hx104_2
         try clear hx105_0
         try clear hx105_1
         try clear hx105_2
         try clear hx108_0
         try clear hx108_1
         try clear hx108_2
         try clear hx109_0
         try clear hx109_1
         try clear hx109_2
         try clear hx111_0
         try clear hx111_1
         try clear hx111_2
         try clear hx112_0
         try clear hx112_1
         try clear hx112_2
         try clear hx115_0
         try clear hx115_1
         try clear hx115_2
         try clear hx116_0
         try clear hx116_1
         try clear hx116_2
         try clear hx27_0
         try clear hx27_1
         try clear hx27_2
         try clear hx28_0
         try clear hx28_1
         try clear hx28_2
         try clear hx54_0
         try clear hx54_1
         try clear hx54_2
         try clear hx55_0
         try clear hx55_1
         try clear hx55_2
         try clear p1
         try clear p10
         try clear p101
         try clear p102
         try clear p104
         try clear p105
         try clear p108
         try clear p109
         try clear p11
         try clear p111
         try clear p112
         try clear p115
         try clear p116
         try clear p2
         try clear p27
         try clear p28
         try clear p5
         try clear p54
         try clear p55
         try clear p6
         try clear q1
         try clear q10
         try clear q101
         try clear q102
         try clear q104
         try clear q105
         try clear q108
         try clear q109
         try clear q11
         try clear q111
         try clear q112
         try clear q115
         try clear q116
         try clear q2
         try clear q27
         try clear q28
         try clear q5
         try clear q54
         try clear q55
         obtain ⟨kq, x185_76, rfl, HA, HJ76, HO_0, HK, HB⟩ := hcut
         cases kq with
         | zero => exact absurd HA.out (by simp [api_Op_120.j6])
         | succ kj76 =>
          have H := HA.out
          clear HA
          simp only [api_Op_120.j6] at H
          have HC79 := Aside0.mk H
          clear H
          go_upto_if 185 with (fail)
          go_cut [] (fun wc => ∃ (kq : Nat) (x0_78 : List (S46)), Aside0 (api_Op_120.j7 kq x0_78 a1 a3 a4 x18_59 x20_2 (wrap64 (x19_59 - x20_2)) = some r) ∧ Aside0 (kq ≤ kj76) ∧ Aside0 (Kd.R k46 46 wc w0.heap.size (fun k_ => (P0_ k_ ∨ w.heap.size ≤ k_)) u9000_ x0_78) ∧ Aside0 (Kept w wc (fun k_ => P0_ k_)) ∧ Aside0 (Below w0.heap.size w0 wc))
          case first => as_aux_lemma =>
           have H := HC79.out
           clear HC79
           by_cases c80 : x185_76 = true
           ·subst c80
            have H1 : ((api_Op_121.f kj76 l0 x20_2 a2 (wrap64 (x19_59 - x20_2)) a4).bind fun t118 => (api_Op_120.j7 kj76 t118 a1 a3 a4 x18_59 x20_2 (wrap64 (x19_59 - x20_2)))) = some r := by rw [if_pos rfl] at H; exact H
            clear H
            have H := H1
            clear H1
            replace H := Option.bind_eq_some_iff.mp H
            obtain ⟨t118, A810, H⟩ := H
            replace H : (api_Op_120.j7 kj76 t118 a1 a3 a4 x18_59 x20_2 (wrap64 (x19_59 - x20_2))) = some r := H
            have A81 := Aside0.mk A810
            clear A810
            have H' := Aside0.mk H
            clear H
            obtain ⟨Ao82, co82, eo82⟩ := Kd.R_slice HO_0.out
            subst eo82
            go_wp2_with (first | ((with_reducible refine gate_callee (f := 121) rfl ?_); refine goesL_ (some 191) rfl rfl Try.func121 (by kernel_rfl) rfl #[.slice Ao82 l0.length co82, .int .i64 x20_2, .int .i64 a2, .int .i64 (wrap64 (x19_59 - x20_2)), .func (.func 108) #[] #[]] rfl (by (try simp only [List.map_toArray, List.map_cons, List.map_nil]); first | done | rfl | (simp only [List.length_drop, List.length_take]; rfl)) ?_; (with_reducible refine (api_Op_121.calls kj76 (fun k_ => some k_ = (.slice Ao82 l0.length co82 : Value).ownBlock) (.slice Ao82 l0.length co82) l0 x20_2 a2 (wrap64 (x19_59 - x20_2)) a4 t118 w0 _ ?side1 ?side2 A81.out).mono ?_); (case side1 => repeat (first | (with_reducible first | exact HB.out | apply below_alloc | apply pw_below_drewN | apply below_drew1))); (case side2 => exact Kd.R_tight rfl HO_0.out); rintro e w83 ⟨rfl, hy0, hb, hkp⟩; refine ⟨_, rfl, ?_⟩; have n0_ := Aside0.mk (Kd.R_reok rfl hy0 (fun k_ e_ => HO_0.out.1 k_ e_)); have n1_ := Aside0.mk (Kept.then_ (S := (fun k_ => P0_ k_)) (by repeat (first | (with_reducible first | exact HK.out | apply Kept.alloc | apply Kept.drewN | apply Kept.drew) | exact HK.out)) hkp (fun k_ hs_ => (fun e_ => (HO_0.out.1 k_ e_.symm)) hs_)); have n2_ := Aside0.mk (hb); clear HO_0; clear HK; clear HB; have HO_0 := n0_; have HK := n1_; have HB := n2_; clear n0_ n1_ n2_; (try clear hb); (try clear hkp); (try clear hy0)))
            go_meet
            case rel => exact ⟨_, (t118), H', ⟨by have := HJ59.out; have := HK2.out; have := HJ76.out; first | omega | exact Nat.le_refl _⟩, ⟨by (with_reducible repeat (first | apply Kd.R_alloc | apply Kd.R_drewN | apply Kd.R_drew)); exact HO_0.out⟩, ⟨by repeat (first | (with_reducible first | exact HK.out | apply Kept.alloc | apply Kept.drewN | apply Kept.drew) | exact HK.out)⟩, ⟨by repeat (first | (with_reducible first | exact HB.out | apply below_alloc | apply pw_below_drewN | apply below_drew1))⟩⟩
           ·replace c80 := Bool.eq_false_iff.mpr c80
            subst c80
            have H1 : (api_Op_120.j7 kj76 l0 a1 a3 a4 x18_59 x20_2 (wrap64 (x19_59 - x20_2))) = some r := by rw [if_neg (show ¬ (false = true) by decide)] at H; exact H
            clear H
            have H := H1
            clear H1
            have H' := Aside0.mk H
            clear H
            go_wp2
            go_meet
            case rel => exact ⟨_, (l0), H', ⟨by have := HJ59.out; have := HK2.out; have := HJ76.out; first | omega | exact Nat.le_refl _⟩, ⟨by (with_reducible repeat (first | apply Kd.R_alloc | apply Kd.R_drewN | apply Kd.R_drew)); exact HO_0.out⟩, ⟨by repeat (first | (with_reducible first | exact HK.out | apply Kept.alloc | apply Kept.drewN | apply Kept.drew) | exact HK.out)⟩, ⟨by repeat (first | (with_reducible first | exact HB.out | apply below_alloc | apply pw_below_drewN | apply below_drew1))⟩⟩
          case rest => as_aux_lemma =>
           clear HC79
           try clear c1
           try clear p1
           try clear q1
           try clear hx1
           try clear c2
           try clear p2
           try clear q2
           try clear hx2
           try clear c3
           try clear c4
           try clear c5
           try clear p5
           try clear q5
           try clear hx5
           try clear hf5
           try clear c6
           try clear c6b0
           try clear c6b1
           try clear p6
           try clear c7
           try clear c7b0
           try clear c8
           try clear c9
           try clear c9b0
           try clear c10
           try clear c10b0
           try clear p10
           try clear q10
           try clear hx10
           try clear c11
           try clear c11b0
           try clear p11
           try clear q11
           try clear hx11
           try clear c12
           try clear c12b0
           try clear c14
           try clear c14b0
           try clear c21
           try clear c21b0
           try clear c23
           try clear c23b0
           try clear c24
           try clear c24b0
           try clear c25
           try clear c25b0
           try clear c26
           try clear c26b0
           try clear c27
           try clear p27
           try clear q27
           try clear hx27
           try clear hf27
           try clear c28
           try clear p28
           try clear q28
           try clear hx28
           try clear hf28
           try clear c31
           try clear c32
           try clear c33
           try clear c33b0
           try clear c33b1
           try clear c34
           try clear c34b0
           try clear c35
           try clear c35b0
           try clear c36
           try clear c36b0
           try clear c38
           try clear c38b0
           try clear c39
           try clear c39b0
           try clear c41
           try clear c41b0
           try clear c48
           try clear c48b0
           try clear c50
           try clear c50b0
           try clear c51
           try clear c51b0
           try clear c52
           try clear c52b0
           try clear c53
           try clear c53b0
           try clear c54
           try clear p54
           try clear q54
           try clear hx54
           try clear hf54
           try clear c55
           try clear p55
           try clear q55
           try clear hx55
           try clear hf55
           try clear c58
           try clear c59
           try clear c61
           try clear c61b0
           try clear c62
           try clear c62b0
           try clear c64
           try clear c64b0
           try clear p64
           try clear c65
           try clear c65b0
           try clear c67
           try clear c67b0
           try clear c68
           try clear c68b0
           try clear c70
           try clear c70b0
           try clear c78
           try clear c78b0
           try clear c80
           try clear hx101_0
           try clear hx101_1
           try clear hx101_2
           try clear hx102_0
           try clear hx102_1
           try clear hx102_2
           try clear hx104_0
           try clear hx104_1
           try clear hx104_2
           try clear hx105_0
           try clear hx105_1
           try clear hx105_2
           try clear hx108_0
           try clear hx108_1
           try clear hx108_2
           try clear hx109_0
           try clear hx109_1
           try clear hx109_2
           try clear hx111_0
           try clear hx111_1
           try clear hx111_2
           try clear hx112_0
           try clear hx112_1
           try clear hx112_2
           try clear hx115_0
           try clear hx115_1
           try clear hx115_2
           try clear hx116_0
           try clear hx116_1
           try clear hx116_2
           try clear hx27_0
           try clear hx27_1
           try clear hx27_2
           try clear hx28_0
           try clear hx28_1
           try clear hx28_2
           try clear hx54_0
           try clear hx54_1
           try clear hx54_2
           try clear hx55_0
           try clear hx55_1
           try clear hx55_2
           try clear p1
           try clear p10
           try clear p101
           try clear p102
           try clear p104
           try clear p105
           try clear p108
           try clear p109
           try clear p11
           try clear p111
           try clear p112
           try clear p115
           try clear p116
           try clear p2
           try clear p27
           try clear p28
           try clear p5
           try clear p54
           try clear p55
           try clear p6
           try clear p64
           try clear q1
           try clear q10
           try clear q101
           try clear q102
           try clear q104
           try clear q105
           try clear q108
           try clear q109
           try clear q11
           try clear q111
           try clear q112
           try clear q115
           try clear q116
           try clear q2
           try clear q27
           try clear q28
           try clear q5
           try clear q54
           try clear q55
           obtain ⟨kq, x0_78, HA, HJ78, HO_0, HK, HB⟩ := hcut
           cases kq with
           | zero => exact absurd HA.out (by simp [api_Op_120.j7])
           | succ kj78 =>
            have H := HA.out
            clear HA
            simp only [api_Op_120.j7] at H
            have HC84 := Aside0.mk H
            clear H
            go_upto_region 41 with (fail)
            go_cut [199] (fun v199 wc => ∃ (kq : Nat) (x199_83 : Bool), v199 = .bool x199_83 ∧ Aside0 (api_Op_120.j8 kq x0_78 a1 a3 a4 x18_59 x20_2 (wrap64 (x19_59 - x20_2)) x199_83 = some r) ∧ Aside0 (kq ≤ kj78) ∧ Aside0 (Kd.R k46 46 wc w0.heap.size (fun k_ => (P0_ k_ ∨ w.heap.size ≤ k_)) u9000_ x0_78) ∧ Aside0 (Kept w wc (fun k_ => P0_ k_)) ∧ Aside0 (Below w0.heap.size w0 wc))
            case first => as_aux_lemma =>
             have H := HC84.out
             clear HC84
             by_cases c85 : a1 < x20_2
             ·rw [if_pos c85] at H
              have c85b0 : decide (a1 < x20_2) = true := decide_eq_true c85
              clear c85
              (first | rw [c85b0] | (simp only [i64_w, i32_w]; rw [c85b0]) | skip)
              have H' := Aside0.mk H
              clear H
              go_wp2
              go_meet
              case rel => exact ⟨_, (decide (x20_2 < x18_59)), (by first | rfl | (simp; done) | (simp [*]; done)), H', ⟨by have := HJ59.out; have := HK2.out; have := HJ76.out; have := HJ78.out; first | omega | exact Nat.le_refl _⟩, ⟨by (with_reducible repeat (first | apply Kd.R_alloc | apply Kd.R_drewN | apply Kd.R_drew)); exact HO_0.out⟩, ⟨by repeat (first | (with_reducible first | exact HK.out | apply Kept.alloc | apply Kept.drewN | apply Kept.drew) | exact HK.out)⟩, ⟨by repeat (first | (with_reducible first | exact HB.out | apply below_alloc | apply pw_below_drewN | apply below_drew1))⟩⟩
             ·rw [if_neg c85] at H
              have c85b0 : decide (a1 < x20_2) = false := decide_eq_false c85
              clear c85
              (first | rw [c85b0] | (simp only [i64_w, i32_w]; rw [c85b0]) | skip)
              have H' := Aside0.mk H
              clear H
              go_wp2
              go_meet
              case rel => exact ⟨_, (false), (by first | rfl | (simp; done) | (simp [*]; done)), H', ⟨by have := HJ59.out; have := HK2.out; have := HJ76.out; have := HJ78.out; first | omega | exact Nat.le_refl _⟩, ⟨by (with_reducible repeat (first | apply Kd.R_alloc | apply Kd.R_drewN | apply Kd.R_drew)); exact HO_0.out⟩, ⟨by repeat (first | (with_reducible first | exact HK.out | apply Kept.alloc | apply Kept.drewN | apply Kept.drew) | exact HK.out)⟩, ⟨by repeat (first | (with_reducible first | exact HB.out | apply below_alloc | apply pw_below_drewN | apply below_drew1))⟩⟩
            case rest => as_aux_lemma =>
             clear HC84
             try clear c1
             try clear p1
             try clear q1
             try clear hx1
             try clear c2
             try clear p2
             try clear q2
             try clear hx2
             try clear c3
             try clear c4
             try clear c5
             try clear p5
             try clear q5
             try clear hx5
             try clear hf5
             try clear c6
             try clear c6b0
             try clear c6b1
             try clear p6
             try clear c7
             try clear c7b0
             try clear c8
             try clear c9
             try clear c9b0
             try clear c10
             try clear c10b0
             try clear p10
             try clear q10
             try clear hx10
             try clear c11
             try clear c11b0
             try clear p11
             try clear q11
             try clear hx11
             try clear c12
             try clear c12b0
             try clear c14
             try clear c14b0
             try clear c21
             try clear c21b0
             try clear c23
             try clear c23b0
             try clear c24
             try clear c24b0
             try clear c25
             try clear c25b0
             try clear c26
             try clear c26b0
             try clear c27
             try clear p27
             try clear q27
             try clear hx27
             try clear hf27
             try clear c28
             try clear p28
             try clear q28
             try clear hx28
             try clear hf28
             try clear c31
             try clear c32
             try clear c33
             try clear c33b0
             try clear c33b1
             try clear c34
             try clear c34b0
             try clear c35
             try clear c35b0
             try clear c36
             try clear c36b0
             try clear c38
             try clear c38b0
             try clear c39
             try clear c39b0
             try clear c41
             try clear c41b0
             try clear c48
             try clear c48b0
             try clear c50
             try clear c50b0
             try clear c51
             try clear c51b0
             try clear c52
             try clear c52b0
             try clear c53
             try clear c53b0
             try clear c54
             try clear p54
             try clear q54
             try clear hx54
             try clear hf54
             try clear c55
             try clear p55
             try clear q55
             try clear hx55
             try clear hf55
             try clear c58
             try clear c59
             try clear c61
             try clear c61b0
             try clear c62
             try clear c62b0
             try clear c64
             try clear c64b0
             try clear p64
             try clear c65
             try clear c65b0
             try clear c67
             try clear c67b0
             try clear c68
             try clear c68b0
             try clear c70
             try clear c70b0
             try clear c78
             try clear c78b0
             try clear c80
             try clear c85
             try clear c85b0
             try clear hx101_0
             try clear hx101_1
             try clear hx101_2
             try clear hx102_0
             try clear hx102_1
             try clear hx102_2
             try clear hx104_0
             try clear hx104_1
             try clear hx104_2
             try clear hx105_0
             try clear hx105_1
             try clear hx105_2
             try clear hx108_0
             try clear hx108_1
             try clear hx108_2
             try clear hx109_0
             try clear hx109_1
             try clear hx109_2
             try clear hx111_0
             try clear hx111_1
             try clear hx111_2
             try clear hx112_0
             try clear hx112_1
             try clear hx112_2
             try clear hx115_0
             try clear hx115_1
             try clear hx115_2
             try clear hx116_0
             try clear hx116_1
             try clear hx116_2
             try clear hx27_0
             try clear hx27_1
             try clear hx27_2
             try clear hx28_0
             try clear hx28_1
             try clear hx28_2
             try clear hx54_0
             try clear hx54_1
             try clear hx54_2
             try clear hx55_0
             try clear hx55_1
             try clear hx55_2
             try clear p1
             try clear p10
             try clear p101
             try clear p102
             try clear p104
             try clear p105
             try clear p108
             try clear p109
             try clear p11
             try clear p111
             try clear p112
             try clear p115
             try clear p116
             try clear p2
             try clear p27
             try clear p28
             try clear p5
             try clear p54
             try clear p55
             try clear p6
             try clear p64
             try clear q1
             try clear q10
             try clear q101
             try clear q102
             try clear q104
             try clear q105
             try clear q108
             try clear q109
             try clear q11
             try clear q111
             try clear q112
             try clear q115
             try clear q116
             try clear q2
             try clear q27
             try clear q28
             try clear q5
             try clear q54
             try clear q55
             obtain ⟨kq, x199_83, rfl, HA, HJ83, HO_0, HK, HB⟩ := hcut
             cases kq with
             | zero => exact absurd HA.out (by simp [api_Op_120.j8])
             | succ kj83 =>
              have H := HA.out
              clear HA
              simp only [api_Op_120.j8] at H
              by_cases c86 : x199_83 = true
              ·subst c86
               have H1 : ((api_Op_120.f kj83 x0_78 a1 x20_2 x18_59 a4).bind fun t119 => (if x18_59 < (wrap64 (x19_59 - x20_2)) then (if (wrap64 (x19_59 - x20_2)) < a3 then ((api_Op_120.f kj83 t119 x18_59 (wrap64 (x19_59 - x20_2)) a3 a4).bind fun t120 => (some t120)) else (some t119)) else (some t119))) = some r := by rw [if_pos rfl] at H; exact H
               clear H
               have H := H1
               clear H1
               replace H := Option.bind_eq_some_iff.mp H
               obtain ⟨t119, A870, H⟩ := H
               replace H : (if x18_59 < (wrap64 (x19_59 - x20_2)) then (if (wrap64 (x19_59 - x20_2)) < a3 then ((api_Op_120.f kj83 t119 x18_59 (wrap64 (x19_59 - x20_2)) a3 a4).bind fun t120 => (some t120)) else (some t119)) else (some t119)) = some r := H
               have A87 := Aside0.mk A870
               clear A870
               by_cases c88 : x18_59 < (wrap64 (x19_59 - x20_2))
               ·rw [if_pos c88] at H
                have c88b0 : decide (x18_59 < (wrap64 (x19_59 - x20_2))) = true := decide_eq_true c88
                clear c88
                by_cases c89 : (wrap64 (x19_59 - x20_2)) < a3
                ·rw [if_pos c89] at H
                 have c89b0 : decide ((wrap64 (x19_59 - x20_2)) < a3) = true := decide_eq_true c89
                 clear c89
                 replace H := Option.bind_eq_some_iff.mp H
                 obtain ⟨t120, A900, H⟩ := H
                 replace H : (some t120) = some r := H
                 have A90 := Aside0.mk A900
                 clear A900
                 obtain rfl := Option.some.inj H
                 obtain ⟨Ao91, co91, eo91⟩ := Kd.R_slice HO_0.out
                 subst eo91
                 go_wp2_with (first | ((with_reducible refine gate_callee (f := 120) rfl ?_); refine goesL_ (some 205) rfl rfl Try.func120 (by kernel_rfl) rfl #[.slice Ao91 x0_78.length co91, .int .i64 a1, .int .i64 x20_2, .int .i64 x18_59, .func (.func 108) #[] #[]] rfl (by (try simp only [List.map_toArray, List.map_cons, List.map_nil]); first | done | rfl | (simp only [List.length_drop, List.length_take]; rfl)) ?_; (with_reducible refine (ih kj83 (by have := HJ59.out; have := HK2.out; have := HJ76.out; have := HJ78.out; have := HJ83.out; omega) (fun k_ => some k_ = (.slice Ao91 x0_78.length co91 : Value).ownBlock) (.slice Ao91 x0_78.length co91) x0_78 a1 x20_2 x18_59 a4 t119 w0 _ ?side1 ?side2 A87.out).mono ?_); (case side1 => repeat (first | (with_reducible first | exact HB.out | apply below_alloc | apply pw_below_drewN | apply below_drew1))); (case side2 => exact Kd.R_tight rfl HO_0.out); rintro e w92 ⟨rfl, hy0, hb, hkp⟩; refine ⟨_, rfl, ?_⟩; have n0_ := Aside0.mk (Kd.R_reok rfl hy0 (fun k_ e_ => HO_0.out.1 k_ e_)); have n1_ := Aside0.mk (Kept.then_ (S := (fun k_ => P0_ k_)) (by repeat (first | (with_reducible first | exact HK.out | apply Kept.alloc | apply Kept.drewN | apply Kept.drew) | exact HK.out)) hkp (fun k_ hs_ => (fun e_ => (HO_0.out.1 k_ e_.symm)) hs_)); have n2_ := Aside0.mk (hb); clear HO_0; clear HK; clear HB; have HO_0 := n0_; have HK := n1_; have HB := n2_; clear n0_ n1_ n2_; (try clear hb); (try clear hkp); (try clear hy0)) | ((with_reducible refine gate_callee (f := 120) rfl ?_); refine goesL_ (some 219) rfl rfl Try.func120 (by kernel_rfl) rfl #[.slice Ao91 x0_78.length co91, .int .i64 x18_59, .int .i64 (wrap64 (x19_59 - x20_2)), .int .i64 a3, .func (.func 108) #[] #[]] rfl (by (try simp only [List.map_toArray, List.map_cons, List.map_nil]); first | done | rfl | (simp only [List.length_drop, List.length_take]; rfl)) ?_; (with_reducible refine (ih kj83 (by have := HJ59.out; have := HK2.out; have := HJ76.out; have := HJ78.out; have := HJ83.out; omega) (fun k_ => some k_ = (.slice Ao91 x0_78.length co91 : Value).ownBlock) (.slice Ao91 x0_78.length co91) t119 x18_59 (wrap64 (x19_59 - x20_2)) a3 a4 t120 w0 _ ?side1 ?side2 A90.out).mono ?_); (case side1 => repeat (first | (with_reducible first | exact HB.out | apply below_alloc | apply pw_below_drewN | apply below_drew1))); (case side2 => exact Kd.R_tight rfl HO_0.out); rintro e w93 ⟨rfl, hy0, hb, hkp⟩; refine ⟨_, rfl, ?_⟩; have n0_ := Aside0.mk (Kd.R_reok rfl hy0 (fun k_ e_ => HO_0.out.1 k_ e_)); have n1_ := Aside0.mk (Kept.then_ (S := (fun k_ => P0_ k_)) (by repeat (first | (with_reducible first | exact HK.out | apply Kept.alloc | apply Kept.drewN | apply Kept.drew) | exact HK.out)) hkp (fun k_ hs_ => (fun e_ => (HO_0.out.1 k_ e_.symm)) hs_)); have n2_ := Aside0.mk (hb); clear HO_0; clear HK; clear HB; have HO_0 := n0_; have HK := n1_; have HB := n2_; clear n0_ n1_ n2_; (try clear hb); (try clear hkp); (try clear hy0)))
                 first | go_end0 | ((try simp only [Exit.inBlock, Exit.then]); refine bodyPost_ret (results_none rfl _ _ _) rfl ?_)
                 exact ⟨by first | rfl | (simp <;> rfl) | (simp [*] <;> rfl), by (with_reducible repeat (first | apply Kd.R_alloc | apply Kd.R_drewN | apply Kd.R_drew)); exact HO_0.out, by repeat (first | (with_reducible first | exact HB.out | apply below_alloc | apply pw_below_drewN | apply below_drew1)), by repeat (first | (with_reducible first | exact HK.out | apply Kept.alloc | apply Kept.drewN | apply Kept.drew) | exact HK.out)⟩
                ·rw [if_neg c89] at H
                 have c89b0 : decide ((wrap64 (x19_59 - x20_2)) < a3) = false := decide_eq_false c89
                 clear c89
                 obtain rfl := Option.some.inj H
                 obtain ⟨Ao94, co94, eo94⟩ := Kd.R_slice HO_0.out
                 subst eo94
                 go_wp2_with (first | ((with_reducible refine gate_callee (f := 120) rfl ?_); refine goesL_ (some 205) rfl rfl Try.func120 (by kernel_rfl) rfl #[.slice Ao94 x0_78.length co94, .int .i64 a1, .int .i64 x20_2, .int .i64 x18_59, .func (.func 108) #[] #[]] rfl (by (try simp only [List.map_toArray, List.map_cons, List.map_nil]); first | done | rfl | (simp only [List.length_drop, List.length_take]; rfl)) ?_; (with_reducible refine (ih kj83 (by have := HJ59.out; have := HK2.out; have := HJ76.out; have := HJ78.out; have := HJ83.out; omega) (fun k_ => some k_ = (.slice Ao94 x0_78.length co94 : Value).ownBlock) (.slice Ao94 x0_78.length co94) x0_78 a1 x20_2 x18_59 a4 t119 w0 _ ?side1 ?side2 A87.out).mono ?_); (case side1 => repeat (first | (with_reducible first | exact HB.out | apply below_alloc | apply pw_below_drewN | apply below_drew1))); (case side2 => exact Kd.R_tight rfl HO_0.out); rintro e w95 ⟨rfl, hy0, hb, hkp⟩; refine ⟨_, rfl, ?_⟩; have n0_ := Aside0.mk (Kd.R_reok rfl hy0 (fun k_ e_ => HO_0.out.1 k_ e_)); have n1_ := Aside0.mk (Kept.then_ (S := (fun k_ => P0_ k_)) (by repeat (first | (with_reducible first | exact HK.out | apply Kept.alloc | apply Kept.drewN | apply Kept.drew) | exact HK.out)) hkp (fun k_ hs_ => (fun e_ => (HO_0.out.1 k_ e_.symm)) hs_)); have n2_ := Aside0.mk (hb); clear HO_0; clear HK; clear HB; have HO_0 := n0_; have HK := n1_; have HB := n2_; clear n0_ n1_ n2_; (try clear hb); (try clear hkp); (try clear hy0)))
                 first | go_end0 | ((try simp only [Exit.inBlock, Exit.then]); refine bodyPost_ret (results_none rfl _ _ _) rfl ?_)
                 exact ⟨by first | rfl | (simp <;> rfl) | (simp [*] <;> rfl), by (with_reducible repeat (first | apply Kd.R_alloc | apply Kd.R_drewN | apply Kd.R_drew)); exact HO_0.out, by repeat (first | (with_reducible first | exact HB.out | apply below_alloc | apply pw_below_drewN | apply below_drew1)), by repeat (first | (with_reducible first | exact HK.out | apply Kept.alloc | apply Kept.drewN | apply Kept.drew) | exact HK.out)⟩
               ·rw [if_neg c88] at H
                have c88b0 : decide (x18_59 < (wrap64 (x19_59 - x20_2))) = false := decide_eq_false c88
                clear c88
                obtain rfl := Option.some.inj H
                obtain ⟨Ao96, co96, eo96⟩ := Kd.R_slice HO_0.out
                subst eo96
                go_wp2_with (first | ((with_reducible refine gate_callee (f := 120) rfl ?_); refine goesL_ (some 205) rfl rfl Try.func120 (by kernel_rfl) rfl #[.slice Ao96 x0_78.length co96, .int .i64 a1, .int .i64 x20_2, .int .i64 x18_59, .func (.func 108) #[] #[]] rfl (by (try simp only [List.map_toArray, List.map_cons, List.map_nil]); first | done | rfl | (simp only [List.length_drop, List.length_take]; rfl)) ?_; (with_reducible refine (ih kj83 (by have := HJ59.out; have := HK2.out; have := HJ76.out; have := HJ78.out; have := HJ83.out; omega) (fun k_ => some k_ = (.slice Ao96 x0_78.length co96 : Value).ownBlock) (.slice Ao96 x0_78.length co96) x0_78 a1 x20_2 x18_59 a4 t119 w0 _ ?side1 ?side2 A87.out).mono ?_); (case side1 => repeat (first | (with_reducible first | exact HB.out | apply below_alloc | apply pw_below_drewN | apply below_drew1))); (case side2 => exact Kd.R_tight rfl HO_0.out); rintro e w97 ⟨rfl, hy0, hb, hkp⟩; refine ⟨_, rfl, ?_⟩; have n0_ := Aside0.mk (Kd.R_reok rfl hy0 (fun k_ e_ => HO_0.out.1 k_ e_)); have n1_ := Aside0.mk (Kept.then_ (S := (fun k_ => P0_ k_)) (by repeat (first | (with_reducible first | exact HK.out | apply Kept.alloc | apply Kept.drewN | apply Kept.drew) | exact HK.out)) hkp (fun k_ hs_ => (fun e_ => (HO_0.out.1 k_ e_.symm)) hs_)); have n2_ := Aside0.mk (hb); clear HO_0; clear HK; clear HB; have HO_0 := n0_; have HK := n1_; have HB := n2_; clear n0_ n1_ n2_; (try clear hb); (try clear hkp); (try clear hy0)))
                first | go_end0 | ((try simp only [Exit.inBlock, Exit.then]); refine bodyPost_ret (results_none rfl _ _ _) rfl ?_)
                exact ⟨by first | rfl | (simp <;> rfl) | (simp [*] <;> rfl), by (with_reducible repeat (first | apply Kd.R_alloc | apply Kd.R_drewN | apply Kd.R_drew)); exact HO_0.out, by repeat (first | (with_reducible first | exact HB.out | apply below_alloc | apply pw_below_drewN | apply below_drew1)), by repeat (first | (with_reducible first | exact HK.out | apply Kept.alloc | apply Kept.drewN | apply Kept.drew) | exact HK.out)⟩
              ·replace c86 := Bool.eq_false_iff.mpr c86
               subst c86
               have H1 : (if x18_59 < (wrap64 (x19_59 - x20_2)) then (if (wrap64 (x19_59 - x20_2)) < a3 then ((api_Op_120.f kj83 x0_78 x18_59 (wrap64 (x19_59 - x20_2)) a3 a4).bind fun t121 => (some t121)) else (some x0_78)) else (some x0_78)) = some r := by rw [if_neg (show ¬ (false = true) by decide)] at H; exact H
               clear H
               have H := H1
               clear H1
               by_cases c98 : x18_59 < (wrap64 (x19_59 - x20_2))
               ·rw [if_pos c98] at H
                have c98b0 : decide (x18_59 < (wrap64 (x19_59 - x20_2))) = true := decide_eq_true c98
                clear c98
                by_cases c99 : (wrap64 (x19_59 - x20_2)) < a3
                ·rw [if_pos c99] at H
                 have c99b0 : decide ((wrap64 (x19_59 - x20_2)) < a3) = true := decide_eq_true c99
                 clear c99
                 replace H := Option.bind_eq_some_iff.mp H
                 obtain ⟨t121, A1000, H⟩ := H
                 replace H : (some t121) = some r := H
                 have A100 := Aside0.mk A1000
                 clear A1000
                 obtain rfl := Option.some.inj H
                 obtain ⟨Ao101, co101, eo101⟩ := Kd.R_slice HO_0.out
                 subst eo101
                 go_wp2_with (first | ((with_reducible refine gate_callee (f := 120) rfl ?_); refine goesL_ (some 219) rfl rfl Try.func120 (by kernel_rfl) rfl #[.slice Ao101 x0_78.length co101, .int .i64 x18_59, .int .i64 (wrap64 (x19_59 - x20_2)), .int .i64 a3, .func (.func 108) #[] #[]] rfl (by (try simp only [List.map_toArray, List.map_cons, List.map_nil]); first | done | rfl | (simp only [List.length_drop, List.length_take]; rfl)) ?_; (with_reducible refine (ih kj83 (by have := HJ59.out; have := HK2.out; have := HJ76.out; have := HJ78.out; have := HJ83.out; omega) (fun k_ => some k_ = (.slice Ao101 x0_78.length co101 : Value).ownBlock) (.slice Ao101 x0_78.length co101) x0_78 x18_59 (wrap64 (x19_59 - x20_2)) a3 a4 t121 w0 _ ?side1 ?side2 A100.out).mono ?_); (case side1 => repeat (first | (with_reducible first | exact HB.out | apply below_alloc | apply pw_below_drewN | apply below_drew1))); (case side2 => exact Kd.R_tight rfl HO_0.out); rintro e w102 ⟨rfl, hy0, hb, hkp⟩; refine ⟨_, rfl, ?_⟩; have n0_ := Aside0.mk (Kd.R_reok rfl hy0 (fun k_ e_ => HO_0.out.1 k_ e_)); have n1_ := Aside0.mk (Kept.then_ (S := (fun k_ => P0_ k_)) (by repeat (first | (with_reducible first | exact HK.out | apply Kept.alloc | apply Kept.drewN | apply Kept.drew) | exact HK.out)) hkp (fun k_ hs_ => (fun e_ => (HO_0.out.1 k_ e_.symm)) hs_)); have n2_ := Aside0.mk (hb); clear HO_0; clear HK; clear HB; have HO_0 := n0_; have HK := n1_; have HB := n2_; clear n0_ n1_ n2_; (try clear hb); (try clear hkp); (try clear hy0)))
                 first | go_end0 | ((try simp only [Exit.inBlock, Exit.then]); refine bodyPost_ret (results_none rfl _ _ _) rfl ?_)
                 exact ⟨by first | rfl | (simp <;> rfl) | (simp [*] <;> rfl), by (with_reducible repeat (first | apply Kd.R_alloc | apply Kd.R_drewN | apply Kd.R_drew)); exact HO_0.out, by repeat (first | (with_reducible first | exact HB.out | apply below_alloc | apply pw_below_drewN | apply below_drew1)), by repeat (first | (with_reducible first | exact HK.out | apply Kept.alloc | apply Kept.drewN | apply Kept.drew) | exact HK.out)⟩
                ·rw [if_neg c99] at H
                 have c99b0 : decide ((wrap64 (x19_59 - x20_2)) < a3) = false := decide_eq_false c99
                 clear c99
                 obtain rfl := Option.some.inj H
                 go_wp2
                 first | go_end0 | ((try simp only [Exit.inBlock, Exit.then]); refine bodyPost_ret (results_none rfl _ _ _) rfl ?_)
                 exact ⟨by first | rfl | (simp <;> rfl) | (simp [*] <;> rfl), by (with_reducible repeat (first | apply Kd.R_alloc | apply Kd.R_drewN | apply Kd.R_drew)); exact HO_0.out, by repeat (first | (with_reducible first | exact HB.out | apply below_alloc | apply pw_below_drewN | apply below_drew1)), by repeat (first | (with_reducible first | exact HK.out | apply Kept.alloc | apply Kept.drewN | apply Kept.drew) | exact HK.out)⟩
               ·rw [if_neg c98] at H
                have c98b0 : decide (x18_59 < (wrap64 (x19_59 - x20_2))) = false := decide_eq_false c98
                clear c98
                obtain rfl := Option.some.inj H
                go_wp2
                first | go_end0 | ((try simp only [Exit.inBlock, Exit.then]); refine bodyPost_ret (results_none rfl _ _ _) rfl ?_)
                exact ⟨by first | rfl | (simp <;> rfl) | (simp [*] <;> rfl), by (with_reducible repeat (first | apply Kd.R_alloc | apply Kd.R_drewN | apply Kd.R_drew)); exact HO_0.out, by repeat (first | (with_reducible first | exact HB.out | apply below_alloc | apply pw_below_drewN | apply below_drew1)), by repeat (first | (with_reducible first | exact HK.out | apply Kept.alloc | apply Kept.drewN | apply Kept.drew) | exact HK.out)⟩
set_option maxHeartbeats 8000000 in
set_option maxRecDepth 100000 in
theorem api_Op_120.calls (k : Nat) : ∀ (P0_ : Nat → Prop) (u9000_ : Value) (l0 : List (S46)) (a1 : Int) (a2 : Int) (a3 : Int) (a4 : Int) (r : List (S46)) (w0 w : World) (hB : Below w0.heap.size w0 w) (ho0 : Kd.R k46 46 w w0.heap.size P0_ u9000_ l0) (h : api_Op_120.f k l0 a1 a2 a3 a4 = some r),
  Calls Try.prog 120 #[u9000_, .int .i64 a1, .int .i64 a2, .int .i64 a3, .func (.func 108) #[] #[]] w fun e w' => e = .returned (.tuple #[]) ∧ Kd.R k46 46 w' w0.heap.size (fun k_ => (P0_ k_ ∨ w.heap.size ≤ k_)) u9000_ r ∧ Below w0.heap.size w0 w' ∧ Kept w w' (fun k_ => P0_ k_) := by
 induction k using Nat.strongRecOn with
 | _ k ih =>
 intro P0_ u9000_ l0 a1 a2 a3 a4 r w0 w hB ho0 h
 cases k with
 | zero => exact absurd h (by simp [api_Op_120.f])
 | succ k =>
 by_cases c6 : (wrap64 (a2 - a1)) = 1
 ·exact api_Op_120.calls_p0 k ih P0_ u9000_ l0 a1 a2 a3 a4 r w0 w hB ho0 h c6
 by_cases c33 : (wrap64 (a3 - a2)) = 1
 ·exact api_Op_120.calls_p1 k ih P0_ u9000_ l0 a1 a2 a3 a4 r w0 w hB ho0 h c6 c33
 exact api_Op_120.calls_n k ih P0_ u9000_ l0 a1 a2 a3 a4 r w0 w hB ho0 h c6 c33
end Go.Proofs.Ytfocaefnmfkojaa.Q
namespace Go.Proofs.Ytfocaefnmfkojaa.Q
open Go.RowKit Go.Proofs.YtfocaefnmfkojaaW.PrintWords Go.Proofs.YtfocaefnmfkojaaW.PrintLast Go.Proofs.YtfocaefnmfkojaaW.PrintMore
attribute [local go_sem] max2_int min2_int max_two min_two max_three min_three max_four min_four   -- for this text's walks alone
set_option linter.unusedVariables false
set_option linter.unusedSimpArgs false
mutual
def api_Op_116.l0 : Nat → List (S46) → Int → Int → Int → Int → Int → Option ((List (S46)))
 | 0, _, _, _, _, _, _ => none
 | k + 1, x0, x1, x2, x6, x7, x8 => if x8 ≤ x1 then ((api_Op_119.f k x0 x7 x8 x2).bind fun t101 => (api_Op_116.l0 k t101 x1 x2 x6 x8 (wrap64 (x8 + x6)))) else ((api_Op_119.f k x0 x7 x1 x2).bind fun t102 => (api_Op_116.l1 k t102 x1 x2 x6))
def api_Op_116.l1 : Nat → List (S46) → Int → Int → Int → Option ((List (S46)))
 | 0, _, _, _, _ => none
 | k + 1, x0, x1, x2, x6 => if x6 < x1 then (api_Op_116.l2 k x0 x1 x2 x6 0 (wrap64 (2 * x6))) else (some x0)
def api_Op_116.l2 : Nat → List (S46) → Int → Int → Int → Int → Int → Option ((List (S46)))
 | 0, _, _, _, _, _, _ => none
 | k + 1, x0, x1, x2, x6, x7, x8 => if x8 ≤ x1 then ((api_Op_120.f k x0 x7 (wrap64 (x7 + x6)) x8 x2).bind fun t103 => (api_Op_116.l2 k t103 x1 x2 x6 x8 (wrap64 (x8 + (wrap64 (2 * x6)))))) else (if (wrap64 (x7 + x6)) < x1 then ((api_Op_120.f k x0 x7 (wrap64 (x7 + x6)) x1 x2).bind fun t104 => (api_Op_116.l1 k t104 x1 x2 (wrap64 (x6 * 2)))) else (api_Op_116.l1 k x0 x1 x2 (wrap64 (x6 * 2))))
end
def api_Op_116.f (k : Nat) (l0 : List (S46)) (a1 : Int) (a2 : Int) : Option ((List (S46))) := api_Op_116.l0 k l0 a1 a2 20 0 20
set_option maxHeartbeats 8000000 in
set_option maxRecDepth 100000 in
theorem api_Op_116.calls (k : Nat) (P0_ : Nat → Prop) (u9000_ : Value) (l0 : List (S46)) (a1 : Int) (a2 : Int) (r : List (S46)) (w0 w : World) (hB : Below w0.heap.size w0 w) (ho0 : Kd.R k46 46 w w0.heap.size P0_ u9000_ l0) (h : api_Op_116.f k l0 a1 a2 = some r) :
  Calls Try.prog 116 #[u9000_, .int .i64 a1, .func (.func 108) #[] #[]] w fun e w' => e = .returned (.tuple #[]) ∧ Kd.R k46 46 w' w0.heap.size (fun k_ => (P0_ k_ ∨ w.heap.size ≤ k_)) u9000_ r ∧ Below w0.heap.size w0 w' ∧ Kept w w' (fun k_ => P0_ k_) := by
 have HO0 := Aside0.mk (show Kd.R k46 46 w w0.heap.size (fun k_ => (P0_ k_ ∨ w.heap.size ≤ k_)) u9000_ l0 from Kd.R_mono ho0 (fun k_ hk => (.inl hk)))
 have HK := Aside0.mk (Kept.refl w (fun k_ => P0_ k_))
 have HW0 := Aside0.mk hB.size
 have HB := Aside0.mk hB
 clear hB
 have H : (api_Op_116.l0 k l0 a1 a2 20 0 20) = some r := h
 clear h
 have H' := Aside0.mk H
 clear H
 go_enter Try.func116, Try.ntmps116
 go_wp2
 go_loopg [7, 8] k (fun kq v7 v8 w' => ∃ (x0_1 : List (S46)) (x7_1 : Int) (x8_1 : Int), v7 = .int .i64 x7_1 ∧ v8 = .int .i64 x8_1 ∧ Aside0 (api_Op_116.l0 kq x0_1 a1 a2 20 x7_1 x8_1 = some r) ∧ Aside0 (kq ≤ k) ∧ Aside0 (Kd.R k46 46 w' w0.heap.size (fun k_ => (P0_ k_ ∨ w.heap.size ≤ k_)) u9000_ x0_1) ∧ Aside0 (Kept w w' (fun k_ => P0_ k_)) ∧ Aside0 (Below w0.heap.size w0 w'))
 case atStart => exact ⟨(l0), (0), (20), (by first | rfl | (simp; done) | (simp [*]; done)), (by first | rfl | (simp; done) | (simp [*]; done)), H', ⟨Nat.le_refl _⟩, ⟨by (with_reducible repeat (first | apply Kd.R_alloc | apply Kd.R_drewN | apply Kd.R_drew)); exact HO0.out⟩, ⟨by repeat (first | (with_reducible first | exact HK.out | apply Kept.alloc | apply Kept.drewN | apply Kept.drew) | exact HK.out)⟩, ⟨by repeat (first | (with_reducible first | exact HB.out | apply below_alloc | apply pw_below_drewN | apply below_drew1))⟩⟩
 case round =>
  clear H'
  try clear c1
  try clear p2
  obtain ⟨x0_1, x7_1, x8_1, rfl, rfl, HA, HK1, HO_0, HK, HB⟩ := hrel
  cases gk with
  | zero => exact absurd HA.out (by simp [api_Op_116.l0])
  | succ k1 =>
   have H := HA.out
   clear HA
   simp only [api_Op_116.l0] at H
   by_cases c4 : x8_1 ≤ a1
   ·rw [if_pos c4] at H
    have c4b0 : decide (x8_1 ≤ a1) = true := decide_eq_true c4
    clear c4
    replace H := Option.bind_eq_some_iff.mp H
    obtain ⟨t101, A50, H⟩ := H
    replace H : (api_Op_116.l0 k1 t101 a1 a2 20 x8_1 (wrap64 (x8_1 + 20))) = some r := H
    have A5 := Aside0.mk A50
    clear A50
    have H' := Aside0.mk H
    clear H
    obtain ⟨Ao6, co6, eo6⟩ := Kd.R_slice HO_0.out
    subst eo6
    go_wp2_with (first | ((with_reducible refine gate_callee (f := 119) rfl ?_); refine goesL_ (some 18) rfl rfl Try.func119 (by kernel_rfl) rfl #[.slice Ao6 x0_1.length co6, .int .i64 x7_1, .int .i64 x8_1, .func (.func 108) #[] #[]] rfl (by (try simp only [List.map_toArray, List.map_cons, List.map_nil]); first | done | rfl | (simp only [List.length_drop, List.length_take]; rfl)) ?_; (with_reducible refine (api_Op_119.calls k1 (fun k_ => some k_ = (.slice Ao6 x0_1.length co6 : Value).ownBlock) (.slice Ao6 x0_1.length co6) x0_1 x7_1 x8_1 a2 t101 w0 _ ?side1 ?side2 A5.out).mono ?_); (case side1 => repeat (first | (with_reducible first | exact HB.out | apply below_alloc | apply pw_below_drewN | apply below_drew1))); (case side2 => exact Kd.R_tight rfl HO_0.out); rintro e w7 ⟨rfl, hy0, hb, hkp⟩; refine ⟨_, rfl, ?_⟩; have n0_ := Aside0.mk (Kd.R_reok rfl hy0 (fun k_ e_ => HO_0.out.1 k_ e_)); have n1_ := Aside0.mk (Kept.then_ (S := (fun k_ => P0_ k_)) (by repeat (first | (with_reducible first | exact HK.out | apply Kept.alloc | apply Kept.drewN | apply Kept.drew) | exact HK.out)) hkp (fun k_ hs_ => (fun e_ => (HO_0.out.1 k_ e_.symm)) hs_)); have n2_ := Aside0.mk (hb); clear HO_0; clear HK; clear HB; have HO_0 := n0_; have HK := n1_; have HB := n2_; clear n0_ n1_ n2_; (try clear hb); (try clear hkp); (try clear hy0)))
    go_roundg k1
    case measure => have := HK1.out; omega
    case rel => exact ⟨(t101), (x8_1), (wrap64 (x8_1 + 20)), (by first | rfl | (simp; done) | (simp [*]; done)), (by first | rfl | (simp; done) | (simp [*]; done)), H', ⟨by have := HK1.out; omega⟩, ⟨by (with_reducible repeat (first | apply Kd.R_alloc | apply Kd.R_drewN | apply Kd.R_drew)); exact HO_0.out⟩, ⟨by repeat (first | (with_reducible first | exact HK.out | apply Kept.alloc | apply Kept.drewN | apply Kept.drew) | exact HK.out)⟩, ⟨by repeat (first | (with_reducible first | exact HB.out | apply below_alloc | apply pw_below_drewN | apply below_drew1))⟩⟩
   ·rw [if_neg c4] at H
    have c4b0 : decide (x8_1 ≤ a1) = false := decide_eq_false c4
    clear c4
    replace H := Option.bind_eq_some_iff.mp H
    obtain ⟨t102, A80, H⟩ := H
    replace H : (api_Op_116.l1 k1 t102 a1 a2 20) = some r := H
    have A8 := Aside0.mk A80
    clear A80
    have H' := Aside0.mk H
    clear H
    obtain ⟨Ao9, co9, eo9⟩ := Kd.R_slice HO_0.out
    subst eo9
    go_wp2_with (first | ((with_reducible refine gate_callee (f := 119) rfl ?_); refine goesL_ (some 27) rfl rfl Try.func119 (by kernel_rfl) rfl #[.slice Ao9 x0_1.length co9, .int .i64 x7_1, .int .i64 a1, .func (.func 108) #[] #[]] rfl (by (try simp only [List.map_toArray, List.map_cons, List.map_nil]); first | done | rfl | (simp only [List.length_drop, List.length_take]; rfl)) ?_; (with_reducible refine (api_Op_119.calls k1 (fun k_ => some k_ = (.slice Ao9 x0_1.length co9 : Value).ownBlock) (.slice Ao9 x0_1.length co9) x0_1 x7_1 a1 a2 t102 w0 _ ?side1 ?side2 A8.out).mono ?_); (case side1 => repeat (first | (with_reducible first | exact HB.out | apply below_alloc | apply pw_below_drewN | apply below_drew1))); (case side2 => exact Kd.R_tight rfl HO_0.out); rintro e w10 ⟨rfl, hy0, hb, hkp⟩; refine ⟨_, rfl, ?_⟩; have n0_ := Aside0.mk (Kd.R_reok rfl hy0 (fun k_ e_ => HO_0.out.1 k_ e_)); have n1_ := Aside0.mk (Kept.then_ (S := (fun k_ => P0_ k_)) (by repeat (first | (with_reducible first | exact HK.out | apply Kept.alloc | apply Kept.drewN | apply Kept.drew) | exact HK.out)) hkp (fun k_ hs_ => (fun e_ => (HO_0.out.1 k_ e_.symm)) hs_)); have n2_ := Aside0.mk (hb); clear HO_0; clear HK; clear HB; have HO_0 := n0_; have HK := n1_; have HB := n2_; clear n0_ n1_ n2_; (try clear hb); (try clear hkp); (try clear hy0)))
    (try simp only [Act.put, List.setIfInBounds_toArray, List.set_cons_zero, List.set_cons_succ])
    go_loopg [6] k1 (fun kq v6 w' => ∃ (x0_2 : List (S46)) (x6_2 : Int), v6 = .int .i64 x6_2 ∧ Aside0 (api_Op_116.l1 kq x0_2 a1 a2 x6_2 = some r) ∧ Aside0 (kq ≤ k1) ∧ Aside0 (Kd.R k46 46 w' w0.heap.size (fun k_ => (P0_ k_ ∨ w.heap.size ≤ k_)) (.slice Ao9 x0_1.length co9) x0_2) ∧ Aside0 (Kept w w' (fun k_ => P0_ k_)) ∧ Aside0 (Below w0.heap.size w0 w'))
    case atStart => exact ⟨(t102), (20), (by first | rfl | (simp; done) | (simp [*]; done)), H', ⟨Nat.le_refl _⟩, ⟨by (with_reducible repeat (first | apply Kd.R_alloc | apply Kd.R_drewN | apply Kd.R_drew)); exact HO_0.out⟩, ⟨by repeat (first | (with_reducible first | exact HK.out | apply Kept.alloc | apply Kept.drewN | apply Kept.drew) | exact HK.out)⟩, ⟨by repeat (first | (with_reducible first | exact HB.out | apply below_alloc | apply pw_below_drewN | apply below_drew1))⟩⟩
    case round =>
     clear H'
     try clear c1
     try clear p2
     try clear c4
     try clear c4b0
     try clear p6
     try clear p2
     obtain ⟨x0_2, x6_2, rfl, HA, HK2, HO_0, HK, HB⟩ := hrel
     have hl0_2 := (Kd.R_reads' HO_0.out).1
     rw [hl0_2] at HO_0
     (try simp only [hl0_2])
     cases gk with
     | zero => exact absurd HA.out (by simp [api_Op_116.l1])
     | succ k2 =>
      have H := HA.out
      clear HA
      simp only [api_Op_116.l1] at H
      by_cases c11 : x6_2 < a1
      ·rw [if_pos c11] at H
       have c11b0 : decide (x6_2 < a1) = true := decide_eq_true c11
       clear c11
       have H' := Aside0.mk H
       clear H
       go_wp2
       go_loopg [7, 8] k2 (fun kq v7 v8 w' => ∃ (x0_3 : List (S46)) (x7_3 : Int) (x8_3 : Int), v7 = .int .i64 x7_3 ∧ v8 = .int .i64 x8_3 ∧ Aside0 (api_Op_116.l2 kq x0_3 a1 a2 x6_2 x7_3 x8_3 = some r) ∧ Aside0 (kq ≤ k2) ∧ Aside0 (Kd.R k46 46 w' w0.heap.size (fun k_ => (P0_ k_ ∨ w.heap.size ≤ k_)) (.slice Ao9 x0_2.length co9) x0_3) ∧ Aside0 (Kept w w' (fun k_ => P0_ k_)) ∧ Aside0 (Below w0.heap.size w0 w'))
       case atStart => exact ⟨(x0_2), (0), (wrap64 (2 * x6_2)), (by first | rfl | (simp; done) | (simp [*]; done)), (by first | rfl | (simp; done) | (simp [*]; done)), H', ⟨Nat.le_refl _⟩, ⟨by (try simp only [hl0_2]); (with_reducible repeat (first | apply Kd.R_alloc | apply Kd.R_drewN | apply Kd.R_drew)); exact HO_0.out⟩, ⟨by repeat (first | (with_reducible first | exact HK.out | apply Kept.alloc | apply Kept.drewN | apply Kept.drew) | exact HK.out)⟩, ⟨by repeat (first | (with_reducible first | exact HB.out | apply below_alloc | apply pw_below_drewN | apply below_drew1))⟩⟩
       case round =>
        clear H'
        try clear c1
        try clear p2
        try clear c4
        try clear c4b0
        try clear p6
        try clear c11
        try clear c11b0
        try clear p2
        try clear p6
        obtain ⟨x0_3, x7_3, x8_3, rfl, rfl, HA, HK3, HO_0, HK, HB⟩ := hrel
        have hl0_3 := (Kd.R_reads' HO_0.out).1
        rw [hl0_3] at HO_0
        (try simp only [hl0_3])
        cases gk with
        | zero => exact absurd HA.out (by simp [api_Op_116.l2])
        | succ k3 =>
         have H := HA.out
         clear HA
         simp only [api_Op_116.l2] at H
         by_cases c12 : x8_3 ≤ a1
         ·rw [if_pos c12] at H
          have c12b0 : decide (x8_3 ≤ a1) = true := decide_eq_true c12
          clear c12
          replace H := Option.bind_eq_some_iff.mp H
          obtain ⟨t103, A130, H⟩ := H
          replace H : (api_Op_116.l2 k3 t103 a1 a2 x6_2 x8_3 (wrap64 (x8_3 + (wrap64 (2 * x6_2))))) = some r := H
          have A13 := Aside0.mk A130
          clear A130
          have H' := Aside0.mk H
          clear H
          go_wp2_with (first | ((with_reducible refine gate_callee (f := 120) rfl ?_); refine goesL_ (some 43) rfl rfl Try.func120 (by kernel_rfl) rfl #[.slice Ao9 x0_3.length co9, .int .i64 x7_3, .int .i64 (wrap64 (x7_3 + x6_2)), .int .i64 x8_3, .func (.func 108) #[] #[]] rfl (by (try simp only [List.map_toArray, List.map_cons, List.map_nil]); first | done | rfl | (simp only [List.length_drop, List.length_take]; rfl)) ?_; (with_reducible refine (api_Op_120.calls k3 (fun k_ => some k_ = (.slice Ao9 x0_3.length co9 : Value).ownBlock) (.slice Ao9 x0_3.length co9) x0_3 x7_3 (wrap64 (x7_3 + x6_2)) x8_3 a2 t103 w0 _ ?side1 ?side2 A13.out).mono ?_); (case side1 => repeat (first | (with_reducible first | exact HB.out | apply below_alloc | apply pw_below_drewN | apply below_drew1))); (case side2 => exact Kd.R_tight rfl HO_0.out); rintro e w14 ⟨rfl, hy0, hb, hkp⟩; refine ⟨_, rfl, ?_⟩; have n0_ := Aside0.mk (Kd.R_reok rfl hy0 (fun k_ e_ => HO_0.out.1 k_ e_)); have n1_ := Aside0.mk (Kept.then_ (S := (fun k_ => P0_ k_)) (by repeat (first | (with_reducible first | exact HK.out | apply Kept.alloc | apply Kept.drewN | apply Kept.drew) | exact HK.out)) hkp (fun k_ hs_ => (fun e_ => (HO_0.out.1 k_ e_.symm)) hs_)); have n2_ := Aside0.mk (hb); clear HO_0; clear HK; clear HB; have HO_0 := n0_; have HK := n1_; have HB := n2_; clear n0_ n1_ n2_; (try clear hb); (try clear hkp); (try clear hy0)))
          (try simp only [← hl0_3])
          go_roundg k3
          case measure => have := HK1.out; have := HK2.out; have := HK3.out; omega
          case rel => exact ⟨(t103), (x8_3), (wrap64 (x8_3 + (wrap64 (2 * x6_2)))), (by first | rfl | (simp; done) | (simp [*]; done)), (by first | rfl | (simp; done) | (simp [*]; done)), H', ⟨by have := HK1.out; have := HK2.out; have := HK3.out; omega⟩, ⟨by (try simp only [hl0_2]); (try simp only [hl0_3]); (with_reducible repeat (first | apply Kd.R_alloc | apply Kd.R_drewN | apply Kd.R_drew)); exact HO_0.out⟩, ⟨by repeat (first | (with_reducible first | exact HK.out | apply Kept.alloc | apply Kept.drewN | apply Kept.drew) | exact HK.out)⟩, ⟨by repeat (first | (with_reducible first | exact HB.out | apply below_alloc | apply pw_below_drewN | apply below_drew1))⟩⟩
         ·rw [if_neg c12] at H
          have c12b0 : decide (x8_3 ≤ a1) = false := decide_eq_false c12
          clear c12
          by_cases c15 : (wrap64 (x7_3 + x6_2)) < a1
          ·rw [if_pos c15] at H
           have c15b0 : decide ((wrap64 (x7_3 + x6_2)) < a1) = true := decide_eq_true c15
           clear c15
           replace H := Option.bind_eq_some_iff.mp H
           obtain ⟨t104, A160, H⟩ := H
           replace H : (api_Op_116.l1 k3 t104 a1 a2 (wrap64 (x6_2 * 2))) = some r := H
           have A16 := Aside0.mk A160
           clear A160
           have H' := Aside0.mk H
           clear H
           go_wp2_with (first | ((with_reducible refine gate_callee (f := 120) rfl ?_); refine goesL_ (some 60) rfl rfl Try.func120 (by kernel_rfl) rfl #[.slice Ao9 x0_3.length co9, .int .i64 x7_3, .int .i64 (wrap64 (x7_3 + x6_2)), .int .i64 a1, .func (.func 108) #[] #[]] rfl (by (try simp only [List.map_toArray, List.map_cons, List.map_nil]); first | done | rfl | (simp only [List.length_drop, List.length_take]; rfl)) ?_; (with_reducible refine (api_Op_120.calls k3 (fun k_ => some k_ = (.slice Ao9 x0_3.length co9 : Value).ownBlock) (.slice Ao9 x0_3.length co9) x0_3 x7_3 (wrap64 (x7_3 + x6_2)) a1 a2 t104 w0 _ ?side1 ?side2 A16.out).mono ?_); (case side1 => repeat (first | (with_reducible first | exact HB.out | apply below_alloc | apply pw_below_drewN | apply below_drew1))); (case side2 => exact Kd.R_tight rfl HO_0.out); rintro e w17 ⟨rfl, hy0, hb, hkp⟩; refine ⟨_, rfl, ?_⟩; have n0_ := Aside0.mk (Kd.R_reok rfl hy0 (fun k_ e_ => HO_0.out.1 k_ e_)); have n1_ := Aside0.mk (Kept.then_ (S := (fun k_ => P0_ k_)) (by repeat (first | (with_reducible first | exact HK.out | apply Kept.alloc | apply Kept.drewN | apply Kept.drew) | exact HK.out)) hkp (fun k_ hs_ => (fun e_ => (HO_0.out.1 k_ e_.symm)) hs_)); have n2_ := Aside0.mk (hb); clear HO_0; clear HK; clear HB; have HO_0 := n0_; have HK := n1_; have HB := n2_; clear n0_ n1_ n2_; (try clear hb); (try clear hkp); (try clear hy0)))
           (try simp only [← hl0_2, ← hl0_3])
           go_roundg k3
           case measure => have := HK1.out; have := HK2.out; have := HK3.out; omega
           case rel => exact ⟨(t104), (wrap64 (x6_2 * 2)), (by first | rfl | (simp; done) | (simp [*]; done)), H', ⟨by have := HK1.out; have := HK2.out; have := HK3.out; omega⟩, ⟨by (try simp only [hl0_2]); (try simp only [hl0_3]); (with_reducible repeat (first | apply Kd.R_alloc | apply Kd.R_drewN | apply Kd.R_drew)); exact HO_0.out⟩, ⟨by repeat (first | (with_reducible first | exact HK.out | apply Kept.alloc | apply Kept.drewN | apply Kept.drew) | exact HK.out)⟩, ⟨by repeat (first | (with_reducible first | exact HB.out | apply below_alloc | apply pw_below_drewN | apply below_drew1))⟩⟩
          ·rw [if_neg c15] at H
           have c15b0 : decide ((wrap64 (x7_3 + x6_2)) < a1) = false := decide_eq_false c15
           clear c15
           have H' := Aside0.mk H
           clear H
           go_wp2
           (try simp only [← hl0_2, ← hl0_3])
           go_roundg k3
           case measure => have := HK1.out; have := HK2.out; have := HK3.out; omega
           case rel => exact ⟨(x0_3), (wrap64 (x6_2 * 2)), (by first | rfl | (simp; done) | (simp [*]; done)), H', ⟨by have := HK1.out; have := HK2.out; have := HK3.out; omega⟩, ⟨by (try simp only [hl0_2]); (try simp only [hl0_3]); (with_reducible repeat (first | apply Kd.R_alloc | apply Kd.R_drewN | apply Kd.R_drew)); exact HO_0.out⟩, ⟨by repeat (first | (with_reducible first | exact HK.out | apply Kept.alloc | apply Kept.drewN | apply Kept.drew) | exact HK.out)⟩, ⟨by repeat (first | (with_reducible first | exact HB.out | apply below_alloc | apply pw_below_drewN | apply below_drew1))⟩⟩
      ·rw [if_neg c11] at H
       have c11b0 : decide (x6_2 < a1) = false := decide_eq_false c11
       clear c11
       obtain rfl := Option.some.inj H
       go_wp2
       first | go_end0 | ((try simp only [Exit.inBlock, Exit.then]); refine bodyPost_ret (results_none rfl _ _ _) rfl ?_)
       exact ⟨by first | rfl | (simp <;> rfl) | (simp [*] <;> rfl), (by first | exact (by (with_reducible repeat (first | apply Kd.R_alloc | apply Kd.R_drewN | apply Kd.R_drew)); exact HO_0.out) | (simp only [hl0_2]; exact (by (with_reducible repeat (first | apply Kd.R_alloc | apply Kd.R_drewN | apply Kd.R_drew)); exact HO_0.out))), by repeat (first | (with_reducible first | exact HB.out | apply below_alloc | apply pw_below_drewN | apply below_drew1)), by repeat (first | (with_reducible first | exact HK.out | apply Kept.alloc | apply Kept.drewN | apply Kept.drew) | exact HK.out)⟩
end Go.Proofs.Ytfocaefnmfkojaa.Q
namespace Go.Proofs.Ytfocaefnmfkojaa.Q
open Go.RowKit Go.Proofs.YtfocaefnmfkojaaW.PrintWords Go.Proofs.YtfocaefnmfkojaaW.PrintLast Go.Proofs.YtfocaefnmfkojaaW.PrintMore
attribute [local go_sem] max2_int min2_int max_two min_two max_three min_three max_four min_four   -- for this text's walks alone
set_option linter.unusedVariables false
set_option linter.unusedSimpArgs false
def api_Op_107.f (k : Nat) (l0 : List (S46)) (a1 : Int) : Option ((List (S46))) := (api_Op_116.f k l0 (l0.length : Int) a1).bind fun t101 => (some t101)
set_option maxHeartbeats 8000000 in
set_option maxRecDepth 100000 in
theorem api_Op_107.calls (k : Nat) (P0_ : Nat → Prop) (u9000_ : Value) (l0 : List (S46)) (a1 : Int) (r : List (S46)) (w0 w : World) (hB : Below w0.heap.size w0 w) (ho0 : Kd.R k46 46 w w0.heap.size P0_ u9000_ l0) (h : api_Op_107.f k l0 a1 = some r) :
  Calls Try.prog 107 #[u9000_, .func (.func 108) #[] #[]] w fun e w' => e = .returned (.tuple #[]) ∧ Kd.R k46 46 w' w0.heap.size (fun k_ => (P0_ k_ ∨ w.heap.size ≤ k_)) u9000_ r ∧ Below w0.heap.size w0 w' ∧ Kept w w' (fun k_ => P0_ k_) := by
 have HO0 := Aside0.mk (show Kd.R k46 46 w w0.heap.size (fun k_ => (P0_ k_ ∨ w.heap.size ≤ k_)) u9000_ l0 from Kd.R_mono ho0 (fun k_ hk => (.inl hk)))
 have HK := Aside0.mk (Kept.refl w (fun k_ => P0_ k_))
 have HW0 := Aside0.mk hB.size
 have HB := Aside0.mk hB
 clear hB
 have H : ((api_Op_116.f k l0 (l0.length : Int) a1).bind fun t101 => (some t101)) = some r := h
 clear h
 replace H := Option.bind_eq_some_iff.mp H
 obtain ⟨t101, A30, H⟩ := H
 replace H : (some t101) = some r := H
 have A3 := Aside0.mk A30
 clear A30
 obtain rfl := Option.some.inj H
 obtain ⟨Ao4, co4, eo4⟩ := Kd.R_slice HO0.out
 subst eo4
 go_enter Try.func107, Try.ntmps107
 go_wp2_with (first | ((with_reducible refine gate_callee (f := 116) rfl ?_); refine goesL_ (some 8) rfl rfl Try.func116 (by kernel_rfl) rfl #[.slice Ao4 l0.length co4, .int .i64 (l0.length : Int), .func (.func 108) #[] #[]] rfl (by (try simp only [List.map_toArray, List.map_cons, List.map_nil]); first | done | rfl | (simp only [List.length_drop, List.length_take]; rfl)) ?_; (with_reducible refine (api_Op_116.calls k (fun k_ => some k_ = (.slice Ao4 l0.length co4 : Value).ownBlock) (.slice Ao4 l0.length co4) l0 (l0.length : Int) a1 t101 w0 _ ?side1 ?side2 A3.out).mono ?_); (case side1 => repeat (first | (with_reducible first | exact HB.out | apply below_alloc | apply pw_below_drewN | apply below_drew1))); (case side2 => exact Kd.R_tight rfl HO0.out); rintro e w5 ⟨rfl, hy0, hb, hkp⟩; refine ⟨_, rfl, ?_⟩; have n0_ := Aside0.mk (Kd.R_reok rfl hy0 (fun k_ e_ => HO0.out.1 k_ e_)); have n1_ := Aside0.mk (Kept.then_ (S := (fun k_ => P0_ k_)) (by repeat (first | (with_reducible first | exact HK.out | apply Kept.alloc | apply Kept.drewN | apply Kept.drew) | exact HK.out)) hkp (fun k_ hs_ => (fun e_ => (HO0.out.1 k_ e_.symm)) hs_)); have n2_ := Aside0.mk (hb); clear HO0; clear HK; clear HB; have HO0 := n0_; have HK := n1_; have HB := n2_; clear n0_ n1_ n2_; (try clear hb); (try clear hkp); (try clear hy0)))
 first | go_end0 | ((try simp only [Exit.inBlock, Exit.then]); refine bodyPost_ret (results_none rfl _ _ _) rfl ?_)
 exact ⟨by first | rfl | (simp <;> rfl) | (simp [*] <;> rfl), by (with_reducible repeat (first | apply Kd.R_alloc | apply Kd.R_drewN | apply Kd.R_drew)); exact HO0.out, by repeat (first | (with_reducible first | exact HB.out | apply below_alloc | apply pw_below_drewN | apply below_drew1)), by repeat (first | (with_reducible first | exact HK.out | apply Kept.alloc | apply Kept.drewN | apply Kept.drew) | exact HK.out)⟩
end Go.Proofs.Ytfocaefnmfkojaa.Q
namespace Go.Proofs.Ytfocaefnmfkojaa.Q
end Go.Proofs.Ytfocaefnmfkojaa.Q
namespace Go.Proofs.Ytfocaefnmfkojaa.Q
end Go.Proofs.Ytfocaefnmfkojaa.Q
namespace Go.Proofs.Ytfocaefnmfkojaa.Q
open Go.RowKit Go.Proofs.YtfocaefnmfkojaaW.PrintWords Go.Proofs.YtfocaefnmfkojaaW.PrintLast Go.Proofs.YtfocaefnmfkojaaW.PrintMore
attribute [local go_sem] max2_int min2_int max_two min_two max_three min_three max_four min_four   -- for this text's walks alone
set_option linter.unusedVariables false
set_option linter.unusedSimpArgs false
def burgagelaw06_Big.l0 : Nat → Int → List (S44) → Int → Int → Option (Int)
 | 0, _, _, _, _ => none
 | k + 1, x3, x9, x10, x11 => if x11 < x10 then (if 0 ≤ x11 then (if x11 < (x9.length : Int) then (if (wrap64 (x3 + (((rd_T44 x9 x11).f3).length : Int))) > 1200 then (some 1) else (burgagelaw06_Big.l0 k (wrap64 (x3 + (((rd_T44 x9 x11).f3).length : Int))) x9 x10 (wrap64 (x11 + 1)))) else (none)) else (none)) else (some 0)
def burgagelaw06_Big.f (k : Nat) (l0 : List (S44)) : Option (Int) := if (l0.length : Int) > 100 then (some 1) else (burgagelaw06_Big.l0 k 0 l0 (l0.length : Int) 0)
set_option maxHeartbeats 8000000 in
set_option maxRecDepth 100000 in
theorem burgagelaw06_Big.calls (k : Nat) (A0 : Option Addr) (c0 : Nat) (l0 : List (S44)) (r : Int) (w : World) (hr0 : Kd.C k44 w A0 l0.length l0) (hc0 : l0.length ≤ c0) (h : burgagelaw06_Big.f k l0 = some r) :
  Calls Try.prog 24 #[.slice A0 l0.length c0] w fun e w' => e = .returned (.int .i64 r) ∧ Below w.heap.size w w' := by
 have hu44 := Try.underlying44
 have HR0 := Aside0.mk hr0
 have HC0 := Aside0.mk hc0
 clear hr0 hc0
 have HB := Aside0.mk (Below.refl w.heap.size w)
 have H : (if (l0.length : Int) > 100 then (some 1) else (burgagelaw06_Big.l0 k 0 l0 (l0.length : Int) 0)) = some r := h
 clear h
 by_cases c2 : (l0.length : Int) > 100
 ·rw [if_pos c2] at H
  have c2b0 : decide (100 < (l0.length : Int)) = true := decide_eq_true c2
  have c2b1 : decide (100 < l0.length) = true := decide_eq_true (by omega)
  clear c2
  obtain rfl := Option.some.inj H
  go_enter Try.func24, Try.ntmps24
  go_wp2
  go_ret
  exact ⟨by first | rfl | (simp <;> rfl) | (simp [*] <;> rfl), by repeat (first | (with_reducible first | exact HB.out | apply below_alloc | apply pw_below_drewN | apply below_drew1))⟩
 ·rw [if_neg c2] at H
  have c2b0 : decide (100 < (l0.length : Int)) = false := decide_eq_false c2
  have c2b1 : decide (100 < l0.length) = false := decide_eq_false (by omega)
  clear c2
  have H' := Aside0.mk H
  clear H
  go_enter Try.func24, Try.ntmps24
  go_wp2
  go_loopg [3, 11] k (fun kq v3 v11 w' => ∃ (x3_1 : Int) (x11_1 : Int), v3 = .int .i64 x3_1 ∧ v11 = .int .i64 x11_1 ∧ Aside0 (burgagelaw06_Big.l0 kq x3_1 l0 (l0.length : Int) x11_1 = some r) ∧ Aside0 (kq ≤ k) ∧ Aside0 (Below w.heap.size w w'))
  case atStart => exact ⟨(0), (0), (by first | rfl | (simp; done) | (simp [*]; done)), (by first | rfl | (simp; done) | (simp [*]; done)), H', ⟨Nat.le_refl _⟩, ⟨by repeat (first | (with_reducible first | exact HB.out | apply below_alloc | apply pw_below_drewN | apply below_drew1))⟩⟩
  case round =>
   clear H'
   try clear c2
   try clear c2b0
   try clear c2b1
   try clear p2
   obtain ⟨x3_1, x11_1, rfl, rfl, HA, HK1, HB⟩ := hrel
   cases gk with
   | zero => exact absurd HA.out (by simp [burgagelaw06_Big.l0])
   | succ k1 =>
    have H := HA.out
    clear HA
    simp only [burgagelaw06_Big.l0] at H
    by_cases c3 : x11_1 < (l0.length : Int)
    ·rw [if_pos c3] at H
     have c3b0 : decide (x11_1 < (l0.length : Int)) = true := decide_eq_true c3
     clear c3
     by_cases c4 : 0 ≤ x11_1
     ·rw [if_pos c4] at H
      have c4b0 : decide (0 ≤ x11_1) = true := decide_eq_true c4
      clear c4
      by_cases c5 : x11_1 < (l0.length : Int)
      ·rw [if_pos c5] at H
       have c5b0 : decide (x11_1 < (l0.length : Int)) = true := decide_eq_true c5
       clear c5
       by_cases c6 : (wrap64 (x3_1 + (((rd_T44 l0 x11_1).f3).length : Int))) > 1200
       ·rw [if_pos c6] at H
        have c6b0 : decide (1200 < (wrap64 (x3_1 + (((rd_T44 l0 x11_1).f3).length : Int)))) = true := decide_eq_true c6
        clear c6
        obtain rfl := Option.some.inj H
        have p101 : 0 ≤ (x11_1 : Int) := of_decide_eq_true (by assumption)
        have q101 : x11_1 < (l0.length : Int) := of_decide_eq_true (by assumption)
        obtain ⟨ad101, A101_3, c101_3, e101, hx101_0, hx101_1, hx101_2, hx101_3, hl101_3, hi101_3⟩ := at_T44 HR0.out x11_1 p101 q101
        cases e101
        replace hx101_0 := (HB.out.cell (World.block_lt_of_cell? w _ hx101_0)).trans hx101_0
        replace hx101_1 := (HB.out.cell (World.block_lt_of_cell? w _ hx101_1)).trans hx101_1
        replace hx101_2 := (HB.out.cell (World.block_lt_of_cell? w _ hx101_2)).trans hx101_2
        replace hx101_3 := (HB.out.cell (World.block_lt_of_cell? w _ hx101_3)).trans hx101_3
        have HR101_3 := Aside0.mk hi101_3
        have HC101_3 := Aside0.mk hl101_3
        clear hi101_3 hl101_3
        replace p101 := eq_true p101
        replace q101 := eq_true q101
        go_wp2_with (first | ((with_reducible refine gate_dst (N := 5) rfl ?_); refine box_event ?hg (N := 5) ?hd (cs := #[.int .i64 0, .int .i64 0, .int .i64 0, .slice none 0 0]) (t := 44) ?hr ?_; (case hd => rfl); (case hg => rfl); (case hr => first | (go_simp; done) | (go_simp; rfl)); intro gb102 hg w7 hbox hb; have n0_ := Aside0.mk (below_step (by repeat (first | (with_reducible first | exact HB.out | apply below_alloc | apply pw_below_drewN | apply below_drew1))) hb); have n1_ := Aside0.mk (hbox); have n2_ := Aside0.mk ((by rw [hg]; exact (below_size (by repeat (first | (with_reducible first | exact HB.out | apply below_alloc | apply pw_below_drewN | apply below_drew1)))) : w.heap.size ≤ gb102)); have n3_ := Aside0.mk ((by rw [hg]; exact (below_size (by repeat (first | (with_reducible first | exact HB.out | apply below_alloc | apply pw_below_drewN | apply below_drew1)))) : w.heap.size ≤ gb102)); clear HB; have HB := n0_; have BK102 := n1_; have GW102 := n2_; have GE102 := n3_; clear n0_ n1_ n2_ n3_; clear hb hbox hg; have hcz8_0 : w7.cell? ⟨gb102, 0, none⟩ = some (.int .i64 0) := (blk_cell BK102.out 0).trans rfl; have hcz8_1 : w7.cell? ⟨gb102, 1, none⟩ = some (.int .i64 0) := (blk_cell BK102.out 1).trans rfl; have hcz8_2 : w7.cell? ⟨gb102, 2, none⟩ = some (.int .i64 0) := (blk_cell BK102.out 2).trans rfl; have hcz8_3 : w7.cell? ⟨gb102, 3, none⟩ = some (.slice none 0 0) := (blk_cell BK102.out 3).trans rfl; have hfz8_0 := blk_frozen BK102.out 0; have hfz8_1 := blk_frozen BK102.out 1; have hfz8_2 := blk_frozen BK102.out 2; have hfz8_3 := blk_frozen BK102.out 3))
        go_ret
        exact ⟨by first | rfl | (simp <;> rfl) | (simp [*] <;> rfl), by repeat (first | (with_reducible first | exact HB.out | apply below_alloc | apply pw_below_drewN | apply below_drew1 | refine below_set ?_ GE102.out))⟩
       ·rw [if_neg c6] at H
        have c6b0 : decide (1200 < (wrap64 (x3_1 + (((rd_T44 l0 x11_1).f3).length : Int)))) = false := decide_eq_false c6
        clear c6
        have H' := Aside0.mk H
        clear H
        have p101 : 0 ≤ (x11_1 : Int) := of_decide_eq_true (by assumption)
        have q101 : x11_1 < (l0.length : Int) := of_decide_eq_true (by assumption)
        obtain ⟨ad101, A101_3, c101_3, e101, hx101_0, hx101_1, hx101_2, hx101_3, hl101_3, hi101_3⟩ := at_T44 HR0.out x11_1 p101 q101
        cases e101
        replace hx101_0 := (HB.out.cell (World.block_lt_of_cell? w _ hx101_0)).trans hx101_0
        replace hx101_1 := (HB.out.cell (World.block_lt_of_cell? w _ hx101_1)).trans hx101_1
        replace hx101_2 := (HB.out.cell (World.block_lt_of_cell? w _ hx101_2)).trans hx101_2
        replace hx101_3 := (HB.out.cell (World.block_lt_of_cell? w _ hx101_3)).trans hx101_3
        have HR101_3 := Aside0.mk hi101_3
        have HC101_3 := Aside0.mk hl101_3
        clear hi101_3 hl101_3
        replace p101 := eq_true p101
        replace q101 := eq_true q101
        go_wp2_with (first | ((with_reducible refine gate_dst (N := 5) rfl ?_); refine box_event ?hg (N := 5) ?hd (cs := #[.int .i64 0, .int .i64 0, .int .i64 0, .slice none 0 0]) (t := 44) ?hr ?_; (case hd => rfl); (case hg => rfl); (case hr => first | (go_simp; done) | (go_simp; rfl)); intro gb102 hg w9 hbox hb; have n0_ := Aside0.mk (below_step (by repeat (first | (with_reducible first | exact HB.out | apply below_alloc | apply pw_below_drewN | apply below_drew1))) hb); have n1_ := Aside0.mk (hbox); have n2_ := Aside0.mk ((by rw [hg]; exact (below_size (by repeat (first | (with_reducible first | exact HB.out | apply below_alloc | apply pw_below_drewN | apply below_drew1)))) : w.heap.size ≤ gb102)); have n3_ := Aside0.mk ((by rw [hg]; exact (below_size (by repeat (first | (with_reducible first | exact HB.out | apply below_alloc | apply pw_below_drewN | apply below_drew1)))) : w.heap.size ≤ gb102)); clear HB; have HB := n0_; have BK102 := n1_; have GW102 := n2_; have GE102 := n3_; clear n0_ n1_ n2_ n3_; clear hb hbox hg; have hcz10_0 : w9.cell? ⟨gb102, 0, none⟩ = some (.int .i64 0) := (blk_cell BK102.out 0).trans rfl; have hcz10_1 : w9.cell? ⟨gb102, 1, none⟩ = some (.int .i64 0) := (blk_cell BK102.out 1).trans rfl; have hcz10_2 : w9.cell? ⟨gb102, 2, none⟩ = some (.int .i64 0) := (blk_cell BK102.out 2).trans rfl; have hcz10_3 : w9.cell? ⟨gb102, 3, none⟩ = some (.slice none 0 0) := (blk_cell BK102.out 3).trans rfl; have hfz10_0 := blk_frozen BK102.out 0; have hfz10_1 := blk_frozen BK102.out 1; have hfz10_2 := blk_frozen BK102.out 2; have hfz10_3 := blk_frozen BK102.out 3))
        go_roundg k1
        case measure => have := HK1.out; omega
        case rel => exact ⟨(wrap64 (x3_1 + (((rd_T44 l0 x11_1).f3).length : Int))), (wrap64 (x11_1 + 1)), (by first | rfl | (simp; done) | (simp [*]; done)), (by first | rfl | (simp; done) | (simp [*]; done)), H', ⟨by have := HK1.out; omega⟩, ⟨by repeat (first | (with_reducible first | exact HB.out | apply below_alloc | apply pw_below_drewN | apply below_drew1 | refine below_set ?_ GE102.out))⟩⟩
      ·rw [if_neg c5] at H
       exact absurd H (by simp)
     ·rw [if_neg c4] at H
      exact absurd H (by simp)
    ·rw [if_neg c3] at H
     have c3b0 : decide (x11_1 < (l0.length : Int)) = false := decide_eq_false c3
     clear c3
     obtain rfl := Option.some.inj H
     go_wp2
     go_ret
     exact ⟨by first | rfl | (simp <;> rfl) | (simp [*] <;> rfl), by repeat (first | (with_reducible first | exact HB.out | apply below_alloc | apply pw_below_drewN | apply below_drew1))⟩
end Go.Proofs.Ytfocaefnmfkojaa.Q
namespace Go.Proofs.Ytfocaefnmfkojaa.Q
open Go.RowKit Go.Proofs.YtfocaefnmfkojaaW.PrintWords Go.Proofs.YtfocaefnmfkojaaW.PrintLast Go.Proofs.YtfocaefnmfkojaaW.PrintMore
attribute [local go_sem] max2_int min2_int max_two min_two max_three min_three max_four min_four   -- for this text's walks alone
set_option linter.unusedVariables false
set_option linter.unusedSimpArgs false
theorem eqA46 (d : Nat) (w : World) (x0 y0 : Bool) (x1 y1 : Int) (x2 y2 : Int) :
  (Op.equalIn (d + 2) 46 (.agg #[.bool x0, .int .i64 x1, .int .i64 x2]) (.agg #[.bool y0, .int .i64 y1, .int .i64 y2])).run Try.prog w = .ok (x0 == y0 && (x1 == y1 && (x2 == y2))) w := by
 refine eqA_of Try.underlying46 (by kernel_rfl) ?_
 refine eqf_cons (by rfl) (by go_simp; rfl) (by go_simp; rfl) (by go_simp) ?_
 refine eqf_cons (by rfl) (by go_simp; rfl) (by go_simp; rfl) (by go_simp) ?_
 exact eqf_last (by rfl) (by go_simp; rfl) (by go_simp; rfl) (by go_simp)
end Go.Proofs.Ytfocaefnmfkojaa.Q
namespace Go.Proofs.Ytfocaefnmfkojaa.Q
end Go.Proofs.Ytfocaefnmfkojaa.Q
namespace Go.Proofs.Ytfocaefnmfkojaa.Q
open Go.RowKit Go.Proofs.YtfocaefnmfkojaaW.PrintWords Go.Proofs.YtfocaefnmfkojaaW.PrintLast Go.Proofs.YtfocaefnmfkojaaW.PrintMore
attribute [local go_sem] max2_int min2_int max_two min_two max_three min_three max_four min_four   -- for this text's walks alone
set_option linter.unusedVariables false
set_option linter.unusedSimpArgs false
def op_Write.f (a0 : Int) (a1 : Int) : Option (Bool × Int × Int) := some (true, a0, a1)
set_option maxHeartbeats 8000000 in
set_option maxRecDepth 100000 in
theorem op_Write.calls (a0 : Int) (a1 : Int) (r1 : Bool) (r2 : Int) (r3 : Int) (w : World) (h : op_Write.f a0 a1 = some (r1, r2, r3)) :
  Calls Try.prog 60 #[.int .i64 a0, .int .i64 a1] w fun e w' => e = .returned (.agg #[.bool r1, .int .i64 r2, .int .i64 r3]) ∧ Below w.heap.size w w' := by
 have hu46 := Try.underlying46
 have HB := Aside0.mk (Below.refl w.heap.size w)
 have H : (some (true, a0, a1)) = some (r1, r2, r3) := h
 clear h
 simp only [Option.some.injEq, Prod.mk.injEq] at H
 obtain ⟨rfl, rfl, rfl⟩ := H
 go_enter Try.func60, Try.ntmps60
 go_wp2_with (first | ((with_reducible refine gate_dst (N := 4) rfl ?_); refine box_event ?hg (N := 4) ?hd (cs := #[.bool false, .int .i64 0, .int .i64 0]) (t := 46) ?hr ?_; (case hd => rfl); (case hg => rfl); (case hr => first | (go_simp; done) | (go_simp; rfl)); intro gb101 hg w3 hbox hb; have n0_ := Aside0.mk (below_step (by repeat (first | (with_reducible first | exact HB.out | apply below_alloc | apply pw_below_drewN | apply below_drew1))) hb); have n1_ := Aside0.mk (hbox); have n2_ := Aside0.mk ((by rw [hg]; exact (below_size (by repeat (first | (with_reducible first | exact HB.out | apply below_alloc | apply pw_below_drewN | apply below_drew1)))) : w.heap.size ≤ gb101)); have n3_ := Aside0.mk ((by rw [hg]; exact (below_size (by repeat (first | (with_reducible first | exact HB.out | apply below_alloc | apply pw_below_drewN | apply below_drew1)))) : w.heap.size ≤ gb101)); clear HB; have HB := n0_; have BK101 := n1_; have GW101 := n2_; have GE101 := n3_; clear n0_ n1_ n2_ n3_; clear hb hbox hg; have hcz4_0 : w3.cell? ⟨gb101, 0, none⟩ = some (.bool false) := (blk_cell BK101.out 0).trans rfl; have hcz4_1 : w3.cell? ⟨gb101, 1, none⟩ = some (.int .i64 0) := (blk_cell BK101.out 1).trans rfl; have hcz4_2 : w3.cell? ⟨gb101, 2, none⟩ = some (.int .i64 0) := (blk_cell BK101.out 2).trans rfl; have hfz4_0 := blk_frozen BK101.out 0; have hfz4_1 := blk_frozen BK101.out 1; have hfz4_2 := blk_frozen BK101.out 2))
 refine bodyPost_ret (results_cell_row rfl _ _ gb101 46 #[.bool true, .int .i64 a0, .int .i64 a1] (0, 0) _ rfl (by (with_reducible repeat (first | refine blk_drewN ?_ _ | refine blk_drew ?_ | refine blk_alloc ?_ _)); refine blk_put (cs := #[.bool true, .int .i64 a0, .int .i64 0]) ?_ 2 _ rfl; (with_reducible repeat (first | refine blk_drewN ?_ _ | refine blk_drew ?_ | refine blk_alloc ?_ _)); refine blk_put (cs := #[.bool true, .int .i64 0, .int .i64 0]) ?_ 1 _ rfl; (with_reducible repeat (first | refine blk_drewN ?_ _ | refine blk_drew ?_ | refine blk_alloc ?_ _)); refine blk_put (cs := #[.bool false, .int .i64 0, .int .i64 0]) ?_ 0 _ rfl; (with_reducible repeat (first | refine blk_drewN ?_ _ | refine blk_drew ?_ | refine blk_alloc ?_ _)); exact BK101.out) Try.underlying46 rfl (by kernel_rfl)) rfl ?_
 exact ⟨by first | rfl | (simp <;> rfl) | (simp [*] <;> rfl), by repeat (first | (with_reducible first | exact HB.out | apply below_alloc | apply pw_below_drewN | apply below_drew1 | refine below_set ?_ GE101.out))⟩
end Go.Proofs.Ytfocaefnmfkojaa.Q
namespace Go.Proofs.Ytfocaefnmfkojaa.Q
end Go.Proofs.Ytfocaefnmfkojaa.Q
namespace Go.Proofs.Ytfocaefnmfkojaa.Q
end Go.Proofs.Ytfocaefnmfkojaa.Q
namespace Go.Proofs.Ytfocaefnmfkojaa.Q
end Go.Proofs.Ytfocaefnmfkojaa.Q
namespace Go.Proofs.Ytfocaefnmfkojaa.Q
end Go.Proofs.Ytfocaefnmfkojaa.Q
namespace Go.Proofs.Ytfocaefnmfkojaa.Q
end Go.Proofs.Ytfocaefnmfkojaa.Q
namespace Go.Proofs.Ytfocaefnmfkojaa.Q
end Go.Proofs.Ytfocaefnmfkojaa.Q
namespace Go.Proofs.Ytfocaefnmfkojaa.Q
end Go.Proofs.Ytfocaefnmfkojaa.Q
namespace Go.Proofs.Ytfocaefnmfkojaa.Q
end Go.Proofs.Ytfocaefnmfkojaa.Q
namespace Go.Proofs.Ytfocaefnmfkojaa.Q
end Go.Proofs.Ytfocaefnmfkojaa.Q
namespace Go.Proofs.Ytfocaefnmfkojaa.Q
end Go.Proofs.Ytfocaefnmfkojaa.Q
namespace Go.Proofs.Ytfocaefnmfkojaa.Q
end Go.Proofs.Ytfocaefnmfkojaa.Q
namespace Go.Proofs.Ytfocaefnmfkojaa.Q
end Go.Proofs.Ytfocaefnmfkojaa.Q
namespace Go.Proofs.Ytfocaefnmfkojaa.Q
end Go.Proofs.Ytfocaefnmfkojaa.Q
namespace Go.Proofs.Ytfocaefnmfkojaa.Q
end Go.Proofs.Ytfocaefnmfkojaa.Q
namespace Go.Proofs.Ytfocaefnmfkojaa.Q
end Go.Proofs.Ytfocaefnmfkojaa.Q
namespace Go.Proofs.Ytfocaefnmfkojaa.Q
end Go.Proofs.Ytfocaefnmfkojaa.Q
namespace Go.Proofs.Ytfocaefnmfkojaa.Q
end Go.Proofs.Ytfocaefnmfkojaa.Q
namespace Go.Proofs.Ytfocaefnmfkojaa.Q
end Go.Proofs.Ytfocaefnmfkojaa.Q
namespace Go.Proofs.Ytfocaefnmfkojaa.Q
end Go.Proofs.Ytfocaefnmfkojaa.Q
namespace Go.Proofs.Ytfocaefnmfkojaa.Q
end Go.Proofs.Ytfocaefnmfkojaa.Q
namespace Go.Proofs.Ytfocaefnmfkojaa.Q
end Go.Proofs.Ytfocaefnmfkojaa.Q
namespace Go.Proofs.Ytfocaefnmfkojaa.Q
end Go.Proofs.Ytfocaefnmfkojaa.Q
namespace Go.Proofs.Ytfocaefnmfkojaa.Q
end Go.Proofs.Ytfocaefnmfkojaa.Q
namespace Go.Proofs.Ytfocaefnmfkojaa.Q
end Go.Proofs.Ytfocaefnmfkojaa.Q
namespace Go.Proofs.Ytfocaefnmfkojaa.Q
end Go.Proofs.Ytfocaefnmfkojaa.Q
namespace Go.Proofs.Ytfocaefnmfkojaa.Q
end Go.Proofs.Ytfocaefnmfkojaa.Q
namespace Go.Proofs.Ytfocaefnmfkojaa.Q
end Go.Proofs.Ytfocaefnmfkojaa.Q
namespace Go.Proofs.Ytfocaefnmfkojaa.Q
end Go.Proofs.Ytfocaefnmfkojaa.Q
namespace Go.Proofs.Ytfocaefnmfkojaa.Q
end Go.Proofs.Ytfocaefnmfkojaa.Q
namespace Go.Proofs.Ytfocaefnmfkojaa.Q
end Go.Proofs.Ytfocaefnmfkojaa.Q
namespace Go.Proofs.Ytfocaefnmfkojaa.Q
end Go.Proofs.Ytfocaefnmfkojaa.Q
namespace Go.Proofs.Ytfocaefnmfkojaa.Q
end Go.Proofs.Ytfocaefnmfkojaa.Q
namespace Go.Proofs.Ytfocaefnmfkojaa.Q
end Go.Proofs.Ytfocaefnmfkojaa.Q
namespace Go.Proofs.Ytfocaefnmfkojaa.Q
end Go.Proofs.Ytfocaefnmfkojaa.Q
namespace Go.Proofs.Ytfocaefnmfkojaa.Q
end Go.Proofs.Ytfocaefnmfkojaa.Q
namespace Go.Proofs.Ytfocaefnmfkojaa.Q
end Go.Proofs.Ytfocaefnmfkojaa.Q
namespace Go.Proofs.Ytfocaefnmfkojaa.Q
end Go.Proofs.Ytfocaefnmfkojaa.Q
namespace Go.Proofs.Ytfocaefnmfkojaa.Q
end Go.Proofs.Ytfocaefnmfkojaa.Q
namespace Go.Proofs.Ytfocaefnmfkojaa.Q
end Go.Proofs.Ytfocaefnmfkojaa.Q
namespace Go.Proofs.Ytfocaefnmfkojaa.Q
end Go.Proofs.Ytfocaefnmfkojaa.Q
namespace Go.Proofs.Ytfocaefnmfkojaa.Q
end Go.Proofs.Ytfocaefnmfkojaa.Q
namespace Go.Proofs.Ytfocaefnmfkojaa.Q
end Go.Proofs.Ytfocaefnmfkojaa.Q
namespace Go.Proofs.Ytfocaefnmfkojaa.Q
end Go.Proofs.Ytfocaefnmfkojaa.Q
namespace Go.Proofs.Ytfocaefnmfkojaa.Q
end Go.Proofs.Ytfocaefnmfkojaa.Q
namespace Go.Proofs.Ytfocaefnmfkojaa.Q
end Go.Proofs.Ytfocaefnmfkojaa.Q
namespace Go.Proofs.Ytfocaefnmfkojaa.Q
end Go.Proofs.Ytfocaefnmfkojaa.Q
namespace Go.Proofs.Ytfocaefnmfkojaa.Q
end Go.Proofs.Ytfocaefnmfkojaa.Q
namespace Go.Proofs.Ytfocaefnmfkojaa.Q
end Go.Proofs.Ytfocaefnmfkojaa.Q
namespace Go.Proofs.Ytfocaefnmfkojaa.Q
end Go.Proofs.Ytfocaefnmfkojaa.Q
namespace Go.Proofs.Ytfocaefnmfkojaa.Q
end Go.Proofs.Ytfocaefnmfkojaa.Q
namespace Go.Proofs.Ytfocaefnmfkojaa.Q
end Go.Proofs.Ytfocaefnmfkojaa.Q
namespace Go.Proofs.Ytfocaefnmfkojaa.Q
end Go.Proofs.Ytfocaefnmfkojaa.Q
namespace Go.Proofs.Ytfocaefnmfkojaa.Q
end Go.Proofs.Ytfocaefnmfkojaa.Q
namespace Go.Proofs.Ytfocaefnmfkojaa.Q
end Go.Proofs.Ytfocaefnmfkojaa.Q
namespace Go.Proofs.Ytfocaefnmfkojaa.Q
end Go.Proofs.Ytfocaefnmfkojaa.Q
namespace Go.Proofs.Ytfocaefnmfkojaa.Q
end Go.Proofs.Ytfocaefnmfkojaa.Q
namespace Go.Proofs.Ytfocaefnmfkojaa.Q
open Go.RowKit Go.Proofs.YtfocaefnmfkojaaW.PrintWords Go.Proofs.YtfocaefnmfkojaaW.PrintLast Go.Proofs.YtfocaefnmfkojaaW.PrintMore
attribute [local go_sem] max2_int min2_int max_two min_two max_three min_three max_four min_four   -- for this text's walks alone
set_option linter.unusedVariables false
set_option linter.unusedSimpArgs false
def history_Ops.l0 : Nat → Int → List (S44) → Int → Int → Option (Int)
 | 0, _, _, _, _ => none
 | k + 1, x3, x6, x7, x8 => if x8 < x7 then (if 0 ≤ x8 then (if x8 < (x6.length : Int) then (history_Ops.l0 k (wrap64 (x3 + (((rd_T44 x6 x8).f3).length : Int))) x6 x7 (wrap64 (x8 + 1))) else (none)) else (none)) else (some x3)
def history_Ops.f (k : Nat) (l0 : List (S44)) : Option (Int) := history_Ops.l0 k 0 l0 (l0.length : Int) 0
set_option maxHeartbeats 8000000 in
set_option maxRecDepth 100000 in
theorem history_Ops.calls (k : Nat) (A0 : Option Addr) (c0 : Nat) (l0 : List (S44)) (r : Int) (w : World) (hr0 : Kd.C k44 w A0 l0.length l0) (hc0 : l0.length ≤ c0) (h : history_Ops.f k l0 = some r) :
  Calls Try.prog 26 #[.slice A0 l0.length c0] w fun e w' => e = .returned (.int .i64 r) ∧ Below w.heap.size w w' := by
 have hu44 := Try.underlying44
 have HR0 := Aside0.mk hr0
 have HC0 := Aside0.mk hc0
 clear hr0 hc0
 have HB := Aside0.mk (Below.refl w.heap.size w)
 have H : (history_Ops.l0 k 0 l0 (l0.length : Int) 0) = some r := h
 clear h
 have H' := Aside0.mk H
 clear H
 go_enter Try.func26, Try.ntmps26
 go_wp2
 go_loopg [3, 8] k (fun kq v3 v8 w' => ∃ (x3_1 : Int) (x8_1 : Int), v3 = .int .i64 x3_1 ∧ v8 = .int .i64 x8_1 ∧ Aside0 (history_Ops.l0 kq x3_1 l0 (l0.length : Int) x8_1 = some r) ∧ Aside0 (kq ≤ k) ∧ Aside0 (Below w.heap.size w w'))
 case atStart => exact ⟨(0), (0), (by first | rfl | (simp; done) | (simp [*]; done)), (by first | rfl | (simp; done) | (simp [*]; done)), H', ⟨Nat.le_refl _⟩, ⟨by repeat (first | (with_reducible first | exact HB.out | apply below_alloc | apply pw_below_drewN | apply below_drew1))⟩⟩
 case round =>
  clear H'
  obtain ⟨x3_1, x8_1, rfl, rfl, HA, HK1, HB⟩ := hrel
  cases gk with
  | zero => exact absurd HA.out (by simp [history_Ops.l0])
  | succ k1 =>
   have H := HA.out
   clear HA
   simp only [history_Ops.l0] at H
   by_cases c2 : x8_1 < (l0.length : Int)
   ·rw [if_pos c2] at H
    have c2b0 : decide (x8_1 < (l0.length : Int)) = true := decide_eq_true c2
    clear c2
    by_cases c3 : 0 ≤ x8_1
    ·rw [if_pos c3] at H
     have c3b0 : decide (0 ≤ x8_1) = true := decide_eq_true c3
     clear c3
     by_cases c4 : x8_1 < (l0.length : Int)
     ·rw [if_pos c4] at H
      have c4b0 : decide (x8_1 < (l0.length : Int)) = true := decide_eq_true c4
      clear c4
      have H' := Aside0.mk H
      clear H
      have p101 : 0 ≤ (x8_1 : Int) := of_decide_eq_true (by assumption)
      have q101 : x8_1 < (l0.length : Int) := of_decide_eq_true (by assumption)
      obtain ⟨ad101, A101_3, c101_3, e101, hx101_0, hx101_1, hx101_2, hx101_3, hl101_3, hi101_3⟩ := at_T44 HR0.out x8_1 p101 q101
      cases e101
      replace hx101_0 := (HB.out.cell (World.block_lt_of_cell? w _ hx101_0)).trans hx101_0
      replace hx101_1 := (HB.out.cell (World.block_lt_of_cell? w _ hx101_1)).trans hx101_1
      replace hx101_2 := (HB.out.cell (World.block_lt_of_cell? w _ hx101_2)).trans hx101_2
      replace hx101_3 := (HB.out.cell (World.block_lt_of_cell? w _ hx101_3)).trans hx101_3
      have HR101_3 := Aside0.mk hi101_3
      have HC101_3 := Aside0.mk hl101_3
      clear hi101_3 hl101_3
      replace p101 := eq_true p101
      replace q101 := eq_true q101
      go_wp2_with (first | ((with_reducible refine gate_dst (N := 5) rfl ?_); refine box_event ?hg (N := 5) ?hd (cs := #[.int .i64 0, .int .i64 0, .int .i64 0, .slice none 0 0]) (t := 44) ?hr ?_; (case hd => rfl); (case hg => rfl); (case hr => first | (go_simp; done) | (go_simp; rfl)); intro gb102 hg w5 hbox hb; have n0_ := Aside0.mk (below_step (by repeat (first | (with_reducible first | exact HB.out | apply below_alloc | apply pw_below_drewN | apply below_drew1))) hb); have n1_ := Aside0.mk (hbox); have n2_ := Aside0.mk ((by rw [hg]; exact (below_size (by repeat (first | (with_reducible first | exact HB.out | apply below_alloc | apply pw_below_drewN | apply below_drew1)))) : w.heap.size ≤ gb102)); have n3_ := Aside0.mk ((by rw [hg]; exact (below_size (by repeat (first | (with_reducible first | exact HB.out | apply below_alloc | apply pw_below_drewN | apply below_drew1)))) : w.heap.size ≤ gb102)); clear HB; have HB := n0_; have BK102 := n1_; have GW102 := n2_; have GE102 := n3_; clear n0_ n1_ n2_ n3_; clear hb hbox hg; have hcz6_0 : w5.cell? ⟨gb102, 0, none⟩ = some (.int .i64 0) := (blk_cell BK102.out 0).trans rfl; have hcz6_1 : w5.cell? ⟨gb102, 1, none⟩ = some (.int .i64 0) := (blk_cell BK102.out 1).trans rfl; have hcz6_2 : w5.cell? ⟨gb102, 2, none⟩ = some (.int .i64 0) := (blk_cell BK102.out 2).trans rfl; have hcz6_3 : w5.cell? ⟨gb102, 3, none⟩ = some (.slice none 0 0) := (blk_cell BK102.out 3).trans rfl; have hfz6_0 := blk_frozen BK102.out 0; have hfz6_1 := blk_frozen BK102.out 1; have hfz6_2 := blk_frozen BK102.out 2; have hfz6_3 := blk_frozen BK102.out 3))
      go_roundg k1
      case measure => have := HK1.out; omega
      case rel => exact ⟨(wrap64 (x3_1 + (((rd_T44 l0 x8_1).f3).length : Int))), (wrap64 (x8_1 + 1)), (by first | rfl | (simp; done) | (simp [*]; done)), (by first | rfl | (simp; done) | (simp [*]; done)), H', ⟨by have := HK1.out; omega⟩, ⟨by repeat (first | (with_reducible first | exact HB.out | apply below_alloc | apply pw_below_drewN | apply below_drew1 | refine below_set ?_ GE102.out))⟩⟩
     ·rw [if_neg c4] at H
      exact absurd H (by simp)
    ·rw [if_neg c3] at H
     exact absurd H (by simp)
   ·rw [if_neg c2] at H
    have c2b0 : decide (x8_1 < (l0.length : Int)) = false := decide_eq_false c2
    clear c2
    obtain rfl := Option.some.inj H
    go_wp2
    go_ret
    exact ⟨by first | rfl | (simp <;> rfl) | (simp [*] <;> rfl), by repeat (first | (with_reducible first | exact HB.out | apply below_alloc | apply pw_below_drewN | apply below_drew1))⟩
end Go.Proofs.Ytfocaefnmfkojaa.Q
