/- A part of the proof of historyWrites_holds: words and contracts that its last text uses. -/
import Derived.Test.YtfocaefnmfkojaaCHistoryWrites2
namespace Go.Proofs.Ytfocaefnmfkojaa.Q
open Go.RowKit Go.Proofs.YtfocaefnmfkojaaW.PrintWords Go.Proofs.YtfocaefnmfkojaaW.PrintLast Go.Proofs.YtfocaefnmfkojaaW.PrintMore
attribute [local go_sem] max2_int min2_int max_two min_two max_three min_three max_four min_four   -- for this text's walks alone
set_option linter.unusedVariables false
set_option linter.unusedSimpArgs false
def ref06_mayOp.f (a0_0 : Bool) (a0_1 : Int) (a0_2 : Int) : Option (Bool) := if a0_1 < 0 then (some false) else (if a0_1 > 63 then (some false) else (if a0_2 < 0 then (some false) else (if a0_2 > 2147483647 then (some false) else (if a0_0 = true then (some (a0_2 != 0)) else (some true)))))
set_option maxHeartbeats 8000000 in
set_option maxRecDepth 100000 in
theorem ref06_mayOp.calls (a0_0 : Bool) (a0_1 : Int) (a0_2 : Int) (r : Bool) (w : World) (h : ref06_mayOp.f a0_0 a0_1 a0_2 = some r) :
  Calls Try.prog 103 #[.agg #[.bool a0_0, .int .i64 a0_1, .int .i64 a0_2]] w fun e w' => e = .returned (.bool r) ∧ Below w.heap.size w w' := by
 have hu46 := Try.underlying46
 have HB := Aside0.mk (Below.refl w.heap.size w)
 have H : (if a0_1 < 0 then (some false) else (if a0_1 > 63 then (some false) else (if a0_2 < 0 then (some false) else (if a0_2 > 2147483647 then (some false) else (if a0_0 = true then (some (a0_2 != 0)) else (some true)))))) = some r := h
 clear h
 by_cases c2 : a0_1 < 0
 ·rw [if_pos c2] at H
  have c2b0 : decide (a0_1 < 0) = true := decide_eq_true c2
  clear c2
  obtain rfl := Option.some.inj H
  go_enter Try.func103, Try.ntmps103
  go_wp2_with (first | ((with_reducible refine gate_dst (N := 1) rfl ?_); refine box_event ?hg (N := 1) ?hd (cs := #[.bool a0_0, .int .i64 a0_1, .int .i64 a0_2]) (t := 46) ?hr ?_; (case hd => rfl); (case hg => rfl); (case hr => first | (go_simp; done) | (go_simp; rfl)); intro gb101 hg w3 hbox hb; have n0_ := Aside0.mk (below_step (by repeat (first | (with_reducible first | exact HB.out | apply below_alloc | apply pw_below_drewN | apply below_drew1))) hb); have n1_ := Aside0.mk (hbox); have n2_ := Aside0.mk ((by rw [hg]; exact (below_size (by repeat (first | (with_reducible first | exact HB.out | apply below_alloc | apply pw_below_drewN | apply below_drew1)))) : w.heap.size ≤ gb101)); have n3_ := Aside0.mk ((by rw [hg]; exact (below_size (by repeat (first | (with_reducible first | exact HB.out | apply below_alloc | apply pw_below_drewN | apply below_drew1)))) : w.heap.size ≤ gb101)); clear HB; have HB := n0_; have BK101 := n1_; have GW101 := n2_; have GE101 := n3_; clear n0_ n1_ n2_ n3_; clear hb hbox hg; have hcz4_0 : w3.cell? ⟨gb101, 0, none⟩ = some (.bool a0_0) := (blk_cell BK101.out 0).trans rfl; have hcz4_1 : w3.cell? ⟨gb101, 1, none⟩ = some (.int .i64 a0_1) := (blk_cell BK101.out 1).trans rfl; have hcz4_2 : w3.cell? ⟨gb101, 2, none⟩ = some (.int .i64 a0_2) := (blk_cell BK101.out 2).trans rfl; have hfz4_0 := blk_frozen BK101.out 0; have hfz4_1 := blk_frozen BK101.out 1; have hfz4_2 := blk_frozen BK101.out 2))
  go_ret
  exact ⟨by first | rfl | (simp <;> rfl) | (simp [*] <;> rfl), by repeat (first | (with_reducible first | exact HB.out | apply below_alloc | apply pw_below_drewN | apply below_drew1 | refine below_set ?_ GE101.out))⟩
 ·rw [if_neg c2] at H
  have c2b0 : decide (a0_1 < 0) = false := decide_eq_false c2
  clear c2
  by_cases c5 : a0_1 > 63
  ·rw [if_pos c5] at H
   have c5b0 : decide (63 < a0_1) = true := decide_eq_true c5
   clear c5
   obtain rfl := Option.some.inj H
   go_enter Try.func103, Try.ntmps103
   go_wp2_with (first | ((with_reducible refine gate_dst (N := 1) rfl ?_); refine box_event ?hg (N := 1) ?hd (cs := #[.bool a0_0, .int .i64 a0_1, .int .i64 a0_2]) (t := 46) ?hr ?_; (case hd => rfl); (case hg => rfl); (case hr => first | (go_simp; done) | (go_simp; rfl)); intro gb101 hg w6 hbox hb; have n0_ := Aside0.mk (below_step (by repeat (first | (with_reducible first | exact HB.out | apply below_alloc | apply pw_below_drewN | apply below_drew1))) hb); have n1_ := Aside0.mk (hbox); have n2_ := Aside0.mk ((by rw [hg]; exact (below_size (by repeat (first | (with_reducible first | exact HB.out | apply below_alloc | apply pw_below_drewN | apply below_drew1)))) : w.heap.size ≤ gb101)); have n3_ := Aside0.mk ((by rw [hg]; exact (below_size (by repeat (first | (with_reducible first | exact HB.out | apply below_alloc | apply pw_below_drewN | apply below_drew1)))) : w.heap.size ≤ gb101)); clear HB; have HB := n0_; have BK101 := n1_; have GW101 := n2_; have GE101 := n3_; clear n0_ n1_ n2_ n3_; clear hb hbox hg; have hcz7_0 : w6.cell? ⟨gb101, 0, none⟩ = some (.bool a0_0) := (blk_cell BK101.out 0).trans rfl; have hcz7_1 : w6.cell? ⟨gb101, 1, none⟩ = some (.int .i64 a0_1) := (blk_cell BK101.out 1).trans rfl; have hcz7_2 : w6.cell? ⟨gb101, 2, none⟩ = some (.int .i64 a0_2) := (blk_cell BK101.out 2).trans rfl; have hfz7_0 := blk_frozen BK101.out 0; have hfz7_1 := blk_frozen BK101.out 1; have hfz7_2 := blk_frozen BK101.out 2))
   go_ret
   exact ⟨by first | rfl | (simp <;> rfl) | (simp [*] <;> rfl), by repeat (first | (with_reducible first | exact HB.out | apply below_alloc | apply pw_below_drewN | apply below_drew1 | refine below_set ?_ GE101.out))⟩
  ·rw [if_neg c5] at H
   have c5b0 : decide (63 < a0_1) = false := decide_eq_false c5
   clear c5
   by_cases c8 : a0_2 < 0
   ·rw [if_pos c8] at H
    have c8b0 : decide (a0_2 < 0) = true := decide_eq_true c8
    clear c8
    obtain rfl := Option.some.inj H
    go_enter Try.func103, Try.ntmps103
    go_wp2_with (first | ((with_reducible refine gate_dst (N := 1) rfl ?_); refine box_event ?hg (N := 1) ?hd (cs := #[.bool a0_0, .int .i64 a0_1, .int .i64 a0_2]) (t := 46) ?hr ?_; (case hd => rfl); (case hg => rfl); (case hr => first | (go_simp; done) | (go_simp; rfl)); intro gb101 hg w9 hbox hb; have n0_ := Aside0.mk (below_step (by repeat (first | (with_reducible first | exact HB.out | apply below_alloc | apply pw_below_drewN | apply below_drew1))) hb); have n1_ := Aside0.mk (hbox); have n2_ := Aside0.mk ((by rw [hg]; exact (below_size (by repeat (first | (with_reducible first | exact HB.out | apply below_alloc | apply pw_below_drewN | apply below_drew1)))) : w.heap.size ≤ gb101)); have n3_ := Aside0.mk ((by rw [hg]; exact (below_size (by repeat (first | (with_reducible first | exact HB.out | apply below_alloc | apply pw_below_drewN | apply below_drew1)))) : w.heap.size ≤ gb101)); clear HB; have HB := n0_; have BK101 := n1_; have GW101 := n2_; have GE101 := n3_; clear n0_ n1_ n2_ n3_; clear hb hbox hg; have hcz10_0 : w9.cell? ⟨gb101, 0, none⟩ = some (.bool a0_0) := (blk_cell BK101.out 0).trans rfl; have hcz10_1 : w9.cell? ⟨gb101, 1, none⟩ = some (.int .i64 a0_1) := (blk_cell BK101.out 1).trans rfl; have hcz10_2 : w9.cell? ⟨gb101, 2, none⟩ = some (.int .i64 a0_2) := (blk_cell BK101.out 2).trans rfl; have hfz10_0 := blk_frozen BK101.out 0; have hfz10_1 := blk_frozen BK101.out 1; have hfz10_2 := blk_frozen BK101.out 2))
    go_ret
    exact ⟨by first | rfl | (simp <;> rfl) | (simp [*] <;> rfl), by repeat (first | (with_reducible first | exact HB.out | apply below_alloc | apply pw_below_drewN | apply below_drew1 | refine below_set ?_ GE101.out))⟩
   ·rw [if_neg c8] at H
    have c8b0 : decide (a0_2 < 0) = false := decide_eq_false c8
    clear c8
    by_cases c11 : a0_2 > 2147483647
    ·rw [if_pos c11] at H
     have c11b0 : decide (2147483647 < a0_2) = true := decide_eq_true c11
     clear c11
     obtain rfl := Option.some.inj H
     go_enter Try.func103, Try.ntmps103
     go_wp2_with (first | ((with_reducible refine gate_dst (N := 1) rfl ?_); refine box_event ?hg (N := 1) ?hd (cs := #[.bool a0_0, .int .i64 a0_1, .int .i64 a0_2]) (t := 46) ?hr ?_; (case hd => rfl); (case hg => rfl); (case hr => first | (go_simp; done) | (go_simp; rfl)); intro gb101 hg w12 hbox hb; have n0_ := Aside0.mk (below_step (by repeat (first | (with_reducible first | exact HB.out | apply below_alloc | apply pw_below_drewN | apply below_drew1))) hb); have n1_ := Aside0.mk (hbox); have n2_ := Aside0.mk ((by rw [hg]; exact (below_size (by repeat (first | (with_reducible first | exact HB.out | apply below_alloc | apply pw_below_drewN | apply below_drew1)))) : w.heap.size ≤ gb101)); have n3_ := Aside0.mk ((by rw [hg]; exact (below_size (by repeat (first | (with_reducible first | exact HB.out | apply below_alloc | apply pw_below_drewN | apply below_drew1)))) : w.heap.size ≤ gb101)); clear HB; have HB := n0_; have BK101 := n1_; have GW101 := n2_; have GE101 := n3_; clear n0_ n1_ n2_ n3_; clear hb hbox hg; have hcz13_0 : w12.cell? ⟨gb101, 0, none⟩ = some (.bool a0_0) := (blk_cell BK101.out 0).trans rfl; have hcz13_1 : w12.cell? ⟨gb101, 1, none⟩ = some (.int .i64 a0_1) := (blk_cell BK101.out 1).trans rfl; have hcz13_2 : w12.cell? ⟨gb101, 2, none⟩ = some (.int .i64 a0_2) := (blk_cell BK101.out 2).trans rfl; have hfz13_0 := blk_frozen BK101.out 0; have hfz13_1 := blk_frozen BK101.out 1; have hfz13_2 := blk_frozen BK101.out 2))
     go_ret
     exact ⟨by first | rfl | (simp <;> rfl) | (simp [*] <;> rfl), by repeat (first | (with_reducible first | exact HB.out | apply below_alloc | apply pw_below_drewN | apply below_drew1 | refine below_set ?_ GE101.out))⟩
    ·rw [if_neg c11] at H
     have c11b0 : decide (2147483647 < a0_2) = false := decide_eq_false c11
     clear c11
     by_cases c14 : a0_0 = true
     ·subst c14
      have H1 : (some (a0_2 != 0)) = some r := by rw [if_pos rfl] at H; exact H
      clear H
      have H := H1
      clear H1
      obtain rfl := Option.some.inj H
      go_enter Try.func103, Try.ntmps103
      go_wp2_with (first | ((with_reducible refine gate_dst (N := 1) rfl ?_); refine box_event ?hg (N := 1) ?hd (cs := #[.bool true, .int .i64 a0_1, .int .i64 a0_2]) (t := 46) ?hr ?_; (case hd => rfl); (case hg => rfl); (case hr => first | (go_simp; done) | (go_simp; rfl)); intro gb101 hg w15 hbox hb; have n0_ := Aside0.mk (below_step (by repeat (first | (with_reducible first | exact HB.out | apply below_alloc | apply pw_below_drewN | apply below_drew1))) hb); have n1_ := Aside0.mk (hbox); have n2_ := Aside0.mk ((by rw [hg]; exact (below_size (by repeat (first | (with_reducible first | exact HB.out | apply below_alloc | apply pw_below_drewN | apply below_drew1)))) : w.heap.size ≤ gb101)); have n3_ := Aside0.mk ((by rw [hg]; exact (below_size (by repeat (first | (with_reducible first | exact HB.out | apply below_alloc | apply pw_below_drewN | apply below_drew1)))) : w.heap.size ≤ gb101)); clear HB; have HB := n0_; have BK101 := n1_; have GW101 := n2_; have GE101 := n3_; clear n0_ n1_ n2_ n3_; clear hb hbox hg; have hcz16_0 : w15.cell? ⟨gb101, 0, none⟩ = some (.bool true) := (blk_cell BK101.out 0).trans rfl; have hcz16_1 : w15.cell? ⟨gb101, 1, none⟩ = some (.int .i64 a0_1) := (blk_cell BK101.out 1).trans rfl; have hcz16_2 : w15.cell? ⟨gb101, 2, none⟩ = some (.int .i64 a0_2) := (blk_cell BK101.out 2).trans rfl; have hfz16_0 := blk_frozen BK101.out 0; have hfz16_1 := blk_frozen BK101.out 1; have hfz16_2 := blk_frozen BK101.out 2))
      go_ret
      exact ⟨by first | rfl | (simp <;> rfl) | (simp [*] <;> rfl), by repeat (first | (with_reducible first | exact HB.out | apply below_alloc | apply pw_below_drewN | apply below_drew1 | refine below_set ?_ GE101.out))⟩
     ·replace c14 := Bool.eq_false_iff.mpr c14
      subst c14
      have H1 : (some true) = some r := by rw [if_neg (show ¬ (false = true) by decide)] at H; exact H
      clear H
      have H := H1
      clear H1
      obtain rfl := Option.some.inj H
      go_enter Try.func103, Try.ntmps103
      go_wp2_with (first | ((with_reducible refine gate_dst (N := 1) rfl ?_); refine box_event ?hg (N := 1) ?hd (cs := #[.bool false, .int .i64 a0_1, .int .i64 a0_2]) (t := 46) ?hr ?_; (case hd => rfl); (case hg => rfl); (case hr => first | (go_simp; done) | (go_simp; rfl)); intro gb101 hg w17 hbox hb; have n0_ := Aside0.mk (below_step (by repeat (first | (with_reducible first | exact HB.out | apply below_alloc | apply pw_below_drewN | apply below_drew1))) hb); have n1_ := Aside0.mk (hbox); have n2_ := Aside0.mk ((by rw [hg]; exact (below_size (by repeat (first | (with_reducible first | exact HB.out | apply below_alloc | apply pw_below_drewN | apply below_drew1)))) : w.heap.size ≤ gb101)); have n3_ := Aside0.mk ((by rw [hg]; exact (below_size (by repeat (first | (with_reducible first | exact HB.out | apply below_alloc | apply pw_below_drewN | apply below_drew1)))) : w.heap.size ≤ gb101)); clear HB; have HB := n0_; have BK101 := n1_; have GW101 := n2_; have GE101 := n3_; clear n0_ n1_ n2_ n3_; clear hb hbox hg; have hcz18_0 : w17.cell? ⟨gb101, 0, none⟩ = some (.bool false) := (blk_cell BK101.out 0).trans rfl; have hcz18_1 : w17.cell? ⟨gb101, 1, none⟩ = some (.int .i64 a0_1) := (blk_cell BK101.out 1).trans rfl; have hcz18_2 : w17.cell? ⟨gb101, 2, none⟩ = some (.int .i64 a0_2) := (blk_cell BK101.out 2).trans rfl; have hfz18_0 := blk_frozen BK101.out 0; have hfz18_1 := blk_frozen BK101.out 1; have hfz18_2 := blk_frozen BK101.out 2))
      go_ret
      exact ⟨by first | rfl | (simp <;> rfl) | (simp [*] <;> rfl), by repeat (first | (with_reducible first | exact HB.out | apply below_alloc | apply pw_below_drewN | apply below_drew1 | refine below_set ?_ GE101.out))⟩
end Go.Proofs.Ytfocaefnmfkojaa.Q
namespace Go.Proofs.Ytfocaefnmfkojaa.Q
open Go.RowKit Go.Proofs.YtfocaefnmfkojaaW.PrintWords Go.Proofs.YtfocaefnmfkojaaW.PrintLast Go.Proofs.YtfocaefnmfkojaaW.PrintMore
attribute [local go_sem] max2_int min2_int max_two min_two max_three min_three max_four min_four   -- for this text's walks alone
set_option linter.unusedVariables false
set_option linter.unusedSimpArgs false
mutual
def ref06_mayTxn.j0 : Nat → Bool → Int → Int → Int → List (S46) → Option (Bool)
 | 0, _, _, _, _, _ => none
 | k + 1, x40, x102000, x102001, x102002, x102003 => if x40 = true then (some false) else (ref06_mayTxn.l0 k 0 x102000 x102001 x102002 x102003)
def ref06_mayTxn.l0 : Nat → Int → Int → Int → Int → List (S46) → Option (Bool)
 | 0, _, _, _, _, _ => none
 | k + 1, x3, x102000, x102001, x102002, x102003 => if x3 < (x102003.length : Int) then (if 0 ≤ x3 then ((ref06_mayOp.f ((rd_T46 x102003 x3).f0) ((rd_T46 x102003 x3).f1) ((rd_T46 x102003 x3).f2)).bind fun t103 => (if t103 = true then (ref06_mayTxn.l0 k (wrap64 (x3 + 1)) x102000 x102001 x102002 x102003) else (some false))) else (none)) else (some true)
end
def ref06_mayTxn.f (k : Nat) (a0_0 : Int) (a0_1 : Int) (a0_2 : Int) (l0_3 : List (S46)) : Option (Bool) := if a0_0 < 0 then (ref06_mayTxn.j0 k true a0_0 a0_1 a0_2 l0_3) else (if a0_0 > 63 then (ref06_mayTxn.j0 k true a0_0 a0_1 a0_2 l0_3) else (if a0_1 < 0 then (ref06_mayTxn.j0 k true a0_0 a0_1 a0_2 l0_3) else (if a0_1 ≥ a0_2 then (ref06_mayTxn.j0 k true a0_0 a0_1 a0_2 l0_3) else (if a0_2 > 2147483647 then (ref06_mayTxn.j0 k true a0_0 a0_1 a0_2 l0_3) else (if (l0_3.length : Int) < 1 then (ref06_mayTxn.j0 k true a0_0 a0_1 a0_2 l0_3) else (ref06_mayTxn.j0 k (decide ((l0_3.length : Int) > 64)) a0_0 a0_1 a0_2 l0_3))))))
set_option maxHeartbeats 8000000 in
set_option maxRecDepth 100000 in
theorem ref06_mayTxn.calls (k : Nat) (a0_0 : Int) (a0_1 : Int) (a0_2 : Int) (A0_3 : Option Addr) (c0_3 : Nat) (l0_3 : List (S46)) (r : Bool) (w : World) (hr0_3 : Kd.C k46 w A0_3 l0_3.length l0_3) (hc0_3 : l0_3.length ≤ c0_3) (h : ref06_mayTxn.f k a0_0 a0_1 a0_2 l0_3 = some r) :
  Calls Try.prog 90 #[.agg #[.int .i64 a0_0, .int .i64 a0_1, .int .i64 a0_2, .slice A0_3 l0_3.length c0_3]] w fun e w' => e = .returned (.bool r) ∧ Below w.heap.size w w' := by
 have hu44 := Try.underlying44
 have hu46 := Try.underlying46
 have HR0_3 := Aside0.mk hr0_3
 have HC0_3 := Aside0.mk hc0_3
 clear hr0_3 hc0_3
 have HB := Aside0.mk (Below.refl w.heap.size w)
 have H : (if a0_0 < 0 then (ref06_mayTxn.j0 k true a0_0 a0_1 a0_2 l0_3) else (if a0_0 > 63 then (ref06_mayTxn.j0 k true a0_0 a0_1 a0_2 l0_3) else (if a0_1 < 0 then (ref06_mayTxn.j0 k true a0_0 a0_1 a0_2 l0_3) else (if a0_1 ≥ a0_2 then (ref06_mayTxn.j0 k true a0_0 a0_1 a0_2 l0_3) else (if a0_2 > 2147483647 then (ref06_mayTxn.j0 k true a0_0 a0_1 a0_2 l0_3) else (if (l0_3.length : Int) < 1 then (ref06_mayTxn.j0 k true a0_0 a0_1 a0_2 l0_3) else (ref06_mayTxn.j0 k (decide ((l0_3.length : Int) > 64)) a0_0 a0_1 a0_2 l0_3))))))) = some r := h
 clear h
 have HC2 := Aside0.mk H
 clear H
 go_enter Try.func90, Try.ntmps90
 go_upto_region 1 with (first | ((with_reducible refine gate_dst (N := 1) rfl ?_); (try (refine gate_guard (by rfl) ?_; dsimp only)); refine box_event ?hg (N := 1) ?hd (cs := #[.int .i64 a0_0, .int .i64 a0_1, .int .i64 a0_2, .slice A0_3 l0_3.length c0_3]) (t := 44) ?hr ?_; (case hd => rfl); (case hg => rfl); (case hr => first | (go_simp; done) | (go_simp; rfl)); intro gb101 hg w3 hbox hb; have n0_ := Aside0.mk (below_step (by repeat (first | (with_reducible first | exact HB.out | apply below_alloc | apply pw_below_drewN | apply below_drew1))) hb); have n1_ := Aside0.mk (hbox); have n2_ := Aside0.mk ((by rw [hg]; exact (below_size (by repeat (first | (with_reducible first | exact HB.out | apply below_alloc | apply pw_below_drewN | apply below_drew1)))) : w.heap.size ≤ gb101)); have n3_ := Aside0.mk ((by rw [hg]; exact (below_size (by repeat (first | (with_reducible first | exact HB.out | apply below_alloc | apply pw_below_drewN | apply below_drew1)))) : w.heap.size ≤ gb101)); clear HB; have HB := n0_; have BK101 := n1_; have GW101 := n2_; have GE101 := n3_; clear n0_ n1_ n2_ n3_; clear hb hbox hg))
 (try simp only [Act.put, List.setIfInBounds_toArray, List.set_cons_zero, List.set_cons_succ])
 go_cut [40] (fun v40 wc => ∃ (kq : Nat) (x40_1 : Bool), v40 = .bool x40_1 ∧ Aside0 (ref06_mayTxn.j0 kq x40_1 a0_0 a0_1 a0_2 l0_3 = some r) ∧ Aside0 (kq ≤ k) ∧ Aside0 (wc.heap[gb101]? = some (.cells #[.int .i64 a0_0, .int .i64 a0_1, .int .i64 a0_2, (.slice A0_3 l0_3.length c0_3)] 44 (0, 0))) ∧ Aside0 (Below w.heap.size w wc))
 case first =>
  have H := HC2.out
  clear HC2
  by_cases c4 : a0_0 < 0
  ·rw [if_pos c4] at H
   have c4b0 : decide (a0_0 < 0) = true := decide_eq_true c4
   clear c4
   (first | rw [c4b0] | (simp only [i64_w, i32_w]; rw [c4b0]) | skip)
   have H' := Aside0.mk H
   clear H
   have hcz5_0 : w3.cell? ⟨gb101, 0, none⟩ = some (.int .i64 a0_0) := (blk_cell BK101.out 0).trans rfl
   have hcz5_1 : w3.cell? ⟨gb101, 1, none⟩ = some (.int .i64 a0_1) := (blk_cell BK101.out 1).trans rfl
   have hcz5_2 : w3.cell? ⟨gb101, 2, none⟩ = some (.int .i64 a0_2) := (blk_cell BK101.out 2).trans rfl
   have hcz5_3 : w3.cell? ⟨gb101, 3, none⟩ = some (.slice A0_3 l0_3.length c0_3) := (blk_cell BK101.out 3).trans rfl
   have hfz5_0 := blk_frozen BK101.out 0
   have hfz5_1 := blk_frozen BK101.out 1
   have hfz5_2 := blk_frozen BK101.out 2
   have hfz5_3 := blk_frozen BK101.out 3
   go_wp2
   go_meet
   case rel => exact ⟨_, (true), (by first | rfl | (simp; done) | (simp [*]; done)), H', ⟨by first | omega | exact Nat.le_refl _⟩, ⟨by (with_reducible repeat (first | refine blk_drewN ?_ _ | refine blk_drew ?_ | refine blk_alloc ?_ _)); exact BK101.out⟩, ⟨by repeat (first | (with_reducible first | exact HB.out | apply below_alloc | apply pw_below_drewN | apply below_drew1 | refine below_set ?_ GE101.out))⟩⟩
  ·rw [if_neg c4] at H
   have c4b0 : decide (a0_0 < 0) = false := decide_eq_false c4
   clear c4
   (first | rw [c4b0] | (simp only [i64_w, i32_w]; rw [c4b0]) | skip)
   by_cases c6 : a0_0 > 63
   ·rw [if_pos c6] at H
    have c6b0 : decide (63 < a0_0) = true := decide_eq_true c6
    clear c6
    have H' := Aside0.mk H
    clear H
    have hcz7_0 : w3.cell? ⟨gb101, 0, none⟩ = some (.int .i64 a0_0) := (blk_cell BK101.out 0).trans rfl
    have hcz7_1 : w3.cell? ⟨gb101, 1, none⟩ = some (.int .i64 a0_1) := (blk_cell BK101.out 1).trans rfl
    have hcz7_2 : w3.cell? ⟨gb101, 2, none⟩ = some (.int .i64 a0_2) := (blk_cell BK101.out 2).trans rfl
    have hcz7_3 : w3.cell? ⟨gb101, 3, none⟩ = some (.slice A0_3 l0_3.length c0_3) := (blk_cell BK101.out 3).trans rfl
    have hfz7_0 := blk_frozen BK101.out 0
    have hfz7_1 := blk_frozen BK101.out 1
    have hfz7_2 := blk_frozen BK101.out 2
    have hfz7_3 := blk_frozen BK101.out 3
    go_wp2
    go_meet
    case rel => exact ⟨_, (true), (by first | rfl | (simp; done) | (simp [*]; done)), H', ⟨by first | omega | exact Nat.le_refl _⟩, ⟨by (with_reducible repeat (first | refine blk_drewN ?_ _ | refine blk_drew ?_ | refine blk_alloc ?_ _)); exact BK101.out⟩, ⟨by repeat (first | (with_reducible first | exact HB.out | apply below_alloc | apply pw_below_drewN | apply below_drew1 | refine below_set ?_ GE101.out))⟩⟩
   ·rw [if_neg c6] at H
    have c6b0 : decide (63 < a0_0) = false := decide_eq_false c6
    clear c6
    by_cases c8 : a0_1 < 0
    ·rw [if_pos c8] at H
     have c8b0 : decide (a0_1 < 0) = true := decide_eq_true c8
     clear c8
     have H' := Aside0.mk H
     clear H
     have hcz9_0 : w3.cell? ⟨gb101, 0, none⟩ = some (.int .i64 a0_0) := (blk_cell BK101.out 0).trans rfl
     have hcz9_1 : w3.cell? ⟨gb101, 1, none⟩ = some (.int .i64 a0_1) := (blk_cell BK101.out 1).trans rfl
     have hcz9_2 : w3.cell? ⟨gb101, 2, none⟩ = some (.int .i64 a0_2) := (blk_cell BK101.out 2).trans rfl
     have hcz9_3 : w3.cell? ⟨gb101, 3, none⟩ = some (.slice A0_3 l0_3.length c0_3) := (blk_cell BK101.out 3).trans rfl
     have hfz9_0 := blk_frozen BK101.out 0
     have hfz9_1 := blk_frozen BK101.out 1
     have hfz9_2 := blk_frozen BK101.out 2
     have hfz9_3 := blk_frozen BK101.out 3
     go_wp2
     go_meet
     case rel => exact ⟨_, (true), (by first | rfl | (simp; done) | (simp [*]; done)), H', ⟨by first | omega | exact Nat.le_refl _⟩, ⟨by (with_reducible repeat (first | refine blk_drewN ?_ _ | refine blk_drew ?_ | refine blk_alloc ?_ _)); exact BK101.out⟩, ⟨by repeat (first | (with_reducible first | exact HB.out | apply below_alloc | apply pw_below_drewN | apply below_drew1 | refine below_set ?_ GE101.out))⟩⟩
    ·rw [if_neg c8] at H
     have c8b0 : decide (a0_1 < 0) = false := decide_eq_false c8
     clear c8
     by_cases c10 : a0_1 ≥ a0_2
     ·rw [if_pos c10] at H
      have c10b0 : decide (a0_2 ≤ a0_1) = true := decide_eq_true c10
      clear c10
      have H' := Aside0.mk H
      clear H
      have hcz11_0 : w3.cell? ⟨gb101, 0, none⟩ = some (.int .i64 a0_0) := (blk_cell BK101.out 0).trans rfl
      have hcz11_1 : w3.cell? ⟨gb101, 1, none⟩ = some (.int .i64 a0_1) := (blk_cell BK101.out 1).trans rfl
      have hcz11_2 : w3.cell? ⟨gb101, 2, none⟩ = some (.int .i64 a0_2) := (blk_cell BK101.out 2).trans rfl
      have hcz11_3 : w3.cell? ⟨gb101, 3, none⟩ = some (.slice A0_3 l0_3.length c0_3) := (blk_cell BK101.out 3).trans rfl
      have hfz11_0 := blk_frozen BK101.out 0
      have hfz11_1 := blk_frozen BK101.out 1
      have hfz11_2 := blk_frozen BK101.out 2
      have hfz11_3 := blk_frozen BK101.out 3
      go_wp2
      go_meet
      case rel => exact ⟨_, (true), (by first | rfl | (simp; done) | (simp [*]; done)), H', ⟨by first | omega | exact Nat.le_refl _⟩, ⟨by (with_reducible repeat (first | refine blk_drewN ?_ _ | refine blk_drew ?_ | refine blk_alloc ?_ _)); exact BK101.out⟩, ⟨by repeat (first | (with_reducible first | exact HB.out | apply below_alloc | apply pw_below_drewN | apply below_drew1 | refine below_set ?_ GE101.out))⟩⟩
     ·rw [if_neg c10] at H
      have c10b0 : decide (a0_2 ≤ a0_1) = false := decide_eq_false c10
      clear c10
      by_cases c12 : a0_2 > 2147483647
      ·rw [if_pos c12] at H
       have c12b0 : decide (2147483647 < a0_2) = true := decide_eq_true c12
       clear c12
       have H' := Aside0.mk H
       clear H
       have hcz13_0 : w3.cell? ⟨gb101, 0, none⟩ = some (.int .i64 a0_0) := (blk_cell BK101.out 0).trans rfl
       have hcz13_1 : w3.cell? ⟨gb101, 1, none⟩ = some (.int .i64 a0_1) := (blk_cell BK101.out 1).trans rfl
       have hcz13_2 : w3.cell? ⟨gb101, 2, none⟩ = some (.int .i64 a0_2) := (blk_cell BK101.out 2).trans rfl
       have hcz13_3 : w3.cell? ⟨gb101, 3, none⟩ = some (.slice A0_3 l0_3.length c0_3) := (blk_cell BK101.out 3).trans rfl
       have hfz13_0 := blk_frozen BK101.out 0
       have hfz13_1 := blk_frozen BK101.out 1
       have hfz13_2 := blk_frozen BK101.out 2
       have hfz13_3 := blk_frozen BK101.out 3
       go_wp2
       go_meet
       case rel => exact ⟨_, (true), (by first | rfl | (simp; done) | (simp [*]; done)), H', ⟨by first | omega | exact Nat.le_refl _⟩, ⟨by (with_reducible repeat (first | refine blk_drewN ?_ _ | refine blk_drew ?_ | refine blk_alloc ?_ _)); exact BK101.out⟩, ⟨by repeat (first | (with_reducible first | exact HB.out | apply below_alloc | apply pw_below_drewN | apply below_drew1 | refine below_set ?_ GE101.out))⟩⟩
      ·rw [if_neg c12] at H
       have c12b0 : decide (2147483647 < a0_2) = false := decide_eq_false c12
       clear c12
       by_cases c14 : (l0_3.length : Int) < 1
       ·rw [if_pos c14] at H
        have c14b0 : decide ((l0_3.length : Int) < 1) = true := decide_eq_true c14
        have c14b1 : decide (l0_3.length < 1) = true := decide_eq_true (by omega)
        clear c14
        have H' := Aside0.mk H
        clear H
        have hcz15_0 : w3.cell? ⟨gb101, 0, none⟩ = some (.int .i64 a0_0) := (blk_cell BK101.out 0).trans rfl
        have hcz15_1 : w3.cell? ⟨gb101, 1, none⟩ = some (.int .i64 a0_1) := (blk_cell BK101.out 1).trans rfl
        have hcz15_2 : w3.cell? ⟨gb101, 2, none⟩ = some (.int .i64 a0_2) := (blk_cell BK101.out 2).trans rfl
        have hcz15_3 : w3.cell? ⟨gb101, 3, none⟩ = some (.slice A0_3 l0_3.length c0_3) := (blk_cell BK101.out 3).trans rfl
        have hfz15_0 := blk_frozen BK101.out 0
        have hfz15_1 := blk_frozen BK101.out 1
        have hfz15_2 := blk_frozen BK101.out 2
        have hfz15_3 := blk_frozen BK101.out 3
        go_wp2
        go_meet
        case rel => exact ⟨_, (true), (by first | rfl | (simp; done) | (simp [*]; done)), H', ⟨by first | omega | exact Nat.le_refl _⟩, ⟨by (with_reducible repeat (first | refine blk_drewN ?_ _ | refine blk_drew ?_ | refine blk_alloc ?_ _)); exact BK101.out⟩, ⟨by repeat (first | (with_reducible first | exact HB.out | apply below_alloc | apply pw_below_drewN | apply below_drew1 | refine below_set ?_ GE101.out))⟩⟩
       ·rw [if_neg c14] at H
        have c14b0 : decide ((l0_3.length : Int) < 1) = false := decide_eq_false c14
        have c14b1 : decide (l0_3.length < 1) = false := decide_eq_false (by omega)
        clear c14
        have H' := Aside0.mk H
        clear H
        have hcz16_0 : w3.cell? ⟨gb101, 0, none⟩ = some (.int .i64 a0_0) := (blk_cell BK101.out 0).trans rfl
        have hcz16_1 : w3.cell? ⟨gb101, 1, none⟩ = some (.int .i64 a0_1) := (blk_cell BK101.out 1).trans rfl
        have hcz16_2 : w3.cell? ⟨gb101, 2, none⟩ = some (.int .i64 a0_2) := (blk_cell BK101.out 2).trans rfl
        have hcz16_3 : w3.cell? ⟨gb101, 3, none⟩ = some (.slice A0_3 l0_3.length c0_3) := (blk_cell BK101.out 3).trans rfl
        have hfz16_0 := blk_frozen BK101.out 0
        have hfz16_1 := blk_frozen BK101.out 1
        have hfz16_2 := blk_frozen BK101.out 2
        have hfz16_3 := blk_frozen BK101.out 3
        go_wp2
        go_meet
        case rel => exact ⟨_, (decide ((l0_3.length : Int) > 64)), (by first | rfl | (simp; done) | (simp [*]; done)), H', ⟨by first | omega | exact Nat.le_refl _⟩, ⟨by (with_reducible repeat (first | refine blk_drewN ?_ _ | refine blk_drew ?_ | refine blk_alloc ?_ _)); exact BK101.out⟩, ⟨by repeat (first | (with_reducible first | exact HB.out | apply below_alloc | apply pw_below_drewN | apply below_drew1 | refine below_set ?_ GE101.out))⟩⟩
 case rest =>
  clear HC2
  try clear c1
  try clear p2
  try clear c4
  try clear c4b0
  try clear c6
  try clear c6b0
  try clear c8
  try clear c8b0
  try clear c9
  try clear c10
  try clear c10b0
  try clear c12
  try clear c12b0
  try clear c14
  try clear c14b0
  try clear c14b1
  try clear hcz11_0
  try clear hcz11_1
  try clear hcz11_2
  try clear hcz11_3
  try clear hcz13_0
  try clear hcz13_1
  try clear hcz13_2
  try clear hcz13_3
  try clear hcz15_0
  try clear hcz15_1
  try clear hcz15_2
  try clear hcz15_3
  try clear hcz16_0
  try clear hcz16_1
  try clear hcz16_2
  try clear hcz16_3
  try clear hcz5_0
  try clear hcz5_1
  try clear hcz5_2
  try clear hcz5_3
  try clear hcz7_0
  try clear hcz7_1
  try clear hcz7_2
  try clear hcz7_3
  try clear hcz9_0
  try clear hcz9_1
  try clear hcz9_2
  try clear hcz9_3
  try clear hfz11_0
  try clear hfz11_1
  try clear hfz11_2
  try clear hfz11_3
  try clear hfz13_0
  try clear hfz13_1
  try clear hfz13_2
  try clear hfz13_3
  try clear hfz15_0
  try clear hfz15_1
  try clear hfz15_2
  try clear hfz15_3
  try clear hfz16_0
  try clear hfz16_1
  try clear hfz16_2
  try clear hfz16_3
  try clear hfz5_0
  try clear hfz5_1
  try clear hfz5_2
  try clear hfz5_3
  try clear hfz7_0
  try clear hfz7_1
  try clear hfz7_2
  try clear hfz7_3
  try clear hfz9_0
  try clear hfz9_1
  try clear hfz9_2
  try clear hfz9_3
  obtain ⟨kq, x40_1, rfl, HA, HJ1, BK101, HB⟩ := hcut
  cases kq with
  | zero => exact absurd HA.out (by simp [ref06_mayTxn.j0])
  | succ kj1 =>
   have H := HA.out
   clear HA
   simp only [ref06_mayTxn.j0] at H
   by_cases c17 : x40_1 = true
   ·subst c17
    have H1 : (some false) = some r := by rw [if_pos rfl] at H; exact H
    clear H
    have H := H1
    clear H1
    obtain rfl := Option.some.inj H
    go_wp2
    go_ret
    exact ⟨by first | rfl | (simp <;> rfl) | (simp [*] <;> rfl), by repeat (first | (with_reducible first | exact HB.out | apply below_alloc | apply pw_below_drewN | apply below_drew1 | refine below_set ?_ GE101.out))⟩
   ·replace c17 := Bool.eq_false_iff.mpr c17
    subst c17
    have H1 : (ref06_mayTxn.l0 kj1 0 a0_0 a0_1 a0_2 l0_3) = some r := by rw [if_neg (show ¬ (false = true) by decide)] at H; exact H
    clear H
    have H := H1
    clear H1
    have H' := Aside0.mk H
    clear H
    go_wp2
    go_loopg [3] kj1 (fun kq v3 w' => ∃ (x3_2 : Int), v3 = .int .i64 x3_2 ∧ Aside0 (ref06_mayTxn.l0 kq x3_2 a0_0 a0_1 a0_2 l0_3 = some r) ∧ Aside0 (kq ≤ kj1) ∧ Aside0 (w'.heap[gb101]? = some (.cells #[.int .i64 a0_0, .int .i64 a0_1, .int .i64 a0_2, (.slice A0_3 l0_3.length c0_3)] 44 (0, 0))) ∧ Aside0 (Below w.heap.size w w'))
    case atStart => exact ⟨(0), (by first | rfl | (simp; done) | (simp [*]; done)), H', ⟨Nat.le_refl _⟩, ⟨by (with_reducible repeat (first | refine blk_drewN ?_ _ | refine blk_drew ?_ | refine blk_alloc ?_ _)); exact BK101.out⟩, ⟨by repeat (first | (with_reducible first | exact HB.out | apply below_alloc | apply pw_below_drewN | apply below_drew1 | refine below_set ?_ GE101.out))⟩⟩
    case round =>
     clear H'
     try clear c1
     try clear p2
     try clear c4
     try clear c4b0
     try clear c6
     try clear c6b0
     try clear c8
     try clear c8b0
     try clear c9
     try clear c10
     try clear c10b0
     try clear c12
     try clear c12b0
     try clear c14
     try clear c14b0
     try clear c14b1
     try clear c17
     try clear hcz11_0
     try clear hcz11_1
     try clear hcz11_2
     try clear hcz11_3
     try clear hcz13_0
     try clear hcz13_1
     try clear hcz13_2
     try clear hcz13_3
     try clear hcz15_0
     try clear hcz15_1
     try clear hcz15_2
     try clear hcz15_3
     try clear hcz16_0
     try clear hcz16_1
     try clear hcz16_2
     try clear hcz16_3
     try clear hcz5_0
     try clear hcz5_1
     try clear hcz5_2
     try clear hcz5_3
     try clear hcz7_0
     try clear hcz7_1
     try clear hcz7_2
     try clear hcz7_3
     try clear hcz9_0
     try clear hcz9_1
     try clear hcz9_2
     try clear hcz9_3
     try clear hfz11_0
     try clear hfz11_1
     try clear hfz11_2
     try clear hfz11_3
     try clear hfz13_0
     try clear hfz13_1
     try clear hfz13_2
     try clear hfz13_3
     try clear hfz15_0
     try clear hfz15_1
     try clear hfz15_2
     try clear hfz15_3
     try clear hfz16_0
     try clear hfz16_1
     try clear hfz16_2
     try clear hfz16_3
     try clear hfz5_0
     try clear hfz5_1
     try clear hfz5_2
     try clear hfz5_3
     try clear hfz7_0
     try clear hfz7_1
     try clear hfz7_2
     try clear hfz7_3
     try clear hfz9_0
     try clear hfz9_1
     try clear hfz9_2
     try clear hfz9_3
     try clear p2
     obtain ⟨x3_2, rfl, HA, HK2, BK101, HB⟩ := hrel
     cases gk with
     | zero => exact absurd HA.out (by simp [ref06_mayTxn.l0])
     | succ k2 =>
      have H := HA.out
      clear HA
      simp only [ref06_mayTxn.l0] at H
      by_cases c18 : x3_2 < (l0_3.length : Int)
      ·rw [if_pos c18] at H
       have c18b0 : decide (x3_2 < (l0_3.length : Int)) = true := decide_eq_true c18
       clear c18
       by_cases c19 : 0 ≤ x3_2
       ·rw [if_pos c19] at H
        have c19b0 : decide (0 ≤ x3_2) = true := decide_eq_true c19
        clear c19
        replace H := Option.bind_eq_some_iff.mp H
        obtain ⟨t103, A200, H⟩ := H
        replace H : (if t103 = true then (ref06_mayTxn.l0 k2 (wrap64 (x3_2 + 1)) a0_0 a0_1 a0_2 l0_3) else (some false)) = some r := H
        have A20 := Aside0.mk A200
        clear A200
        by_cases c21 : t103 = true
        ·subst c21
         have H1 : (ref06_mayTxn.l0 k2 (wrap64 (x3_2 + 1)) a0_0 a0_1 a0_2 l0_3) = some r := by rw [if_pos rfl] at H; exact H
         clear H
         have H := H1
         clear H1
         have H' := Aside0.mk H
         clear H
         have hcz22_0 : wr.cell? ⟨gb101, 0, none⟩ = some (.int .i64 a0_0) := (blk_cell BK101.out 0).trans rfl
         have hcz22_1 : wr.cell? ⟨gb101, 1, none⟩ = some (.int .i64 a0_1) := (blk_cell BK101.out 1).trans rfl
         have hcz22_2 : wr.cell? ⟨gb101, 2, none⟩ = some (.int .i64 a0_2) := (blk_cell BK101.out 2).trans rfl
         have hcz22_3 : wr.cell? ⟨gb101, 3, none⟩ = some (.slice A0_3 l0_3.length c0_3) := (blk_cell BK101.out 3).trans rfl
         have hfz22_0 := blk_frozen BK101.out 0
         have hfz22_1 := blk_frozen BK101.out 1
         have hfz22_2 := blk_frozen BK101.out 2
         have hfz22_3 := blk_frozen BK101.out 3
         have p102 : 0 ≤ (x3_2 : Int) := of_decide_eq_true (by assumption)
         have q102 : x3_2 < (l0_3.length : Int) := of_decide_eq_true (by assumption)
         obtain ⟨ad102, e102, hx102_0, hx102_1, hx102_2⟩ := at_T46 HR0_3.out x3_2 p102 q102
         cases e102
         replace hx102_0 := (HB.out.cell (World.block_lt_of_cell? w _ hx102_0)).trans hx102_0
         replace hx102_1 := (HB.out.cell (World.block_lt_of_cell? w _ hx102_1)).trans hx102_1
         replace hx102_2 := (HB.out.cell (World.block_lt_of_cell? w _ hx102_2)).trans hx102_2
         replace p102 := eq_true p102
         replace q102 := eq_true q102
         go_wp2_with (first | ((with_reducible refine gate_callee (f := 103) rfl ?_); refine goesL_ (some 53) rfl rfl Try.func103 (by kernel_rfl) rfl #[.agg #[.bool ((rd_T46 l0_3 x3_2).f0), .int .i64 ((rd_T46 l0_3 x3_2).f1), .int .i64 ((rd_T46 l0_3 x3_2).f2)]] rfl (by (try simp only [List.map_toArray, List.map_cons, List.map_nil]); first | done | rfl | (simp only [List.length_drop, List.length_take]; rfl)) ?_; (with_reducible refine (ref06_mayOp.calls ((rd_T46 l0_3 x3_2).f0) ((rd_T46 l0_3 x3_2).f1) ((rd_T46 l0_3 x3_2).f2) true _ A20.out).mono ?_); rintro e w23 ⟨rfl, hb⟩; refine ⟨_, rfl, ?_⟩; have n0_ := Aside0.mk (blk_below (g := gb101) (o := .cells #[.int .i64 a0_0, .int .i64 a0_1, .int .i64 a0_2, .slice (some ad102) l0_3.length c0_3] 44 (0, 0)) (by (with_reducible repeat (first | refine blk_drewN ?_ _ | refine blk_drew ?_ | refine blk_alloc ?_ _)); exact BK101.out) hb); have n1_ := Aside0.mk (below_step (by repeat (first | (with_reducible first | exact HB.out | apply below_alloc | apply pw_below_drewN | apply below_drew1 | refine below_set ?_ GE101.out))) hb); clear BK101; clear HB; have BK101 := n0_; have HB := n1_; clear n0_ n1_; (try clear hb); (try clear hb2); (try clear hk); (try clear hi)))
         go_roundg k2
         case measure => have := HJ1.out; have := HK2.out; omega
         case rel => exact ⟨(wrap64 (x3_2 + 1)), (by first | rfl | (simp; done) | (simp [*]; done)), H', ⟨by have := HJ1.out; have := HK2.out; omega⟩, ⟨by (with_reducible repeat (first | refine blk_drewN ?_ _ | refine blk_drew ?_ | refine blk_alloc ?_ _)); exact BK101.out⟩, ⟨by repeat (first | (with_reducible first | exact HB.out | apply below_alloc | apply pw_below_drewN | apply below_drew1 | refine below_set ?_ GE101.out))⟩⟩
        ·replace c21 := Bool.eq_false_iff.mpr c21
         subst c21
         have H1 : (some false) = some r := by rw [if_neg (show ¬ (false = true) by decide)] at H; exact H
         clear H
         have H := H1
         clear H1
         obtain rfl := Option.some.inj H
         have hcz24_0 : wr.cell? ⟨gb101, 0, none⟩ = some (.int .i64 a0_0) := (blk_cell BK101.out 0).trans rfl
         have hcz24_1 : wr.cell? ⟨gb101, 1, none⟩ = some (.int .i64 a0_1) := (blk_cell BK101.out 1).trans rfl
         have hcz24_2 : wr.cell? ⟨gb101, 2, none⟩ = some (.int .i64 a0_2) := (blk_cell BK101.out 2).trans rfl
         have hcz24_3 : wr.cell? ⟨gb101, 3, none⟩ = some (.slice A0_3 l0_3.length c0_3) := (blk_cell BK101.out 3).trans rfl
         have hfz24_0 := blk_frozen BK101.out 0
         have hfz24_1 := blk_frozen BK101.out 1
         have hfz24_2 := blk_frozen BK101.out 2
         have hfz24_3 := blk_frozen BK101.out 3
         have p102 : 0 ≤ (x3_2 : Int) := of_decide_eq_true (by assumption)
         have q102 : x3_2 < (l0_3.length : Int) := of_decide_eq_true (by assumption)
         obtain ⟨ad102, e102, hx102_0, hx102_1, hx102_2⟩ := at_T46 HR0_3.out x3_2 p102 q102
         cases e102
         replace hx102_0 := (HB.out.cell (World.block_lt_of_cell? w _ hx102_0)).trans hx102_0
         replace hx102_1 := (HB.out.cell (World.block_lt_of_cell? w _ hx102_1)).trans hx102_1
         replace hx102_2 := (HB.out.cell (World.block_lt_of_cell? w _ hx102_2)).trans hx102_2
         replace p102 := eq_true p102
         replace q102 := eq_true q102
         go_wp2_with (first | ((with_reducible refine gate_callee (f := 103) rfl ?_); refine goesL_ (some 53) rfl rfl Try.func103 (by kernel_rfl) rfl #[.agg #[.bool ((rd_T46 l0_3 x3_2).f0), .int .i64 ((rd_T46 l0_3 x3_2).f1), .int .i64 ((rd_T46 l0_3 x3_2).f2)]] rfl (by (try simp only [List.map_toArray, List.map_cons, List.map_nil]); first | done | rfl | (simp only [List.length_drop, List.length_take]; rfl)) ?_; (with_reducible refine (ref06_mayOp.calls ((rd_T46 l0_3 x3_2).f0) ((rd_T46 l0_3 x3_2).f1) ((rd_T46 l0_3 x3_2).f2) false _ A20.out).mono ?_); rintro e w25 ⟨rfl, hb⟩; refine ⟨_, rfl, ?_⟩; have n0_ := Aside0.mk (blk_below (g := gb101) (o := .cells #[.int .i64 a0_0, .int .i64 a0_1, .int .i64 a0_2, .slice (some ad102) l0_3.length c0_3] 44 (0, 0)) (by (with_reducible repeat (first | refine blk_drewN ?_ _ | refine blk_drew ?_ | refine blk_alloc ?_ _)); exact BK101.out) hb); have n1_ := Aside0.mk (below_step (by repeat (first | (with_reducible first | exact HB.out | apply below_alloc | apply pw_below_drewN | apply below_drew1 | refine below_set ?_ GE101.out))) hb); clear BK101; clear HB; have BK101 := n0_; have HB := n1_; clear n0_ n1_; (try clear hb); (try clear hb2); (try clear hk); (try clear hi)))
         go_ret
         exact ⟨by first | rfl | (simp <;> rfl) | (simp [*] <;> rfl), by repeat (first | (with_reducible first | exact HB.out | apply below_alloc | apply pw_below_drewN | apply below_drew1 | refine below_set ?_ GE101.out))⟩
       ·rw [if_neg c19] at H
        exact absurd H (by simp)
      ·rw [if_neg c18] at H
       have c18b0 : decide (x3_2 < (l0_3.length : Int)) = false := decide_eq_false c18
       clear c18
       obtain rfl := Option.some.inj H
       have hcz26_0 : wr.cell? ⟨gb101, 0, none⟩ = some (.int .i64 a0_0) := (blk_cell BK101.out 0).trans rfl
       have hcz26_1 : wr.cell? ⟨gb101, 1, none⟩ = some (.int .i64 a0_1) := (blk_cell BK101.out 1).trans rfl
       have hcz26_2 : wr.cell? ⟨gb101, 2, none⟩ = some (.int .i64 a0_2) := (blk_cell BK101.out 2).trans rfl
       have hcz26_3 : wr.cell? ⟨gb101, 3, none⟩ = some (.slice A0_3 l0_3.length c0_3) := (blk_cell BK101.out 3).trans rfl
       have hfz26_0 := blk_frozen BK101.out 0
       have hfz26_1 := blk_frozen BK101.out 1
       have hfz26_2 := blk_frozen BK101.out 2
       have hfz26_3 := blk_frozen BK101.out 3
       go_wp2
       go_ret
       exact ⟨by first | rfl | (simp <;> rfl) | (simp [*] <;> rfl), by repeat (first | (with_reducible first | exact HB.out | apply below_alloc | apply pw_below_drewN | apply below_drew1 | refine below_set ?_ GE101.out))⟩
end Go.Proofs.Ytfocaefnmfkojaa.Q
namespace Go.Proofs.Ytfocaefnmfkojaa.Q
open Go.RowKit Go.Proofs.YtfocaefnmfkojaaW.PrintWords Go.Proofs.YtfocaefnmfkojaaW.PrintLast Go.Proofs.YtfocaefnmfkojaaW.PrintMore
attribute [local go_sem] max2_int min2_int max_two min_two max_three min_three max_four min_four   -- for this text's walks alone
set_option linter.unusedVariables false
set_option linter.unusedSimpArgs false
mutual
def ref06_times.l0 : Nat → List (S44) → Int → Int → Int → Option (Int)
 | 0, _, _, _, _ => none
 | k + 1, x0, x1, x5, x6 => if x6 < (x0.length : Int) then (ref06_times.l1 k x0 x1 x5 x6 0) else (some x5)
def ref06_times.l1 : Nat → List (S44) → Int → Int → Int → Int → Option (Int)
 | 0, _, _, _, _, _ => none
 | k + 1, x0, x1, x5, x6, x7 => if 0 ≤ x6 then (if x6 < (x0.length : Int) then (if x7 < (((rd_T44 x0 x6).f3).length : Int) then (if 0 ≤ x7 then (if (rd_T46 ((rd_T44 x0 x6).f3) x7).f0 = true then (if ((rd_T46 ((rd_T44 x0 x6).f3) x7).f2) = x1 then (ref06_times.l1 k x0 x1 (wrap64 (x5 + 1)) x6 (wrap64 (x7 + 1))) else (ref06_times.l1 k x0 x1 x5 x6 (wrap64 (x7 + 1)))) else (ref06_times.l1 k x0 x1 x5 x6 (wrap64 (x7 + 1)))) else (none)) else (ref06_times.l0 k x0 x1 x5 (wrap64 (x6 + 1)))) else (none)) else (none)
end
def ref06_times.f (k : Nat) (l0 : List (S44)) (a1 : Int) : Option (Int) := ref06_times.l0 k l0 a1 0 0
set_option maxHeartbeats 8000000 in
set_option maxRecDepth 100000 in
theorem ref06_times.calls (k : Nat) (A0 : Option Addr) (c0 : Nat) (l0 : List (S44)) (a1 : Int) (r : Int) (w : World) (hr0 : Kd.C k44 w A0 l0.length l0) (hc0 : l0.length ≤ c0) (h : ref06_times.f k l0 a1 = some r) :
  Calls Try.prog 91 #[.slice A0 l0.length c0, .int .i64 a1] w fun e w' => e = .returned (.int .i64 r) ∧ Drawn0 w w' := by
 have HR0 := Aside0.mk hr0
 have HC0 := Aside0.mk hc0
 clear hr0 hc0
 have H : (ref06_times.l0 k l0 a1 0 0) = some r := h
 clear h
 have H' := Aside0.mk H
 clear H
 go_enter Try.func91, Try.ntmps91
 go_wp2
 go_loopg [5, 6] k (fun kq v5 v6 w' => ∃ (x5_1 : Int) (x6_1 : Int), v5 = .int .i64 x5_1 ∧ v6 = .int .i64 x6_1 ∧ Aside0 (ref06_times.l0 kq l0 a1 x5_1 x6_1 = some r) ∧ Aside0 (kq ≤ k) ∧ Drawn0 w w')
 case atStart => exact ⟨(0), (0), (by first | rfl | (simp; done) | (simp [*]; done)), (by first | rfl | (simp; done) | (simp [*]; done)), H', ⟨Nat.le_refl _⟩, by repeat (first | exact Drawn0.refl _ | apply Drawn0.step)⟩
 case round =>
  clear H'
  try clear p2
  obtain ⟨x5_1, x6_1, rfl, rfl, HA, HK1, ⟨m1, rfl⟩⟩ := hrel
  cases gk with
  | zero => exact absurd HA.out (by simp [ref06_times.l0])
  | succ k1 =>
   have H := HA.out
   clear HA
   simp only [ref06_times.l0] at H
   by_cases c3 : x6_1 < (l0.length : Int)
   ·rw [if_pos c3] at H
    have c3b0 : decide (x6_1 < (l0.length : Int)) = true := decide_eq_true c3
    clear c3
    have H' := Aside0.mk H
    clear H
    go_wp2
    go_loopg [5, 7] k1 (fun kq v5 v7 w' => ∃ (x5_2 : Int) (x7_2 : Int), v5 = .int .i64 x5_2 ∧ v7 = .int .i64 x7_2 ∧ Aside0 (ref06_times.l1 kq l0 a1 x5_2 x6_1 x7_2 = some r) ∧ Aside0 (kq ≤ k1) ∧ Drawn0 w w')
    case atStart => exact ⟨(x5_1), (0), (by first | rfl | (simp; done) | (simp [*]; done)), (by first | rfl | (simp; done) | (simp [*]; done)), H', ⟨Nat.le_refl _⟩, by repeat (first | exact Drawn0.refl _ | apply Drawn0.step)⟩
    case round =>
     clear H'
     try clear p2
     try clear c3
     try clear c3b0
     try clear p2
     obtain ⟨x5_2, x7_2, rfl, rfl, HA, HK2, ⟨m2, rfl⟩⟩ := hrel
     cases gk with
     | zero => exact absurd HA.out (by simp [ref06_times.l1])
     | succ k2 =>
      have H := HA.out
      clear HA
      simp only [ref06_times.l1] at H
      by_cases c4 : 0 ≤ x6_1
      ·rw [if_pos c4] at H
       have c4b0 : decide (0 ≤ x6_1) = true := decide_eq_true c4
       clear c4
       by_cases c5 : x6_1 < (l0.length : Int)
       ·rw [if_pos c5] at H
        have c5b0 : decide (x6_1 < (l0.length : Int)) = true := decide_eq_true c5
        clear c5
        by_cases c6 : x7_2 < (((rd_T44 l0 x6_1).f3).length : Int)
        ·rw [if_pos c6] at H
         have c6b0 : decide (x7_2 < (((rd_T44 l0 x6_1).f3).length : Int)) = true := decide_eq_true c6
         clear c6
         by_cases c7 : 0 ≤ x7_2
         ·rw [if_pos c7] at H
          have c7b0 : decide (0 ≤ x7_2) = true := decide_eq_true c7
          clear c7
          obtain ⟨bq8, hbq8⟩ : ∃ b_ : Bool, b_ = ((rd_T46 ((rd_T44 l0 x6_1).f3) x7_2).f0) := ⟨_, rfl⟩
          replace H : (if bq8 = true then (if ((rd_T46 ((rd_T44 l0 x6_1).f3) x7_2).f2) = a1 then (ref06_times.l1 k2 l0 a1 (wrap64 (x5_2 + 1)) x6_1 (wrap64 (x7_2 + 1))) else (ref06_times.l1 k2 l0 a1 x5_2 x6_1 (wrap64 (x7_2 + 1)))) else (ref06_times.l1 k2 l0 a1 x5_2 x6_1 (wrap64 (x7_2 + 1)))) = some r := by rw [← hbq8] at H; exact H
          have Nbq8 := Aside0.mk hbq8
          clear hbq8
          by_cases c9 : bq8 = true
          ·subst c9
           have H1 : (if ((rd_T46 ((rd_T44 l0 x6_1).f3) x7_2).f2) = a1 then (ref06_times.l1 k2 l0 a1 (wrap64 (x5_2 + 1)) x6_1 (wrap64 (x7_2 + 1))) else (ref06_times.l1 k2 l0 a1 x5_2 x6_1 (wrap64 (x7_2 + 1)))) = some r := by rw [if_pos rfl] at H; exact H
           clear H
           have H := H1
           clear H1
           by_cases c10 : ((rd_T46 ((rd_T44 l0 x6_1).f3) x7_2).f2) = a1
           ·rw [if_pos c10] at H
            have c10b0 : (((rd_T46 ((rd_T44 l0 x6_1).f3) x7_2).f2) == a1) = true := beq_iff_eq.mpr c10
            have c10b1 : (((rd_T46 ((rd_T44 l0 x6_1).f3) x7_2).f2) != a1) = false := bne_eq_false_iff_eq.mpr c10
            clear c10
            have H' := Aside0.mk H
            clear H
            have p101 : 0 ≤ (x6_1 : Int) := of_decide_eq_true (by assumption)
            have q101 : x6_1 < (l0.length : Int) := of_decide_eq_true (by assumption)
            obtain ⟨ad101, A101_3, c101_3, e101, hx101_0, hx101_1, hx101_2, hx101_3, hl101_3, hi101_3⟩ := at_T44 HR0.out x6_1 p101 q101
            cases e101
            have HR101_3 := Aside0.mk hi101_3
            have HC101_3 := Aside0.mk hl101_3
            clear hi101_3 hl101_3
            replace p101 := eq_true p101
            replace q101 := eq_true q101
            have p102 : 0 ≤ (x6_1 : Int) := of_decide_eq_true (by assumption)
            have q102 : x6_1 < (l0.length : Int) := of_decide_eq_true (by assumption)
            obtain ⟨ad102, A102_3, c102_3, e102, hx102_0, hx102_1, hx102_2, hx102_3, hl102_3, hi102_3⟩ := at_T44 HR0.out x6_1 p102 q102
            obtain rfl : ad101 = ad102 := (by injection e102)
            have HR102_3 := Aside0.mk hi102_3
            have HC102_3 := Aside0.mk hl102_3
            clear hi102_3 hl102_3
            replace p102 := eq_true p102
            replace q102 := eq_true q102
            have ea_ := Option.some.inj (hx101_3.symm.trans hx102_3)
            injection ea_ with ea_ en_ ec_
            subst ea_
            subst ec_
            clear en_
            have p103 : 0 ≤ (x7_2 : Int) := of_decide_eq_true (by assumption)
            have q103 : x7_2 < (((rd_T44 l0 x6_1).f3).length : Int) := of_decide_eq_true (by assumption)
            obtain ⟨ad103, e103, hx103_0, hx103_1, hx103_2⟩ := at_T46 HR102_3.out x7_2 p103 q103
            (try rw [← Nbq8.out] at hx103_0)
            cases e103
            replace p103 := eq_true p103
            replace q103 := eq_true q103
            have p104 : 0 ≤ (x6_1 : Int) := of_decide_eq_true (by assumption)
            have q104 : x6_1 < (l0.length : Int) := of_decide_eq_true (by assumption)
            obtain ⟨ad104, A104_3, c104_3, e104, hx104_0, hx104_1, hx104_2, hx104_3, hl104_3, hi104_3⟩ := at_T44 HR0.out x6_1 p104 q104
            obtain rfl : ad101 = ad104 := (by injection e104)
            have HR104_3 := Aside0.mk hi104_3
            have HC104_3 := Aside0.mk hl104_3
            clear hi104_3 hl104_3
            replace p104 := eq_true p104
            replace q104 := eq_true q104
            have ea_ := Option.some.inj (hx101_3.symm.trans hx104_3)
            injection ea_ with ea_ en_ ec_
            subst ea_
            subst ec_
            clear en_
            have p105 : 0 ≤ (x7_2 : Int) := of_decide_eq_true (by assumption)
            have q105 : x7_2 < (((rd_T44 l0 x6_1).f3).length : Int) := of_decide_eq_true (by assumption)
            obtain ⟨ad105, e105, hx105_0, hx105_1, hx105_2⟩ := at_T46 HR104_3.out x7_2 p105 q105
            (try rw [← Nbq8.out] at hx105_0)
            cases e105
            replace p105 := eq_true p105
            replace q105 := eq_true q105
            go_wp2
            go_roundg k2
            case measure => have := HK1.out; have := HK2.out; omega
            case rel => (try rw [← Nbq8.out]); exact ⟨(wrap64 (x5_2 + 1)), (wrap64 (x7_2 + 1)), (by first | rfl | (simp; done) | (simp [*]; done)), (by first | rfl | (simp; done) | (simp [*]; done)), H', ⟨by have := HK1.out; have := HK2.out; omega⟩, by repeat (first | exact Drawn0.refl _ | apply Drawn0.step)⟩
           ·rw [if_neg c10] at H
            have c10b0 : (((rd_T46 ((rd_T44 l0 x6_1).f3) x7_2).f2) == a1) = false := beq_eq_false_iff_ne.mpr c10
            have c10b1 : (((rd_T46 ((rd_T44 l0 x6_1).f3) x7_2).f2) != a1) = true := bne_iff_ne.mpr c10
            have H' := Aside0.mk H
            clear H
            have p101 : 0 ≤ (x6_1 : Int) := of_decide_eq_true (by assumption)
            have q101 : x6_1 < (l0.length : Int) := of_decide_eq_true (by assumption)
            obtain ⟨ad101, A101_3, c101_3, e101, hx101_0, hx101_1, hx101_2, hx101_3, hl101_3, hi101_3⟩ := at_T44 HR0.out x6_1 p101 q101
            cases e101
            have HR101_3 := Aside0.mk hi101_3
            have HC101_3 := Aside0.mk hl101_3
            clear hi101_3 hl101_3
            replace p101 := eq_true p101
            replace q101 := eq_true q101
            have p102 : 0 ≤ (x6_1 : Int) := of_decide_eq_true (by assumption)
            have q102 : x6_1 < (l0.length : Int) := of_decide_eq_true (by assumption)
            obtain ⟨ad102, A102_3, c102_3, e102, hx102_0, hx102_1, hx102_2, hx102_3, hl102_3, hi102_3⟩ := at_T44 HR0.out x6_1 p102 q102
            obtain rfl : ad101 = ad102 := (by injection e102)
            have HR102_3 := Aside0.mk hi102_3
            have HC102_3 := Aside0.mk hl102_3
            clear hi102_3 hl102_3
            replace p102 := eq_true p102
            replace q102 := eq_true q102
            have ea_ := Option.some.inj (hx101_3.symm.trans hx102_3)
            injection ea_ with ea_ en_ ec_
            subst ea_
            subst ec_
            clear en_
            have p103 : 0 ≤ (x7_2 : Int) := of_decide_eq_true (by assumption)
            have q103 : x7_2 < (((rd_T44 l0 x6_1).f3).length : Int) := of_decide_eq_true (by assumption)
            obtain ⟨ad103, e103, hx103_0, hx103_1, hx103_2⟩ := at_T46 HR102_3.out x7_2 p103 q103
            (try rw [← Nbq8.out] at hx103_0)
            cases e103
            replace p103 := eq_true p103
            replace q103 := eq_true q103
            have p104 : 0 ≤ (x6_1 : Int) := of_decide_eq_true (by assumption)
            have q104 : x6_1 < (l0.length : Int) := of_decide_eq_true (by assumption)
            obtain ⟨ad104, A104_3, c104_3, e104, hx104_0, hx104_1, hx104_2, hx104_3, hl104_3, hi104_3⟩ := at_T44 HR0.out x6_1 p104 q104
            obtain rfl : ad101 = ad104 := (by injection e104)
            have HR104_3 := Aside0.mk hi104_3
            have HC104_3 := Aside0.mk hl104_3
            clear hi104_3 hl104_3
            replace p104 := eq_true p104
            replace q104 := eq_true q104
            have ea_ := Option.some.inj (hx101_3.symm.trans hx104_3)
            injection ea_ with ea_ en_ ec_
            subst ea_
            subst ec_
            clear en_
            have p105 : 0 ≤ (x7_2 : Int) := of_decide_eq_true (by assumption)
            have q105 : x7_2 < (((rd_T44 l0 x6_1).f3).length : Int) := of_decide_eq_true (by assumption)
            obtain ⟨ad105, e105, hx105_0, hx105_1, hx105_2⟩ := at_T46 HR104_3.out x7_2 p105 q105
            (try rw [← Nbq8.out] at hx105_0)
            cases e105
            replace p105 := eq_true p105
            replace q105 := eq_true q105
            go_wp2
            go_roundg k2
            case measure => have := HK1.out; have := HK2.out; omega
            case rel => (try rw [← Nbq8.out]); exact ⟨(x5_2), (wrap64 (x7_2 + 1)), (by first | rfl | (simp; done) | (simp [*]; done)), (by first | rfl | (simp; done) | (simp [*]; done)), H', ⟨by have := HK1.out; have := HK2.out; omega⟩, by repeat (first | exact Drawn0.refl _ | apply Drawn0.step)⟩
          ·replace c9 := Bool.eq_false_iff.mpr c9
           subst c9
           have H1 : (ref06_times.l1 k2 l0 a1 x5_2 x6_1 (wrap64 (x7_2 + 1))) = some r := by rw [if_neg (show ¬ (false = true) by decide)] at H; exact H
           clear H
           have H := H1
           clear H1
           have H' := Aside0.mk H
           clear H
           have p101 : 0 ≤ (x6_1 : Int) := of_decide_eq_true (by assumption)
           have q101 : x6_1 < (l0.length : Int) := of_decide_eq_true (by assumption)
           obtain ⟨ad101, A101_3, c101_3, e101, hx101_0, hx101_1, hx101_2, hx101_3, hl101_3, hi101_3⟩ := at_T44 HR0.out x6_1 p101 q101
           cases e101
           have HR101_3 := Aside0.mk hi101_3
           have HC101_3 := Aside0.mk hl101_3
           clear hi101_3 hl101_3
           replace p101 := eq_true p101
           replace q101 := eq_true q101
           have p102 : 0 ≤ (x6_1 : Int) := of_decide_eq_true (by assumption)
           have q102 : x6_1 < (l0.length : Int) := of_decide_eq_true (by assumption)
           obtain ⟨ad102, A102_3, c102_3, e102, hx102_0, hx102_1, hx102_2, hx102_3, hl102_3, hi102_3⟩ := at_T44 HR0.out x6_1 p102 q102
           obtain rfl : ad101 = ad102 := (by injection e102)
           have HR102_3 := Aside0.mk hi102_3
           have HC102_3 := Aside0.mk hl102_3
           clear hi102_3 hl102_3
           replace p102 := eq_true p102
           replace q102 := eq_true q102
           have ea_ := Option.some.inj (hx101_3.symm.trans hx102_3)
           injection ea_ with ea_ en_ ec_
           subst ea_
           subst ec_
           clear en_
           have p103 : 0 ≤ (x7_2 : Int) := of_decide_eq_true (by assumption)
           have q103 : x7_2 < (((rd_T44 l0 x6_1).f3).length : Int) := of_decide_eq_true (by assumption)
           obtain ⟨ad103, e103, hx103_0, hx103_1, hx103_2⟩ := at_T46 HR102_3.out x7_2 p103 q103
           (try rw [← Nbq8.out] at hx103_0)
           cases e103
           replace p103 := eq_true p103
           replace q103 := eq_true q103
           go_wp2
           go_roundg k2
           case measure => have := HK1.out; have := HK2.out; omega
           case rel => (try rw [← Nbq8.out]); exact ⟨(x5_2), (wrap64 (x7_2 + 1)), (by first | rfl | (simp; done) | (simp [*]; done)), (by first | rfl | (simp; done) | (simp [*]; done)), H', ⟨by have := HK1.out; have := HK2.out; omega⟩, by repeat (first | exact Drawn0.refl _ | apply Drawn0.step)⟩
         ·rw [if_neg c7] at H
          exact absurd H (by simp)
        ·rw [if_neg c6] at H
         have c6b0 : decide (x7_2 < (((rd_T44 l0 x6_1).f3).length : Int)) = false := decide_eq_false c6
         clear c6
         have H' := Aside0.mk H
         clear H
         have p101 : 0 ≤ (x6_1 : Int) := of_decide_eq_true (by assumption)
         have q101 : x6_1 < (l0.length : Int) := of_decide_eq_true (by assumption)
         obtain ⟨ad101, A101_3, c101_3, e101, hx101_0, hx101_1, hx101_2, hx101_3, hl101_3, hi101_3⟩ := at_T44 HR0.out x6_1 p101 q101
         cases e101
         have HR101_3 := Aside0.mk hi101_3
         have HC101_3 := Aside0.mk hl101_3
         clear hi101_3 hl101_3
         replace p101 := eq_true p101
         replace q101 := eq_true q101
         go_wp2
         go_roundg k2
         case measure => have := HK1.out; have := HK2.out; omega
         case rel => exact ⟨(x5_2), (wrap64 (x6_1 + 1)), (by first | rfl | (simp; done) | (simp [*]; done)), (by first | rfl | (simp; done) | (simp [*]; done)), H', ⟨by have := HK1.out; have := HK2.out; omega⟩, by repeat (first | exact Drawn0.refl _ | apply Drawn0.step)⟩
       ·rw [if_neg c5] at H
        exact absurd H (by simp)
      ·rw [if_neg c4] at H
       exact absurd H (by simp)
   ·rw [if_neg c3] at H
    have c3b0 : decide (x6_1 < (l0.length : Int)) = false := decide_eq_false c3
    clear c3
    obtain rfl := Option.some.inj H
    go_wp2
    go_ret
    exact ⟨by first | rfl | (simp; done) | (simp [*]; done), by repeat (first | exact Drawn0.refl _ | apply Drawn0.step)⟩
end Go.Proofs.Ytfocaefnmfkojaa.Q
namespace Go.Proofs.Ytfocaefnmfkojaa.Q
open Go.RowKit Go.Proofs.YtfocaefnmfkojaaW.PrintWords Go.Proofs.YtfocaefnmfkojaaW.PrintLast Go.Proofs.YtfocaefnmfkojaaW.PrintMore
attribute [local go_sem] max2_int min2_int max_two min_two max_three min_three max_four min_four   -- for this text's walks alone
set_option linter.unusedVariables false
set_option linter.unusedSimpArgs false
mutual
def ref06_May.l0 : Nat → List (S44) → Int → Option (Bool)
 | 0, _, _ => none
 | k + 1, x0, x3 => if x3 < (x0.length : Int) then (if 0 ≤ x3 then ((ref06_mayTxn.f k ((rd_T44 x0 x3).f0) ((rd_T44 x0 x3).f1) ((rd_T44 x0 x3).f2) ((rd_T44 x0 x3).f3)).bind fun t102 => (if t102 = true then (ref06_May.l1 k x0 x3 0) else (some false))) else (none)) else (some true)
def ref06_May.l1 : Nat → List (S44) → Int → Int → Option (Bool)
 | 0, _, _, _ => none
 | k + 1, x0, x3, x4 => if x4 < x3 then (if 0 ≤ x4 then (if x4 < (x0.length : Int) then (if 0 ≤ x3 then (if x3 < (x0.length : Int) then (if ((rd_T44 x0 x4).f1) = ((rd_T44 x0 x3).f1) then (ref06_May.j2 k x0 x3 x4 true ((rd_T44 x0 x4).f0) ((rd_T44 x0 x4).f1) ((rd_T44 x0 x4).f2) ((rd_T44 x0 x4).f3) ((rd_T44 x0 x3).f0) ((rd_T44 x0 x3).f1) ((rd_T44 x0 x3).f2) ((rd_T44 x0 x3).f3)) else (if ((rd_T44 x0 x4).f1) = ((rd_T44 x0 x3).f2) then (ref06_May.j2 k x0 x3 x4 true ((rd_T44 x0 x4).f0) ((rd_T44 x0 x4).f1) ((rd_T44 x0 x4).f2) ((rd_T44 x0 x4).f3) ((rd_T44 x0 x3).f0) ((rd_T44 x0 x3).f1) ((rd_T44 x0 x3).f2) ((rd_T44 x0 x3).f3)) else (if ((rd_T44 x0 x4).f2) = ((rd_T44 x0 x3).f1) then (ref06_May.j2 k x0 x3 x4 true ((rd_T44 x0 x4).f0) ((rd_T44 x0 x4).f1) ((rd_T44 x0 x4).f2) ((rd_T44 x0 x4).f3) ((rd_T44 x0 x3).f0) ((rd_T44 x0 x3).f1) ((rd_T44 x0 x3).f2) ((rd_T44 x0 x3).f3)) else (ref06_May.j2 k x0 x3 x4 (((rd_T44 x0 x4).f2) == ((rd_T44 x0 x3).f2)) ((rd_T44 x0 x4).f0) ((rd_T44 x0 x4).f1) ((rd_T44 x0 x4).f2) ((rd_T44 x0 x4).f3) ((rd_T44 x0 x3).f0) ((rd_T44 x0 x3).f1) ((rd_T44 x0 x3).f2) ((rd_T44 x0 x3).f3))))) else (none)) else (none)) else (none)) else (none)) else (ref06_May.l2 k x0 x3 0)
def ref06_May.j2 : Nat → List (S44) → Int → Int → Bool → Int → Int → Int → List (S46) → Int → Int → Int → List (S46) → Option (Bool)
 | 0, _, _, _, _, _, _, _, _, _, _, _, _ => none
 | k + 1, x0, x3, x4, x59, x105000, x105001, x105002, x105003, x107000, x107001, x107002, x107003 => if x59 = true then (some false) else (if x105000 = x107000 then (if x105002 > x107001 then (some false) else (ref06_May.l1 k x0 x3 (wrap64 (x4 + 1)))) else (ref06_May.l1 k x0 x3 (wrap64 (x4 + 1))))
def ref06_May.l2 : Nat → List (S44) → Int → Int → Option (Bool)
 | 0, _, _, _ => none
 | k + 1, x0, x3, x7 => if 0 ≤ x3 then (if x3 < (x0.length : Int) then (if x7 < (((rd_T44 x0 x3).f3).length : Int) then (if 0 ≤ x7 then (if (rd_T46 ((rd_T44 x0 x3).f3) x7).f0 = true then ((ref06_times.f k x0 ((rd_T46 ((rd_T44 x0 x3).f3) x7).f2)).bind fun t111 => (ref06_May.j4 k x0 x3 x7 (t111 != 1) ((rd_T46 ((rd_T44 x0 x3).f3) x7).f0) ((rd_T46 ((rd_T44 x0 x3).f3) x7).f1) ((rd_T46 ((rd_T44 x0 x3).f3) x7).f2))) else (ref06_May.j4 k x0 x3 x7 false ((rd_T46 ((rd_T44 x0 x3).f3) x7).f0) ((rd_T46 ((rd_T44 x0 x3).f3) x7).f1) ((rd_T46 ((rd_T44 x0 x3).f3) x7).f2))) else (none)) else (ref06_May.l0 k x0 (wrap64 (x3 + 1)))) else (none)) else (none)
def ref06_May.j4 : Nat → List (S44) → Int → Int → Bool → Bool → Int → Int → Option (Bool)
 | 0, _, _, _, _, _, _, _ => none
 | k + 1, x0, x3, x7, x98, x111000, x111001, x111002 => if x98 = true then (some false) else (if x111000 = true then (ref06_May.l2 k x0 x3 (wrap64 (x7 + 1))) else (if x111002 = 0 then (ref06_May.l2 k x0 x3 (wrap64 (x7 + 1))) else ((ref06_Writer.f k x0 x111001 x111002).bind fun t112 => (if t112 < 0 then (some false) else (ref06_May.l2 k x0 x3 (wrap64 (x7 + 1)))))))
end
def ref06_May.f (k : Nat) (l0 : List (S44)) : Option (Bool) := ref06_May.l0 k l0 0
set_option maxHeartbeats 8000000 in
set_option maxRecDepth 100000 in
theorem ref06_May.calls (k : Nat) (A0 : Option Addr) (c0 : Nat) (l0 : List (S44)) (r : Bool) (w : World) (hr0 : Kd.C k44 w A0 l0.length l0) (hc0 : l0.length ≤ c0) (h : ref06_May.f k l0 = some r) :
  Calls Try.prog 57 #[.slice A0 l0.length c0] w fun e w' => e = .returned (.bool r) ∧ Below w.heap.size w w' := by
 have hu44 := Try.underlying44
 have hu46 := Try.underlying46
 have HR0 := Aside0.mk hr0
 have HC0 := Aside0.mk hc0
 clear hr0 hc0
 have HB := Aside0.mk (Below.refl w.heap.size w)
 have H : (ref06_May.l0 k l0 0) = some r := h
 clear h
 have H' := Aside0.mk H
 clear H
 go_enter Try.func57, Try.ntmps57
 go_wp2
 go_loopg [3] k (fun kq v3 w' => ∃ (x3_1 : Int), v3 = .int .i64 x3_1 ∧ Aside0 (ref06_May.l0 kq l0 x3_1 = some r) ∧ Aside0 (kq ≤ k) ∧ Aside0 (Below w.heap.size w w'))
 case atStart => exact ⟨(0), (by first | rfl | (simp; done) | (simp [*]; done)), H', ⟨Nat.le_refl _⟩, ⟨by repeat (first | (with_reducible first | exact HB.out | apply below_alloc | apply pw_below_drewN | apply below_drew1))⟩⟩
 case round =>
  clear H'
  obtain ⟨x3_1, rfl, HA, HK1, HB⟩ := hrel
  cases gk with
  | zero => exact absurd HA.out (by simp [ref06_May.l0])
  | succ k1 =>
   have H := HA.out
   clear HA
   simp only [ref06_May.l0] at H
   by_cases c2 : x3_1 < (l0.length : Int)
   ·rw [if_pos c2] at H
    have c2b0 : decide (x3_1 < (l0.length : Int)) = true := decide_eq_true c2
    clear c2
    by_cases c3 : 0 ≤ x3_1
    ·rw [if_pos c3] at H
     have c3b0 : decide (0 ≤ x3_1) = true := decide_eq_true c3
     clear c3
     replace H := Option.bind_eq_some_iff.mp H
     obtain ⟨t102, A40, H⟩ := H
     replace H : (if t102 = true then (ref06_May.l1 k1 l0 x3_1 0) else (some false)) = some r := H
     have A4 := Aside0.mk A40
     clear A40
     by_cases c5 : t102 = true
     ·subst c5
      have H1 : (ref06_May.l1 k1 l0 x3_1 0) = some r := by rw [if_pos rfl] at H; exact H
      clear H
      have H := H1
      clear H1
      have H' := Aside0.mk H
      clear H
      have p101 : 0 ≤ (x3_1 : Int) := of_decide_eq_true (by assumption)
      have q101 : x3_1 < (l0.length : Int) := of_decide_eq_true (by assumption)
      obtain ⟨ad101, A101_3, c101_3, e101, hx101_0, hx101_1, hx101_2, hx101_3, hl101_3, hi101_3⟩ := at_T44 HR0.out x3_1 p101 q101
      cases e101
      replace hx101_0 := (HB.out.cell (World.block_lt_of_cell? w _ hx101_0)).trans hx101_0
      replace hx101_1 := (HB.out.cell (World.block_lt_of_cell? w _ hx101_1)).trans hx101_1
      replace hx101_2 := (HB.out.cell (World.block_lt_of_cell? w _ hx101_2)).trans hx101_2
      replace hx101_3 := (HB.out.cell (World.block_lt_of_cell? w _ hx101_3)).trans hx101_3
      have HR101_3 := Aside0.mk hi101_3
      have HC101_3 := Aside0.mk hl101_3
      clear hi101_3 hl101_3
      replace p101 := eq_true p101
      replace q101 := eq_true q101
      go_wp2_with (first | ((with_reducible refine gate_callee (f := 90) rfl ?_); refine goesL_ (some 19) rfl rfl Try.func90 (by kernel_rfl) rfl #[.agg #[.int .i64 ((rd_T44 l0 x3_1).f0), .int .i64 ((rd_T44 l0 x3_1).f1), .int .i64 ((rd_T44 l0 x3_1).f2), .slice A101_3 ((rd_T44 l0 x3_1).f3).length c101_3]] rfl (by (try simp only [List.map_toArray, List.map_cons, List.map_nil]); first | done | rfl | (simp only [List.length_drop, List.length_take]; rfl)) ?_; (with_reducible refine (ref06_mayTxn.calls k1 ((rd_T44 l0 x3_1).f0) ((rd_T44 l0 x3_1).f1) ((rd_T44 l0 x3_1).f2) _ _ ((rd_T44 l0 x3_1).f3) true _ ?side1 ?side2 A4.out).mono ?_); (case side1 => repeat (first | exact (Kd.C_below HR101_3.out HB.out) | (with_reducible refine Kd.C_alloc ?_ _) | (with_reducible refine Kd.C_drewN ?_ _) | (with_reducible refine Kd.C_drew ?_))); (case side2 => exact HC101_3.out); rintro e w6 ⟨rfl, hb⟩; refine ⟨_, rfl, ?_⟩; have n0_ := Aside0.mk (below_step (by repeat (first | (with_reducible first | exact HB.out | apply below_alloc | apply pw_below_drewN | apply below_drew1))) hb); clear HB; have HB := n0_; clear n0_; (try clear hb); (try clear hb2); (try clear hk); (try clear hi)))
      (try simp only [Act.put, List.setIfInBounds_toArray, List.set_cons_zero, List.set_cons_succ])
      go_loopg [4] k1 (fun kq v4 w' => ∃ (x4_2 : Int), v4 = .int .i64 x4_2 ∧ Aside0 (ref06_May.l1 kq l0 x3_1 x4_2 = some r) ∧ Aside0 (kq ≤ k1) ∧ Aside0 (Below w.heap.size w w'))
      case atStart => exact ⟨(0), (by first | rfl | (simp; done) | (simp [*]; done)), H', ⟨Nat.le_refl _⟩, ⟨by repeat (first | (with_reducible first | exact HB.out | apply below_alloc | apply pw_below_drewN | apply below_drew1))⟩⟩
      case round =>
       clear H'
       try clear c1
       try clear p1
       try clear q1
       try clear hx1
       try clear c2
       try clear c2b0
       try clear p2
       try clear c3
       try clear c3b0
       try clear c5
       try clear hx101_0
       try clear hx101_1
       try clear hx101_2
       try clear hx101_3
       try clear p101
       try clear q101
       obtain ⟨x4_2, rfl, HA, HK2, HB⟩ := hrel
       cases gk with
       | zero => exact absurd HA.out (by simp [ref06_May.l1])
       | succ k2 =>
        have H := HA.out
        clear HA
        simp only [ref06_May.l1] at H
        by_cases c7 : x4_2 < x3_1
        ·rw [if_pos c7] at H
         have c7b0 : decide (x4_2 < x3_1) = true := decide_eq_true c7
         clear c7
         by_cases c8 : 0 ≤ x4_2
         ·rw [if_pos c8] at H
          have c8b0 : decide (0 ≤ x4_2) = true := decide_eq_true c8
          clear c8
          by_cases c9 : x4_2 < (l0.length : Int)
          ·rw [if_pos c9] at H
           have c9b0 : decide (x4_2 < (l0.length : Int)) = true := decide_eq_true c9
           clear c9
           by_cases c10 : 0 ≤ x3_1
           ·rw [if_pos c10] at H
            have c10b0 : decide (0 ≤ x3_1) = true := decide_eq_true c10
            clear c10
            by_cases c11 : x3_1 < (l0.length : Int)
            ·rw [if_pos c11] at H
             have c11b0 : decide (x3_1 < (l0.length : Int)) = true := decide_eq_true c11
             clear c11
             have HC12 := Aside0.mk H
             clear H
             have p103 : 0 ≤ (x4_2 : Int) := of_decide_eq_true (by assumption)
             have q103 : x4_2 < (l0.length : Int) := of_decide_eq_true (by assumption)
             obtain ⟨ad103, A103_3, c103_3, e103, hx103_0, hx103_1, hx103_2, hx103_3, hl103_3, hi103_3⟩ := at_T44 HR0.out x4_2 p103 q103
             obtain rfl : ad101 = ad103 := (by injection e103)
             replace hx103_0 := (HB.out.cell (World.block_lt_of_cell? w _ hx103_0)).trans hx103_0
             replace hx103_1 := (HB.out.cell (World.block_lt_of_cell? w _ hx103_1)).trans hx103_1
             replace hx103_2 := (HB.out.cell (World.block_lt_of_cell? w _ hx103_2)).trans hx103_2
             replace hx103_3 := (HB.out.cell (World.block_lt_of_cell? w _ hx103_3)).trans hx103_3
             have HR103_3 := Aside0.mk hi103_3
             have HC103_3 := Aside0.mk hl103_3
             clear hi103_3 hl103_3
             replace p103 := eq_true p103
             replace q103 := eq_true q103
             go_upto_region 11 with (first | ((with_reducible refine gate_dst (N := 5) rfl ?_); refine box_event ?hg (N := 5) ?hd (cs := #[.int .i64 0, .int .i64 0, .int .i64 0, .slice none 0 0]) (t := 44) ?hr ?_; (case hd => rfl); (case hg => rfl); (case hr => first | (go_simp; done) | (go_simp; rfl)); intro gb104 hg w13 hbox hb; have n0_ := Aside0.mk (below_step (by repeat (first | (with_reducible first | exact HB.out | apply below_alloc | apply pw_below_drewN | apply below_drew1))) hb); have n1_ := Aside0.mk (hbox); have n2_ := Aside0.mk ((by rw [hg]; exact (below_size (by repeat (first | (with_reducible first | exact HB.out | apply below_alloc | apply pw_below_drewN | apply below_drew1)))) : w.heap.size ≤ gb104)); have n3_ := Aside0.mk ((by rw [hg]; exact (below_size (by repeat (first | (with_reducible first | exact HB.out | apply below_alloc | apply pw_below_drewN | apply below_drew1)))) : w.heap.size ≤ gb104)); clear HB; have HB := n0_; have BK104 := n1_; have GW104 := n2_; have GE104 := n3_; clear n0_ n1_ n2_ n3_; clear hb hbox hg; have hcz14_0 : w13.cell? ⟨gb104, 0, none⟩ = some (.int .i64 0) := (blk_cell BK104.out 0).trans rfl; have hcz14_1 : w13.cell? ⟨gb104, 1, none⟩ = some (.int .i64 0) := (blk_cell BK104.out 1).trans rfl; have hcz14_2 : w13.cell? ⟨gb104, 2, none⟩ = some (.int .i64 0) := (blk_cell BK104.out 2).trans rfl; have hcz14_3 : w13.cell? ⟨gb104, 3, none⟩ = some (.slice none 0 0) := (blk_cell BK104.out 3).trans rfl; have hfz14_0 := blk_frozen BK104.out 0; have hfz14_1 := blk_frozen BK104.out 1; have hfz14_2 := blk_frozen BK104.out 2; have hfz14_3 := blk_frozen BK104.out 3; have p105 : 0 ≤ (x3_1 : Int) := of_decide_eq_true (by assumption); have q105 : x3_1 < (l0.length : Int) := of_decide_eq_true (by assumption); obtain ⟨ad105, A105_3, c105_3, e105, hx105_0, hx105_1, hx105_2, hx105_3, hl105_3, hi105_3⟩ := at_T44 HR0.out x3_1 p105 q105; obtain rfl : ad101 = ad105 := (by injection e105); have hn105_0 : ad101.block ≠ gb104 := Nat.ne_of_lt (Nat.lt_of_lt_of_le (by have := World.block_lt_of_cell? _ _ hx105_0; first | rwa [add_block] at this | exact this) GW104.out); have hn105_1 : ad101.block ≠ gb104 := Nat.ne_of_lt (Nat.lt_of_lt_of_le (by have := World.block_lt_of_cell? _ _ hx105_0; first | rwa [add_block] at this | exact this) GW104.out); have hn105_2 : ad101.block ≠ gb104 := Nat.ne_of_lt (Nat.lt_of_lt_of_le (by have := World.block_lt_of_cell? _ _ hx105_0; first | rwa [add_block] at this | exact this) GW104.out); have hn105_3 : ad101.block ≠ gb104 := Nat.ne_of_lt (Nat.lt_of_lt_of_le (by have := World.block_lt_of_cell? _ _ hx105_0; first | rwa [add_block] at this | exact this) GW104.out); replace hx105_0 := (HB.out.cell (World.block_lt_of_cell? w _ hx105_0)).trans hx105_0; replace hx105_1 := (HB.out.cell (World.block_lt_of_cell? w _ hx105_1)).trans hx105_1; replace hx105_2 := (HB.out.cell (World.block_lt_of_cell? w _ hx105_2)).trans hx105_2; replace hx105_3 := (HB.out.cell (World.block_lt_of_cell? w _ hx105_3)).trans hx105_3; have HR105_3 := Aside0.mk hi105_3; have HC105_3 := Aside0.mk hl105_3; clear hi105_3 hl105_3; replace hx105_0 := (cell_far (p := ⟨gb104, 0, none⟩) (by first | (rw [add_block]; exact hn105_0) | (show (Addr.add _ _).block ≠ _; rw [add_block]; exact hn105_0) | exact hn105_0) (.int .i64 ((rd_T44 l0 x4_2).f0))).trans hx105_0; replace hx105_1 := (cell_far (p := ⟨gb104, 0, none⟩) (by first | (rw [add_block]; exact hn105_0) | (show (Addr.add _ _).block ≠ _; rw [add_block]; exact hn105_0) | exact hn105_0) (.int .i64 ((rd_T44 l0 x4_2).f0))).trans hx105_1; replace hx105_2 := (cell_far (p := ⟨gb104, 0, none⟩) (by first | (rw [add_block]; exact hn105_0) | (show (Addr.add _ _).block ≠ _; rw [add_block]; exact hn105_0) | exact hn105_0) (.int .i64 ((rd_T44 l0 x4_2).f0))).trans hx105_2; replace hx105_3 := (cell_far (p := ⟨gb104, 0, none⟩) (by first | (rw [add_block]; exact hn105_0) | (show (Addr.add _ _).block ≠ _; rw [add_block]; exact hn105_0) | exact hn105_0) (.int .i64 ((rd_T44 l0 x4_2).f0))).trans hx105_3; replace hx105_0 := (cell_far (p := ⟨gb104, 1, none⟩) (by first | (rw [add_block]; exact hn105_1) | (show (Addr.add _ _).block ≠ _; rw [add_block]; exact hn105_1) | exact hn105_1) (.int .i64 ((rd_T44 l0 x4_2).f1))).trans hx105_0; replace hx105_1 := (cell_far (p := ⟨gb104, 1, none⟩) (by first | (rw [add_block]; exact hn105_1) | (show (Addr.add _ _).block ≠ _; rw [add_block]; exact hn105_1) | exact hn105_1) (.int .i64 ((rd_T44 l0 x4_2).f1))).trans hx105_1; replace hx105_2 := (cell_far (p := ⟨gb104, 1, none⟩) (by first | (rw [add_block]; exact hn105_1) | (show (Addr.add _ _).block ≠ _; rw [add_block]; exact hn105_1) | exact hn105_1) (.int .i64 ((rd_T44 l0 x4_2).f1))).trans hx105_2; replace hx105_3 := (cell_far (p := ⟨gb104, 1, none⟩) (by first | (rw [add_block]; exact hn105_1) | (show (Addr.add _ _).block ≠ _; rw [add_block]; exact hn105_1) | exact hn105_1) (.int .i64 ((rd_T44 l0 x4_2).f1))).trans hx105_3; replace hx105_0 := (cell_far (p := ⟨gb104, 2, none⟩) (by first | (rw [add_block]; exact hn105_2) | (show (Addr.add _ _).block ≠ _; rw [add_block]; exact hn105_2) | exact hn105_2) (.int .i64 ((rd_T44 l0 x4_2).f2))).trans hx105_0; replace hx105_1 := (cell_far (p := ⟨gb104, 2, none⟩) (by first | (rw [add_block]; exact hn105_2) | (show (Addr.add _ _).block ≠ _; rw [add_block]; exact hn105_2) | exact hn105_2) (.int .i64 ((rd_T44 l0 x4_2).f2))).trans hx105_1; replace hx105_2 := (cell_far (p := ⟨gb104, 2, none⟩) (by first | (rw [add_block]; exact hn105_2) | (show (Addr.add _ _).block ≠ _; rw [add_block]; exact hn105_2) | exact hn105_2) (.int .i64 ((rd_T44 l0 x4_2).f2))).trans hx105_2; replace hx105_3 := (cell_far (p := ⟨gb104, 2, none⟩) (by first | (rw [add_block]; exact hn105_2) | (show (Addr.add _ _).block ≠ _; rw [add_block]; exact hn105_2) | exact hn105_2) (.int .i64 ((rd_T44 l0 x4_2).f2))).trans hx105_3; replace hx105_0 := (cell_far (p := ⟨gb104, 3, none⟩) (by first | (rw [add_block]; exact hn105_3) | (show (Addr.add _ _).block ≠ _; rw [add_block]; exact hn105_3) | exact hn105_3) (.slice A103_3 ((rd_T44 l0 x4_2).f3).length c103_3)).trans hx105_0; replace hx105_1 := (cell_far (p := ⟨gb104, 3, none⟩) (by first | (rw [add_block]; exact hn105_3) | (show (Addr.add _ _).block ≠ _; rw [add_block]; exact hn105_3) | exact hn105_3) (.slice A103_3 ((rd_T44 l0 x4_2).f3).length c103_3)).trans hx105_1; replace hx105_2 := (cell_far (p := ⟨gb104, 3, none⟩) (by first | (rw [add_block]; exact hn105_3) | (show (Addr.add _ _).block ≠ _; rw [add_block]; exact hn105_3) | exact hn105_3) (.slice A103_3 ((rd_T44 l0 x4_2).f3).length c103_3)).trans hx105_2; replace hx105_3 := (cell_far (p := ⟨gb104, 3, none⟩) (by first | (rw [add_block]; exact hn105_3) | (show (Addr.add _ _).block ≠ _; rw [add_block]; exact hn105_3) | exact hn105_3) (.slice A103_3 ((rd_T44 l0 x4_2).f3).length c103_3)).trans hx105_3; clear hn105_0; clear hn105_1; clear hn105_2; clear hn105_3; replace p105 := eq_true p105; replace q105 := eq_true q105) | ((with_reducible refine gate_dst (N := 6) rfl ?_); refine box_event ?hg (N := 6) ?hd (cs := #[.int .i64 0, .int .i64 0, .int .i64 0, .slice none 0 0]) (t := 44) ?hr ?_; (case hd => rfl); (case hg => rfl); (case hr => first | (go_simp; done) | (go_simp; rfl)); intro gb106 hg w15 hbox hb; have n0_ := Aside0.mk (blk_below (g := gb104) (o := .cells #[.int .i64 ((rd_T44 l0 x4_2).f0), .int .i64 ((rd_T44 l0 x4_2).f1), .int .i64 ((rd_T44 l0 x4_2).f2), .slice A103_3 ((rd_T44 l0 x4_2).f3).length c103_3] 44 (0, 0)) (by (with_reducible repeat (first | refine blk_drewN ?_ _ | refine blk_drew ?_ | refine blk_alloc ?_ _)); refine blk_put (cs := #[.int .i64 ((rd_T44 l0 x4_2).f0), .int .i64 ((rd_T44 l0 x4_2).f1), .int .i64 ((rd_T44 l0 x4_2).f2), .slice none 0 0]) ?_ 3 _ rfl; (with_reducible repeat (first | refine blk_drewN ?_ _ | refine blk_drew ?_ | refine blk_alloc ?_ _)); refine blk_put (cs := #[.int .i64 ((rd_T44 l0 x4_2).f0), .int .i64 ((rd_T44 l0 x4_2).f1), .int .i64 0, .slice none 0 0]) ?_ 2 _ rfl; (with_reducible repeat (first | refine blk_drewN ?_ _ | refine blk_drew ?_ | refine blk_alloc ?_ _)); refine blk_put (cs := #[.int .i64 ((rd_T44 l0 x4_2).f0), .int .i64 0, .int .i64 0, .slice none 0 0]) ?_ 1 _ rfl; (with_reducible repeat (first | refine blk_drewN ?_ _ | refine blk_drew ?_ | refine blk_alloc ?_ _)); refine blk_put (cs := #[.int .i64 0, .int .i64 0, .int .i64 0, .slice none 0 0]) ?_ 0 _ rfl; (with_reducible repeat (first | refine blk_drewN ?_ _ | refine blk_drew ?_ | refine blk_alloc ?_ _)); exact BK104.out) hb); have n1_ := Aside0.mk (below_step (by repeat (first | (with_reducible first | exact HB.out | apply below_alloc | apply pw_below_drewN | apply below_drew1 | refine below_set ?_ GE104.out))) hb); have n2_ := Aside0.mk (hbox); have n3_ := Aside0.mk ((by rw [hg]; exact (below_size (by repeat (first | (with_reducible first | exact HB.out | apply below_alloc | apply pw_below_drewN | apply below_drew1 | refine below_set ?_ GE104.out)))) : w.heap.size ≤ gb106)); have n4_ := Aside0.mk ((by rw [hg]; exact (below_size (by repeat (first | (with_reducible first | exact HB.out | apply below_alloc | apply pw_below_drewN | apply below_drew1 | refine below_set ?_ GE104.out)))) : w.heap.size ≤ gb106)); have n5_ := Aside0.mk ((by rw [hg]; exact Nat.ne_of_lt (blk_lt (g := gb104) (o := .cells #[.int .i64 ((rd_T44 l0 x4_2).f0), .int .i64 ((rd_T44 l0 x4_2).f1), .int .i64 ((rd_T44 l0 x4_2).f2), .slice A103_3 ((rd_T44 l0 x4_2).f3).length c103_3] 44 (0, 0)) (by (with_reducible repeat (first | refine blk_drewN ?_ _ | refine blk_drew ?_ | refine blk_alloc ?_ _)); refine blk_put (cs := #[.int .i64 ((rd_T44 l0 x4_2).f0), .int .i64 ((rd_T44 l0 x4_2).f1), .int .i64 ((rd_T44 l0 x4_2).f2), .slice none 0 0]) ?_ 3 _ rfl; (with_reducible repeat (first | refine blk_drewN ?_ _ | refine blk_drew ?_ | refine blk_alloc ?_ _)); refine blk_put (cs := #[.int .i64 ((rd_T44 l0 x4_2).f0), .int .i64 ((rd_T44 l0 x4_2).f1), .int .i64 0, .slice none 0 0]) ?_ 2 _ rfl; (with_reducible repeat (first | refine blk_drewN ?_ _ | refine blk_drew ?_ | refine blk_alloc ?_ _)); refine blk_put (cs := #[.int .i64 ((rd_T44 l0 x4_2).f0), .int .i64 0, .int .i64 0, .slice none 0 0]) ?_ 1 _ rfl; (with_reducible repeat (first | refine blk_drewN ?_ _ | refine blk_drew ?_ | refine blk_alloc ?_ _)); refine blk_put (cs := #[.int .i64 0, .int .i64 0, .int .i64 0, .slice none 0 0]) ?_ 0 _ rfl; (with_reducible repeat (first | refine blk_drewN ?_ _ | refine blk_drew ?_ | refine blk_alloc ?_ _)); exact BK104.out)) : gb104 ≠ gb106)); have n6_ := Aside0.mk ((by rw [hg]; exact Nat.ne_of_gt (blk_lt (g := gb104) (o := .cells #[.int .i64 ((rd_T44 l0 x4_2).f0), .int .i64 ((rd_T44 l0 x4_2).f1), .int .i64 ((rd_T44 l0 x4_2).f2), .slice A103_3 ((rd_T44 l0 x4_2).f3).length c103_3] 44 (0, 0)) (by (with_reducible repeat (first | refine blk_drewN ?_ _ | refine blk_drew ?_ | refine blk_alloc ?_ _)); refine blk_put (cs := #[.int .i64 ((rd_T44 l0 x4_2).f0), .int .i64 ((rd_T44 l0 x4_2).f1), .int .i64 ((rd_T44 l0 x4_2).f2), .slice none 0 0]) ?_ 3 _ rfl; (with_reducible repeat (first | refine blk_drewN ?_ _ | refine blk_drew ?_ | refine blk_alloc ?_ _)); refine blk_put (cs := #[.int .i64 ((rd_T44 l0 x4_2).f0), .int .i64 ((rd_T44 l0 x4_2).f1), .int .i64 0, .slice none 0 0]) ?_ 2 _ rfl; (with_reducible repeat (first | refine blk_drewN ?_ _ | refine blk_drew ?_ | refine blk_alloc ?_ _)); refine blk_put (cs := #[.int .i64 ((rd_T44 l0 x4_2).f0), .int .i64 0, .int .i64 0, .slice none 0 0]) ?_ 1 _ rfl; (with_reducible repeat (first | refine blk_drewN ?_ _ | refine blk_drew ?_ | refine blk_alloc ?_ _)); refine blk_put (cs := #[.int .i64 0, .int .i64 0, .int .i64 0, .slice none 0 0]) ?_ 0 _ rfl; (with_reducible repeat (first | refine blk_drewN ?_ _ | refine blk_drew ?_ | refine blk_alloc ?_ _)); exact BK104.out)) : gb106 ≠ gb104)); clear BK104; clear HB; have BK104 := n0_; have HB := n1_; have BK106 := n2_; have GW106 := n3_; have GE106 := n4_; have NB104_106 := n5_; have NB106_104 := n6_; clear n0_ n1_ n2_ n3_ n4_ n5_ n6_; clear hb hbox hg; have hnb16 := NB106_104.out; have hnc16 := NB104_106.out; have hcz17_0 : w15.cell? ⟨gb106, 0, none⟩ = some (.int .i64 0) := (blk_cell BK106.out 0).trans rfl; have hcz17_1 : w15.cell? ⟨gb106, 1, none⟩ = some (.int .i64 0) := (blk_cell BK106.out 1).trans rfl; have hcz17_2 : w15.cell? ⟨gb106, 2, none⟩ = some (.int .i64 0) := (blk_cell BK106.out 2).trans rfl; have hcz17_3 : w15.cell? ⟨gb106, 3, none⟩ = some (.slice none 0 0) := (blk_cell BK106.out 3).trans rfl; have hfz17_0 := blk_frozen BK106.out 0; have hfz17_1 := blk_frozen BK106.out 1; have hfz17_2 := blk_frozen BK106.out 2; have hfz17_3 := blk_frozen BK106.out 3))
             (try simp only [Act.put, List.setIfInBounds_toArray, List.set_cons_zero, List.set_cons_succ])
             go_cut [59] (fun v59 wc => ∃ (kq : Nat) (x59_11 : Bool), v59 = .bool x59_11 ∧ Aside0 (ref06_May.j2 kq l0 x3_1 x4_2 x59_11 ((rd_T44 l0 x4_2).f0) ((rd_T44 l0 x4_2).f1) ((rd_T44 l0 x4_2).f2) ((rd_T44 l0 x4_2).f3) ((rd_T44 l0 x3_1).f0) ((rd_T44 l0 x3_1).f1) ((rd_T44 l0 x3_1).f2) ((rd_T44 l0 x3_1).f3) = some r) ∧ Aside0 (kq ≤ k2) ∧ Aside0 (wc.heap[gb104]? = some (.cells #[.int .i64 ((rd_T44 l0 x4_2).f0), .int .i64 ((rd_T44 l0 x4_2).f1), .int .i64 ((rd_T44 l0 x4_2).f2), (.slice A103_3 ((rd_T44 l0 x4_2).f3).length c103_3)] 44 (0, 0))) ∧ Aside0 (wc.heap[gb106]? = some (.cells #[.int .i64 ((rd_T44 l0 x3_1).f0), .int .i64 ((rd_T44 l0 x3_1).f1), .int .i64 ((rd_T44 l0 x3_1).f2), (.slice A105_3 ((rd_T44 l0 x3_1).f3).length c105_3)] 44 (0, 0))) ∧ Aside0 (Below w.heap.size w wc))
             case first =>
              have H := HC12.out
              clear HC12
              by_cases c18 : ((rd_T44 l0 x4_2).f1) = ((rd_T44 l0 x3_1).f1)
              ·rw [if_pos c18] at H
               have c18b0 : (((rd_T44 l0 x4_2).f1) == ((rd_T44 l0 x3_1).f1)) = true := beq_iff_eq.mpr c18
               have c18b1 : (((rd_T44 l0 x4_2).f1) != ((rd_T44 l0 x3_1).f1)) = false := bne_eq_false_iff_eq.mpr c18
               clear c18
               (first | rw [c18b0] | (simp only [i64_w, i32_w]; rw [c18b0]) | skip)
               have H' := Aside0.mk H
               clear H
               have hnb19 := NB104_106.out
               have hnc19 := NB106_104.out
               have hcz20_0 : w15.cell? ⟨gb104, 0, none⟩ = some (.int .i64 ((rd_T44 l0 x4_2).f0)) := (blk_cell BK104.out 0).trans rfl
               have hcz20_1 : w15.cell? ⟨gb104, 1, none⟩ = some (.int .i64 ((rd_T44 l0 x4_2).f1)) := (blk_cell BK104.out 1).trans rfl
               have hcz20_2 : w15.cell? ⟨gb104, 2, none⟩ = some (.int .i64 ((rd_T44 l0 x4_2).f2)) := (blk_cell BK104.out 2).trans rfl
               have hcz20_3 : w15.cell? ⟨gb104, 3, none⟩ = some (.slice A103_3 ((rd_T44 l0 x4_2).f3).length c103_3) := (blk_cell BK104.out 3).trans rfl
               have hfz20_0 := blk_frozen BK104.out 0
               have hfz20_1 := blk_frozen BK104.out 1
               have hfz20_2 := blk_frozen BK104.out 2
               have hfz20_3 := blk_frozen BK104.out 3
               have hcz21_0 : w15.cell? ⟨gb106, 0, none⟩ = some (.int .i64 0) := (blk_cell BK106.out 0).trans rfl
               have hcz21_1 : w15.cell? ⟨gb106, 1, none⟩ = some (.int .i64 0) := (blk_cell BK106.out 1).trans rfl
               have hcz21_2 : w15.cell? ⟨gb106, 2, none⟩ = some (.int .i64 0) := (blk_cell BK106.out 2).trans rfl
               have hcz21_3 : w15.cell? ⟨gb106, 3, none⟩ = some (.slice none 0 0) := (blk_cell BK106.out 3).trans rfl
               have hfz21_0 := blk_frozen BK106.out 0
               have hfz21_1 := blk_frozen BK106.out 1
               have hfz21_2 := blk_frozen BK106.out 2
               have hfz21_3 := blk_frozen BK106.out 3
               go_wp2
               go_meet
               case rel => exact ⟨_, (true), (by first | rfl | (simp; done) | (simp [*]; done)), H', ⟨by have := HK1.out; have := HK2.out; first | omega | exact Nat.le_refl _⟩, ⟨by (with_reducible repeat (first | refine blk_drewN ?_ _ | refine blk_drew ?_ | refine blk_alloc ?_ _)); refine blk_far ?_ NB104_106.out _; (with_reducible repeat (first | refine blk_drewN ?_ _ | refine blk_drew ?_ | refine blk_alloc ?_ _)); refine blk_far ?_ NB104_106.out _; (with_reducible repeat (first | refine blk_drewN ?_ _ | refine blk_drew ?_ | refine blk_alloc ?_ _)); refine blk_far ?_ NB104_106.out _; (with_reducible repeat (first | refine blk_drewN ?_ _ | refine blk_drew ?_ | refine blk_alloc ?_ _)); refine blk_far ?_ NB104_106.out _; (with_reducible repeat (first | refine blk_drewN ?_ _ | refine blk_drew ?_ | refine blk_alloc ?_ _)); exact BK104.out⟩, ⟨by (with_reducible repeat (first | refine blk_drewN ?_ _ | refine blk_drew ?_ | refine blk_alloc ?_ _)); refine blk_put (cs := #[.int .i64 ((rd_T44 l0 x3_1).f0), .int .i64 ((rd_T44 l0 x3_1).f1), .int .i64 ((rd_T44 l0 x3_1).f2), .slice none 0 0]) ?_ 3 _ rfl; (with_reducible repeat (first | refine blk_drewN ?_ _ | refine blk_drew ?_ | refine blk_alloc ?_ _)); refine blk_put (cs := #[.int .i64 ((rd_T44 l0 x3_1).f0), .int .i64 ((rd_T44 l0 x3_1).f1), .int .i64 0, .slice none 0 0]) ?_ 2 _ rfl; (with_reducible repeat (first | refine blk_drewN ?_ _ | refine blk_drew ?_ | refine blk_alloc ?_ _)); refine blk_put (cs := #[.int .i64 ((rd_T44 l0 x3_1).f0), .int .i64 0, .int .i64 0, .slice none 0 0]) ?_ 1 _ rfl; (with_reducible repeat (first | refine blk_drewN ?_ _ | refine blk_drew ?_ | refine blk_alloc ?_ _)); refine blk_put (cs := #[.int .i64 0, .int .i64 0, .int .i64 0, .slice none 0 0]) ?_ 0 _ rfl; (with_reducible repeat (first | refine blk_drewN ?_ _ | refine blk_drew ?_ | refine blk_alloc ?_ _)); exact BK106.out⟩, ⟨by repeat (first | (with_reducible first | exact HB.out | apply below_alloc | apply pw_below_drewN | apply below_drew1 | refine below_set ?_ GE104.out | refine below_set ?_ GE106.out))⟩⟩
              ·rw [if_neg c18] at H
               have c18b0 : (((rd_T44 l0 x4_2).f1) == ((rd_T44 l0 x3_1).f1)) = false := beq_eq_false_iff_ne.mpr c18
               have c18b1 : (((rd_T44 l0 x4_2).f1) != ((rd_T44 l0 x3_1).f1)) = true := bne_iff_ne.mpr c18
               (first | rw [c18b0] | (simp only [i64_w, i32_w]; rw [c18b0]) | skip)
               by_cases c22 : ((rd_T44 l0 x4_2).f1) = ((rd_T44 l0 x3_1).f2)
               ·rw [if_pos c22] at H
                have c22b0 : (((rd_T44 l0 x4_2).f1) == ((rd_T44 l0 x3_1).f2)) = true := beq_iff_eq.mpr c22
                have c22b1 : (((rd_T44 l0 x4_2).f1) != ((rd_T44 l0 x3_1).f2)) = false := bne_eq_false_iff_eq.mpr c22
                clear c22
                have H' := Aside0.mk H
                clear H
                have hnb23 := NB104_106.out
                have hnc23 := NB106_104.out
                have hcz24_0 : w15.cell? ⟨gb104, 0, none⟩ = some (.int .i64 ((rd_T44 l0 x4_2).f0)) := (blk_cell BK104.out 0).trans rfl
                have hcz24_1 : w15.cell? ⟨gb104, 1, none⟩ = some (.int .i64 ((rd_T44 l0 x4_2).f1)) := (blk_cell BK104.out 1).trans rfl
                have hcz24_2 : w15.cell? ⟨gb104, 2, none⟩ = some (.int .i64 ((rd_T44 l0 x4_2).f2)) := (blk_cell BK104.out 2).trans rfl
                have hcz24_3 : w15.cell? ⟨gb104, 3, none⟩ = some (.slice A103_3 ((rd_T44 l0 x4_2).f3).length c103_3) := (blk_cell BK104.out 3).trans rfl
                have hfz24_0 := blk_frozen BK104.out 0
                have hfz24_1 := blk_frozen BK104.out 1
                have hfz24_2 := blk_frozen BK104.out 2
                have hfz24_3 := blk_frozen BK104.out 3
                have hcz25_0 : w15.cell? ⟨gb106, 0, none⟩ = some (.int .i64 0) := (blk_cell BK106.out 0).trans rfl
                have hcz25_1 : w15.cell? ⟨gb106, 1, none⟩ = some (.int .i64 0) := (blk_cell BK106.out 1).trans rfl
                have hcz25_2 : w15.cell? ⟨gb106, 2, none⟩ = some (.int .i64 0) := (blk_cell BK106.out 2).trans rfl
                have hcz25_3 : w15.cell? ⟨gb106, 3, none⟩ = some (.slice none 0 0) := (blk_cell BK106.out 3).trans rfl
                have hfz25_0 := blk_frozen BK106.out 0
                have hfz25_1 := blk_frozen BK106.out 1
                have hfz25_2 := blk_frozen BK106.out 2
                have hfz25_3 := blk_frozen BK106.out 3
                go_wp2
                go_meet
                case rel => exact ⟨_, (true), (by first | rfl | (simp; done) | (simp [*]; done)), H', ⟨by have := HK1.out; have := HK2.out; first | omega | exact Nat.le_refl _⟩, ⟨by (with_reducible repeat (first | refine blk_drewN ?_ _ | refine blk_drew ?_ | refine blk_alloc ?_ _)); refine blk_far ?_ NB104_106.out _; (with_reducible repeat (first | refine blk_drewN ?_ _ | refine blk_drew ?_ | refine blk_alloc ?_ _)); refine blk_far ?_ NB104_106.out _; (with_reducible repeat (first | refine blk_drewN ?_ _ | refine blk_drew ?_ | refine blk_alloc ?_ _)); refine blk_far ?_ NB104_106.out _; (with_reducible repeat (first | refine blk_drewN ?_ _ | refine blk_drew ?_ | refine blk_alloc ?_ _)); refine blk_far ?_ NB104_106.out _; (with_reducible repeat (first | refine blk_drewN ?_ _ | refine blk_drew ?_ | refine blk_alloc ?_ _)); exact BK104.out⟩, ⟨by (with_reducible repeat (first | refine blk_drewN ?_ _ | refine blk_drew ?_ | refine blk_alloc ?_ _)); refine blk_put (cs := #[.int .i64 ((rd_T44 l0 x3_1).f0), .int .i64 ((rd_T44 l0 x3_1).f1), .int .i64 ((rd_T44 l0 x3_1).f2), .slice none 0 0]) ?_ 3 _ rfl; (with_reducible repeat (first | refine blk_drewN ?_ _ | refine blk_drew ?_ | refine blk_alloc ?_ _)); refine blk_put (cs := #[.int .i64 ((rd_T44 l0 x3_1).f0), .int .i64 ((rd_T44 l0 x3_1).f1), .int .i64 0, .slice none 0 0]) ?_ 2 _ rfl; (with_reducible repeat (first | refine blk_drewN ?_ _ | refine blk_drew ?_ | refine blk_alloc ?_ _)); refine blk_put (cs := #[.int .i64 ((rd_T44 l0 x3_1).f0), .int .i64 0, .int .i64 0, .slice none 0 0]) ?_ 1 _ rfl; (with_reducible repeat (first | refine blk_drewN ?_ _ | refine blk_drew ?_ | refine blk_alloc ?_ _)); refine blk_put (cs := #[.int .i64 0, .int .i64 0, .int .i64 0, .slice none 0 0]) ?_ 0 _ rfl; (with_reducible repeat (first | refine blk_drewN ?_ _ | refine blk_drew ?_ | refine blk_alloc ?_ _)); exact BK106.out⟩, ⟨by repeat (first | (with_reducible first | exact HB.out | apply below_alloc | apply pw_below_drewN | apply below_drew1 | refine below_set ?_ GE104.out | refine below_set ?_ GE106.out))⟩⟩
               ·rw [if_neg c22] at H
                have c22b0 : (((rd_T44 l0 x4_2).f1) == ((rd_T44 l0 x3_1).f2)) = false := beq_eq_false_iff_ne.mpr c22
                have c22b1 : (((rd_T44 l0 x4_2).f1) != ((rd_T44 l0 x3_1).f2)) = true := bne_iff_ne.mpr c22
                by_cases c26 : ((rd_T44 l0 x4_2).f2) = ((rd_T44 l0 x3_1).f1)
                ·rw [if_pos c26] at H
                 have c26b0 : (((rd_T44 l0 x4_2).f2) == ((rd_T44 l0 x3_1).f1)) = true := beq_iff_eq.mpr c26
                 have c26b1 : (((rd_T44 l0 x4_2).f2) != ((rd_T44 l0 x3_1).f1)) = false := bne_eq_false_iff_eq.mpr c26
                 clear c26
                 have H' := Aside0.mk H
                 clear H
                 have hnb27 := NB104_106.out
                 have hnc27 := NB106_104.out
                 have hcz28_0 : w15.cell? ⟨gb104, 0, none⟩ = some (.int .i64 ((rd_T44 l0 x4_2).f0)) := (blk_cell BK104.out 0).trans rfl
                 have hcz28_1 : w15.cell? ⟨gb104, 1, none⟩ = some (.int .i64 ((rd_T44 l0 x4_2).f1)) := (blk_cell BK104.out 1).trans rfl
                 have hcz28_2 : w15.cell? ⟨gb104, 2, none⟩ = some (.int .i64 ((rd_T44 l0 x4_2).f2)) := (blk_cell BK104.out 2).trans rfl
                 have hcz28_3 : w15.cell? ⟨gb104, 3, none⟩ = some (.slice A103_3 ((rd_T44 l0 x4_2).f3).length c103_3) := (blk_cell BK104.out 3).trans rfl
                 have hfz28_0 := blk_frozen BK104.out 0
                 have hfz28_1 := blk_frozen BK104.out 1
                 have hfz28_2 := blk_frozen BK104.out 2
                 have hfz28_3 := blk_frozen BK104.out 3
                 have hcz29_0 : w15.cell? ⟨gb106, 0, none⟩ = some (.int .i64 0) := (blk_cell BK106.out 0).trans rfl
                 have hcz29_1 : w15.cell? ⟨gb106, 1, none⟩ = some (.int .i64 0) := (blk_cell BK106.out 1).trans rfl
                 have hcz29_2 : w15.cell? ⟨gb106, 2, none⟩ = some (.int .i64 0) := (blk_cell BK106.out 2).trans rfl
                 have hcz29_3 : w15.cell? ⟨gb106, 3, none⟩ = some (.slice none 0 0) := (blk_cell BK106.out 3).trans rfl
                 have hfz29_0 := blk_frozen BK106.out 0
                 have hfz29_1 := blk_frozen BK106.out 1
                 have hfz29_2 := blk_frozen BK106.out 2
                 have hfz29_3 := blk_frozen BK106.out 3
                 go_wp2
                 go_meet
                 case rel => exact ⟨_, (true), (by first | rfl | (simp; done) | (simp [*]; done)), H', ⟨by have := HK1.out; have := HK2.out; first | omega | exact Nat.le_refl _⟩, ⟨by (with_reducible repeat (first | refine blk_drewN ?_ _ | refine blk_drew ?_ | refine blk_alloc ?_ _)); refine blk_far ?_ NB104_106.out _; (with_reducible repeat (first | refine blk_drewN ?_ _ | refine blk_drew ?_ | refine blk_alloc ?_ _)); refine blk_far ?_ NB104_106.out _; (with_reducible repeat (first | refine blk_drewN ?_ _ | refine blk_drew ?_ | refine blk_alloc ?_ _)); refine blk_far ?_ NB104_106.out _; (with_reducible repeat (first | refine blk_drewN ?_ _ | refine blk_drew ?_ | refine blk_alloc ?_ _)); refine blk_far ?_ NB104_106.out _; (with_reducible repeat (first | refine blk_drewN ?_ _ | refine blk_drew ?_ | refine blk_alloc ?_ _)); exact BK104.out⟩, ⟨by (with_reducible repeat (first | refine blk_drewN ?_ _ | refine blk_drew ?_ | refine blk_alloc ?_ _)); refine blk_put (cs := #[.int .i64 ((rd_T44 l0 x3_1).f0), .int .i64 ((rd_T44 l0 x3_1).f1), .int .i64 ((rd_T44 l0 x3_1).f2), .slice none 0 0]) ?_ 3 _ rfl; (with_reducible repeat (first | refine blk_drewN ?_ _ | refine blk_drew ?_ | refine blk_alloc ?_ _)); refine blk_put (cs := #[.int .i64 ((rd_T44 l0 x3_1).f0), .int .i64 ((rd_T44 l0 x3_1).f1), .int .i64 0, .slice none 0 0]) ?_ 2 _ rfl; (with_reducible repeat (first | refine blk_drewN ?_ _ | refine blk_drew ?_ | refine blk_alloc ?_ _)); refine blk_put (cs := #[.int .i64 ((rd_T44 l0 x3_1).f0), .int .i64 0, .int .i64 0, .slice none 0 0]) ?_ 1 _ rfl; (with_reducible repeat (first | refine blk_drewN ?_ _ | refine blk_drew ?_ | refine blk_alloc ?_ _)); refine blk_put (cs := #[.int .i64 0, .int .i64 0, .int .i64 0, .slice none 0 0]) ?_ 0 _ rfl; (with_reducible repeat (first | refine blk_drewN ?_ _ | refine blk_drew ?_ | refine blk_alloc ?_ _)); exact BK106.out⟩, ⟨by repeat (first | (with_reducible first | exact HB.out | apply below_alloc | apply pw_below_drewN | apply below_drew1 | refine below_set ?_ GE104.out | refine below_set ?_ GE106.out))⟩⟩
                ·rw [if_neg c26] at H
                 have c26b0 : (((rd_T44 l0 x4_2).f2) == ((rd_T44 l0 x3_1).f1)) = false := beq_eq_false_iff_ne.mpr c26
                 have c26b1 : (((rd_T44 l0 x4_2).f2) != ((rd_T44 l0 x3_1).f1)) = true := bne_iff_ne.mpr c26
                 have H' := Aside0.mk H
                 clear H
                 have hnb30 := NB104_106.out
                 have hnc30 := NB106_104.out
                 have hcz31_0 : w15.cell? ⟨gb104, 0, none⟩ = some (.int .i64 ((rd_T44 l0 x4_2).f0)) := (blk_cell BK104.out 0).trans rfl
                 have hcz31_1 : w15.cell? ⟨gb104, 1, none⟩ = some (.int .i64 ((rd_T44 l0 x4_2).f1)) := (blk_cell BK104.out 1).trans rfl
                 have hcz31_2 : w15.cell? ⟨gb104, 2, none⟩ = some (.int .i64 ((rd_T44 l0 x4_2).f2)) := (blk_cell BK104.out 2).trans rfl
                 have hcz31_3 : w15.cell? ⟨gb104, 3, none⟩ = some (.slice A103_3 ((rd_T44 l0 x4_2).f3).length c103_3) := (blk_cell BK104.out 3).trans rfl
                 have hfz31_0 := blk_frozen BK104.out 0
                 have hfz31_1 := blk_frozen BK104.out 1
                 have hfz31_2 := blk_frozen BK104.out 2
                 have hfz31_3 := blk_frozen BK104.out 3
                 have hcz32_0 : w15.cell? ⟨gb106, 0, none⟩ = some (.int .i64 0) := (blk_cell BK106.out 0).trans rfl
                 have hcz32_1 : w15.cell? ⟨gb106, 1, none⟩ = some (.int .i64 0) := (blk_cell BK106.out 1).trans rfl
                 have hcz32_2 : w15.cell? ⟨gb106, 2, none⟩ = some (.int .i64 0) := (blk_cell BK106.out 2).trans rfl
                 have hcz32_3 : w15.cell? ⟨gb106, 3, none⟩ = some (.slice none 0 0) := (blk_cell BK106.out 3).trans rfl
                 have hfz32_0 := blk_frozen BK106.out 0
                 have hfz32_1 := blk_frozen BK106.out 1
                 have hfz32_2 := blk_frozen BK106.out 2
                 have hfz32_3 := blk_frozen BK106.out 3
                 go_wp2
                 go_meet
                 case rel => exact ⟨_, ((((rd_T44 l0 x4_2).f2) == ((rd_T44 l0 x3_1).f2))), (by first | rfl | (simp; done) | (simp [*]; done)), H', ⟨by have := HK1.out; have := HK2.out; first | omega | exact Nat.le_refl _⟩, ⟨by (with_reducible repeat (first | refine blk_drewN ?_ _ | refine blk_drew ?_ | refine blk_alloc ?_ _)); refine blk_far ?_ NB104_106.out _; (with_reducible repeat (first | refine blk_drewN ?_ _ | refine blk_drew ?_ | refine blk_alloc ?_ _)); refine blk_far ?_ NB104_106.out _; (with_reducible repeat (first | refine blk_drewN ?_ _ | refine blk_drew ?_ | refine blk_alloc ?_ _)); refine blk_far ?_ NB104_106.out _; (with_reducible repeat (first | refine blk_drewN ?_ _ | refine blk_drew ?_ | refine blk_alloc ?_ _)); refine blk_far ?_ NB104_106.out _; (with_reducible repeat (first | refine blk_drewN ?_ _ | refine blk_drew ?_ | refine blk_alloc ?_ _)); exact BK104.out⟩, ⟨by (with_reducible repeat (first | refine blk_drewN ?_ _ | refine blk_drew ?_ | refine blk_alloc ?_ _)); refine blk_put (cs := #[.int .i64 ((rd_T44 l0 x3_1).f0), .int .i64 ((rd_T44 l0 x3_1).f1), .int .i64 ((rd_T44 l0 x3_1).f2), .slice none 0 0]) ?_ 3 _ rfl; (with_reducible repeat (first | refine blk_drewN ?_ _ | refine blk_drew ?_ | refine blk_alloc ?_ _)); refine blk_put (cs := #[.int .i64 ((rd_T44 l0 x3_1).f0), .int .i64 ((rd_T44 l0 x3_1).f1), .int .i64 0, .slice none 0 0]) ?_ 2 _ rfl; (with_reducible repeat (first | refine blk_drewN ?_ _ | refine blk_drew ?_ | refine blk_alloc ?_ _)); refine blk_put (cs := #[.int .i64 ((rd_T44 l0 x3_1).f0), .int .i64 0, .int .i64 0, .slice none 0 0]) ?_ 1 _ rfl; (with_reducible repeat (first | refine blk_drewN ?_ _ | refine blk_drew ?_ | refine blk_alloc ?_ _)); refine blk_put (cs := #[.int .i64 0, .int .i64 0, .int .i64 0, .slice none 0 0]) ?_ 0 _ rfl; (with_reducible repeat (first | refine blk_drewN ?_ _ | refine blk_drew ?_ | refine blk_alloc ?_ _)); exact BK106.out⟩, ⟨by repeat (first | (with_reducible first | exact HB.out | apply below_alloc | apply pw_below_drewN | apply below_drew1 | refine below_set ?_ GE104.out | refine below_set ?_ GE106.out))⟩⟩
             case rest =>
              clear HC12
              try clear c1
              try clear p1
              try clear q1
              try clear hx1
              try clear c2
              try clear c2b0
              try clear p2
              try clear c3
              try clear c3b0
              try clear c5
              try clear c7
              try clear c7b0
              try clear c8
              try clear c8b0
              try clear c9
              try clear c9b0
              try clear c10
              try clear c10b0
              try clear p10
              try clear q10
              try clear hx10
              try clear c11
              try clear c11b0
              try clear c16
              try clear c18
              try clear c18b0
              try clear c18b1
              try clear c19
              try clear c22
              try clear c22b0
              try clear c22b1
              try clear c23
              try clear c26
              try clear c26b0
              try clear c26b1
              try clear c27
              try clear c30
              try clear hcz14_0
              try clear hcz14_1
              try clear hcz14_2
              try clear hcz14_3
              try clear hcz17_0
              try clear hcz17_1
              try clear hcz17_2
              try clear hcz17_3
              try clear hcz20_0
              try clear hcz20_1
              try clear hcz20_2
              try clear hcz20_3
              try clear hcz21_0
              try clear hcz21_1
              try clear hcz21_2
              try clear hcz21_3
              try clear hcz24_0
              try clear hcz24_1
              try clear hcz24_2
              try clear hcz24_3
              try clear hcz25_0
              try clear hcz25_1
              try clear hcz25_2
              try clear hcz25_3
              try clear hcz28_0
              try clear hcz28_1
              try clear hcz28_2
              try clear hcz28_3
              try clear hcz29_0
              try clear hcz29_1
              try clear hcz29_2
              try clear hcz29_3
              try clear hcz31_0
              try clear hcz31_1
              try clear hcz31_2
              try clear hcz31_3
              try clear hcz32_0
              try clear hcz32_1
              try clear hcz32_2
              try clear hcz32_3
              try clear hfz14_0
              try clear hfz14_1
              try clear hfz14_2
              try clear hfz14_3
              try clear hfz17_0
              try clear hfz17_1
              try clear hfz17_2
              try clear hfz17_3
              try clear hfz20_0
              try clear hfz20_1
              try clear hfz20_2
              try clear hfz20_3
              try clear hfz21_0
              try clear hfz21_1
              try clear hfz21_2
              try clear hfz21_3
              try clear hfz24_0
              try clear hfz24_1
              try clear hfz24_2
              try clear hfz24_3
              try clear hfz25_0
              try clear hfz25_1
              try clear hfz25_2
              try clear hfz25_3
              try clear hfz28_0
              try clear hfz28_1
              try clear hfz28_2
              try clear hfz28_3
              try clear hfz29_0
              try clear hfz29_1
              try clear hfz29_2
              try clear hfz29_3
              try clear hfz31_0
              try clear hfz31_1
              try clear hfz31_2
              try clear hfz31_3
              try clear hfz32_0
              try clear hfz32_1
              try clear hfz32_2
              try clear hfz32_3
              try clear hx101_0
              try clear hx101_1
              try clear hx101_2
              try clear hx101_3
              try clear hx103_0
              try clear hx103_1
              try clear hx103_2
              try clear hx103_3
              try clear hx105_0
              try clear hx105_1
              try clear hx105_2
              try clear hx105_3
              try clear p1
              try clear p101
              try clear p103
              try clear p105
              try clear p2
              try clear q1
              try clear q101
              try clear q103
              try clear q105
              obtain ⟨kq, x59_11, rfl, HA, HJ11, BK104, BK106, HB⟩ := hcut
              cases kq with
              | zero => exact absurd HA.out (by simp [ref06_May.j2])
              | succ kj11 =>
               have H := HA.out
               clear HA
               simp only [ref06_May.j2] at H
               by_cases c33 : x59_11 = true
               ·subst c33
                have H1 : (some false) = some r := by rw [if_pos rfl] at H; exact H
                clear H
                have H := H1
                clear H1
                obtain rfl := Option.some.inj H
                go_wp2
                go_ret
                exact ⟨by first | rfl | (simp <;> rfl) | (simp [*] <;> rfl), by repeat (first | (with_reducible first | exact HB.out | apply below_alloc | apply pw_below_drewN | apply below_drew1 | refine below_set ?_ GE104.out | refine below_set ?_ GE106.out))⟩
               ·replace c33 := Bool.eq_false_iff.mpr c33
                subst c33
                have H1 : (if ((rd_T44 l0 x4_2).f0) = ((rd_T44 l0 x3_1).f0) then (if ((rd_T44 l0 x4_2).f2) > ((rd_T44 l0 x3_1).f1) then (some false) else (ref06_May.l1 kj11 l0 x3_1 (wrap64 (x4_2 + 1)))) else (ref06_May.l1 kj11 l0 x3_1 (wrap64 (x4_2 + 1)))) = some r := by rw [if_neg (show ¬ (false = true) by decide)] at H; exact H
                clear H
                have H := H1
                clear H1
                by_cases c34 : ((rd_T44 l0 x4_2).f0) = ((rd_T44 l0 x3_1).f0)
                ·rw [if_pos c34] at H
                 have c34b0 : (((rd_T44 l0 x4_2).f0) == ((rd_T44 l0 x3_1).f0)) = true := beq_iff_eq.mpr c34
                 have c34b1 : (((rd_T44 l0 x4_2).f0) != ((rd_T44 l0 x3_1).f0)) = false := bne_eq_false_iff_eq.mpr c34
                 clear c34
                 by_cases c35 : ((rd_T44 l0 x4_2).f2) > ((rd_T44 l0 x3_1).f1)
                 ·rw [if_pos c35] at H
                  have c35b0 : decide (((rd_T44 l0 x3_1).f1) < ((rd_T44 l0 x4_2).f2)) = true := decide_eq_true c35
                  clear c35
                  obtain rfl := Option.some.inj H
                  have hnb36 := NB104_106.out
                  have hnc36 := NB106_104.out
                  have hcz37_0 : wc.cell? ⟨gb104, 0, none⟩ = some (.int .i64 ((rd_T44 l0 x4_2).f0)) := (blk_cell BK104.out 0).trans rfl
                  have hcz37_1 : wc.cell? ⟨gb104, 1, none⟩ = some (.int .i64 ((rd_T44 l0 x4_2).f1)) := (blk_cell BK104.out 1).trans rfl
                  have hcz37_2 : wc.cell? ⟨gb104, 2, none⟩ = some (.int .i64 ((rd_T44 l0 x4_2).f2)) := (blk_cell BK104.out 2).trans rfl
                  have hcz37_3 : wc.cell? ⟨gb104, 3, none⟩ = some (.slice A103_3 ((rd_T44 l0 x4_2).f3).length c103_3) := (blk_cell BK104.out 3).trans rfl
                  have hfz37_0 := blk_frozen BK104.out 0
                  have hfz37_1 := blk_frozen BK104.out 1
                  have hfz37_2 := blk_frozen BK104.out 2
                  have hfz37_3 := blk_frozen BK104.out 3
                  have hcz38_0 : wc.cell? ⟨gb106, 0, none⟩ = some (.int .i64 ((rd_T44 l0 x3_1).f0)) := (blk_cell BK106.out 0).trans rfl
                  have hcz38_1 : wc.cell? ⟨gb106, 1, none⟩ = some (.int .i64 ((rd_T44 l0 x3_1).f1)) := (blk_cell BK106.out 1).trans rfl
                  have hcz38_2 : wc.cell? ⟨gb106, 2, none⟩ = some (.int .i64 ((rd_T44 l0 x3_1).f2)) := (blk_cell BK106.out 2).trans rfl
                  have hcz38_3 : wc.cell? ⟨gb106, 3, none⟩ = some (.slice A105_3 ((rd_T44 l0 x3_1).f3).length c105_3) := (blk_cell BK106.out 3).trans rfl
                  have hfz38_0 := blk_frozen BK106.out 0
                  have hfz38_1 := blk_frozen BK106.out 1
                  have hfz38_2 := blk_frozen BK106.out 2
                  have hfz38_3 := blk_frozen BK106.out 3
                  go_wp2
                  go_ret
                  exact ⟨by first | rfl | (simp <;> rfl) | (simp [*] <;> rfl), by repeat (first | (with_reducible first | exact HB.out | apply below_alloc | apply pw_below_drewN | apply below_drew1 | refine below_set ?_ GE104.out | refine below_set ?_ GE106.out))⟩
                 ·rw [if_neg c35] at H
                  have c35b0 : decide (((rd_T44 l0 x3_1).f1) < ((rd_T44 l0 x4_2).f2)) = false := decide_eq_false c35
                  clear c35
                  have H' := Aside0.mk H
                  clear H
                  have hnb39 := NB104_106.out
                  have hnc39 := NB106_104.out
                  have hcz40_0 : wc.cell? ⟨gb104, 0, none⟩ = some (.int .i64 ((rd_T44 l0 x4_2).f0)) := (blk_cell BK104.out 0).trans rfl
                  have hcz40_1 : wc.cell? ⟨gb104, 1, none⟩ = some (.int .i64 ((rd_T44 l0 x4_2).f1)) := (blk_cell BK104.out 1).trans rfl
                  have hcz40_2 : wc.cell? ⟨gb104, 2, none⟩ = some (.int .i64 ((rd_T44 l0 x4_2).f2)) := (blk_cell BK104.out 2).trans rfl
                  have hcz40_3 : wc.cell? ⟨gb104, 3, none⟩ = some (.slice A103_3 ((rd_T44 l0 x4_2).f3).length c103_3) := (blk_cell BK104.out 3).trans rfl
                  have hfz40_0 := blk_frozen BK104.out 0
                  have hfz40_1 := blk_frozen BK104.out 1
                  have hfz40_2 := blk_frozen BK104.out 2
                  have hfz40_3 := blk_frozen BK104.out 3
                  have hcz41_0 : wc.cell? ⟨gb106, 0, none⟩ = some (.int .i64 ((rd_T44 l0 x3_1).f0)) := (blk_cell BK106.out 0).trans rfl
                  have hcz41_1 : wc.cell? ⟨gb106, 1, none⟩ = some (.int .i64 ((rd_T44 l0 x3_1).f1)) := (blk_cell BK106.out 1).trans rfl
                  have hcz41_2 : wc.cell? ⟨gb106, 2, none⟩ = some (.int .i64 ((rd_T44 l0 x3_1).f2)) := (blk_cell BK106.out 2).trans rfl
                  have hcz41_3 : wc.cell? ⟨gb106, 3, none⟩ = some (.slice A105_3 ((rd_T44 l0 x3_1).f3).length c105_3) := (blk_cell BK106.out 3).trans rfl
                  have hfz41_0 := blk_frozen BK106.out 0
                  have hfz41_1 := blk_frozen BK106.out 1
                  have hfz41_2 := blk_frozen BK106.out 2
                  have hfz41_3 := blk_frozen BK106.out 3
                  go_wp2
                  go_roundg kj11
                  case measure => have := HK1.out; have := HK2.out; have := HJ11.out; omega
                  case rel => exact ⟨(wrap64 (x4_2 + 1)), (by first | rfl | (simp; done) | (simp [*]; done)), H', ⟨by have := HK1.out; have := HK2.out; have := HJ11.out; omega⟩, ⟨by repeat (first | (with_reducible first | exact HB.out | apply below_alloc | apply pw_below_drewN | apply below_drew1 | refine below_set ?_ GE104.out | refine below_set ?_ GE106.out))⟩⟩
                ·rw [if_neg c34] at H
                 have c34b0 : (((rd_T44 l0 x4_2).f0) == ((rd_T44 l0 x3_1).f0)) = false := beq_eq_false_iff_ne.mpr c34
                 have c34b1 : (((rd_T44 l0 x4_2).f0) != ((rd_T44 l0 x3_1).f0)) = true := bne_iff_ne.mpr c34
                 have H' := Aside0.mk H
                 clear H
                 have hnb42 := NB104_106.out
                 have hnc42 := NB106_104.out
                 have hcz43_0 : wc.cell? ⟨gb104, 0, none⟩ = some (.int .i64 ((rd_T44 l0 x4_2).f0)) := (blk_cell BK104.out 0).trans rfl
                 have hcz43_1 : wc.cell? ⟨gb104, 1, none⟩ = some (.int .i64 ((rd_T44 l0 x4_2).f1)) := (blk_cell BK104.out 1).trans rfl
                 have hcz43_2 : wc.cell? ⟨gb104, 2, none⟩ = some (.int .i64 ((rd_T44 l0 x4_2).f2)) := (blk_cell BK104.out 2).trans rfl
                 have hcz43_3 : wc.cell? ⟨gb104, 3, none⟩ = some (.slice A103_3 ((rd_T44 l0 x4_2).f3).length c103_3) := (blk_cell BK104.out 3).trans rfl
                 have hfz43_0 := blk_frozen BK104.out 0
                 have hfz43_1 := blk_frozen BK104.out 1
                 have hfz43_2 := blk_frozen BK104.out 2
                 have hfz43_3 := blk_frozen BK104.out 3
                 have hcz44_0 : wc.cell? ⟨gb106, 0, none⟩ = some (.int .i64 ((rd_T44 l0 x3_1).f0)) := (blk_cell BK106.out 0).trans rfl
                 have hcz44_1 : wc.cell? ⟨gb106, 1, none⟩ = some (.int .i64 ((rd_T44 l0 x3_1).f1)) := (blk_cell BK106.out 1).trans rfl
                 have hcz44_2 : wc.cell? ⟨gb106, 2, none⟩ = some (.int .i64 ((rd_T44 l0 x3_1).f2)) := (blk_cell BK106.out 2).trans rfl
                 have hcz44_3 : wc.cell? ⟨gb106, 3, none⟩ = some (.slice A105_3 ((rd_T44 l0 x3_1).f3).length c105_3) := (blk_cell BK106.out 3).trans rfl
                 have hfz44_0 := blk_frozen BK106.out 0
                 have hfz44_1 := blk_frozen BK106.out 1
                 have hfz44_2 := blk_frozen BK106.out 2
                 have hfz44_3 := blk_frozen BK106.out 3
                 go_wp2
                 go_roundg kj11
                 case measure => have := HK1.out; have := HK2.out; have := HJ11.out; omega
                 case rel => exact ⟨(wrap64 (x4_2 + 1)), (by first | rfl | (simp; done) | (simp [*]; done)), H', ⟨by have := HK1.out; have := HK2.out; have := HJ11.out; omega⟩, ⟨by repeat (first | (with_reducible first | exact HB.out | apply below_alloc | apply pw_below_drewN | apply below_drew1 | refine below_set ?_ GE104.out | refine below_set ?_ GE106.out))⟩⟩
            ·rw [if_neg c11] at H
             exact absurd H (by simp)
           ·rw [if_neg c10] at H
            exact absurd H (by simp)
          ·rw [if_neg c9] at H
           exact absurd H (by simp)
         ·rw [if_neg c8] at H
          exact absurd H (by simp)
        ·rw [if_neg c7] at H
         have c7b0 : decide (x4_2 < x3_1) = false := decide_eq_false c7
         clear c7
         have H' := Aside0.mk H
         clear H
         go_wp2
         go_loopg [7] k2 (fun kq v7 w' => ∃ (x7_3 : Int), v7 = .int .i64 x7_3 ∧ Aside0 (ref06_May.l2 kq l0 x3_1 x7_3 = some r) ∧ Aside0 (kq ≤ k2) ∧ Aside0 (Below w.heap.size w w'))
         case atStart => exact ⟨(0), (by first | rfl | (simp; done) | (simp [*]; done)), H', ⟨Nat.le_refl _⟩, ⟨by repeat (first | (with_reducible first | exact HB.out | apply below_alloc | apply pw_below_drewN | apply below_drew1))⟩⟩
         case round =>
          clear H'
          try clear c1
          try clear p1
          try clear q1
          try clear hx1
          try clear c2
          try clear c2b0
          try clear p2
          try clear c3
          try clear c3b0
          try clear c4
          try clear c5
          try clear p6
          try clear c7
          try clear c7b0
          try clear c8
          try clear c8b0
          try clear c9
          try clear c9b0
          try clear c10
          try clear c10b0
          try clear p10
          try clear q10
          try clear hx10
          try clear c11
          try clear c11b0
          try clear c16
          try clear c18
          try clear c18b0
          try clear c18b1
          try clear c19
          try clear c22
          try clear c22b0
          try clear c22b1
          try clear c23
          try clear c26
          try clear c26b0
          try clear c26b1
          try clear c27
          try clear c30
          try clear c33
          try clear c34
          try clear c34b0
          try clear c34b1
          try clear c35
          try clear c35b0
          try clear c36
          try clear c39
          try clear c42
          try clear hcz14_0
          try clear hcz14_1
          try clear hcz14_2
          try clear hcz14_3
          try clear hcz17_0
          try clear hcz17_1
          try clear hcz17_2
          try clear hcz17_3
          try clear hcz20_0
          try clear hcz20_1
          try clear hcz20_2
          try clear hcz20_3
          try clear hcz21_0
          try clear hcz21_1
          try clear hcz21_2
          try clear hcz21_3
          try clear hcz24_0
          try clear hcz24_1
          try clear hcz24_2
          try clear hcz24_3
          try clear hcz25_0
          try clear hcz25_1
          try clear hcz25_2
          try clear hcz25_3
          try clear hcz28_0
          try clear hcz28_1
          try clear hcz28_2
          try clear hcz28_3
          try clear hcz29_0
          try clear hcz29_1
          try clear hcz29_2
          try clear hcz29_3
          try clear hcz31_0
          try clear hcz31_1
          try clear hcz31_2
          try clear hcz31_3
          try clear hcz32_0
          try clear hcz32_1
          try clear hcz32_2
          try clear hcz32_3
          try clear hcz37_0
          try clear hcz37_1
          try clear hcz37_2
          try clear hcz37_3
          try clear hcz38_0
          try clear hcz38_1
          try clear hcz38_2
          try clear hcz38_3
          try clear hcz40_0
          try clear hcz40_1
          try clear hcz40_2
          try clear hcz40_3
          try clear hcz41_0
          try clear hcz41_1
          try clear hcz41_2
          try clear hcz41_3
          try clear hcz43_0
          try clear hcz43_1
          try clear hcz43_2
          try clear hcz43_3
          try clear hcz44_0
          try clear hcz44_1
          try clear hcz44_2
          try clear hcz44_3
          try clear hfz14_0
          try clear hfz14_1
          try clear hfz14_2
          try clear hfz14_3
          try clear hfz17_0
          try clear hfz17_1
          try clear hfz17_2
          try clear hfz17_3
          try clear hfz20_0
          try clear hfz20_1
          try clear hfz20_2
          try clear hfz20_3
          try clear hfz21_0
          try clear hfz21_1
          try clear hfz21_2
          try clear hfz21_3
          try clear hfz24_0
          try clear hfz24_1
          try clear hfz24_2
          try clear hfz24_3
          try clear hfz25_0
          try clear hfz25_1
          try clear hfz25_2
          try clear hfz25_3
          try clear hfz28_0
          try clear hfz28_1
          try clear hfz28_2
          try clear hfz28_3
          try clear hfz29_0
          try clear hfz29_1
          try clear hfz29_2
          try clear hfz29_3
          try clear hfz31_0
          try clear hfz31_1
          try clear hfz31_2
          try clear hfz31_3
          try clear hfz32_0
          try clear hfz32_1
          try clear hfz32_2
          try clear hfz32_3
          try clear hfz37_0
          try clear hfz37_1
          try clear hfz37_2
          try clear hfz37_3
          try clear hfz38_0
          try clear hfz38_1
          try clear hfz38_2
          try clear hfz38_3
          try clear hfz40_0
          try clear hfz40_1
          try clear hfz40_2
          try clear hfz40_3
          try clear hfz41_0
          try clear hfz41_1
          try clear hfz41_2
          try clear hfz41_3
          try clear hfz43_0
          try clear hfz43_1
          try clear hfz43_2
          try clear hfz43_3
          try clear hfz44_0
          try clear hfz44_1
          try clear hfz44_2
          try clear hfz44_3
          try clear hx101_0
          try clear hx101_1
          try clear hx101_2
          try clear hx101_3
          try clear hx103_0
          try clear hx103_1
          try clear hx103_2
          try clear hx103_3
          try clear hx105_0
          try clear hx105_1
          try clear hx105_2
          try clear hx105_3
          try clear p1
          try clear p10
          try clear p101
          try clear p103
          try clear p105
          try clear p2
          try clear q1
          try clear q10
          try clear q101
          try clear q103
          try clear q105
          obtain ⟨x7_3, rfl, HA, HK3, HB⟩ := hrel
          cases gk with
          | zero => exact absurd HA.out (by simp [ref06_May.l2])
          | succ k3 =>
           have H := HA.out
           clear HA
           simp only [ref06_May.l2] at H
           by_cases c45 : 0 ≤ x3_1
           ·rw [if_pos c45] at H
            have c45b0 : decide (0 ≤ x3_1) = true := decide_eq_true c45
            clear c45
            by_cases c46 : x3_1 < (l0.length : Int)
            ·rw [if_pos c46] at H
             have c46b0 : decide (x3_1 < (l0.length : Int)) = true := decide_eq_true c46
             clear c46
             by_cases c47 : x7_3 < (((rd_T44 l0 x3_1).f3).length : Int)
             ·rw [if_pos c47] at H
              have c47b0 : decide (x7_3 < (((rd_T44 l0 x3_1).f3).length : Int)) = true := decide_eq_true c47
              clear c47
              by_cases c48 : 0 ≤ x7_3
              ·rw [if_pos c48] at H
               have c48b0 : decide (0 ≤ x7_3) = true := decide_eq_true c48
               clear c48
               have HC49 := Aside0.mk H
               clear H
               have p107 : 0 ≤ (x3_1 : Int) := of_decide_eq_true (by assumption)
               have q107 : x3_1 < (l0.length : Int) := of_decide_eq_true (by assumption)
               obtain ⟨ad107, A107_3, c107_3, e107, hx107_0, hx107_1, hx107_2, hx107_3, hl107_3, hi107_3⟩ := at_T44 HR0.out x3_1 p107 q107
               obtain rfl : ad101 = ad107 := (by injection e107)
               replace hx107_0 := (HB.out.cell (World.block_lt_of_cell? w _ hx107_0)).trans hx107_0
               replace hx107_1 := (HB.out.cell (World.block_lt_of_cell? w _ hx107_1)).trans hx107_1
               replace hx107_2 := (HB.out.cell (World.block_lt_of_cell? w _ hx107_2)).trans hx107_2
               replace hx107_3 := (HB.out.cell (World.block_lt_of_cell? w _ hx107_3)).trans hx107_3
               have HR107_3 := Aside0.mk hi107_3
               have HC107_3 := Aside0.mk hl107_3
               clear hi107_3 hl107_3
               replace p107 := eq_true p107
               replace q107 := eq_true q107
               have p108 : 0 ≤ (x3_1 : Int) := of_decide_eq_true (by assumption)
               have q108 : x3_1 < (l0.length : Int) := of_decide_eq_true (by assumption)
               obtain ⟨ad108, A108_3, c108_3, e108, hx108_0, hx108_1, hx108_2, hx108_3, hl108_3, hi108_3⟩ := at_T44 HR0.out x3_1 p108 q108
               obtain rfl : ad101 = ad108 := (by injection e108)
               replace hx108_0 := (HB.out.cell (World.block_lt_of_cell? w _ hx108_0)).trans hx108_0
               replace hx108_1 := (HB.out.cell (World.block_lt_of_cell? w _ hx108_1)).trans hx108_1
               replace hx108_2 := (HB.out.cell (World.block_lt_of_cell? w _ hx108_2)).trans hx108_2
               replace hx108_3 := (HB.out.cell (World.block_lt_of_cell? w _ hx108_3)).trans hx108_3
               have HR108_3 := Aside0.mk hi108_3
               have HC108_3 := Aside0.mk hl108_3
               clear hi108_3 hl108_3
               replace p108 := eq_true p108
               replace q108 := eq_true q108
               have ea_ := Option.some.inj (hx107_3.symm.trans hx108_3)
               injection ea_ with ea_ en_ ec_
               subst ea_
               subst ec_
               clear en_
               have p109 : 0 ≤ (x7_3 : Int) := of_decide_eq_true (by assumption)
               have q109 : x7_3 < (((rd_T44 l0 x3_1).f3).length : Int) := of_decide_eq_true (by assumption)
               obtain ⟨ad109, e109, hx109_0, hx109_1, hx109_2⟩ := at_T46 HR108_3.out x7_3 p109 q109
               cases e109
               replace hx109_0 := (HB.out.cell (World.block_lt_of_cell? w _ hx109_0)).trans hx109_0
               replace hx109_1 := (HB.out.cell (World.block_lt_of_cell? w _ hx109_1)).trans hx109_1
               replace hx109_2 := (HB.out.cell (World.block_lt_of_cell? w _ hx109_2)).trans hx109_2
               replace p109 := eq_true p109
               replace q109 := eq_true q109
               go_upto_region 19 with (first | ((with_reducible refine gate_dst (N := 8) rfl ?_); refine box_event ?hg (N := 8) ?hd (cs := #[.bool false, .int .i64 0, .int .i64 0]) (t := 46) ?hr ?_; (case hd => rfl); (case hg => rfl); (case hr => first | (go_simp; done) | (go_simp; rfl)); intro gb110 hg w50 hbox hb; have n0_ := Aside0.mk (below_step (by repeat (first | (with_reducible first | exact HB.out | apply below_alloc | apply pw_below_drewN | apply below_drew1))) hb); have n1_ := Aside0.mk (hbox); have n2_ := Aside0.mk ((by rw [hg]; exact (below_size (by repeat (first | (with_reducible first | exact HB.out | apply below_alloc | apply pw_below_drewN | apply below_drew1)))) : w.heap.size ≤ gb110)); have n3_ := Aside0.mk ((by rw [hg]; exact (below_size (by repeat (first | (with_reducible first | exact HB.out | apply below_alloc | apply pw_below_drewN | apply below_drew1)))) : w.heap.size ≤ gb110)); clear HB; have HB := n0_; have BK110 := n1_; have GW110 := n2_; have GE110 := n3_; clear n0_ n1_ n2_ n3_; clear hb hbox hg; have hcz51_0 : w50.cell? ⟨gb110, 0, none⟩ = some (.bool false) := (blk_cell BK110.out 0).trans rfl; have hcz51_1 : w50.cell? ⟨gb110, 1, none⟩ = some (.int .i64 0) := (blk_cell BK110.out 1).trans rfl; have hcz51_2 : w50.cell? ⟨gb110, 2, none⟩ = some (.int .i64 0) := (blk_cell BK110.out 2).trans rfl; have hfz51_0 := blk_frozen BK110.out 0; have hfz51_1 := blk_frozen BK110.out 1; have hfz51_2 := blk_frozen BK110.out 2))
               (try simp only [Act.put, List.setIfInBounds_toArray, List.set_cons_zero, List.set_cons_succ])
               go_cut [98] (fun v98 wc => ∃ (kq : Nat) (x98_48 : Bool), v98 = .bool x98_48 ∧ Aside0 (ref06_May.j4 kq l0 x3_1 x7_3 x98_48 ((rd_T46 ((rd_T44 l0 x3_1).f3) x7_3).f0) ((rd_T46 ((rd_T44 l0 x3_1).f3) x7_3).f1) ((rd_T46 ((rd_T44 l0 x3_1).f3) x7_3).f2) = some r) ∧ Aside0 (kq ≤ k3) ∧ Aside0 (wc.heap[gb110]? = some (.cells #[.bool ((rd_T46 ((rd_T44 l0 x3_1).f3) x7_3).f0), .int .i64 ((rd_T46 ((rd_T44 l0 x3_1).f3) x7_3).f1), .int .i64 ((rd_T46 ((rd_T44 l0 x3_1).f3) x7_3).f2)] 46 (0, 0))) ∧ Aside0 (Below w.heap.size w wc))
               case first =>
                have H := HC49.out
                clear HC49
                obtain ⟨bq52, hbq52⟩ : ∃ b_ : Bool, b_ = ((rd_T46 ((rd_T44 l0 x3_1).f3) x7_3).f0) := ⟨_, rfl⟩
                replace H : (if bq52 = true then ((ref06_times.f k3 l0 ((rd_T46 ((rd_T44 l0 x3_1).f3) x7_3).f2)).bind fun t111 => (ref06_May.j4 k3 l0 x3_1 x7_3 (t111 != 1) bq52 ((rd_T46 ((rd_T44 l0 x3_1).f3) x7_3).f1) ((rd_T46 ((rd_T44 l0 x3_1).f3) x7_3).f2))) else (ref06_May.j4 k3 l0 x3_1 x7_3 false bq52 ((rd_T46 ((rd_T44 l0 x3_1).f3) x7_3).f1) ((rd_T46 ((rd_T44 l0 x3_1).f3) x7_3).f2))) = some r := by rw [← hbq52] at H; exact H
                have Nbq52 := Aside0.mk hbq52
                clear hbq52
                (try rw [← Nbq52.out])
                by_cases c53 : bq52 = true
                ·subst c53
                 have H1 : ((ref06_times.f k3 l0 ((rd_T46 ((rd_T44 l0 x3_1).f3) x7_3).f2)).bind fun t111 => (ref06_May.j4 k3 l0 x3_1 x7_3 (t111 != 1) true ((rd_T46 ((rd_T44 l0 x3_1).f3) x7_3).f1) ((rd_T46 ((rd_T44 l0 x3_1).f3) x7_3).f2))) = some r := by rw [if_pos rfl] at H; exact H
                 clear H
                 have H := H1
                 clear H1
                 replace H := Option.bind_eq_some_iff.mp H
                 obtain ⟨t111, A540, H⟩ := H
                 replace H : (ref06_May.j4 k3 l0 x3_1 x7_3 (t111 != 1) true ((rd_T46 ((rd_T44 l0 x3_1).f3) x7_3).f1) ((rd_T46 ((rd_T44 l0 x3_1).f3) x7_3).f2)) = some r := H
                 have A54 := Aside0.mk A540
                 clear A540
                 have H' := Aside0.mk H
                 clear H
                 have hcz55_0 : w50.cell? ⟨gb110, 0, none⟩ = some (.bool false) := (blk_cell BK110.out 0).trans rfl
                 have hcz55_1 : w50.cell? ⟨gb110, 1, none⟩ = some (.int .i64 0) := (blk_cell BK110.out 1).trans rfl
                 have hcz55_2 : w50.cell? ⟨gb110, 2, none⟩ = some (.int .i64 0) := (blk_cell BK110.out 2).trans rfl
                 have hfz55_0 := blk_frozen BK110.out 0
                 have hfz55_1 := blk_frozen BK110.out 1
                 have hfz55_2 := blk_frozen BK110.out 2
                 go_wp2_with (first | (go_at_call 91; (with_reducible refine (ref06_times.calls k3 _ _ l0 ((rd_T46 ((rd_T44 l0 x3_1).f3) x7_3).f2) t111 _ ?side1 ?side2 A54.out).mono ?_); (case side1 => exact Kd.C_below HR0.out (by repeat (first | (with_reducible first | exact HB.out | apply below_alloc | apply pw_below_drewN | apply below_drew1 | refine below_set ?_ GE110.out)))); (case side2 => exact HC0.out); rintro e w' ⟨rfl, ⟨nd, rfl⟩⟩))
                 go_meet
                 case rel => (try rw [← Nbq52.out]); exact ⟨_, ((t111 != 1)), (by first | rfl | (simp; done) | (simp [*]; done)), H', ⟨by have := HK1.out; have := HK2.out; have := HK3.out; first | omega | exact Nat.le_refl _⟩, ⟨by (with_reducible repeat (first | refine blk_drewN ?_ _ | refine blk_drew ?_ | refine blk_alloc ?_ _)); refine blk_put (cs := #[.bool (true), .int .i64 ((rd_T46 ((rd_T44 l0 x3_1).f3) x7_3).f1), .int .i64 0]) ?_ 2 _ rfl; (with_reducible repeat (first | refine blk_drewN ?_ _ | refine blk_drew ?_ | refine blk_alloc ?_ _)); refine blk_put (cs := #[.bool (true), .int .i64 0, .int .i64 0]) ?_ 1 _ rfl; (with_reducible repeat (first | refine blk_drewN ?_ _ | refine blk_drew ?_ | refine blk_alloc ?_ _)); refine blk_put (cs := #[.bool false, .int .i64 0, .int .i64 0]) ?_ 0 _ rfl; (with_reducible repeat (first | refine blk_drewN ?_ _ | refine blk_drew ?_ | refine blk_alloc ?_ _)); exact BK110.out⟩, ⟨by repeat (first | (with_reducible first | exact HB.out | apply below_alloc | apply pw_below_drewN | apply below_drew1 | refine below_set ?_ GE110.out))⟩⟩
                ·replace c53 := Bool.eq_false_iff.mpr c53
                 subst c53
                 have H1 : (ref06_May.j4 k3 l0 x3_1 x7_3 false false ((rd_T46 ((rd_T44 l0 x3_1).f3) x7_3).f1) ((rd_T46 ((rd_T44 l0 x3_1).f3) x7_3).f2)) = some r := by rw [if_neg (show ¬ (false = true) by decide)] at H; exact H
                 clear H
                 have H := H1
                 clear H1
                 have H' := Aside0.mk H
                 clear H
                 have hcz56_0 : w50.cell? ⟨gb110, 0, none⟩ = some (.bool false) := (blk_cell BK110.out 0).trans rfl
                 have hcz56_1 : w50.cell? ⟨gb110, 1, none⟩ = some (.int .i64 0) := (blk_cell BK110.out 1).trans rfl
                 have hcz56_2 : w50.cell? ⟨gb110, 2, none⟩ = some (.int .i64 0) := (blk_cell BK110.out 2).trans rfl
                 have hfz56_0 := blk_frozen BK110.out 0
                 have hfz56_1 := blk_frozen BK110.out 1
                 have hfz56_2 := blk_frozen BK110.out 2
                 go_wp2
                 go_meet
                 case rel => (try rw [← Nbq52.out]); exact ⟨_, (false), (by first | rfl | (simp; done) | (simp [*]; done)), H', ⟨by have := HK1.out; have := HK2.out; have := HK3.out; first | omega | exact Nat.le_refl _⟩, ⟨by (with_reducible repeat (first | refine blk_drewN ?_ _ | refine blk_drew ?_ | refine blk_alloc ?_ _)); refine blk_put (cs := #[.bool (false), .int .i64 ((rd_T46 ((rd_T44 l0 x3_1).f3) x7_3).f1), .int .i64 0]) ?_ 2 _ rfl; (with_reducible repeat (first | refine blk_drewN ?_ _ | refine blk_drew ?_ | refine blk_alloc ?_ _)); refine blk_put (cs := #[.bool (false), .int .i64 0, .int .i64 0]) ?_ 1 _ rfl; (with_reducible repeat (first | refine blk_drewN ?_ _ | refine blk_drew ?_ | refine blk_alloc ?_ _)); refine blk_put (cs := #[.bool false, .int .i64 0, .int .i64 0]) ?_ 0 _ rfl; (with_reducible repeat (first | refine blk_drewN ?_ _ | refine blk_drew ?_ | refine blk_alloc ?_ _)); exact BK110.out⟩, ⟨by repeat (first | (with_reducible first | exact HB.out | apply below_alloc | apply pw_below_drewN | apply below_drew1 | refine below_set ?_ GE110.out))⟩⟩
               case rest =>
                clear HC49
                try clear c1
                try clear p1
                try clear q1
                try clear hx1
                try clear c2
                try clear c2b0
                try clear p2
                try clear c3
                try clear c3b0
                try clear c4
                try clear c5
                try clear q5
                try clear p6
                try clear c7
                try clear c7b0
                try clear c8
                try clear c8b0
                try clear c9
                try clear c9b0
                try clear c10
                try clear c10b0
                try clear p10
                try clear q10
                try clear hx10
                try clear c11
                try clear c11b0
                try clear c16
                try clear c18
                try clear c18b0
                try clear c18b1
                try clear c19
                try clear c22
                try clear c22b0
                try clear c22b1
                try clear c23
                try clear c26
                try clear c26b0
                try clear c26b1
                try clear c27
                try clear c30
                try clear c33
                try clear c34
                try clear c34b0
                try clear c34b1
                try clear c35
                try clear c35b0
                try clear c36
                try clear c39
                try clear c42
                try clear c45
                try clear c45b0
                try clear c46
                try clear c46b0
                try clear c47
                try clear c47b0
                try clear c48
                try clear c48b0
                try clear q52
                try clear c53
                try clear hcz14_0
                try clear hcz14_1
                try clear hcz14_2
                try clear hcz14_3
                try clear hcz17_0
                try clear hcz17_1
                try clear hcz17_2
                try clear hcz17_3
                try clear hcz20_0
                try clear hcz20_1
                try clear hcz20_2
                try clear hcz20_3
                try clear hcz21_0
                try clear hcz21_1
                try clear hcz21_2
                try clear hcz21_3
                try clear hcz24_0
                try clear hcz24_1
                try clear hcz24_2
                try clear hcz24_3
                try clear hcz25_0
                try clear hcz25_1
                try clear hcz25_2
                try clear hcz25_3
                try clear hcz28_0
                try clear hcz28_1
                try clear hcz28_2
                try clear hcz28_3
                try clear hcz29_0
                try clear hcz29_1
                try clear hcz29_2
                try clear hcz29_3
                try clear hcz31_0
                try clear hcz31_1
                try clear hcz31_2
                try clear hcz31_3
                try clear hcz32_0
                try clear hcz32_1
                try clear hcz32_2
                try clear hcz32_3
                try clear hcz37_0
                try clear hcz37_1
                try clear hcz37_2
                try clear hcz37_3
                try clear hcz38_0
                try clear hcz38_1
                try clear hcz38_2
                try clear hcz38_3
                try clear hcz40_0
                try clear hcz40_1
                try clear hcz40_2
                try clear hcz40_3
                try clear hcz41_0
                try clear hcz41_1
                try clear hcz41_2
                try clear hcz41_3
                try clear hcz43_0
                try clear hcz43_1
                try clear hcz43_2
                try clear hcz43_3
                try clear hcz44_0
                try clear hcz44_1
                try clear hcz44_2
                try clear hcz44_3
                try clear hcz51_0
                try clear hcz51_1
                try clear hcz51_2
                try clear hcz55_0
                try clear hcz55_1
                try clear hcz55_2
                try clear hcz56_0
                try clear hcz56_1
                try clear hcz56_2
                try clear hfz14_0
                try clear hfz14_1
                try clear hfz14_2
                try clear hfz14_3
                try clear hfz17_0
                try clear hfz17_1
                try clear hfz17_2
                try clear hfz17_3
                try clear hfz20_0
                try clear hfz20_1
                try clear hfz20_2
                try clear hfz20_3
                try clear hfz21_0
                try clear hfz21_1
                try clear hfz21_2
                try clear hfz21_3
                try clear hfz24_0
                try clear hfz24_1
                try clear hfz24_2
                try clear hfz24_3
                try clear hfz25_0
                try clear hfz25_1
                try clear hfz25_2
                try clear hfz25_3
                try clear hfz28_0
                try clear hfz28_1
                try clear hfz28_2
                try clear hfz28_3
                try clear hfz29_0
                try clear hfz29_1
                try clear hfz29_2
                try clear hfz29_3
                try clear hfz31_0
                try clear hfz31_1
                try clear hfz31_2
                try clear hfz31_3
                try clear hfz32_0
                try clear hfz32_1
                try clear hfz32_2
                try clear hfz32_3
                try clear hfz37_0
                try clear hfz37_1
                try clear hfz37_2
                try clear hfz37_3
                try clear hfz38_0
                try clear hfz38_1
                try clear hfz38_2
                try clear hfz38_3
                try clear hfz40_0
                try clear hfz40_1
                try clear hfz40_2
                try clear hfz40_3
                try clear hfz41_0
                try clear hfz41_1
                try clear hfz41_2
                try clear hfz41_3
                try clear hfz43_0
                try clear hfz43_1
                try clear hfz43_2
                try clear hfz43_3
                try clear hfz44_0
                try clear hfz44_1
                try clear hfz44_2
                try clear hfz44_3
                try clear hfz51_0
                try clear hfz51_1
                try clear hfz51_2
                try clear hfz55_0
                try clear hfz55_1
                try clear hfz55_2
                try clear hfz56_0
                try clear hfz56_1
                try clear hfz56_2
                try clear hx101_0
                try clear hx101_1
                try clear hx101_2
                try clear hx101_3
                try clear hx103_0
                try clear hx103_1
                try clear hx103_2
                try clear hx103_3
                try clear hx105_0
                try clear hx105_1
                try clear hx105_2
                try clear hx105_3
                try clear hx107_0
                try clear hx107_1
                try clear hx107_2
                try clear hx107_3
                try clear hx108_0
                try clear hx108_1
                try clear hx108_2
                try clear hx108_3
                try clear hx109_0
                try clear hx109_1
                try clear hx109_2
                try clear p1
                try clear p10
                try clear p101
                try clear p103
                try clear p105
                try clear p107
                try clear p108
                try clear p109
                try clear p2
                try clear p6
                try clear q1
                try clear q10
                try clear q101
                try clear q103
                try clear q105
                try clear q107
                try clear q108
                try clear q109
                obtain ⟨kq, x98_48, rfl, HA, HJ48, BK110, HB⟩ := hcut
                cases kq with
                | zero => exact absurd HA.out (by simp [ref06_May.j4])
                | succ kj48 =>
                 have H := HA.out
                 clear HA
                 simp only [ref06_May.j4] at H
                 by_cases c57 : x98_48 = true
                 ·subst c57
                  have H1 : (some false) = some r := by rw [if_pos rfl] at H; exact H
                  clear H
                  have H := H1
                  clear H1
                  obtain rfl := Option.some.inj H
                  go_wp2
                  go_ret
                  exact ⟨by first | rfl | (simp <;> rfl) | (simp [*] <;> rfl), by repeat (first | (with_reducible first | exact HB.out | apply below_alloc | apply pw_below_drewN | apply below_drew1 | refine below_set ?_ GE110.out))⟩
                 ·replace c57 := Bool.eq_false_iff.mpr c57
                  subst c57
                  have H1 : (if ((rd_T46 ((rd_T44 l0 x3_1).f3) x7_3).f0) = true then (ref06_May.l2 kj48 l0 x3_1 (wrap64 (x7_3 + 1))) else (if ((rd_T46 ((rd_T44 l0 x3_1).f3) x7_3).f2) = 0 then (ref06_May.l2 kj48 l0 x3_1 (wrap64 (x7_3 + 1))) else ((ref06_Writer.f kj48 l0 ((rd_T46 ((rd_T44 l0 x3_1).f3) x7_3).f1) ((rd_T46 ((rd_T44 l0 x3_1).f3) x7_3).f2)).bind fun t112 => (if t112 < 0 then (some false) else (ref06_May.l2 kj48 l0 x3_1 (wrap64 (x7_3 + 1))))))) = some r := by rw [if_neg (show ¬ (false = true) by decide)] at H; exact H
                  clear H
                  have H := H1
                  clear H1
                  by_cases c58 : ((rd_T46 ((rd_T44 l0 x3_1).f3) x7_3).f0) = true
                  ·rw [if_pos c58] at H
                   have c58b0 : ((rd_T46 ((rd_T44 l0 x3_1).f3) x7_3).f0) = true := c58
                   clear c58
                   have H' := Aside0.mk H
                   clear H
                   have hcz59_0 : wc.cell? ⟨gb110, 0, none⟩ = some (.bool ((rd_T46 ((rd_T44 l0 x3_1).f3) x7_3).f0)) := (blk_cell BK110.out 0).trans rfl
                   have hcz59_1 : wc.cell? ⟨gb110, 1, none⟩ = some (.int .i64 ((rd_T46 ((rd_T44 l0 x3_1).f3) x7_3).f1)) := (blk_cell BK110.out 1).trans rfl
                   have hcz59_2 : wc.cell? ⟨gb110, 2, none⟩ = some (.int .i64 ((rd_T46 ((rd_T44 l0 x3_1).f3) x7_3).f2)) := (blk_cell BK110.out 2).trans rfl
                   have hfz59_0 := blk_frozen BK110.out 0
                   have hfz59_1 := blk_frozen BK110.out 1
                   have hfz59_2 := blk_frozen BK110.out 2
                   go_wp2
                   go_roundg kj48
                   case measure => have := HK1.out; have := HK2.out; have := HK3.out; have := HJ48.out; omega
                   case rel => exact ⟨(wrap64 (x7_3 + 1)), (by first | rfl | (simp; done) | (simp [*]; done)), H', ⟨by have := HK1.out; have := HK2.out; have := HK3.out; have := HJ48.out; omega⟩, ⟨by repeat (first | (with_reducible first | exact HB.out | apply below_alloc | apply pw_below_drewN | apply below_drew1 | refine below_set ?_ GE110.out))⟩⟩
                  ·rw [if_neg c58] at H
                   have c58b0 : ((rd_T46 ((rd_T44 l0 x3_1).f3) x7_3).f0) = false := by simpa using c58
                   clear c58
                   by_cases c60 : ((rd_T46 ((rd_T44 l0 x3_1).f3) x7_3).f2) = 0
                   ·rw [if_pos c60] at H
                    have c60b0 : (((rd_T46 ((rd_T44 l0 x3_1).f3) x7_3).f2) == 0) = true := beq_iff_eq.mpr c60
                    have c60b1 : (((rd_T46 ((rd_T44 l0 x3_1).f3) x7_3).f2) != 0) = false := bne_eq_false_iff_eq.mpr c60
                    clear c60
                    have H' := Aside0.mk H
                    clear H
                    have hcz61_0 : wc.cell? ⟨gb110, 0, none⟩ = some (.bool ((rd_T46 ((rd_T44 l0 x3_1).f3) x7_3).f0)) := (blk_cell BK110.out 0).trans rfl
                    have hcz61_1 : wc.cell? ⟨gb110, 1, none⟩ = some (.int .i64 ((rd_T46 ((rd_T44 l0 x3_1).f3) x7_3).f1)) := (blk_cell BK110.out 1).trans rfl
                    have hcz61_2 : wc.cell? ⟨gb110, 2, none⟩ = some (.int .i64 ((rd_T46 ((rd_T44 l0 x3_1).f3) x7_3).f2)) := (blk_cell BK110.out 2).trans rfl
                    have hfz61_0 := blk_frozen BK110.out 0
                    have hfz61_1 := blk_frozen BK110.out 1
                    have hfz61_2 := blk_frozen BK110.out 2
                    go_wp2
                    go_roundg kj48
                    case measure => have := HK1.out; have := HK2.out; have := HK3.out; have := HJ48.out; omega
                    case rel => exact ⟨(wrap64 (x7_3 + 1)), (by first | rfl | (simp; done) | (simp [*]; done)), H', ⟨by have := HK1.out; have := HK2.out; have := HK3.out; have := HJ48.out; omega⟩, ⟨by repeat (first | (with_reducible first | exact HB.out | apply below_alloc | apply pw_below_drewN | apply below_drew1 | refine below_set ?_ GE110.out))⟩⟩
                   ·rw [if_neg c60] at H
                    have c60b0 : (((rd_T46 ((rd_T44 l0 x3_1).f3) x7_3).f2) == 0) = false := beq_eq_false_iff_ne.mpr c60
                    have c60b1 : (((rd_T46 ((rd_T44 l0 x3_1).f3) x7_3).f2) != 0) = true := bne_iff_ne.mpr c60
                    replace H := Option.bind_eq_some_iff.mp H
                    obtain ⟨t112, A620, H⟩ := H
                    replace H : (if t112 < 0 then (some false) else (ref06_May.l2 kj48 l0 x3_1 (wrap64 (x7_3 + 1)))) = some r := H
                    have A62 := Aside0.mk A620
                    clear A620
                    by_cases c63 : t112 < 0
                    ·rw [if_pos c63] at H
                     have c63b0 : decide (t112 < 0) = true := decide_eq_true c63
                     clear c63
                     obtain rfl := Option.some.inj H
                     have hcz64_0 : wc.cell? ⟨gb110, 0, none⟩ = some (.bool ((rd_T46 ((rd_T44 l0 x3_1).f3) x7_3).f0)) := (blk_cell BK110.out 0).trans rfl
                     have hcz64_1 : wc.cell? ⟨gb110, 1, none⟩ = some (.int .i64 ((rd_T46 ((rd_T44 l0 x3_1).f3) x7_3).f1)) := (blk_cell BK110.out 1).trans rfl
                     have hcz64_2 : wc.cell? ⟨gb110, 2, none⟩ = some (.int .i64 ((rd_T46 ((rd_T44 l0 x3_1).f3) x7_3).f2)) := (blk_cell BK110.out 2).trans rfl
                     have hfz64_0 := blk_frozen BK110.out 0
                     have hfz64_1 := blk_frozen BK110.out 1
                     have hfz64_2 := blk_frozen BK110.out 2
                     go_wp2_with (first | (go_at_call 78; (with_reducible refine (ref06_Writer.calls kj48 _ _ l0 ((rd_T46 ((rd_T44 l0 x3_1).f3) x7_3).f1) ((rd_T46 ((rd_T44 l0 x3_1).f3) x7_3).f2) t112 _ ?side1 ?side2 A62.out).mono ?_); (case side1 => repeat (first | exact (Kd.C_below HR0.out HB.out) | (with_reducible refine Kd.C_alloc ?_ _) | (with_reducible refine Kd.C_drewN ?_ _) | (with_reducible refine Kd.C_drew ?_))); (case side2 => exact HC0.out); rintro e w65 ⟨rfl, hb⟩; have n0_ := Aside0.mk (blk_below (g := gb110) (o := .cells #[.bool ((rd_T46 ((rd_T44 l0 x3_1).f3) x7_3).f0), .int .i64 ((rd_T46 ((rd_T44 l0 x3_1).f3) x7_3).f1), .int .i64 ((rd_T46 ((rd_T44 l0 x3_1).f3) x7_3).f2)] 46 (0, 0)) (by (with_reducible repeat (first | refine blk_drewN ?_ _ | refine blk_drew ?_ | refine blk_alloc ?_ _)); exact BK110.out) hb); have n1_ := Aside0.mk (below_step (by repeat (first | (with_reducible first | exact HB.out | apply below_alloc | apply pw_below_drewN | apply below_drew1 | refine below_set ?_ GE110.out))) hb); clear BK110; clear HB; have BK110 := n0_; have HB := n1_; clear n0_ n1_; (try clear hb); (try clear hb2); (try clear hk); (try clear hi)))
                     go_ret
                     exact ⟨by first | rfl | (simp <;> rfl) | (simp [*] <;> rfl), by repeat (first | (with_reducible first | exact HB.out | apply below_alloc | apply pw_below_drewN | apply below_drew1 | refine below_set ?_ GE110.out))⟩
                    ·rw [if_neg c63] at H
                     have c63b0 : decide (t112 < 0) = false := decide_eq_false c63
                     clear c63
                     have H' := Aside0.mk H
                     clear H
                     have hcz66_0 : wc.cell? ⟨gb110, 0, none⟩ = some (.bool ((rd_T46 ((rd_T44 l0 x3_1).f3) x7_3).f0)) := (blk_cell BK110.out 0).trans rfl
                     have hcz66_1 : wc.cell? ⟨gb110, 1, none⟩ = some (.int .i64 ((rd_T46 ((rd_T44 l0 x3_1).f3) x7_3).f1)) := (blk_cell BK110.out 1).trans rfl
                     have hcz66_2 : wc.cell? ⟨gb110, 2, none⟩ = some (.int .i64 ((rd_T46 ((rd_T44 l0 x3_1).f3) x7_3).f2)) := (blk_cell BK110.out 2).trans rfl
                     have hfz66_0 := blk_frozen BK110.out 0
                     have hfz66_1 := blk_frozen BK110.out 1
                     have hfz66_2 := blk_frozen BK110.out 2
                     go_wp2_with (first | (go_at_call 78; (with_reducible refine (ref06_Writer.calls kj48 _ _ l0 ((rd_T46 ((rd_T44 l0 x3_1).f3) x7_3).f1) ((rd_T46 ((rd_T44 l0 x3_1).f3) x7_3).f2) t112 _ ?side1 ?side2 A62.out).mono ?_); (case side1 => repeat (first | exact (Kd.C_below HR0.out HB.out) | (with_reducible refine Kd.C_alloc ?_ _) | (with_reducible refine Kd.C_drewN ?_ _) | (with_reducible refine Kd.C_drew ?_))); (case side2 => exact HC0.out); rintro e w67 ⟨rfl, hb⟩; have n0_ := Aside0.mk (blk_below (g := gb110) (o := .cells #[.bool ((rd_T46 ((rd_T44 l0 x3_1).f3) x7_3).f0), .int .i64 ((rd_T46 ((rd_T44 l0 x3_1).f3) x7_3).f1), .int .i64 ((rd_T46 ((rd_T44 l0 x3_1).f3) x7_3).f2)] 46 (0, 0)) (by (with_reducible repeat (first | refine blk_drewN ?_ _ | refine blk_drew ?_ | refine blk_alloc ?_ _)); exact BK110.out) hb); have n1_ := Aside0.mk (below_step (by repeat (first | (with_reducible first | exact HB.out | apply below_alloc | apply pw_below_drewN | apply below_drew1 | refine below_set ?_ GE110.out))) hb); clear BK110; clear HB; have BK110 := n0_; have HB := n1_; clear n0_ n1_; (try clear hb); (try clear hb2); (try clear hk); (try clear hi)))
                     go_roundg kj48
                     case measure => have := HK1.out; have := HK2.out; have := HK3.out; have := HJ48.out; omega
                     case rel => exact ⟨(wrap64 (x7_3 + 1)), (by first | rfl | (simp; done) | (simp [*]; done)), H', ⟨by have := HK1.out; have := HK2.out; have := HK3.out; have := HJ48.out; omega⟩, ⟨by repeat (first | (with_reducible first | exact HB.out | apply below_alloc | apply pw_below_drewN | apply below_drew1 | refine below_set ?_ GE110.out))⟩⟩
              ·rw [if_neg c48] at H
               exact absurd H (by simp)
             ·rw [if_neg c47] at H
              have c47b0 : decide (x7_3 < (((rd_T44 l0 x3_1).f3).length : Int)) = false := decide_eq_false c47
              clear c47
              have H' := Aside0.mk H
              clear H
              have p107 : 0 ≤ (x3_1 : Int) := of_decide_eq_true (by assumption)
              have q107 : x3_1 < (l0.length : Int) := of_decide_eq_true (by assumption)
              obtain ⟨ad107, A107_3, c107_3, e107, hx107_0, hx107_1, hx107_2, hx107_3, hl107_3, hi107_3⟩ := at_T44 HR0.out x3_1 p107 q107
              obtain rfl : ad101 = ad107 := (by injection e107)
              replace hx107_0 := (HB.out.cell (World.block_lt_of_cell? w _ hx107_0)).trans hx107_0
              replace hx107_1 := (HB.out.cell (World.block_lt_of_cell? w _ hx107_1)).trans hx107_1
              replace hx107_2 := (HB.out.cell (World.block_lt_of_cell? w _ hx107_2)).trans hx107_2
              replace hx107_3 := (HB.out.cell (World.block_lt_of_cell? w _ hx107_3)).trans hx107_3
              have HR107_3 := Aside0.mk hi107_3
              have HC107_3 := Aside0.mk hl107_3
              clear hi107_3 hl107_3
              replace p107 := eq_true p107
              replace q107 := eq_true q107
              go_wp2
              go_roundg k3
              case measure => have := HK1.out; have := HK2.out; have := HK3.out; omega
              case rel => exact ⟨(wrap64 (x3_1 + 1)), (by first | rfl | (simp; done) | (simp [*]; done)), H', ⟨by have := HK1.out; have := HK2.out; have := HK3.out; omega⟩, ⟨by repeat (first | (with_reducible first | exact HB.out | apply below_alloc | apply pw_below_drewN | apply below_drew1))⟩⟩
            ·rw [if_neg c46] at H
             exact absurd H (by simp)
           ·rw [if_neg c45] at H
            exact absurd H (by simp)
     ·replace c5 := Bool.eq_false_iff.mpr c5
      subst c5
      have H1 : (some false) = some r := by rw [if_neg (show ¬ (false = true) by decide)] at H; exact H
      clear H
      have H := H1
      clear H1
      obtain rfl := Option.some.inj H
      have p101 : 0 ≤ (x3_1 : Int) := of_decide_eq_true (by assumption)
      have q101 : x3_1 < (l0.length : Int) := of_decide_eq_true (by assumption)
      obtain ⟨ad101, A101_3, c101_3, e101, hx101_0, hx101_1, hx101_2, hx101_3, hl101_3, hi101_3⟩ := at_T44 HR0.out x3_1 p101 q101
      cases e101
      replace hx101_0 := (HB.out.cell (World.block_lt_of_cell? w _ hx101_0)).trans hx101_0
      replace hx101_1 := (HB.out.cell (World.block_lt_of_cell? w _ hx101_1)).trans hx101_1
      replace hx101_2 := (HB.out.cell (World.block_lt_of_cell? w _ hx101_2)).trans hx101_2
      replace hx101_3 := (HB.out.cell (World.block_lt_of_cell? w _ hx101_3)).trans hx101_3
      have HR101_3 := Aside0.mk hi101_3
      have HC101_3 := Aside0.mk hl101_3
      clear hi101_3 hl101_3
      replace p101 := eq_true p101
      replace q101 := eq_true q101
      go_wp2_with (first | ((with_reducible refine gate_callee (f := 90) rfl ?_); refine goesL_ (some 19) rfl rfl Try.func90 (by kernel_rfl) rfl #[.agg #[.int .i64 ((rd_T44 l0 x3_1).f0), .int .i64 ((rd_T44 l0 x3_1).f1), .int .i64 ((rd_T44 l0 x3_1).f2), .slice A101_3 ((rd_T44 l0 x3_1).f3).length c101_3]] rfl (by (try simp only [List.map_toArray, List.map_cons, List.map_nil]); first | done | rfl | (simp only [List.length_drop, List.length_take]; rfl)) ?_; (with_reducible refine (ref06_mayTxn.calls k1 ((rd_T44 l0 x3_1).f0) ((rd_T44 l0 x3_1).f1) ((rd_T44 l0 x3_1).f2) _ _ ((rd_T44 l0 x3_1).f3) false _ ?side1 ?side2 A4.out).mono ?_); (case side1 => repeat (first | exact (Kd.C_below HR101_3.out HB.out) | (with_reducible refine Kd.C_alloc ?_ _) | (with_reducible refine Kd.C_drewN ?_ _) | (with_reducible refine Kd.C_drew ?_))); (case side2 => exact HC101_3.out); rintro e w68 ⟨rfl, hb⟩; refine ⟨_, rfl, ?_⟩; have n0_ := Aside0.mk (below_step (by repeat (first | (with_reducible first | exact HB.out | apply below_alloc | apply pw_below_drewN | apply below_drew1))) hb); clear HB; have HB := n0_; clear n0_; (try clear hb); (try clear hb2); (try clear hk); (try clear hi)))
      go_ret
      exact ⟨by first | rfl | (simp <;> rfl) | (simp [*] <;> rfl), by repeat (first | (with_reducible first | exact HB.out | apply below_alloc | apply pw_below_drewN | apply below_drew1))⟩
    ·rw [if_neg c3] at H
     exact absurd H (by simp)
   ·rw [if_neg c2] at H
    have c2b0 : decide (x3_1 < (l0.length : Int)) = false := decide_eq_false c2
    clear c2
    obtain rfl := Option.some.inj H
    go_wp2
    go_ret
    exact ⟨by first | rfl | (simp <;> rfl) | (simp [*] <;> rfl), by repeat (first | (with_reducible first | exact HB.out | apply below_alloc | apply pw_below_drewN | apply below_drew1))⟩
end Go.Proofs.Ytfocaefnmfkojaa.Q
namespace Go.Proofs.Ytfocaefnmfkojaa.Q
open Go.RowKit Go.Proofs.YtfocaefnmfkojaaW.PrintWords Go.Proofs.YtfocaefnmfkojaaW.PrintLast Go.Proofs.YtfocaefnmfkojaaW.PrintMore
attribute [local go_sem] max2_int min2_int max_two min_two max_three min_three max_four min_four   -- for this text's walks alone
set_option linter.unusedVariables false
set_option linter.unusedSimpArgs false
def ref06_Check.j0 : Nat → List (S44) → Bool → Option (Int)
 | 0, _, _ => none
 | k + 1, x0, x10 => if x10 = true then (some 3) else ((ref06_May.f k x0).bind fun t102 => (if t102 = true then (some 0) else (some 2)))
def ref06_Check.f (k : Nat) (l0 : List (S44)) : Option (Int) := if (l0.length : Int) > 64 then (ref06_Check.j0 k l0 true) else ((ref06_Count.f k l0).bind fun t101 => (ref06_Check.j0 k l0 (decide (t101 > 1024))))
set_option maxHeartbeats 8000000 in
set_option maxRecDepth 100000 in
theorem ref06_Check.calls (k : Nat) (A0 : Option Addr) (c0 : Nat) (l0 : List (S44)) (r : Int) (w : World) (hr0 : Kd.C k44 w A0 l0.length l0) (hc0 : l0.length ≤ c0) (h : ref06_Check.f k l0 = some r) :
  Calls Try.prog 16 #[.slice A0 l0.length c0] w fun e w' => e = .returned (.int .i64 r) ∧ Below w.heap.size w w' := by
 have HR0 := Aside0.mk hr0
 have HC0 := Aside0.mk hc0
 clear hr0 hc0
 have HB := Aside0.mk (Below.refl w.heap.size w)
 have H : (if (l0.length : Int) > 64 then (ref06_Check.j0 k l0 true) else ((ref06_Count.f k l0).bind fun t101 => (ref06_Check.j0 k l0 (decide (t101 > 1024))))) = some r := h
 clear h
 have HC2 := Aside0.mk H
 clear H
 go_enter Try.func16, Try.ntmps16
 go_upto_region 1 with (fail)
 go_cut [10] (fun v10 wc => ∃ (kq : Nat) (x10_1 : Bool), v10 = .bool x10_1 ∧ Aside0 (ref06_Check.j0 kq l0 x10_1 = some r) ∧ Aside0 (kq ≤ k) ∧ Aside0 (Below w.heap.size w wc))
 case first =>
  have H := HC2.out
  clear HC2
  by_cases c3 : (l0.length : Int) > 64
  ·rw [if_pos c3] at H
   have c3b0 : decide (64 < (l0.length : Int)) = true := decide_eq_true c3
   have c3b1 : decide (64 < l0.length) = true := decide_eq_true (by omega)
   clear c3
   (first | rw [c3b0] | (simp only [i64_w, i32_w]; rw [c3b0]) | skip)
   have H' := Aside0.mk H
   clear H
   go_wp2
   go_meet
   case rel => exact ⟨_, (true), (by first | rfl | (simp; done) | (simp [*]; done)), H', ⟨by first | omega | exact Nat.le_refl _⟩, ⟨by repeat (first | (with_reducible first | exact HB.out | apply below_alloc | apply pw_below_drewN | apply below_drew1))⟩⟩
  ·rw [if_neg c3] at H
   have c3b0 : decide (64 < (l0.length : Int)) = false := decide_eq_false c3
   have c3b1 : decide (64 < l0.length) = false := decide_eq_false (by omega)
   clear c3
   (first | rw [c3b0] | (simp only [i64_w, i32_w]; rw [c3b0]) | skip)
   replace H := Option.bind_eq_some_iff.mp H
   obtain ⟨t101, A40, H⟩ := H
   replace H : (ref06_Check.j0 k l0 (decide (t101 > 1024))) = some r := H
   have A4 := Aside0.mk A40
   clear A40
   have H' := Aside0.mk H
   clear H
   go_wp2_with (first | (go_at_call 27; (with_reducible refine (ref06_Count.calls k _ _ l0 t101 _ ?side1 ?side2 A4.out).mono ?_); (case side1 => repeat (first | exact (Kd.C_below HR0.out HB.out) | (with_reducible refine Kd.C_alloc ?_ _) | (with_reducible refine Kd.C_drewN ?_ _) | (with_reducible refine Kd.C_drew ?_))); (case side2 => exact HC0.out); rintro e w' ⟨rfl, ⟨nd, rfl⟩⟩))
   go_meet
   case rel => exact ⟨_, (decide (t101 > 1024)), (by first | rfl | (simp; done) | (simp [*]; done)), H', ⟨by first | omega | exact Nat.le_refl _⟩, ⟨by repeat (first | (with_reducible first | exact HB.out | apply below_alloc | apply pw_below_drewN | apply below_drew1))⟩⟩
 case rest =>
  clear HC2
  try clear c1
  try clear p2
  try clear c3
  try clear c3b0
  try clear c3b1
  obtain ⟨kq, x10_1, rfl, HA, HJ1, HB⟩ := hcut
  cases kq with
  | zero => exact absurd HA.out (by simp [ref06_Check.j0])
  | succ kj1 =>
   have H := HA.out
   clear HA
   simp only [ref06_Check.j0] at H
   by_cases c5 : x10_1 = true
   ·subst c5
    have H1 : (some 3) = some r := by rw [if_pos rfl] at H; exact H
    clear H
    have H := H1
    clear H1
    obtain rfl := Option.some.inj H
    go_wp2
    go_ret
    exact ⟨by first | rfl | (simp <;> rfl) | (simp [*] <;> rfl), by repeat (first | (with_reducible first | exact HB.out | apply below_alloc | apply pw_below_drewN | apply below_drew1))⟩
   ·replace c5 := Bool.eq_false_iff.mpr c5
    subst c5
    have H1 : ((ref06_May.f kj1 l0).bind fun t102 => (if t102 = true then (some 0) else (some 2))) = some r := by rw [if_neg (show ¬ (false = true) by decide)] at H; exact H
    clear H
    have H := H1
    clear H1
    replace H := Option.bind_eq_some_iff.mp H
    obtain ⟨t102, A60, H⟩ := H
    replace H : (if t102 = true then (some 0) else (some 2)) = some r := H
    have A6 := Aside0.mk A60
    clear A60
    by_cases c7 : t102 = true
    ·subst c7
     have H1 : (some 0) = some r := by rw [if_pos rfl] at H; exact H
     clear H
     have H := H1
     clear H1
     obtain rfl := Option.some.inj H
     go_wp2_with (first | ((with_reducible refine gate_callee (f := 57) rfl ?_); refine goesL_ (some 12) rfl rfl Try.func57 (by kernel_rfl) rfl #[.slice A0 l0.length c0] rfl (by (try simp only [List.map_toArray, List.map_cons, List.map_nil]); first | done | rfl | (simp only [List.length_drop, List.length_take]; rfl)) ?_; (with_reducible refine (ref06_May.calls kj1 _ _ l0 true _ ?side1 ?side2 A6.out).mono ?_); (case side1 => repeat (first | exact (Kd.C_below HR0.out HB.out) | (with_reducible refine Kd.C_alloc ?_ _) | (with_reducible refine Kd.C_drewN ?_ _) | (with_reducible refine Kd.C_drew ?_))); (case side2 => exact HC0.out); rintro e w8 ⟨rfl, hb⟩; refine ⟨_, rfl, ?_⟩; have n0_ := Aside0.mk (below_step (by repeat (first | (with_reducible first | exact HB.out | apply below_alloc | apply pw_below_drewN | apply below_drew1))) hb); clear HB; have HB := n0_; clear n0_; (try clear hb); (try clear hb2); (try clear hk); (try clear hi)))
     go_ret
     exact ⟨by first | rfl | (simp <;> rfl) | (simp [*] <;> rfl), by repeat (first | (with_reducible first | exact HB.out | apply below_alloc | apply pw_below_drewN | apply below_drew1))⟩
    ·replace c7 := Bool.eq_false_iff.mpr c7
     subst c7
     have H1 : (some 2) = some r := by rw [if_neg (show ¬ (false = true) by decide)] at H; exact H
     clear H
     have H := H1
     clear H1
     obtain rfl := Option.some.inj H
     go_wp2_with (first | ((with_reducible refine gate_callee (f := 57) rfl ?_); refine goesL_ (some 12) rfl rfl Try.func57 (by kernel_rfl) rfl #[.slice A0 l0.length c0] rfl (by (try simp only [List.map_toArray, List.map_cons, List.map_nil]); first | done | rfl | (simp only [List.length_drop, List.length_take]; rfl)) ?_; (with_reducible refine (ref06_May.calls kj1 _ _ l0 false _ ?side1 ?side2 A6.out).mono ?_); (case side1 => repeat (first | exact (Kd.C_below HR0.out HB.out) | (with_reducible refine Kd.C_alloc ?_ _) | (with_reducible refine Kd.C_drewN ?_ _) | (with_reducible refine Kd.C_drew ?_))); (case side2 => exact HC0.out); rintro e w9 ⟨rfl, hb⟩; refine ⟨_, rfl, ?_⟩; have n0_ := Aside0.mk (below_step (by repeat (first | (with_reducible first | exact HB.out | apply below_alloc | apply pw_below_drewN | apply below_drew1))) hb); clear HB; have HB := n0_; clear n0_; (try clear hb); (try clear hb2); (try clear hk); (try clear hi)))
     go_ret
     exact ⟨by first | rfl | (simp <;> rfl) | (simp [*] <;> rfl), by repeat (first | (with_reducible first | exact HB.out | apply below_alloc | apply pw_below_drewN | apply below_drew1))⟩
end Go.Proofs.Ytfocaefnmfkojaa.Q
namespace Go.Proofs.Ytfocaefnmfkojaa.Q
open Go.RowKit Go.Proofs.YtfocaefnmfkojaaW.PrintWords Go.Proofs.YtfocaefnmfkojaaW.PrintLast Go.Proofs.YtfocaefnmfkojaaW.PrintMore
attribute [local go_sem] max2_int min2_int max_two min_two max_three min_three max_four min_four   -- for this text's walks alone
set_option linter.unusedVariables false
set_option linter.unusedSimpArgs false
mutual
def ref05_Writes.l0 : Nat → List (S46) → List (S46) → Int → Option ((List (S46)))
 | 0, _, _, _ => none
 | k + 1, x0, x3, x4 => if x4 < 64 then (ref05_Writes.l1 k x0 x3 x4 (-1) 0) else (some x3)
def ref05_Writes.l1 : Nat → List (S46) → List (S46) → Int → Int → Int → Option ((List (S46)))
 | 0, _, _, _, _, _ => none
 | k + 1, x0, x3, x4, x5, x6 => if x6 < (x0.length : Int) then (if 0 ≤ x6 then (if ((rd_T46 x0 x6).f1) = x4 then (if (rd_T46 x0 x6).f0 = true then (ref05_Writes.l1 k x0 x3 x4 x6 (wrap64 (x6 + 1))) else (ref05_Writes.l1 k x0 x3 x4 x5 (wrap64 (x6 + 1)))) else (ref05_Writes.l1 k x0 x3 x4 x5 (wrap64 (x6 + 1)))) else (none)) else (if x5 ≥ 0 then (if 0 ≤ x5 then (if x5 < (x0.length : Int) then (if x3.length < 5864062014805 then (ref05_Writes.l0 k x0 (x3 ++ [(⟨(rd_T46 x0 x5).f0, (rd_T46 x0 x5).f1, (rd_T46 x0 x5).f2⟩ : S46)]) (wrap64 (x4 + 1))) else (none)) else (none)) else (none)) else (ref05_Writes.l0 k x0 x3 (wrap64 (x4 + 1))))
end
def ref05_Writes.f (k : Nat) (l0 : List (S46)) : Option ((List (S46))) := ref05_Writes.l0 k l0 (([] : List (S46))) 0
set_option maxHeartbeats 8000000 in
set_option maxRecDepth 100000 in
theorem ref05_Writes.calls (k : Nat) (A0 : Option Addr) (c0 : Nat) (l0 : List (S46)) (r : List (S46)) (w : World) (hr0 : Kd.C k46 w A0 l0.length l0) (hc0 : l0.length ≤ c0) (h : ref05_Writes.f k l0 = some r) :
  Calls Try.prog 44 #[.slice A0 l0.length c0] w fun e w' => ∃ v0_ : Value, e = .returned (v0_) ∧ Kd.R k46 46 w' w.heap.size (fun _ => True) v0_ r ∧ Below w.heap.size w w' := by
 have hu46 := Try.underlying46
 have HR0 := Aside0.mk hr0
 have HC0 := Aside0.mk hc0
 clear hr0 hc0
 have HB := Aside0.mk (Below.refl w.heap.size w)
 have H : (ref05_Writes.l0 k l0 (([] : List (S46))) 0) = some r := h
 clear h
 obtain ⟨y101, hy101⟩ : ∃ y_ : List (S46), y_ = (([] : List (S46))) := ⟨_, rfl⟩
 replace H : (ref05_Writes.l0 k l0 y101 0) = some r := by first | (rw [hy101]; with_reducible exact H) | (have H2_ := (Option.bind_some _ _).symm.trans H; rw [hy101]; with_reducible exact H2_) | (have H2_ := (Option.bind_some _ _).symm.trans H; with_reducible exact H2_) | with_reducible exact H | (rw [hy101]; exact H) | exact H
 have Ny101 := Aside0.mk hy101
 clear hy101
 have H' := Aside0.mk H
 clear H
 go_enter Try.func44, Try.ntmps44
 go_wp2_with (first | ((with_reducible refine gate_dst (N := 7) rfl ?_); refine Kd.R_lit k46 _ 46 ?hg (N := 7) ?hd (xs := ([] : List (S46))) (inner := []) (ok := fun _ => True) (okp := fun _ => True) ?hr ?hp (fun _ hk => hk) trivial (Below.refl _ _) (Nat.le_refl _) (by simp) ?_; (case hd => rfl); (case hg => rfl); (case hr => first | (go_simp; done) | (go_simp; rfl)); (case hp => exact (Reps.none _ _)); intro v102 w2 ho3 hb hg_ hnew_; clear hg_ hnew_; (first | rw [← Ny101.out] at ho3 | (simp only [Int.reduceToNat] at ho3; rw [← Ny101.out] at ho3)); have n0_ := Aside0.mk (Kd.R_lower ho3 (below_size (by repeat (first | (with_reducible first | exact HB.out | apply below_alloc | apply pw_below_drewN | apply below_drew1))))); have n1_ := Aside0.mk (below_step (by repeat (first | (with_reducible first | exact HB.out | apply below_alloc | apply pw_below_drewN | apply below_drew1))) hb); clear HB; have HO103 := n0_; have HB := n1_; clear n0_ n1_; clear hb ho3))
 (try simp only [Act.put, List.setIfInBounds_toArray, List.set_cons_zero, List.set_cons_succ])
 go_loopg [3, 4] k (fun kq v3 v4 w' => ∃ (x3_1 : List (S46)) (x4_1 : Int), v4 = .int .i64 x4_1 ∧ Aside0 (ref05_Writes.l0 kq l0 x3_1 x4_1 = some r) ∧ Aside0 (kq ≤ k) ∧ Aside0 (Kd.R k46 46 w' w.heap.size (fun _ => True) v3 x3_1) ∧ Aside0 (Below w.heap.size w w'))
 case atStart => exact ⟨(y101), (0), (by first | rfl | (simp; done) | (simp [*]; done)), H', ⟨Nat.le_refl _⟩, ⟨by (with_reducible repeat (first | apply Kd.R_alloc | apply Kd.R_drewN | apply Kd.R_drew)); exact HO103.out⟩, ⟨by repeat (first | (with_reducible first | exact HB.out | apply below_alloc | apply pw_below_drewN | apply below_drew1))⟩⟩
 case round =>
  clear H'
  try clear p2
  obtain ⟨x3_1, x4_1, rfl, HA, HK1, HO_3, HB⟩ := hrel
  cases gk with
  | zero => exact absurd HA.out (by simp [ref05_Writes.l0])
  | succ k1 =>
   have H := HA.out
   clear HA
   simp only [ref05_Writes.l0] at H
   by_cases c4 : x4_1 < 64
   ·rw [if_pos c4] at H
    have c4b0 : decide (x4_1 < 64) = true := decide_eq_true c4
    clear c4
    have H' := Aside0.mk H
    clear H
    go_wp2
    go_loopg [5, 6] k1 (fun kq v5 v6 w' => ∃ (x5_2 : Int) (x6_2 : Int), v5 = .int .i64 x5_2 ∧ v6 = .int .i64 x6_2 ∧ Aside0 (ref05_Writes.l1 kq l0 x3_1 x4_1 x5_2 x6_2 = some r) ∧ Aside0 (kq ≤ k1) ∧ Aside0 (Kd.R k46 46 w' w.heap.size (fun _ => True) u3 x3_1) ∧ Aside0 (Below w.heap.size w w'))
    case atStart => exact ⟨((-1)), (0), (by first | rfl | (simp; done) | (simp [*]; done)), (by first | rfl | (simp; done) | (simp [*]; done)), H', ⟨Nat.le_refl _⟩, ⟨by (with_reducible repeat (first | apply Kd.R_alloc | apply Kd.R_drewN | apply Kd.R_drew)); exact HO_3.out⟩, ⟨by repeat (first | (with_reducible first | exact HB.out | apply below_alloc | apply pw_below_drewN | apply below_drew1))⟩⟩
    case round =>
     clear H'
     try clear p2
     try clear c4
     try clear c4b0
     try clear p2
     obtain ⟨x5_2, x6_2, rfl, rfl, HA, HK2, HO_3, HB⟩ := hrel
     cases gk with
     | zero => exact absurd HA.out (by simp [ref05_Writes.l1])
     | succ k2 =>
      have H := HA.out
      clear HA
      simp only [ref05_Writes.l1] at H
      by_cases c5 : x6_2 < (l0.length : Int)
      ·rw [if_pos c5] at H
       have c5b0 : decide (x6_2 < (l0.length : Int)) = true := decide_eq_true c5
       clear c5
       by_cases c6 : 0 ≤ x6_2
       ·rw [if_pos c6] at H
        have c6b0 : decide (0 ≤ x6_2) = true := decide_eq_true c6
        clear c6
        by_cases c7 : ((rd_T46 l0 x6_2).f1) = x4_1
        ·rw [if_pos c7] at H
         have c7b0 : (((rd_T46 l0 x6_2).f1) == x4_1) = true := beq_iff_eq.mpr c7
         have c7b1 : (((rd_T46 l0 x6_2).f1) != x4_1) = false := bne_eq_false_iff_eq.mpr c7
         clear c7
         obtain ⟨bq8, hbq8⟩ : ∃ b_ : Bool, b_ = ((rd_T46 l0 x6_2).f0) := ⟨_, rfl⟩
         replace H : (if bq8 = true then (ref05_Writes.l1 k2 l0 x3_1 x4_1 x6_2 (wrap64 (x6_2 + 1))) else (ref05_Writes.l1 k2 l0 x3_1 x4_1 x5_2 (wrap64 (x6_2 + 1)))) = some r := by rw [← hbq8] at H; exact H
         have Nbq8 := Aside0.mk hbq8
         clear hbq8
         by_cases c9 : bq8 = true
         ·subst c9
          have H1 : (ref05_Writes.l1 k2 l0 x3_1 x4_1 x6_2 (wrap64 (x6_2 + 1))) = some r := by rw [if_pos rfl] at H; exact H
          clear H
          have H := H1
          clear H1
          have H' := Aside0.mk H
          clear H
          have p104 : 0 ≤ (x6_2 : Int) := of_decide_eq_true (by assumption)
          have q104 : x6_2 < (l0.length : Int) := of_decide_eq_true (by assumption)
          obtain ⟨ad104, e104, hx104_0, hx104_1, hx104_2⟩ := at_T46 HR0.out x6_2 p104 q104
          (try rw [← Nbq8.out] at hx104_0)
          cases e104
          replace hx104_0 := (HB.out.cell (World.block_lt_of_cell? w _ hx104_0)).trans hx104_0
          replace hx104_1 := (HB.out.cell (World.block_lt_of_cell? w _ hx104_1)).trans hx104_1
          replace hx104_2 := (HB.out.cell (World.block_lt_of_cell? w _ hx104_2)).trans hx104_2
          replace p104 := eq_true p104
          replace q104 := eq_true q104
          have p105 : 0 ≤ (x6_2 : Int) := of_decide_eq_true (by assumption)
          have q105 : x6_2 < (l0.length : Int) := of_decide_eq_true (by assumption)
          obtain ⟨ad105, e105, hx105_0, hx105_1, hx105_2⟩ := at_T46 HR0.out x6_2 p105 q105
          (try rw [← Nbq8.out] at hx105_0)
          obtain rfl : ad104 = ad105 := (by injection e105)
          replace hx105_0 := (HB.out.cell (World.block_lt_of_cell? w _ hx105_0)).trans hx105_0
          replace hx105_1 := (HB.out.cell (World.block_lt_of_cell? w _ hx105_1)).trans hx105_1
          replace hx105_2 := (HB.out.cell (World.block_lt_of_cell? w _ hx105_2)).trans hx105_2
          replace p105 := eq_true p105
          replace q105 := eq_true q105
          go_wp2
          go_roundg k2
          case measure => have := HK1.out; have := HK2.out; omega
          case rel => (try rw [← Nbq8.out]); exact ⟨(x6_2), (wrap64 (x6_2 + 1)), (by first | rfl | (simp; done) | (simp [*]; done)), (by first | rfl | (simp; done) | (simp [*]; done)), H', ⟨by have := HK1.out; have := HK2.out; omega⟩, ⟨by (with_reducible repeat (first | apply Kd.R_alloc | apply Kd.R_drewN | apply Kd.R_drew)); exact HO_3.out⟩, ⟨by repeat (first | (with_reducible first | exact HB.out | apply below_alloc | apply pw_below_drewN | apply below_drew1))⟩⟩
         ·replace c9 := Bool.eq_false_iff.mpr c9
          subst c9
          have H1 : (ref05_Writes.l1 k2 l0 x3_1 x4_1 x5_2 (wrap64 (x6_2 + 1))) = some r := by rw [if_neg (show ¬ (false = true) by decide)] at H; exact H
          clear H
          have H := H1
          clear H1
          have H' := Aside0.mk H
          clear H
          have p104 : 0 ≤ (x6_2 : Int) := of_decide_eq_true (by assumption)
          have q104 : x6_2 < (l0.length : Int) := of_decide_eq_true (by assumption)
          obtain ⟨ad104, e104, hx104_0, hx104_1, hx104_2⟩ := at_T46 HR0.out x6_2 p104 q104
          (try rw [← Nbq8.out] at hx104_0)
          cases e104
          replace hx104_0 := (HB.out.cell (World.block_lt_of_cell? w _ hx104_0)).trans hx104_0
          replace hx104_1 := (HB.out.cell (World.block_lt_of_cell? w _ hx104_1)).trans hx104_1
          replace hx104_2 := (HB.out.cell (World.block_lt_of_cell? w _ hx104_2)).trans hx104_2
          replace p104 := eq_true p104
          replace q104 := eq_true q104
          have p105 : 0 ≤ (x6_2 : Int) := of_decide_eq_true (by assumption)
          have q105 : x6_2 < (l0.length : Int) := of_decide_eq_true (by assumption)
          obtain ⟨ad105, e105, hx105_0, hx105_1, hx105_2⟩ := at_T46 HR0.out x6_2 p105 q105
          (try rw [← Nbq8.out] at hx105_0)
          obtain rfl : ad104 = ad105 := (by injection e105)
          replace hx105_0 := (HB.out.cell (World.block_lt_of_cell? w _ hx105_0)).trans hx105_0
          replace hx105_1 := (HB.out.cell (World.block_lt_of_cell? w _ hx105_1)).trans hx105_1
          replace hx105_2 := (HB.out.cell (World.block_lt_of_cell? w _ hx105_2)).trans hx105_2
          replace p105 := eq_true p105
          replace q105 := eq_true q105
          go_wp2
          go_roundg k2
          case measure => have := HK1.out; have := HK2.out; omega
          case rel => (try rw [← Nbq8.out]); exact ⟨(x5_2), (wrap64 (x6_2 + 1)), (by first | rfl | (simp; done) | (simp [*]; done)), (by first | rfl | (simp; done) | (simp [*]; done)), H', ⟨by have := HK1.out; have := HK2.out; omega⟩, ⟨by (with_reducible repeat (first | apply Kd.R_alloc | apply Kd.R_drewN | apply Kd.R_drew)); exact HO_3.out⟩, ⟨by repeat (first | (with_reducible first | exact HB.out | apply below_alloc | apply pw_below_drewN | apply below_drew1))⟩⟩
        ·rw [if_neg c7] at H
         have c7b0 : (((rd_T46 l0 x6_2).f1) == x4_1) = false := beq_eq_false_iff_ne.mpr c7
         have c7b1 : (((rd_T46 l0 x6_2).f1) != x4_1) = true := bne_iff_ne.mpr c7
         have H' := Aside0.mk H
         clear H
         have p104 : 0 ≤ (x6_2 : Int) := of_decide_eq_true (by assumption)
         have q104 : x6_2 < (l0.length : Int) := of_decide_eq_true (by assumption)
         obtain ⟨ad104, e104, hx104_0, hx104_1, hx104_2⟩ := at_T46 HR0.out x6_2 p104 q104
         cases e104
         replace hx104_0 := (HB.out.cell (World.block_lt_of_cell? w _ hx104_0)).trans hx104_0
         replace hx104_1 := (HB.out.cell (World.block_lt_of_cell? w _ hx104_1)).trans hx104_1
         replace hx104_2 := (HB.out.cell (World.block_lt_of_cell? w _ hx104_2)).trans hx104_2
         replace p104 := eq_true p104
         replace q104 := eq_true q104
         go_wp2
         go_roundg k2
         case measure => have := HK1.out; have := HK2.out; omega
         case rel => exact ⟨(x5_2), (wrap64 (x6_2 + 1)), (by first | rfl | (simp; done) | (simp [*]; done)), (by first | rfl | (simp; done) | (simp [*]; done)), H', ⟨by have := HK1.out; have := HK2.out; omega⟩, ⟨by (with_reducible repeat (first | apply Kd.R_alloc | apply Kd.R_drewN | apply Kd.R_drew)); exact HO_3.out⟩, ⟨by repeat (first | (with_reducible first | exact HB.out | apply below_alloc | apply pw_below_drewN | apply below_drew1))⟩⟩
       ·rw [if_neg c6] at H
        exact absurd H (by simp)
      ·rw [if_neg c5] at H
       have c5b0 : decide (x6_2 < (l0.length : Int)) = false := decide_eq_false c5
       clear c5
       by_cases c10 : x5_2 ≥ 0
       ·rw [if_pos c10] at H
        have c10b0 : decide (0 ≤ x5_2) = true := decide_eq_true c10
        clear c10
        by_cases c11 : 0 ≤ x5_2
        ·rw [if_pos c11] at H
         have c11b0 : decide (0 ≤ x5_2) = true := decide_eq_true c11
         clear c11
         by_cases c12 : x5_2 < (l0.length : Int)
         ·rw [if_pos c12] at H
          have c12b0 : decide (x5_2 < (l0.length : Int)) = true := decide_eq_true c12
          clear c12
          by_cases c13 : x3_1.length < 5864062014805
          ·rw [if_pos c13] at H
           have LMc13 := Aside0.mk c13
           clear c13
           obtain ⟨y107, hy107⟩ : ∃ y_ : List (S46), y_ = (x3_1 ++ [(⟨(rd_T46 l0 x5_2).f0, (rd_T46 l0 x5_2).f1, (rd_T46 l0 x5_2).f2⟩ : S46)]) := ⟨_, rfl⟩
           replace H : (ref05_Writes.l0 k2 l0 y107 (wrap64 (x4_1 + 1))) = some r := by first | (rw [hy107]; with_reducible exact H) | (have H2_ := (Option.bind_some _ _).symm.trans H; rw [hy107]; with_reducible exact H2_) | (have H2_ := (Option.bind_some _ _).symm.trans H; with_reducible exact H2_) | with_reducible exact H | (rw [hy107]; exact H) | exact H
           have Ny107 := Aside0.mk hy107
           clear hy107
           have H' := Aside0.mk H
           clear H
           have p106 : 0 ≤ (x5_2 : Int) := of_decide_eq_true (by assumption)
           have q106 : x5_2 < (l0.length : Int) := of_decide_eq_true (by assumption)
           obtain ⟨ad106, e106, hx106_0, hx106_1, hx106_2⟩ := at_T46 HR0.out x5_2 p106 q106
           cases e106
           replace hx106_0 := (HB.out.cell (World.block_lt_of_cell? w _ hx106_0)).trans hx106_0
           replace hx106_1 := (HB.out.cell (World.block_lt_of_cell? w _ hx106_1)).trans hx106_1
           replace hx106_2 := (HB.out.cell (World.block_lt_of_cell? w _ hx106_2)).trans hx106_2
           replace p106 := eq_true p106
           replace q106 := eq_true q106
           go_wp2_with (first | ((with_reducible refine gate_builtin (b := .append) (xs := #[.tmp 35, .tmp 40]) rfl ?_); at_builtin; refine Kd.R_append k46 (w0 := w) w.heap.size rfl (.tmp 35) (.tmp 40) 42 46 (.agg #[(.bool false), (.int .i64 0), (.int .i64 0)]) 24 rfl Try.underlying42 info46 rfl (by decide) (by omega) u3 x3_1 (⟨(rd_T46 l0 x5_2).f0, (rd_T46 l0 x5_2).f1, (rd_T46 l0 x5_2).f2⟩ : S46) [.bool ((rd_T46 l0 x5_2).f0), .int .i64 ((rd_T46 l0 x5_2).f1), .int .i64 ((rd_T46 l0 x5_2).f2)] (fun _ => True) (fun _ => False) rfl rfl ?aP (fun _ hk => hk.elim) ?aF ?aO ?aB ?aS ?aL ?_; (case aP => exact k46_mkM _ _ _ (⟨(rd_T46 l0 x5_2).f0, (rd_T46 l0 x5_2).f1, (rd_T46 l0 x5_2).f2⟩ : S46)); (case aB => exact (by repeat (first | (with_reducible first | exact HB.out | apply below_alloc | apply pw_below_drewN | apply below_drew1)))); (case aF => exact (fun _ _ => trivial)); (case aO => exact (by (with_reducible repeat (first | apply Kd.R_alloc | apply Kd.R_drewN | apply Kd.R_drew)); exact HO_3.out)); (case aS => exact (below_size (by repeat (first | (with_reducible first | exact HB.out | apply below_alloc | apply pw_below_drewN | apply below_drew1))))); (case aL => have := LMc13.out; omega); intro v108 w14 ho hb hg hat; rw [← Ny107.out] at ho; have n0_ := Aside0.mk (hb); have n1_ := Aside0.mk (ho); clear HB; clear HO_3; have HB := n0_; have HO109 := n1_; clear n0_ n1_; clear ho hb hg hat))
           go_roundg k2
           case measure => have := HK1.out; have := HK2.out; omega
           case rel => exact ⟨(y107), (wrap64 (x4_1 + 1)), (by first | rfl | (simp; done) | (simp [*]; done)), H', ⟨by have := HK1.out; have := HK2.out; omega⟩, ⟨by (with_reducible repeat (first | apply Kd.R_alloc | apply Kd.R_drewN | apply Kd.R_drew)); exact HO109.out⟩, ⟨by repeat (first | (with_reducible first | exact HB.out | apply below_alloc | apply pw_below_drewN | apply below_drew1))⟩⟩
          ·rw [if_neg c13] at H
           exact absurd H (by simp)
         ·rw [if_neg c12] at H
          exact absurd H (by simp)
        ·rw [if_neg c11] at H
         exact absurd H (by simp)
       ·rw [if_neg c10] at H
        have c10b0 : decide (0 ≤ x5_2) = false := decide_eq_false c10
        clear c10
        have H' := Aside0.mk H
        clear H
        go_wp2
        go_roundg k2
        case measure => have := HK1.out; have := HK2.out; omega
        case rel => exact ⟨(x3_1), (wrap64 (x4_1 + 1)), (by first | rfl | (simp; done) | (simp [*]; done)), H', ⟨by have := HK1.out; have := HK2.out; omega⟩, ⟨by (with_reducible repeat (first | apply Kd.R_alloc | apply Kd.R_drewN | apply Kd.R_drew)); exact HO_3.out⟩, ⟨by repeat (first | (with_reducible first | exact HB.out | apply below_alloc | apply pw_below_drewN | apply below_drew1))⟩⟩
   ·rw [if_neg c4] at H
    have c4b0 : decide (x4_1 < 64) = false := decide_eq_false c4
    clear c4
    obtain rfl := Option.some.inj H
    go_wp2
    go_ret
    exact ⟨_, by first | rfl | (simp <;> rfl) | (simp [*] <;> rfl), by (with_reducible repeat (first | apply Kd.R_alloc | apply Kd.R_drewN | apply Kd.R_drew)); exact HO_3.out, by repeat (first | (with_reducible first | exact HB.out | apply below_alloc | apply pw_below_drewN | apply below_drew1))⟩
end Go.Proofs.Ytfocaefnmfkojaa.Q
namespace Go.Proofs.Ytfocaefnmfkojaa.Q
open Go.RowKit Go.Proofs.YtfocaefnmfkojaaW.PrintWords Go.Proofs.YtfocaefnmfkojaaW.PrintLast Go.Proofs.YtfocaefnmfkojaaW.PrintMore
attribute [local go_sem] max2_int min2_int max_two min_two max_three min_three max_four min_four   -- for this text's walks alone
set_option linter.unusedVariables false
set_option linter.unusedSimpArgs false
def ref05_Value.l0 : Nat → Int → List (S46) → Int → Option (Int)
 | 0, _, _, _ => none
 | k + 1, x1, x5, x6 => if x6 < (x5.length : Int) then (if 0 ≤ x6 then (if ((rd_T46 x5 x6).f1) = x1 then (some ((rd_T46 x5 x6).f2)) else (ref05_Value.l0 k x1 x5 (wrap64 (x6 + 1)))) else (none)) else (some 0)
def ref05_Value.f (k : Nat) (l0 : List (S46)) (a1 : Int) : Option (Int) := (ref05_Writes.f k l0).bind fun t101 => (ref05_Value.l0 k a1 t101 0)
set_option maxHeartbeats 8000000 in
set_option maxRecDepth 100000 in
theorem ref05_Value.calls (k : Nat) (A0 : Option Addr) (c0 : Nat) (l0 : List (S46)) (a1 : Int) (r : Int) (w : World) (hr0 : Kd.C k46 w A0 l0.length l0) (hc0 : l0.length ≤ c0) (h : ref05_Value.f k l0 a1 = some r) :
  Calls Try.prog 64 #[.slice A0 l0.length c0, .int .i64 a1] w fun e w' => e = .returned (.int .i64 r) ∧ Below w.heap.size w w' := by
 have HR0 := Aside0.mk hr0
 have HC0 := Aside0.mk hc0
 clear hr0 hc0
 have HB := Aside0.mk (Below.refl w.heap.size w)
 have H : ((ref05_Writes.f k l0).bind fun t101 => (ref05_Value.l0 k a1 t101 0)) = some r := h
 clear h
 replace H := Option.bind_eq_some_iff.mp H
 obtain ⟨t101, A30, H⟩ := H
 replace H : (ref05_Value.l0 k a1 t101 0) = some r := H
 have A3 := Aside0.mk A30
 clear A30
 have H' := Aside0.mk H
 clear H
 go_enter Try.func64, Try.ntmps64
 go_wp2_with (first | ((with_reducible refine gate_callee (f := 44) rfl ?_); refine goesL_ (some 8) rfl rfl Try.func44 (by kernel_rfl) rfl #[.slice A0 l0.length c0] rfl (by (try simp only [List.map_toArray, List.map_cons, List.map_nil]); first | done | rfl | (simp only [List.length_drop, List.length_take]; rfl)) ?_; (with_reducible refine (ref05_Writes.calls k _ _ l0 t101 _ ?side1 ?side2 A3.out).mono ?_); (case side1 => repeat (first | exact HR0.out | (with_reducible refine Kd.C_alloc ?_ _) | (with_reducible refine Kd.C_drewN ?_ _) | (with_reducible refine Kd.C_drew ?_))); (case side2 => exact HC0.out); rintro e w4 ⟨v102, rfl, ho0, hb⟩; refine ⟨_, rfl, ?_⟩; have n0_ := Aside0.mk (Kd.R_lower ho0 (below_size (by repeat (first | (with_reducible first | exact HB.out | apply below_alloc | apply pw_below_drewN | apply below_drew1))))); have n1_ := Aside0.mk (below_step (by repeat (first | (with_reducible first | exact HB.out | apply below_alloc | apply pw_below_drewN | apply below_drew1))) hb); clear HB; have HO103 := n0_; have HB := n1_; clear n0_ n1_; (try clear hb); (try clear hb2); (try clear hk); (try clear hi); (try clear ho0)))
 (try simp only [Act.put, List.setIfInBounds_toArray, List.set_cons_zero, List.set_cons_succ])
 go_loopg [6] k (fun kq v6 w' => ∃ (x6_1 : Int), v6 = .int .i64 x6_1 ∧ Aside0 (ref05_Value.l0 kq a1 t101 x6_1 = some r) ∧ Aside0 (kq ≤ k) ∧ Aside0 (Kd.R k46 46 w' w.heap.size (fun _ => True) v102 t101) ∧ Aside0 (Below w.heap.size w w'))
 case atStart => exact ⟨(0), (by first | rfl | (simp; done) | (simp [*]; done)), H', ⟨Nat.le_refl _⟩, ⟨by (with_reducible repeat (first | apply Kd.R_alloc | apply Kd.R_drewN | apply Kd.R_drew)); exact HO103.out⟩, ⟨by repeat (first | (with_reducible first | exact HB.out | apply below_alloc | apply pw_below_drewN | apply below_drew1))⟩⟩
 case round =>
  clear H'
  try clear p2
  try clear c4
  obtain ⟨x6_1, rfl, HA, HK1, HO_5, HB⟩ := hrel
  cases gk with
  | zero => exact absurd HA.out (by simp [ref05_Value.l0])
  | succ k1 =>
   have H := HA.out
   clear HA
   simp only [ref05_Value.l0] at H
   by_cases c5 : x6_1 < (t101.length : Int)
   ·rw [if_pos c5] at H
    have c5b0 : decide (x6_1 < (t101.length : Int)) = true := decide_eq_true c5
    clear c5
    by_cases c6 : 0 ≤ x6_1
    ·rw [if_pos c6] at H
     have c6b0 : decide (0 ≤ x6_1) = true := decide_eq_true c6
     clear c6
     by_cases c7 : ((rd_T46 t101 x6_1).f1) = a1
     ·rw [if_pos c7] at H
      have c7b0 : (((rd_T46 t101 x6_1).f1) == a1) = true := beq_iff_eq.mpr c7
      have c7b1 : (((rd_T46 t101 x6_1).f1) != a1) = false := bne_eq_false_iff_eq.mpr c7
      clear c7
      obtain rfl := Option.some.inj H
      obtain ⟨Ao8, co8, eo8⟩ := Kd.R_slice HO_5.out
      subst eo8
      have p104 : 0 ≤ (x6_1 : Int) := of_decide_eq_true (by assumption)
      have q104 : x6_1 < (t101.length : Int) := of_decide_eq_true (by assumption)
      obtain ⟨ad104, e104, hx104_0, hx104_1, hx104_2⟩ := at_T46 (Kd.R_reads' HO_5.out).2.2 x6_1 p104 q104
      cases e104
      replace p104 := eq_true p104
      replace q104 := eq_true q104
      have p105 : 0 ≤ (x6_1 : Int) := of_decide_eq_true (by assumption)
      have q105 : x6_1 < (t101.length : Int) := of_decide_eq_true (by assumption)
      obtain ⟨ad105, e105, hx105_0, hx105_1, hx105_2⟩ := at_T46 (Kd.R_reads' HO_5.out).2.2 x6_1 p105 q105
      obtain rfl : ad104 = ad105 := (by injection e105)
      replace p105 := eq_true p105
      replace q105 := eq_true q105
      go_wp2
      go_ret
      exact ⟨by first | rfl | (simp <;> rfl) | (simp [*] <;> rfl), by repeat (first | (with_reducible first | exact HB.out | apply below_alloc | apply pw_below_drewN | apply below_drew1))⟩
     ·rw [if_neg c7] at H
      have c7b0 : (((rd_T46 t101 x6_1).f1) == a1) = false := beq_eq_false_iff_ne.mpr c7
      have c7b1 : (((rd_T46 t101 x6_1).f1) != a1) = true := bne_iff_ne.mpr c7
      have H' := Aside0.mk H
      clear H
      obtain ⟨Ao9, co9, eo9⟩ := Kd.R_slice HO_5.out
      subst eo9
      have p104 : 0 ≤ (x6_1 : Int) := of_decide_eq_true (by assumption)
      have q104 : x6_1 < (t101.length : Int) := of_decide_eq_true (by assumption)
      obtain ⟨ad104, e104, hx104_0, hx104_1, hx104_2⟩ := at_T46 (Kd.R_reads' HO_5.out).2.2 x6_1 p104 q104
      cases e104
      replace p104 := eq_true p104
      replace q104 := eq_true q104
      go_wp2
      go_roundg k1
      case measure => have := HK1.out; omega
      case rel => exact ⟨(wrap64 (x6_1 + 1)), (by first | rfl | (simp; done) | (simp [*]; done)), H', ⟨by have := HK1.out; omega⟩, ⟨by (with_reducible repeat (first | apply Kd.R_alloc | apply Kd.R_drewN | apply Kd.R_drew)); exact HO_5.out⟩, ⟨by repeat (first | (with_reducible first | exact HB.out | apply below_alloc | apply pw_below_drewN | apply below_drew1))⟩⟩
    ·rw [if_neg c6] at H
     exact absurd H (by simp)
   ·rw [if_neg c5] at H
    have c5b0 : decide (x6_1 < (t101.length : Int)) = false := decide_eq_false c5
    clear c5
    obtain rfl := Option.some.inj H
    obtain ⟨Ao10, co10, eo10⟩ := Kd.R_slice HO_5.out
    subst eo10
    go_wp2
    go_ret
    exact ⟨by first | rfl | (simp <;> rfl) | (simp [*] <;> rfl), by repeat (first | (with_reducible first | exact HB.out | apply below_alloc | apply pw_below_drewN | apply below_drew1))⟩
end Go.Proofs.Ytfocaefnmfkojaa.Q
namespace Go.Proofs.Ytfocaefnmfkojaa.Q
open Go.RowKit Go.Proofs.YtfocaefnmfkojaaW.PrintWords Go.Proofs.YtfocaefnmfkojaaW.PrintLast Go.Proofs.YtfocaefnmfkojaaW.PrintMore
attribute [local go_sem] max2_int min2_int max_two min_two max_three min_three max_four min_four   -- for this text's walks alone
set_option linter.unusedVariables false
set_option linter.unusedSimpArgs false
def ref06_Last.f (k : Nat) (a0_0 : Int) (a0_1 : Int) (a0_2 : Int) (l0_3 : List (S46)) (a1 : Int) (a2 : Int) : Option (Bool) := (ref05_Value.f k l0_3 a1).bind fun t102 => (some (t102 == a2))
set_option maxHeartbeats 8000000 in
set_option maxRecDepth 100000 in
theorem ref06_Last.calls (k : Nat) (a0_0 : Int) (a0_1 : Int) (a0_2 : Int) (A0_3 : Option Addr) (c0_3 : Nat) (l0_3 : List (S46)) (a1 : Int) (a2 : Int) (r : Bool) (w : World) (hr0_3 : Kd.C k46 w A0_3 l0_3.length l0_3) (hc0_3 : l0_3.length ≤ c0_3) (h : ref06_Last.f k a0_0 a0_1 a0_2 l0_3 a1 a2 = some r) :
  Calls Try.prog 29 #[.agg #[.int .i64 a0_0, .int .i64 a0_1, .int .i64 a0_2, .slice A0_3 l0_3.length c0_3], .int .i64 a1, .int .i64 a2] w fun e w' => e = .returned (.bool r) ∧ Below w.heap.size w w' := by
 have hu44 := Try.underlying44
 have HR0_3 := Aside0.mk hr0_3
 have HC0_3 := Aside0.mk hc0_3
 clear hr0_3 hc0_3
 have HB := Aside0.mk (Below.refl w.heap.size w)
 have H : ((ref05_Value.f k l0_3 a1).bind fun t102 => (some (t102 == a2))) = some r := h
 clear h
 replace H := Option.bind_eq_some_iff.mp H
 obtain ⟨t102, A40, H⟩ := H
 replace H : (some (t102 == a2)) = some r := H
 have A4 := Aside0.mk A40
 clear A40
 obtain rfl := Option.some.inj H
 go_enter Try.func29, Try.ntmps29
 go_wp2_with (first | ((with_reducible refine gate_dst (N := 3) rfl ?_); refine box_event ?hg (N := 3) ?hd (cs := #[.int .i64 a0_0, .int .i64 a0_1, .int .i64 a0_2, .slice A0_3 l0_3.length c0_3]) (t := 44) ?hr ?_; (case hd => rfl); (case hg => rfl); (case hr => first | (go_simp; done) | (go_simp; rfl)); intro gb101 hg w5 hbox hb; have n0_ := Aside0.mk (below_step (by repeat (first | (with_reducible first | exact HB.out | apply below_alloc | apply pw_below_drewN | apply below_drew1))) hb); have n1_ := Aside0.mk (hbox); have n2_ := Aside0.mk ((by rw [hg]; exact (below_size (by repeat (first | (with_reducible first | exact HB.out | apply below_alloc | apply pw_below_drewN | apply below_drew1)))) : w.heap.size ≤ gb101)); have n3_ := Aside0.mk ((by rw [hg]; exact (below_size (by repeat (first | (with_reducible first | exact HB.out | apply below_alloc | apply pw_below_drewN | apply below_drew1)))) : w.heap.size ≤ gb101)); clear HB; have HB := n0_; have BK101 := n1_; have GW101 := n2_; have GE101 := n3_; clear n0_ n1_ n2_ n3_; clear hb hbox hg; have hcz6_0 : w5.cell? ⟨gb101, 0, none⟩ = some (.int .i64 a0_0) := (blk_cell BK101.out 0).trans rfl; have hcz6_1 : w5.cell? ⟨gb101, 1, none⟩ = some (.int .i64 a0_1) := (blk_cell BK101.out 1).trans rfl; have hcz6_2 : w5.cell? ⟨gb101, 2, none⟩ = some (.int .i64 a0_2) := (blk_cell BK101.out 2).trans rfl; have hcz6_3 : w5.cell? ⟨gb101, 3, none⟩ = some (.slice A0_3 l0_3.length c0_3) := (blk_cell BK101.out 3).trans rfl; have hfz6_0 := blk_frozen BK101.out 0; have hfz6_1 := blk_frozen BK101.out 1; have hfz6_2 := blk_frozen BK101.out 2; have hfz6_3 := blk_frozen BK101.out 3) | ((with_reducible refine gate_callee (f := 64) rfl ?_); refine goesL_ (some 10) rfl rfl Try.func64 (by kernel_rfl) rfl #[.slice A0_3 l0_3.length c0_3, .int .i64 a1] rfl (by (try simp only [List.map_toArray, List.map_cons, List.map_nil]); first | done | rfl | (simp only [List.length_drop, List.length_take]; rfl)) ?_; (with_reducible refine (ref05_Value.calls k _ _ l0_3 a1 t102 _ ?side1 ?side2 A4.out).mono ?_); (case side1 => repeat (first | exact (Kd.C_below HR0_3.out HB.out) | (with_reducible refine Kd.C_alloc ?_ _) | (with_reducible refine Kd.C_drewN ?_ _) | (with_reducible refine Kd.C_drew ?_))); (case side2 => exact HC0_3.out); rintro e w7 ⟨rfl, hb⟩; refine ⟨_, rfl, ?_⟩; have n0_ := Aside0.mk (blk_below (g := gb101) (o := .cells #[.int .i64 a0_0, .int .i64 a0_1, .int .i64 a0_2, .slice A0_3 l0_3.length c0_3] 44 (0, 0)) (by (with_reducible repeat (first | refine blk_drewN ?_ _ | refine blk_drew ?_ | refine blk_alloc ?_ _)); exact BK101.out) hb); have n1_ := Aside0.mk (below_step (by repeat (first | (with_reducible first | exact HB.out | apply below_alloc | apply pw_below_drewN | apply below_drew1 | refine below_set ?_ GE101.out))) hb); clear BK101; clear HB; have BK101 := n0_; have HB := n1_; clear n0_ n1_; (try clear hb); (try clear hb2); (try clear hk); (try clear hi)))
 go_ret
 exact ⟨by first | rfl | (simp <;> rfl) | (simp [*] <;> rfl), by repeat (first | (with_reducible first | exact HB.out | apply below_alloc | apply pw_below_drewN | apply below_drew1 | refine below_set ?_ GE101.out))⟩
end Go.Proofs.Ytfocaefnmfkojaa.Q
namespace Go.Proofs.Ytfocaefnmfkojaa.Q
end Go.Proofs.Ytfocaefnmfkojaa.Q
namespace Go.Proofs.Ytfocaefnmfkojaa.Q
end Go.Proofs.Ytfocaefnmfkojaa.Q
namespace Go.Proofs.Ytfocaefnmfkojaa.Q
end Go.Proofs.Ytfocaefnmfkojaa.Q
namespace Go.Proofs.Ytfocaefnmfkojaa.Q
end Go.Proofs.Ytfocaefnmfkojaa.Q
namespace Go.Proofs.Ytfocaefnmfkojaa.Q
end Go.Proofs.Ytfocaefnmfkojaa.Q
namespace Go.Proofs.Ytfocaefnmfkojaa.Q
end Go.Proofs.Ytfocaefnmfkojaa.Q
namespace Go.Proofs.Ytfocaefnmfkojaa.Q
end Go.Proofs.Ytfocaefnmfkojaa.Q
namespace Go.Proofs.Ytfocaefnmfkojaa.Q
end Go.Proofs.Ytfocaefnmfkojaa.Q
namespace Go.Proofs.Ytfocaefnmfkojaa.Q
end Go.Proofs.Ytfocaefnmfkojaa.Q
namespace Go.Proofs.Ytfocaefnmfkojaa.Q
end Go.Proofs.Ytfocaefnmfkojaa.Q
namespace Go.Proofs.Ytfocaefnmfkojaa.Q
end Go.Proofs.Ytfocaefnmfkojaa.Q
namespace Go.Proofs.Ytfocaefnmfkojaa.Q
end Go.Proofs.Ytfocaefnmfkojaa.Q
namespace Go.Proofs.Ytfocaefnmfkojaa.Q
end Go.Proofs.Ytfocaefnmfkojaa.Q
namespace Go.Proofs.Ytfocaefnmfkojaa.Q
end Go.Proofs.Ytfocaefnmfkojaa.Q
namespace Go.Proofs.Ytfocaefnmfkojaa.Q
end Go.Proofs.Ytfocaefnmfkojaa.Q
namespace Go.Proofs.Ytfocaefnmfkojaa.Q
end Go.Proofs.Ytfocaefnmfkojaa.Q
namespace Go.Proofs.Ytfocaefnmfkojaa.Q
end Go.Proofs.Ytfocaefnmfkojaa.Q
namespace Go.Proofs.Ytfocaefnmfkojaa.Q
end Go.Proofs.Ytfocaefnmfkojaa.Q
namespace Go.Proofs.Ytfocaefnmfkojaa.Q
end Go.Proofs.Ytfocaefnmfkojaa.Q
namespace Go.Proofs.Ytfocaefnmfkojaa.Q
end Go.Proofs.Ytfocaefnmfkojaa.Q
namespace Go.Proofs.Ytfocaefnmfkojaa.Q
end Go.Proofs.Ytfocaefnmfkojaa.Q
namespace Go.Proofs.Ytfocaefnmfkojaa.Q
end Go.Proofs.Ytfocaefnmfkojaa.Q
namespace Go.Proofs.Ytfocaefnmfkojaa.Q
end Go.Proofs.Ytfocaefnmfkojaa.Q
namespace Go.Proofs.Ytfocaefnmfkojaa.Q
end Go.Proofs.Ytfocaefnmfkojaa.Q
namespace Go.Proofs.Ytfocaefnmfkojaa.Q
end Go.Proofs.Ytfocaefnmfkojaa.Q
namespace Go.Proofs.Ytfocaefnmfkojaa.Q
end Go.Proofs.Ytfocaefnmfkojaa.Q
namespace Go.Proofs.Ytfocaefnmfkojaa.Q
end Go.Proofs.Ytfocaefnmfkojaa.Q
namespace Go.Proofs.Ytfocaefnmfkojaa.Q
end Go.Proofs.Ytfocaefnmfkojaa.Q
namespace Go.Proofs.Ytfocaefnmfkojaa.Q
end Go.Proofs.Ytfocaefnmfkojaa.Q
namespace Go.Proofs.Ytfocaefnmfkojaa.Q
end Go.Proofs.Ytfocaefnmfkojaa.Q
namespace Go.Proofs.Ytfocaefnmfkojaa.Q
end Go.Proofs.Ytfocaefnmfkojaa.Q
namespace Go.Proofs.Ytfocaefnmfkojaa.Q
end Go.Proofs.Ytfocaefnmfkojaa.Q
namespace Go.Proofs.Ytfocaefnmfkojaa.Q
open Go.RowKit Go.Proofs.YtfocaefnmfkojaaW.PrintWords Go.Proofs.YtfocaefnmfkojaaW.PrintLast Go.Proofs.YtfocaefnmfkojaaW.PrintMore
attribute [local go_sem] max2_int min2_int max_two min_two max_three min_three max_four min_four   -- for this text's walks alone
set_option linter.unusedVariables false
set_option linter.unusedSimpArgs false
def history_Ops.l0 : Nat → Int → List (S44) → Int → Int → Option (Int)
 | 0, _, _, _, _ => none
 | k + 1, x3, x6, x7, x8 => if x8 < x7 then (if 0 ≤ x8 then (if x8 < (x6.length : Int) then (history_Ops.l0 k (wrap64 (x3 + (((rd_T44 x6 x8).f3).length : Int))) x6 x7 (wrap64 (x8 + 1))) else (none)) else (none)) else (some x3)
def history_Ops.f (k : Nat) (l0 : List (S44)) : Option (Int) := history_Ops.l0 k 0 l0 (l0.length : Int) 0
set_option maxHeartbeats 8000000 in
set_option maxRecDepth 100000 in
theorem history_Ops.calls (k : Nat) (A0 : Option Addr) (c0 : Nat) (l0 : List (S44)) (r : Int) (w : World) (hr0 : Kd.C k44 w A0 l0.length l0) (hc0 : l0.length ≤ c0) (h : history_Ops.f k l0 = some r) :
  Calls Try.prog 26 #[.slice A0 l0.length c0] w fun e w' => e = .returned (.int .i64 r) ∧ Below w.heap.size w w' := by
 have hu44 := Try.underlying44
 have HR0 := Aside0.mk hr0
 have HC0 := Aside0.mk hc0
 clear hr0 hc0
 have HB := Aside0.mk (Below.refl w.heap.size w)
 have H : (history_Ops.l0 k 0 l0 (l0.length : Int) 0) = some r := h
 clear h
 have H' := Aside0.mk H
 clear H
 go_enter Try.func26, Try.ntmps26
 go_wp2
 go_loopg [3, 8] k (fun kq v3 v8 w' => ∃ (x3_1 : Int) (x8_1 : Int), v3 = .int .i64 x3_1 ∧ v8 = .int .i64 x8_1 ∧ Aside0 (history_Ops.l0 kq x3_1 l0 (l0.length : Int) x8_1 = some r) ∧ Aside0 (kq ≤ k) ∧ Aside0 (Below w.heap.size w w'))
 case atStart => exact ⟨(0), (0), (by first | rfl | (simp; done) | (simp [*]; done)), (by first | rfl | (simp; done) | (simp [*]; done)), H', ⟨Nat.le_refl _⟩, ⟨by repeat (first | (with_reducible first | exact HB.out | apply below_alloc | apply pw_below_drewN | apply below_drew1))⟩⟩
 case round =>
  clear H'
  obtain ⟨x3_1, x8_1, rfl, rfl, HA, HK1, HB⟩ := hrel
  cases gk with
  | zero => exact absurd HA.out (by simp [history_Ops.l0])
  | succ k1 =>
   have H := HA.out
   clear HA
   simp only [history_Ops.l0] at H
   by_cases c2 : x8_1 < (l0.length : Int)
   ·rw [if_pos c2] at H
    have c2b0 : decide (x8_1 < (l0.length : Int)) = true := decide_eq_true c2
    clear c2
    by_cases c3 : 0 ≤ x8_1
    ·rw [if_pos c3] at H
     have c3b0 : decide (0 ≤ x8_1) = true := decide_eq_true c3
     clear c3
     by_cases c4 : x8_1 < (l0.length : Int)
     ·rw [if_pos c4] at H
      have c4b0 : decide (x8_1 < (l0.length : Int)) = true := decide_eq_true c4
      clear c4
      have H' := Aside0.mk H
      clear H
      have p101 : 0 ≤ (x8_1 : Int) := of_decide_eq_true (by assumption)
      have q101 : x8_1 < (l0.length : Int) := of_decide_eq_true (by assumption)
      obtain ⟨ad101, A101_3, c101_3, e101, hx101_0, hx101_1, hx101_2, hx101_3, hl101_3, hi101_3⟩ := at_T44 HR0.out x8_1 p101 q101
      cases e101
      replace hx101_0 := (HB.out.cell (World.block_lt_of_cell? w _ hx101_0)).trans hx101_0
      replace hx101_1 := (HB.out.cell (World.block_lt_of_cell? w _ hx101_1)).trans hx101_1
      replace hx101_2 := (HB.out.cell (World.block_lt_of_cell? w _ hx101_2)).trans hx101_2
      replace hx101_3 := (HB.out.cell (World.block_lt_of_cell? w _ hx101_3)).trans hx101_3
      have HR101_3 := Aside0.mk hi101_3
      have HC101_3 := Aside0.mk hl101_3
      clear hi101_3 hl101_3
      replace p101 := eq_true p101
      replace q101 := eq_true q101
      go_wp2_with (first | ((with_reducible refine gate_dst (N := 5) rfl ?_); refine box_event ?hg (N := 5) ?hd (cs := #[.int .i64 0, .int .i64 0, .int .i64 0, .slice none 0 0]) (t := 44) ?hr ?_; (case hd => rfl); (case hg => rfl); (case hr => first | (go_simp; done) | (go_simp; rfl)); intro gb102 hg w5 hbox hb; have n0_ := Aside0.mk (below_step (by repeat (first | (with_reducible first | exact HB.out | apply below_alloc | apply pw_below_drewN | apply below_drew1))) hb); have n1_ := Aside0.mk (hbox); have n2_ := Aside0.mk ((by rw [hg]; exact (below_size (by repeat (first | (with_reducible first | exact HB.out | apply below_alloc | apply pw_below_drewN | apply below_drew1)))) : w.heap.size ≤ gb102)); have n3_ := Aside0.mk ((by rw [hg]; exact (below_size (by repeat (first | (with_reducible first | exact HB.out | apply below_alloc | apply pw_below_drewN | apply below_drew1)))) : w.heap.size ≤ gb102)); clear HB; have HB := n0_; have BK102 := n1_; have GW102 := n2_; have GE102 := n3_; clear n0_ n1_ n2_ n3_; clear hb hbox hg; have hcz6_0 : w5.cell? ⟨gb102, 0, none⟩ = some (.int .i64 0) := (blk_cell BK102.out 0).trans rfl; have hcz6_1 : w5.cell? ⟨gb102, 1, none⟩ = some (.int .i64 0) := (blk_cell BK102.out 1).trans rfl; have hcz6_2 : w5.cell? ⟨gb102, 2, none⟩ = some (.int .i64 0) := (blk_cell BK102.out 2).trans rfl; have hcz6_3 : w5.cell? ⟨gb102, 3, none⟩ = some (.slice none 0 0) := (blk_cell BK102.out 3).trans rfl; have hfz6_0 := blk_frozen BK102.out 0; have hfz6_1 := blk_frozen BK102.out 1; have hfz6_2 := blk_frozen BK102.out 2; have hfz6_3 := blk_frozen BK102.out 3))
      go_roundg k1
      case measure => have := HK1.out; omega
      case rel => exact ⟨(wrap64 (x3_1 + (((rd_T44 l0 x8_1).f3).length : Int))), (wrap64 (x8_1 + 1)), (by first | rfl | (simp; done) | (simp [*]; done)), (by first | rfl | (simp; done) | (simp [*]; done)), H', ⟨by have := HK1.out; omega⟩, ⟨by repeat (first | (with_reducible first | exact HB.out | apply below_alloc | apply pw_below_drewN | apply below_drew1 | refine below_set ?_ GE102.out))⟩⟩
     ·rw [if_neg c4] at H
      exact absurd H (by simp)
    ·rw [if_neg c3] at H
     exact absurd H (by simp)
   ·rw [if_neg c2] at H
    have c2b0 : decide (x8_1 < (l0.length : Int)) = false := decide_eq_false c2
    clear c2
    obtain rfl := Option.some.inj H
    go_wp2
    go_ret
    exact ⟨by first | rfl | (simp <;> rfl) | (simp [*] <;> rfl), by repeat (first | (with_reducible first | exact HB.out | apply below_alloc | apply pw_below_drewN | apply below_drew1))⟩
end Go.Proofs.Ytfocaefnmfkojaa.Q
namespace Go.Proofs.Ytfocaefnmfkojaa.Q
end Go.Proofs.Ytfocaefnmfkojaa.Q
namespace Go.Proofs.Ytfocaefnmfkojaa.Q
open Go.RowKit Go.Proofs.YtfocaefnmfkojaaW.PrintWords Go.Proofs.YtfocaefnmfkojaaW.PrintLast Go.Proofs.YtfocaefnmfkojaaW.PrintMore
attribute [local go_sem] max2_int min2_int max_two min_two max_three min_three max_four min_four   -- for this text's walks alone
set_option linter.unusedVariables false
set_option linter.unusedSimpArgs false
def op_Right.f (a0_0 : Bool) (a0_1 : Int) (a0_2 : Int) : Option (Bool) := if a0_1 < 0 then (some false) else (if a0_1 ≥ 64 then (some false) else (if a0_2 < 0 then (some false) else (if a0_2 > 2147483647 then (some false) else (if a0_0 = true then (some (decide (a0_2 > 0))) else (some true)))))
set_option maxHeartbeats 8000000 in
set_option maxRecDepth 100000 in
theorem op_Right.calls (a0_0 : Bool) (a0_1 : Int) (a0_2 : Int) (r : Bool) (w : World) (h : op_Right.f a0_0 a0_1 a0_2 = some r) :
  Calls Try.prog 94 #[.agg #[.bool a0_0, .int .i64 a0_1, .int .i64 a0_2]] w fun e w' => e = .returned (.bool r) ∧ Below w.heap.size w w' := by
 have hu46 := Try.underlying46
 have HB := Aside0.mk (Below.refl w.heap.size w)
 have H : (if a0_1 < 0 then (some false) else (if a0_1 ≥ 64 then (some false) else (if a0_2 < 0 then (some false) else (if a0_2 > 2147483647 then (some false) else (if a0_0 = true then (some (decide (a0_2 > 0))) else (some true)))))) = some r := h
 clear h
 by_cases c2 : a0_1 < 0
 ·rw [if_pos c2] at H
  have c2b0 : decide (a0_1 < 0) = true := decide_eq_true c2
  clear c2
  obtain rfl := Option.some.inj H
  go_enter Try.func94, Try.ntmps94
  go_wp2_with (first | ((with_reducible refine gate_dst (N := 1) rfl ?_); refine box_event ?hg (N := 1) ?hd (cs := #[.bool a0_0, .int .i64 a0_1, .int .i64 a0_2]) (t := 46) ?hr ?_; (case hd => rfl); (case hg => rfl); (case hr => first | (go_simp; done) | (go_simp; rfl)); intro gb101 hg w3 hbox hb; have n0_ := Aside0.mk (below_step (by repeat (first | (with_reducible first | exact HB.out | apply below_alloc | apply pw_below_drewN | apply below_drew1))) hb); have n1_ := Aside0.mk (hbox); have n2_ := Aside0.mk ((by rw [hg]; exact (below_size (by repeat (first | (with_reducible first | exact HB.out | apply below_alloc | apply pw_below_drewN | apply below_drew1)))) : w.heap.size ≤ gb101)); have n3_ := Aside0.mk ((by rw [hg]; exact (below_size (by repeat (first | (with_reducible first | exact HB.out | apply below_alloc | apply pw_below_drewN | apply below_drew1)))) : w.heap.size ≤ gb101)); clear HB; have HB := n0_; have BK101 := n1_; have GW101 := n2_; have GE101 := n3_; clear n0_ n1_ n2_ n3_; clear hb hbox hg; have hcz4_0 : w3.cell? ⟨gb101, 0, none⟩ = some (.bool a0_0) := (blk_cell BK101.out 0).trans rfl; have hcz4_1 : w3.cell? ⟨gb101, 1, none⟩ = some (.int .i64 a0_1) := (blk_cell BK101.out 1).trans rfl; have hcz4_2 : w3.cell? ⟨gb101, 2, none⟩ = some (.int .i64 a0_2) := (blk_cell BK101.out 2).trans rfl; have hfz4_0 := blk_frozen BK101.out 0; have hfz4_1 := blk_frozen BK101.out 1; have hfz4_2 := blk_frozen BK101.out 2))
  go_ret
  exact ⟨by first | rfl | (simp <;> rfl) | (simp [*] <;> rfl), by repeat (first | (with_reducible first | exact HB.out | apply below_alloc | apply pw_below_drewN | apply below_drew1 | refine below_set ?_ GE101.out))⟩
 ·rw [if_neg c2] at H
  have c2b0 : decide (a0_1 < 0) = false := decide_eq_false c2
  clear c2
  by_cases c5 : a0_1 ≥ 64
  ·rw [if_pos c5] at H
   have c5b0 : decide (64 ≤ a0_1) = true := decide_eq_true c5
   clear c5
   obtain rfl := Option.some.inj H
   go_enter Try.func94, Try.ntmps94
   go_wp2_with (first | ((with_reducible refine gate_dst (N := 1) rfl ?_); refine box_event ?hg (N := 1) ?hd (cs := #[.bool a0_0, .int .i64 a0_1, .int .i64 a0_2]) (t := 46) ?hr ?_; (case hd => rfl); (case hg => rfl); (case hr => first | (go_simp; done) | (go_simp; rfl)); intro gb101 hg w6 hbox hb; have n0_ := Aside0.mk (below_step (by repeat (first | (with_reducible first | exact HB.out | apply below_alloc | apply pw_below_drewN | apply below_drew1))) hb); have n1_ := Aside0.mk (hbox); have n2_ := Aside0.mk ((by rw [hg]; exact (below_size (by repeat (first | (with_reducible first | exact HB.out | apply below_alloc | apply pw_below_drewN | apply below_drew1)))) : w.heap.size ≤ gb101)); have n3_ := Aside0.mk ((by rw [hg]; exact (below_size (by repeat (first | (with_reducible first | exact HB.out | apply below_alloc | apply pw_below_drewN | apply below_drew1)))) : w.heap.size ≤ gb101)); clear HB; have HB := n0_; have BK101 := n1_; have GW101 := n2_; have GE101 := n3_; clear n0_ n1_ n2_ n3_; clear hb hbox hg; have hcz7_0 : w6.cell? ⟨gb101, 0, none⟩ = some (.bool a0_0) := (blk_cell BK101.out 0).trans rfl; have hcz7_1 : w6.cell? ⟨gb101, 1, none⟩ = some (.int .i64 a0_1) := (blk_cell BK101.out 1).trans rfl; have hcz7_2 : w6.cell? ⟨gb101, 2, none⟩ = some (.int .i64 a0_2) := (blk_cell BK101.out 2).trans rfl; have hfz7_0 := blk_frozen BK101.out 0; have hfz7_1 := blk_frozen BK101.out 1; have hfz7_2 := blk_frozen BK101.out 2))
   go_ret
   exact ⟨by first | rfl | (simp <;> rfl) | (simp [*] <;> rfl), by repeat (first | (with_reducible first | exact HB.out | apply below_alloc | apply pw_below_drewN | apply below_drew1 | refine below_set ?_ GE101.out))⟩
  ·rw [if_neg c5] at H
   have c5b0 : decide (64 ≤ a0_1) = false := decide_eq_false c5
   clear c5
   by_cases c8 : a0_2 < 0
   ·rw [if_pos c8] at H
    have c8b0 : decide (a0_2 < 0) = true := decide_eq_true c8
    clear c8
    obtain rfl := Option.some.inj H
    go_enter Try.func94, Try.ntmps94
    go_wp2_with (first | ((with_reducible refine gate_dst (N := 1) rfl ?_); refine box_event ?hg (N := 1) ?hd (cs := #[.bool a0_0, .int .i64 a0_1, .int .i64 a0_2]) (t := 46) ?hr ?_; (case hd => rfl); (case hg => rfl); (case hr => first | (go_simp; done) | (go_simp; rfl)); intro gb101 hg w9 hbox hb; have n0_ := Aside0.mk (below_step (by repeat (first | (with_reducible first | exact HB.out | apply below_alloc | apply pw_below_drewN | apply below_drew1))) hb); have n1_ := Aside0.mk (hbox); have n2_ := Aside0.mk ((by rw [hg]; exact (below_size (by repeat (first | (with_reducible first | exact HB.out | apply below_alloc | apply pw_below_drewN | apply below_drew1)))) : w.heap.size ≤ gb101)); have n3_ := Aside0.mk ((by rw [hg]; exact (below_size (by repeat (first | (with_reducible first | exact HB.out | apply below_alloc | apply pw_below_drewN | apply below_drew1)))) : w.heap.size ≤ gb101)); clear HB; have HB := n0_; have BK101 := n1_; have GW101 := n2_; have GE101 := n3_; clear n0_ n1_ n2_ n3_; clear hb hbox hg; have hcz10_0 : w9.cell? ⟨gb101, 0, none⟩ = some (.bool a0_0) := (blk_cell BK101.out 0).trans rfl; have hcz10_1 : w9.cell? ⟨gb101, 1, none⟩ = some (.int .i64 a0_1) := (blk_cell BK101.out 1).trans rfl; have hcz10_2 : w9.cell? ⟨gb101, 2, none⟩ = some (.int .i64 a0_2) := (blk_cell BK101.out 2).trans rfl; have hfz10_0 := blk_frozen BK101.out 0; have hfz10_1 := blk_frozen BK101.out 1; have hfz10_2 := blk_frozen BK101.out 2))
    go_ret
    exact ⟨by first | rfl | (simp <;> rfl) | (simp [*] <;> rfl), by repeat (first | (with_reducible first | exact HB.out | apply below_alloc | apply pw_below_drewN | apply below_drew1 | refine below_set ?_ GE101.out))⟩
   ·rw [if_neg c8] at H
    have c8b0 : decide (a0_2 < 0) = false := decide_eq_false c8
    clear c8
    by_cases c11 : a0_2 > 2147483647
    ·rw [if_pos c11] at H
     have c11b0 : decide (2147483647 < a0_2) = true := decide_eq_true c11
     clear c11
     obtain rfl := Option.some.inj H
     go_enter Try.func94, Try.ntmps94
     go_wp2_with (first | ((with_reducible refine gate_dst (N := 1) rfl ?_); refine box_event ?hg (N := 1) ?hd (cs := #[.bool a0_0, .int .i64 a0_1, .int .i64 a0_2]) (t := 46) ?hr ?_; (case hd => rfl); (case hg => rfl); (case hr => first | (go_simp; done) | (go_simp; rfl)); intro gb101 hg w12 hbox hb; have n0_ := Aside0.mk (below_step (by repeat (first | (with_reducible first | exact HB.out | apply below_alloc | apply pw_below_drewN | apply below_drew1))) hb); have n1_ := Aside0.mk (hbox); have n2_ := Aside0.mk ((by rw [hg]; exact (below_size (by repeat (first | (with_reducible first | exact HB.out | apply below_alloc | apply pw_below_drewN | apply below_drew1)))) : w.heap.size ≤ gb101)); have n3_ := Aside0.mk ((by rw [hg]; exact (below_size (by repeat (first | (with_reducible first | exact HB.out | apply below_alloc | apply pw_below_drewN | apply below_drew1)))) : w.heap.size ≤ gb101)); clear HB; have HB := n0_; have BK101 := n1_; have GW101 := n2_; have GE101 := n3_; clear n0_ n1_ n2_ n3_; clear hb hbox hg; have hcz13_0 : w12.cell? ⟨gb101, 0, none⟩ = some (.bool a0_0) := (blk_cell BK101.out 0).trans rfl; have hcz13_1 : w12.cell? ⟨gb101, 1, none⟩ = some (.int .i64 a0_1) := (blk_cell BK101.out 1).trans rfl; have hcz13_2 : w12.cell? ⟨gb101, 2, none⟩ = some (.int .i64 a0_2) := (blk_cell BK101.out 2).trans rfl; have hfz13_0 := blk_frozen BK101.out 0; have hfz13_1 := blk_frozen BK101.out 1; have hfz13_2 := blk_frozen BK101.out 2))
     go_ret
     exact ⟨by first | rfl | (simp <;> rfl) | (simp [*] <;> rfl), by repeat (first | (with_reducible first | exact HB.out | apply below_alloc | apply pw_below_drewN | apply below_drew1 | refine below_set ?_ GE101.out))⟩
    ·rw [if_neg c11] at H
     have c11b0 : decide (2147483647 < a0_2) = false := decide_eq_false c11
     clear c11
     by_cases c14 : a0_0 = true
     ·subst c14
      have H1 : (some (decide (a0_2 > 0))) = some r := by rw [if_pos rfl] at H; exact H
      clear H
      have H := H1
      clear H1
      obtain rfl := Option.some.inj H
      go_enter Try.func94, Try.ntmps94
      go_wp2_with (first | ((with_reducible refine gate_dst (N := 1) rfl ?_); refine box_event ?hg (N := 1) ?hd (cs := #[.bool true, .int .i64 a0_1, .int .i64 a0_2]) (t := 46) ?hr ?_; (case hd => rfl); (case hg => rfl); (case hr => first | (go_simp; done) | (go_simp; rfl)); intro gb101 hg w15 hbox hb; have n0_ := Aside0.mk (below_step (by repeat (first | (with_reducible first | exact HB.out | apply below_alloc | apply pw_below_drewN | apply below_drew1))) hb); have n1_ := Aside0.mk (hbox); have n2_ := Aside0.mk ((by rw [hg]; exact (below_size (by repeat (first | (with_reducible first | exact HB.out | apply below_alloc | apply pw_below_drewN | apply below_drew1)))) : w.heap.size ≤ gb101)); have n3_ := Aside0.mk ((by rw [hg]; exact (below_size (by repeat (first | (with_reducible first | exact HB.out | apply below_alloc | apply pw_below_drewN | apply below_drew1)))) : w.heap.size ≤ gb101)); clear HB; have HB := n0_; have BK101 := n1_; have GW101 := n2_; have GE101 := n3_; clear n0_ n1_ n2_ n3_; clear hb hbox hg; have hcz16_0 : w15.cell? ⟨gb101, 0, none⟩ = some (.bool true) := (blk_cell BK101.out 0).trans rfl; have hcz16_1 : w15.cell? ⟨gb101, 1, none⟩ = some (.int .i64 a0_1) := (blk_cell BK101.out 1).trans rfl; have hcz16_2 : w15.cell? ⟨gb101, 2, none⟩ = some (.int .i64 a0_2) := (blk_cell BK101.out 2).trans rfl; have hfz16_0 := blk_frozen BK101.out 0; have hfz16_1 := blk_frozen BK101.out 1; have hfz16_2 := blk_frozen BK101.out 2))
      go_ret
      exact ⟨by first | rfl | (simp <;> rfl) | (simp [*] <;> rfl), by repeat (first | (with_reducible first | exact HB.out | apply below_alloc | apply pw_below_drewN | apply below_drew1 | refine below_set ?_ GE101.out))⟩
     ·replace c14 := Bool.eq_false_iff.mpr c14
      subst c14
      have H1 : (some true) = some r := by rw [if_neg (show ¬ (false = true) by decide)] at H; exact H
      clear H
      have H := H1
      clear H1
      obtain rfl := Option.some.inj H
      go_enter Try.func94, Try.ntmps94
      go_wp2_with (first | ((with_reducible refine gate_dst (N := 1) rfl ?_); refine box_event ?hg (N := 1) ?hd (cs := #[.bool false, .int .i64 a0_1, .int .i64 a0_2]) (t := 46) ?hr ?_; (case hd => rfl); (case hg => rfl); (case hr => first | (go_simp; done) | (go_simp; rfl)); intro gb101 hg w17 hbox hb; have n0_ := Aside0.mk (below_step (by repeat (first | (with_reducible first | exact HB.out | apply below_alloc | apply pw_below_drewN | apply below_drew1))) hb); have n1_ := Aside0.mk (hbox); have n2_ := Aside0.mk ((by rw [hg]; exact (below_size (by repeat (first | (with_reducible first | exact HB.out | apply below_alloc | apply pw_below_drewN | apply below_drew1)))) : w.heap.size ≤ gb101)); have n3_ := Aside0.mk ((by rw [hg]; exact (below_size (by repeat (first | (with_reducible first | exact HB.out | apply below_alloc | apply pw_below_drewN | apply below_drew1)))) : w.heap.size ≤ gb101)); clear HB; have HB := n0_; have BK101 := n1_; have GW101 := n2_; have GE101 := n3_; clear n0_ n1_ n2_ n3_; clear hb hbox hg; have hcz18_0 : w17.cell? ⟨gb101, 0, none⟩ = some (.bool false) := (blk_cell BK101.out 0).trans rfl; have hcz18_1 : w17.cell? ⟨gb101, 1, none⟩ = some (.int .i64 a0_1) := (blk_cell BK101.out 1).trans rfl; have hcz18_2 : w17.cell? ⟨gb101, 2, none⟩ = some (.int .i64 a0_2) := (blk_cell BK101.out 2).trans rfl; have hfz18_0 := blk_frozen BK101.out 0; have hfz18_1 := blk_frozen BK101.out 1; have hfz18_2 := blk_frozen BK101.out 2))
      go_ret
      exact ⟨by first | rfl | (simp <;> rfl) | (simp [*] <;> rfl), by repeat (first | (with_reducible first | exact HB.out | apply below_alloc | apply pw_below_drewN | apply below_drew1 | refine below_set ?_ GE101.out))⟩
end Go.Proofs.Ytfocaefnmfkojaa.Q
namespace Go.Proofs.Ytfocaefnmfkojaa.Q
end Go.Proofs.Ytfocaefnmfkojaa.Q
namespace Go.Proofs.Ytfocaefnmfkojaa.Q
end Go.Proofs.Ytfocaefnmfkojaa.Q
namespace Go.Proofs.Ytfocaefnmfkojaa.Q
end Go.Proofs.Ytfocaefnmfkojaa.Q
namespace Go.Proofs.Ytfocaefnmfkojaa.Q
end Go.Proofs.Ytfocaefnmfkojaa.Q
namespace Go.Proofs.Ytfocaefnmfkojaa.Q
end Go.Proofs.Ytfocaefnmfkojaa.Q
namespace Go.Proofs.Ytfocaefnmfkojaa.Q
end Go.Proofs.Ytfocaefnmfkojaa.Q
namespace Go.Proofs.Ytfocaefnmfkojaa.Q
end Go.Proofs.Ytfocaefnmfkojaa.Q
namespace Go.Proofs.Ytfocaefnmfkojaa.Q
open Go.RowKit Go.Proofs.YtfocaefnmfkojaaW.PrintWords Go.Proofs.YtfocaefnmfkojaaW.PrintLast Go.Proofs.YtfocaefnmfkojaaW.PrintMore
attribute [local go_sem] max2_int min2_int max_two min_two max_three min_three max_four min_four   -- for this text's walks alone
set_option linter.unusedVariables false
set_option linter.unusedSimpArgs false
mutual
def txn_Right.j0 : Nat → Bool → Int → Int → Int → List (S46) → Option (Bool)
 | 0, _, _, _, _, _ => none
 | k + 1, x41, x102000, x102001, x102002, x102003 => if x41 = true then (some false) else (txn_Right.l0 k x102003 (x102003.length : Int) 0)
def txn_Right.l0 : Nat → List (S46) → Int → Int → Option (Bool)
 | 0, _, _, _ => none
 | k + 1, x43, x44, x45 => if x45 < x44 then (if 0 ≤ x45 then (if x45 < (x43.length : Int) then ((op_Right.f ((rd_T46 x43 x45).f0) ((rd_T46 x43 x45).f1) ((rd_T46 x43 x45).f2)).bind fun t104 => (if t104 = true then (txn_Right.l0 k x43 x44 (wrap64 (x45 + 1))) else (some false))) else (none)) else (none)) else (some true)
end
def txn_Right.f (k : Nat) (a0_0 : Int) (a0_1 : Int) (a0_2 : Int) (l0_3 : List (S46)) : Option (Bool) := if a0_0 < 0 then (txn_Right.j0 k true a0_0 a0_1 a0_2 l0_3) else (if a0_0 ≥ 64 then (txn_Right.j0 k true a0_0 a0_1 a0_2 l0_3) else (if a0_1 < 0 then (txn_Right.j0 k true a0_0 a0_1 a0_2 l0_3) else (if a0_1 ≥ a0_2 then (txn_Right.j0 k true a0_0 a0_1 a0_2 l0_3) else (if a0_2 > 2147483647 then (txn_Right.j0 k true a0_0 a0_1 a0_2 l0_3) else (if (l0_3.length : Int) < 1 then (txn_Right.j0 k true a0_0 a0_1 a0_2 l0_3) else (txn_Right.j0 k (decide ((l0_3.length : Int) > 64)) a0_0 a0_1 a0_2 l0_3))))))
set_option maxHeartbeats 8000000 in
set_option maxRecDepth 100000 in
theorem txn_Right.calls (k : Nat) (a0_0 : Int) (a0_1 : Int) (a0_2 : Int) (A0_3 : Option Addr) (c0_3 : Nat) (l0_3 : List (S46)) (r : Bool) (w : World) (hr0_3 : Kd.C k46 w A0_3 l0_3.length l0_3) (hc0_3 : l0_3.length ≤ c0_3) (h : txn_Right.f k a0_0 a0_1 a0_2 l0_3 = some r) :
  Calls Try.prog 61 #[.agg #[.int .i64 a0_0, .int .i64 a0_1, .int .i64 a0_2, .slice A0_3 l0_3.length c0_3]] w fun e w' => e = .returned (.bool r) ∧ Below w.heap.size w w' := by
 have hu44 := Try.underlying44
 have hu46 := Try.underlying46
 have HR0_3 := Aside0.mk hr0_3
 have HC0_3 := Aside0.mk hc0_3
 clear hr0_3 hc0_3
 have HB := Aside0.mk (Below.refl w.heap.size w)
 have H : (if a0_0 < 0 then (txn_Right.j0 k true a0_0 a0_1 a0_2 l0_3) else (if a0_0 ≥ 64 then (txn_Right.j0 k true a0_0 a0_1 a0_2 l0_3) else (if a0_1 < 0 then (txn_Right.j0 k true a0_0 a0_1 a0_2 l0_3) else (if a0_1 ≥ a0_2 then (txn_Right.j0 k true a0_0 a0_1 a0_2 l0_3) else (if a0_2 > 2147483647 then (txn_Right.j0 k true a0_0 a0_1 a0_2 l0_3) else (if (l0_3.length : Int) < 1 then (txn_Right.j0 k true a0_0 a0_1 a0_2 l0_3) else (txn_Right.j0 k (decide ((l0_3.length : Int) > 64)) a0_0 a0_1 a0_2 l0_3))))))) = some r := h
 clear h
 have HC2 := Aside0.mk H
 clear H
 go_enter Try.func61, Try.ntmps61
 go_upto_region 1 with (first | ((with_reducible refine gate_dst (N := 1) rfl ?_); (try (refine gate_guard (by rfl) ?_; dsimp only)); refine box_event ?hg (N := 1) ?hd (cs := #[.int .i64 a0_0, .int .i64 a0_1, .int .i64 a0_2, .slice A0_3 l0_3.length c0_3]) (t := 44) ?hr ?_; (case hd => rfl); (case hg => rfl); (case hr => first | (go_simp; done) | (go_simp; rfl)); intro gb101 hg w3 hbox hb; have n0_ := Aside0.mk (below_step (by repeat (first | (with_reducible first | exact HB.out | apply below_alloc | apply pw_below_drewN | apply below_drew1))) hb); have n1_ := Aside0.mk (hbox); have n2_ := Aside0.mk ((by rw [hg]; exact (below_size (by repeat (first | (with_reducible first | exact HB.out | apply below_alloc | apply pw_below_drewN | apply below_drew1)))) : w.heap.size ≤ gb101)); have n3_ := Aside0.mk ((by rw [hg]; exact (below_size (by repeat (first | (with_reducible first | exact HB.out | apply below_alloc | apply pw_below_drewN | apply below_drew1)))) : w.heap.size ≤ gb101)); clear HB; have HB := n0_; have BK101 := n1_; have GW101 := n2_; have GE101 := n3_; clear n0_ n1_ n2_ n3_; clear hb hbox hg))
 (try simp only [Act.put, List.setIfInBounds_toArray, List.set_cons_zero, List.set_cons_succ])
 go_cut [41] (fun v41 wc => ∃ (kq : Nat) (x41_1 : Bool), v41 = .bool x41_1 ∧ Aside0 (txn_Right.j0 kq x41_1 a0_0 a0_1 a0_2 l0_3 = some r) ∧ Aside0 (kq ≤ k) ∧ Aside0 (wc.heap[gb101]? = some (.cells #[.int .i64 a0_0, .int .i64 a0_1, .int .i64 a0_2, (.slice A0_3 l0_3.length c0_3)] 44 (0, 0))) ∧ Aside0 (Below w.heap.size w wc))
 case first =>
  have H := HC2.out
  clear HC2
  by_cases c4 : a0_0 < 0
  ·rw [if_pos c4] at H
   have c4b0 : decide (a0_0 < 0) = true := decide_eq_true c4
   clear c4
   (first | rw [c4b0] | (simp only [i64_w, i32_w]; rw [c4b0]) | skip)
   have H' := Aside0.mk H
   clear H
   have hcz5_0 : w3.cell? ⟨gb101, 0, none⟩ = some (.int .i64 a0_0) := (blk_cell BK101.out 0).trans rfl
   have hcz5_1 : w3.cell? ⟨gb101, 1, none⟩ = some (.int .i64 a0_1) := (blk_cell BK101.out 1).trans rfl
   have hcz5_2 : w3.cell? ⟨gb101, 2, none⟩ = some (.int .i64 a0_2) := (blk_cell BK101.out 2).trans rfl
   have hcz5_3 : w3.cell? ⟨gb101, 3, none⟩ = some (.slice A0_3 l0_3.length c0_3) := (blk_cell BK101.out 3).trans rfl
   have hfz5_0 := blk_frozen BK101.out 0
   have hfz5_1 := blk_frozen BK101.out 1
   have hfz5_2 := blk_frozen BK101.out 2
   have hfz5_3 := blk_frozen BK101.out 3
   go_wp2
   go_meet
   case rel => exact ⟨_, (true), (by first | rfl | (simp; done) | (simp [*]; done)), H', ⟨by first | omega | exact Nat.le_refl _⟩, ⟨by (with_reducible repeat (first | refine blk_drewN ?_ _ | refine blk_drew ?_ | refine blk_alloc ?_ _)); exact BK101.out⟩, ⟨by repeat (first | (with_reducible first | exact HB.out | apply below_alloc | apply pw_below_drewN | apply below_drew1 | refine below_set ?_ GE101.out))⟩⟩
  ·rw [if_neg c4] at H
   have c4b0 : decide (a0_0 < 0) = false := decide_eq_false c4
   clear c4
   (first | rw [c4b0] | (simp only [i64_w, i32_w]; rw [c4b0]) | skip)
   by_cases c6 : a0_0 ≥ 64
   ·rw [if_pos c6] at H
    have c6b0 : decide (64 ≤ a0_0) = true := decide_eq_true c6
    clear c6
    have H' := Aside0.mk H
    clear H
    have hcz7_0 : w3.cell? ⟨gb101, 0, none⟩ = some (.int .i64 a0_0) := (blk_cell BK101.out 0).trans rfl
    have hcz7_1 : w3.cell? ⟨gb101, 1, none⟩ = some (.int .i64 a0_1) := (blk_cell BK101.out 1).trans rfl
    have hcz7_2 : w3.cell? ⟨gb101, 2, none⟩ = some (.int .i64 a0_2) := (blk_cell BK101.out 2).trans rfl
    have hcz7_3 : w3.cell? ⟨gb101, 3, none⟩ = some (.slice A0_3 l0_3.length c0_3) := (blk_cell BK101.out 3).trans rfl
    have hfz7_0 := blk_frozen BK101.out 0
    have hfz7_1 := blk_frozen BK101.out 1
    have hfz7_2 := blk_frozen BK101.out 2
    have hfz7_3 := blk_frozen BK101.out 3
    go_wp2
    go_meet
    case rel => exact ⟨_, (true), (by first | rfl | (simp; done) | (simp [*]; done)), H', ⟨by first | omega | exact Nat.le_refl _⟩, ⟨by (with_reducible repeat (first | refine blk_drewN ?_ _ | refine blk_drew ?_ | refine blk_alloc ?_ _)); exact BK101.out⟩, ⟨by repeat (first | (with_reducible first | exact HB.out | apply below_alloc | apply pw_below_drewN | apply below_drew1 | refine below_set ?_ GE101.out))⟩⟩
   ·rw [if_neg c6] at H
    have c6b0 : decide (64 ≤ a0_0) = false := decide_eq_false c6
    clear c6
    by_cases c8 : a0_1 < 0
    ·rw [if_pos c8] at H
     have c8b0 : decide (a0_1 < 0) = true := decide_eq_true c8
     clear c8
     have H' := Aside0.mk H
     clear H
     have hcz9_0 : w3.cell? ⟨gb101, 0, none⟩ = some (.int .i64 a0_0) := (blk_cell BK101.out 0).trans rfl
     have hcz9_1 : w3.cell? ⟨gb101, 1, none⟩ = some (.int .i64 a0_1) := (blk_cell BK101.out 1).trans rfl
     have hcz9_2 : w3.cell? ⟨gb101, 2, none⟩ = some (.int .i64 a0_2) := (blk_cell BK101.out 2).trans rfl
     have hcz9_3 : w3.cell? ⟨gb101, 3, none⟩ = some (.slice A0_3 l0_3.length c0_3) := (blk_cell BK101.out 3).trans rfl
     have hfz9_0 := blk_frozen BK101.out 0
     have hfz9_1 := blk_frozen BK101.out 1
     have hfz9_2 := blk_frozen BK101.out 2
     have hfz9_3 := blk_frozen BK101.out 3
     go_wp2
     go_meet
     case rel => exact ⟨_, (true), (by first | rfl | (simp; done) | (simp [*]; done)), H', ⟨by first | omega | exact Nat.le_refl _⟩, ⟨by (with_reducible repeat (first | refine blk_drewN ?_ _ | refine blk_drew ?_ | refine blk_alloc ?_ _)); exact BK101.out⟩, ⟨by repeat (first | (with_reducible first | exact HB.out | apply below_alloc | apply pw_below_drewN | apply below_drew1 | refine below_set ?_ GE101.out))⟩⟩
    ·rw [if_neg c8] at H
     have c8b0 : decide (a0_1 < 0) = false := decide_eq_false c8
     clear c8
     by_cases c10 : a0_1 ≥ a0_2
     ·rw [if_pos c10] at H
      have c10b0 : decide (a0_2 ≤ a0_1) = true := decide_eq_true c10
      clear c10
      have H' := Aside0.mk H
      clear H
      have hcz11_0 : w3.cell? ⟨gb101, 0, none⟩ = some (.int .i64 a0_0) := (blk_cell BK101.out 0).trans rfl
      have hcz11_1 : w3.cell? ⟨gb101, 1, none⟩ = some (.int .i64 a0_1) := (blk_cell BK101.out 1).trans rfl
      have hcz11_2 : w3.cell? ⟨gb101, 2, none⟩ = some (.int .i64 a0_2) := (blk_cell BK101.out 2).trans rfl
      have hcz11_3 : w3.cell? ⟨gb101, 3, none⟩ = some (.slice A0_3 l0_3.length c0_3) := (blk_cell BK101.out 3).trans rfl
      have hfz11_0 := blk_frozen BK101.out 0
      have hfz11_1 := blk_frozen BK101.out 1
      have hfz11_2 := blk_frozen BK101.out 2
      have hfz11_3 := blk_frozen BK101.out 3
      go_wp2
      go_meet
      case rel => exact ⟨_, (true), (by first | rfl | (simp; done) | (simp [*]; done)), H', ⟨by first | omega | exact Nat.le_refl _⟩, ⟨by (with_reducible repeat (first | refine blk_drewN ?_ _ | refine blk_drew ?_ | refine blk_alloc ?_ _)); exact BK101.out⟩, ⟨by repeat (first | (with_reducible first | exact HB.out | apply below_alloc | apply pw_below_drewN | apply below_drew1 | refine below_set ?_ GE101.out))⟩⟩
     ·rw [if_neg c10] at H
      have c10b0 : decide (a0_2 ≤ a0_1) = false := decide_eq_false c10
      clear c10
      by_cases c12 : a0_2 > 2147483647
      ·rw [if_pos c12] at H
       have c12b0 : decide (2147483647 < a0_2) = true := decide_eq_true c12
       clear c12
       have H' := Aside0.mk H
       clear H
       have hcz13_0 : w3.cell? ⟨gb101, 0, none⟩ = some (.int .i64 a0_0) := (blk_cell BK101.out 0).trans rfl
       have hcz13_1 : w3.cell? ⟨gb101, 1, none⟩ = some (.int .i64 a0_1) := (blk_cell BK101.out 1).trans rfl
       have hcz13_2 : w3.cell? ⟨gb101, 2, none⟩ = some (.int .i64 a0_2) := (blk_cell BK101.out 2).trans rfl
       have hcz13_3 : w3.cell? ⟨gb101, 3, none⟩ = some (.slice A0_3 l0_3.length c0_3) := (blk_cell BK101.out 3).trans rfl
       have hfz13_0 := blk_frozen BK101.out 0
       have hfz13_1 := blk_frozen BK101.out 1
       have hfz13_2 := blk_frozen BK101.out 2
       have hfz13_3 := blk_frozen BK101.out 3
       go_wp2
       go_meet
       case rel => exact ⟨_, (true), (by first | rfl | (simp; done) | (simp [*]; done)), H', ⟨by first | omega | exact Nat.le_refl _⟩, ⟨by (with_reducible repeat (first | refine blk_drewN ?_ _ | refine blk_drew ?_ | refine blk_alloc ?_ _)); exact BK101.out⟩, ⟨by repeat (first | (with_reducible first | exact HB.out | apply below_alloc | apply pw_below_drewN | apply below_drew1 | refine below_set ?_ GE101.out))⟩⟩
      ·rw [if_neg c12] at H
       have c12b0 : decide (2147483647 < a0_2) = false := decide_eq_false c12
       clear c12
       by_cases c14 : (l0_3.length : Int) < 1
       ·rw [if_pos c14] at H
        have c14b0 : decide ((l0_3.length : Int) < 1) = true := decide_eq_true c14
        have c14b1 : decide (l0_3.length < 1) = true := decide_eq_true (by omega)
        clear c14
        have H' := Aside0.mk H
        clear H
        have hcz15_0 : w3.cell? ⟨gb101, 0, none⟩ = some (.int .i64 a0_0) := (blk_cell BK101.out 0).trans rfl
        have hcz15_1 : w3.cell? ⟨gb101, 1, none⟩ = some (.int .i64 a0_1) := (blk_cell BK101.out 1).trans rfl
        have hcz15_2 : w3.cell? ⟨gb101, 2, none⟩ = some (.int .i64 a0_2) := (blk_cell BK101.out 2).trans rfl
        have hcz15_3 : w3.cell? ⟨gb101, 3, none⟩ = some (.slice A0_3 l0_3.length c0_3) := (blk_cell BK101.out 3).trans rfl
        have hfz15_0 := blk_frozen BK101.out 0
        have hfz15_1 := blk_frozen BK101.out 1
        have hfz15_2 := blk_frozen BK101.out 2
        have hfz15_3 := blk_frozen BK101.out 3
        go_wp2
        go_meet
        case rel => exact ⟨_, (true), (by first | rfl | (simp; done) | (simp [*]; done)), H', ⟨by first | omega | exact Nat.le_refl _⟩, ⟨by (with_reducible repeat (first | refine blk_drewN ?_ _ | refine blk_drew ?_ | refine blk_alloc ?_ _)); exact BK101.out⟩, ⟨by repeat (first | (with_reducible first | exact HB.out | apply below_alloc | apply pw_below_drewN | apply below_drew1 | refine below_set ?_ GE101.out))⟩⟩
       ·rw [if_neg c14] at H
        have c14b0 : decide ((l0_3.length : Int) < 1) = false := decide_eq_false c14
        have c14b1 : decide (l0_3.length < 1) = false := decide_eq_false (by omega)
        clear c14
        have H' := Aside0.mk H
        clear H
        have hcz16_0 : w3.cell? ⟨gb101, 0, none⟩ = some (.int .i64 a0_0) := (blk_cell BK101.out 0).trans rfl
        have hcz16_1 : w3.cell? ⟨gb101, 1, none⟩ = some (.int .i64 a0_1) := (blk_cell BK101.out 1).trans rfl
        have hcz16_2 : w3.cell? ⟨gb101, 2, none⟩ = some (.int .i64 a0_2) := (blk_cell BK101.out 2).trans rfl
        have hcz16_3 : w3.cell? ⟨gb101, 3, none⟩ = some (.slice A0_3 l0_3.length c0_3) := (blk_cell BK101.out 3).trans rfl
        have hfz16_0 := blk_frozen BK101.out 0
        have hfz16_1 := blk_frozen BK101.out 1
        have hfz16_2 := blk_frozen BK101.out 2
        have hfz16_3 := blk_frozen BK101.out 3
        go_wp2
        go_meet
        case rel => exact ⟨_, (decide ((l0_3.length : Int) > 64)), (by first | rfl | (simp; done) | (simp [*]; done)), H', ⟨by first | omega | exact Nat.le_refl _⟩, ⟨by (with_reducible repeat (first | refine blk_drewN ?_ _ | refine blk_drew ?_ | refine blk_alloc ?_ _)); exact BK101.out⟩, ⟨by repeat (first | (with_reducible first | exact HB.out | apply below_alloc | apply pw_below_drewN | apply below_drew1 | refine below_set ?_ GE101.out))⟩⟩
 case rest =>
  clear HC2
  try clear c1
  try clear p2
  try clear c4
  try clear c4b0
  try clear c6
  try clear c6b0
  try clear c8
  try clear c8b0
  try clear c10
  try clear c10b0
  try clear c12
  try clear c12b0
  try clear c14
  try clear c14b0
  try clear c14b1
  try clear hcz11_0
  try clear hcz11_1
  try clear hcz11_2
  try clear hcz11_3
  try clear hcz13_0
  try clear hcz13_1
  try clear hcz13_2
  try clear hcz13_3
  try clear hcz15_0
  try clear hcz15_1
  try clear hcz15_2
  try clear hcz15_3
  try clear hcz16_0
  try clear hcz16_1
  try clear hcz16_2
  try clear hcz16_3
  try clear hcz5_0
  try clear hcz5_1
  try clear hcz5_2
  try clear hcz5_3
  try clear hcz7_0
  try clear hcz7_1
  try clear hcz7_2
  try clear hcz7_3
  try clear hcz9_0
  try clear hcz9_1
  try clear hcz9_2
  try clear hcz9_3
  try clear hfz11_0
  try clear hfz11_1
  try clear hfz11_2
  try clear hfz11_3
  try clear hfz13_0
  try clear hfz13_1
  try clear hfz13_2
  try clear hfz13_3
  try clear hfz15_0
  try clear hfz15_1
  try clear hfz15_2
  try clear hfz15_3
  try clear hfz16_0
  try clear hfz16_1
  try clear hfz16_2
  try clear hfz16_3
  try clear hfz5_0
  try clear hfz5_1
  try clear hfz5_2
  try clear hfz5_3
  try clear hfz7_0
  try clear hfz7_1
  try clear hfz7_2
  try clear hfz7_3
  try clear hfz9_0
  try clear hfz9_1
  try clear hfz9_2
  try clear hfz9_3
  obtain ⟨kq, x41_1, rfl, HA, HJ1, BK101, HB⟩ := hcut
  cases kq with
  | zero => exact absurd HA.out (by simp [txn_Right.j0])
  | succ kj1 =>
   have H := HA.out
   clear HA
   simp only [txn_Right.j0] at H
   by_cases c17 : x41_1 = true
   ·subst c17
    have H1 : (some false) = some r := by rw [if_pos rfl] at H; exact H
    clear H
    have H := H1
    clear H1
    obtain rfl := Option.some.inj H
    go_wp2
    go_ret
    exact ⟨by first | rfl | (simp <;> rfl) | (simp [*] <;> rfl), by repeat (first | (with_reducible first | exact HB.out | apply below_alloc | apply pw_below_drewN | apply below_drew1 | refine below_set ?_ GE101.out))⟩
   ·replace c17 := Bool.eq_false_iff.mpr c17
    subst c17
    have H1 : (txn_Right.l0 kj1 l0_3 (l0_3.length : Int) 0) = some r := by rw [if_neg (show ¬ (false = true) by decide)] at H; exact H
    clear H
    have H := H1
    clear H1
    have H' := Aside0.mk H
    clear H
    have hcz18_0 : wc.cell? ⟨gb101, 0, none⟩ = some (.int .i64 a0_0) := (blk_cell BK101.out 0).trans rfl
    have hcz18_1 : wc.cell? ⟨gb101, 1, none⟩ = some (.int .i64 a0_1) := (blk_cell BK101.out 1).trans rfl
    have hcz18_2 : wc.cell? ⟨gb101, 2, none⟩ = some (.int .i64 a0_2) := (blk_cell BK101.out 2).trans rfl
    have hcz18_3 : wc.cell? ⟨gb101, 3, none⟩ = some (.slice A0_3 l0_3.length c0_3) := (blk_cell BK101.out 3).trans rfl
    have hfz18_0 := blk_frozen BK101.out 0
    have hfz18_1 := blk_frozen BK101.out 1
    have hfz18_2 := blk_frozen BK101.out 2
    have hfz18_3 := blk_frozen BK101.out 3
    go_wp2
    go_loopg [45] kj1 (fun kq v45 w' => ∃ (x45_2 : Int), v45 = .int .i64 x45_2 ∧ Aside0 (txn_Right.l0 kq l0_3 (l0_3.length : Int) x45_2 = some r) ∧ Aside0 (kq ≤ kj1) ∧ Aside0 (w'.heap[gb101]? = some (.cells #[.int .i64 a0_0, .int .i64 a0_1, .int .i64 a0_2, (.slice A0_3 l0_3.length c0_3)] 44 (0, 0))) ∧ Aside0 (Below w.heap.size w w'))
    case atStart => exact ⟨(0), (by first | rfl | (simp; done) | (simp [*]; done)), H', ⟨Nat.le_refl _⟩, ⟨by (with_reducible repeat (first | refine blk_drewN ?_ _ | refine blk_drew ?_ | refine blk_alloc ?_ _)); exact BK101.out⟩, ⟨by repeat (first | (with_reducible first | exact HB.out | apply below_alloc | apply pw_below_drewN | apply below_drew1 | refine below_set ?_ GE101.out))⟩⟩
    case round =>
     clear H'
     try clear c1
     try clear p2
     try clear c4
     try clear c4b0
     try clear c6
     try clear c6b0
     try clear c8
     try clear c8b0
     try clear c10
     try clear c10b0
     try clear c12
     try clear c12b0
     try clear c14
     try clear c14b0
     try clear c14b1
     try clear c17
     try clear hcz11_0
     try clear hcz11_1
     try clear hcz11_2
     try clear hcz11_3
     try clear hcz13_0
     try clear hcz13_1
     try clear hcz13_2
     try clear hcz13_3
     try clear hcz15_0
     try clear hcz15_1
     try clear hcz15_2
     try clear hcz15_3
     try clear hcz16_0
     try clear hcz16_1
     try clear hcz16_2
     try clear hcz16_3
     try clear hcz18_0
     try clear hcz18_1
     try clear hcz18_2
     try clear hcz18_3
     try clear hcz5_0
     try clear hcz5_1
     try clear hcz5_2
     try clear hcz5_3
     try clear hcz7_0
     try clear hcz7_1
     try clear hcz7_2
     try clear hcz7_3
     try clear hcz9_0
     try clear hcz9_1
     try clear hcz9_2
     try clear hcz9_3
     try clear hfz11_0
     try clear hfz11_1
     try clear hfz11_2
     try clear hfz11_3
     try clear hfz13_0
     try clear hfz13_1
     try clear hfz13_2
     try clear hfz13_3
     try clear hfz15_0
     try clear hfz15_1
     try clear hfz15_2
     try clear hfz15_3
     try clear hfz16_0
     try clear hfz16_1
     try clear hfz16_2
     try clear hfz16_3
     try clear hfz18_0
     try clear hfz18_1
     try clear hfz18_2
     try clear hfz18_3
     try clear hfz5_0
     try clear hfz5_1
     try clear hfz5_2
     try clear hfz5_3
     try clear hfz7_0
     try clear hfz7_1
     try clear hfz7_2
     try clear hfz7_3
     try clear hfz9_0
     try clear hfz9_1
     try clear hfz9_2
     try clear hfz9_3
     try clear p2
     obtain ⟨x45_2, rfl, HA, HK2, BK101, HB⟩ := hrel
     cases gk with
     | zero => exact absurd HA.out (by simp [txn_Right.l0])
     | succ k2 =>
      have H := HA.out
      clear HA
      simp only [txn_Right.l0] at H
      by_cases c19 : x45_2 < (l0_3.length : Int)
      ·rw [if_pos c19] at H
       have c19b0 : decide (x45_2 < (l0_3.length : Int)) = true := decide_eq_true c19
       clear c19
       by_cases c20 : 0 ≤ x45_2
       ·rw [if_pos c20] at H
        have c20b0 : decide (0 ≤ x45_2) = true := decide_eq_true c20
        clear c20
        by_cases c21 : x45_2 < (l0_3.length : Int)
        ·rw [if_pos c21] at H
         have c21b0 : decide (x45_2 < (l0_3.length : Int)) = true := decide_eq_true c21
         clear c21
         replace H := Option.bind_eq_some_iff.mp H
         obtain ⟨t104, A220, H⟩ := H
         replace H : (if t104 = true then (txn_Right.l0 k2 l0_3 (l0_3.length : Int) (wrap64 (x45_2 + 1))) else (some false)) = some r := H
         have A22 := Aside0.mk A220
         clear A220
         by_cases c23 : t104 = true
         ·subst c23
          have H1 : (txn_Right.l0 k2 l0_3 (l0_3.length : Int) (wrap64 (x45_2 + 1))) = some r := by rw [if_pos rfl] at H; exact H
          clear H
          have H := H1
          clear H1
          have H' := Aside0.mk H
          clear H
          have p102 : 0 ≤ (x45_2 : Int) := of_decide_eq_true (by assumption)
          have q102 : x45_2 < (l0_3.length : Int) := of_decide_eq_true (by assumption)
          obtain ⟨ad102, e102, hx102_0, hx102_1, hx102_2⟩ := at_T46 HR0_3.out x45_2 p102 q102
          cases e102
          replace hx102_0 := (HB.out.cell (World.block_lt_of_cell? w _ hx102_0)).trans hx102_0
          replace hx102_1 := (HB.out.cell (World.block_lt_of_cell? w _ hx102_1)).trans hx102_1
          replace hx102_2 := (HB.out.cell (World.block_lt_of_cell? w _ hx102_2)).trans hx102_2
          replace p102 := eq_true p102
          replace q102 := eq_true q102
          go_wp2_with (first | ((with_reducible refine gate_dst (N := 4) rfl ?_); (try (refine gate_guard (by rfl) ?_; dsimp only)); refine box_event ?hg (N := 4) ?hd (cs := #[.bool false, .int .i64 0, .int .i64 0]) (t := 46) ?hr ?_; (case hd => rfl); (case hg => rfl); (case hr => first | (go_simp; done) | (go_simp; rfl)); intro gb103 hg w24 hbox hb; have n0_ := Aside0.mk (blk_below (g := gb101) (o := .cells #[.int .i64 a0_0, .int .i64 a0_1, .int .i64 a0_2, .slice (some ad102) l0_3.length c0_3] 44 (0, 0)) (by (with_reducible repeat (first | refine blk_drewN ?_ _ | refine blk_drew ?_ | refine blk_alloc ?_ _)); exact BK101.out) hb); have n1_ := Aside0.mk (below_step (by repeat (first | (with_reducible first | exact HB.out | apply below_alloc | apply pw_below_drewN | apply below_drew1 | refine below_set ?_ GE101.out))) hb); have n2_ := Aside0.mk (hbox); have n3_ := Aside0.mk ((by rw [hg]; exact (below_size (by repeat (first | (with_reducible first | exact HB.out | apply below_alloc | apply pw_below_drewN | apply below_drew1 | refine below_set ?_ GE101.out)))) : w.heap.size ≤ gb103)); have n4_ := Aside0.mk ((by rw [hg]; exact (below_size (by repeat (first | (with_reducible first | exact HB.out | apply below_alloc | apply pw_below_drewN | apply below_drew1 | refine below_set ?_ GE101.out)))) : w.heap.size ≤ gb103)); have n5_ := Aside0.mk ((by rw [hg]; exact Nat.ne_of_lt (blk_lt (g := gb101) (o := .cells #[.int .i64 a0_0, .int .i64 a0_1, .int .i64 a0_2, .slice (some ad102) l0_3.length c0_3] 44 (0, 0)) (by (with_reducible repeat (first | refine blk_drewN ?_ _ | refine blk_drew ?_ | refine blk_alloc ?_ _)); exact BK101.out)) : gb101 ≠ gb103)); have n6_ := Aside0.mk ((by rw [hg]; exact Nat.ne_of_gt (blk_lt (g := gb101) (o := .cells #[.int .i64 a0_0, .int .i64 a0_1, .int .i64 a0_2, .slice (some ad102) l0_3.length c0_3] 44 (0, 0)) (by (with_reducible repeat (first | refine blk_drewN ?_ _ | refine blk_drew ?_ | refine blk_alloc ?_ _)); exact BK101.out)) : gb103 ≠ gb101)); clear BK101; clear HB; have BK101 := n0_; have HB := n1_; have BK103 := n2_; have GW103 := n3_; have GE103 := n4_; have NB101_103 := n5_; have NB103_101 := n6_; clear n0_ n1_ n2_ n3_ n4_ n5_ n6_; clear hb hbox hg; have hnb25 := NB103_101.out; have hnc25 := NB101_103.out; have hcz26_0 : w24.cell? ⟨gb103, 0, none⟩ = some (.bool false) := (blk_cell BK103.out 0).trans rfl; have hcz26_1 : w24.cell? ⟨gb103, 1, none⟩ = some (.int .i64 0) := (blk_cell BK103.out 1).trans rfl; have hcz26_2 : w24.cell? ⟨gb103, 2, none⟩ = some (.int .i64 0) := (blk_cell BK103.out 2).trans rfl; have hfz26_0 := blk_frozen BK103.out 0; have hfz26_1 := blk_frozen BK103.out 1; have hfz26_2 := blk_frozen BK103.out 2) | ((with_reducible refine gate_callee (f := 94) rfl ?_); refine goesL_ (some 50) rfl rfl Try.func94 (by kernel_rfl) rfl #[.agg #[.bool ((rd_T46 l0_3 x45_2).f0), .int .i64 ((rd_T46 l0_3 x45_2).f1), .int .i64 ((rd_T46 l0_3 x45_2).f2)]] rfl (by (try simp only [List.map_toArray, List.map_cons, List.map_nil]); first | done | rfl | (simp only [List.length_drop, List.length_take]; rfl)) ?_; (with_reducible refine (op_Right.calls ((rd_T46 l0_3 x45_2).f0) ((rd_T46 l0_3 x45_2).f1) ((rd_T46 l0_3 x45_2).f2) true _ A22.out).mono ?_); rintro e w27 ⟨rfl, hb⟩; refine ⟨_, rfl, ?_⟩; have n0_ := Aside0.mk (blk_below (g := gb101) (o := .cells #[.int .i64 a0_0, .int .i64 a0_1, .int .i64 a0_2, .slice (some ad102) l0_3.length c0_3] 44 (0, 0)) (by (with_reducible repeat (first | refine blk_drewN ?_ _ | refine blk_drew ?_ | refine blk_alloc ?_ _)); refine blk_far ?_ NB101_103.out _; (with_reducible repeat (first | refine blk_drewN ?_ _ | refine blk_drew ?_ | refine blk_alloc ?_ _)); refine blk_far ?_ NB101_103.out _; (with_reducible repeat (first | refine blk_drewN ?_ _ | refine blk_drew ?_ | refine blk_alloc ?_ _)); refine blk_far ?_ NB101_103.out _; (with_reducible repeat (first | refine blk_drewN ?_ _ | refine blk_drew ?_ | refine blk_alloc ?_ _)); exact BK101.out) hb); have n1_ := Aside0.mk (blk_below (g := gb103) (o := .cells #[.bool ((rd_T46 l0_3 x45_2).f0), .int .i64 ((rd_T46 l0_3 x45_2).f1), .int .i64 ((rd_T46 l0_3 x45_2).f2)] 46 (0, 0)) (by (with_reducible repeat (first | refine blk_drewN ?_ _ | refine blk_drew ?_ | refine blk_alloc ?_ _)); refine blk_put (cs := #[.bool ((rd_T46 l0_3 x45_2).f0), .int .i64 ((rd_T46 l0_3 x45_2).f1), .int .i64 0]) ?_ 2 _ rfl; (with_reducible repeat (first | refine blk_drewN ?_ _ | refine blk_drew ?_ | refine blk_alloc ?_ _)); refine blk_put (cs := #[.bool ((rd_T46 l0_3 x45_2).f0), .int .i64 0, .int .i64 0]) ?_ 1 _ rfl; (with_reducible repeat (first | refine blk_drewN ?_ _ | refine blk_drew ?_ | refine blk_alloc ?_ _)); refine blk_put (cs := #[.bool false, .int .i64 0, .int .i64 0]) ?_ 0 _ rfl; (with_reducible repeat (first | refine blk_drewN ?_ _ | refine blk_drew ?_ | refine blk_alloc ?_ _)); exact BK103.out) hb); have n2_ := Aside0.mk (below_step (by repeat (first | (with_reducible first | exact HB.out | apply below_alloc | apply pw_below_drewN | apply below_drew1 | refine below_set ?_ GE101.out | refine below_set ?_ GE103.out))) hb); clear BK101; clear BK103; clear HB; have BK101 := n0_; have BK103 := n1_; have HB := n2_; clear n0_ n1_ n2_; (try clear hb); (try clear hb2); (try clear hk); (try clear hi)))
          go_roundg k2
          case measure => have := HJ1.out; have := HK2.out; omega
          case rel => exact ⟨(wrap64 (x45_2 + 1)), (by first | rfl | (simp; done) | (simp [*]; done)), H', ⟨by have := HJ1.out; have := HK2.out; omega⟩, ⟨by (with_reducible repeat (first | refine blk_drewN ?_ _ | refine blk_drew ?_ | refine blk_alloc ?_ _)); exact BK101.out⟩, ⟨by repeat (first | (with_reducible first | exact HB.out | apply below_alloc | apply pw_below_drewN | apply below_drew1 | refine below_set ?_ GE101.out | refine below_set ?_ GE103.out))⟩⟩
         ·replace c23 := Bool.eq_false_iff.mpr c23
          subst c23
          have H1 : (some false) = some r := by rw [if_neg (show ¬ (false = true) by decide)] at H; exact H
          clear H
          have H := H1
          clear H1
          obtain rfl := Option.some.inj H
          have p102 : 0 ≤ (x45_2 : Int) := of_decide_eq_true (by assumption)
          have q102 : x45_2 < (l0_3.length : Int) := of_decide_eq_true (by assumption)
          obtain ⟨ad102, e102, hx102_0, hx102_1, hx102_2⟩ := at_T46 HR0_3.out x45_2 p102 q102
          cases e102
          replace hx102_0 := (HB.out.cell (World.block_lt_of_cell? w _ hx102_0)).trans hx102_0
          replace hx102_1 := (HB.out.cell (World.block_lt_of_cell? w _ hx102_1)).trans hx102_1
          replace hx102_2 := (HB.out.cell (World.block_lt_of_cell? w _ hx102_2)).trans hx102_2
          replace p102 := eq_true p102
          replace q102 := eq_true q102
          go_wp2_with (first | ((with_reducible refine gate_dst (N := 4) rfl ?_); (try (refine gate_guard (by rfl) ?_; dsimp only)); refine box_event ?hg (N := 4) ?hd (cs := #[.bool false, .int .i64 0, .int .i64 0]) (t := 46) ?hr ?_; (case hd => rfl); (case hg => rfl); (case hr => first | (go_simp; done) | (go_simp; rfl)); intro gb103 hg w28 hbox hb; have n0_ := Aside0.mk (blk_below (g := gb101) (o := .cells #[.int .i64 a0_0, .int .i64 a0_1, .int .i64 a0_2, .slice (some ad102) l0_3.length c0_3] 44 (0, 0)) (by (with_reducible repeat (first | refine blk_drewN ?_ _ | refine blk_drew ?_ | refine blk_alloc ?_ _)); exact BK101.out) hb); have n1_ := Aside0.mk (below_step (by repeat (first | (with_reducible first | exact HB.out | apply below_alloc | apply pw_below_drewN | apply below_drew1 | refine below_set ?_ GE101.out))) hb); have n2_ := Aside0.mk (hbox); have n3_ := Aside0.mk ((by rw [hg]; exact (below_size (by repeat (first | (with_reducible first | exact HB.out | apply below_alloc | apply pw_below_drewN | apply below_drew1 | refine below_set ?_ GE101.out)))) : w.heap.size ≤ gb103)); have n4_ := Aside0.mk ((by rw [hg]; exact (below_size (by repeat (first | (with_reducible first | exact HB.out | apply below_alloc | apply pw_below_drewN | apply below_drew1 | refine below_set ?_ GE101.out)))) : w.heap.size ≤ gb103)); have n5_ := Aside0.mk ((by rw [hg]; exact Nat.ne_of_lt (blk_lt (g := gb101) (o := .cells #[.int .i64 a0_0, .int .i64 a0_1, .int .i64 a0_2, .slice (some ad102) l0_3.length c0_3] 44 (0, 0)) (by (with_reducible repeat (first | refine blk_drewN ?_ _ | refine blk_drew ?_ | refine blk_alloc ?_ _)); exact BK101.out)) : gb101 ≠ gb103)); have n6_ := Aside0.mk ((by rw [hg]; exact Nat.ne_of_gt (blk_lt (g := gb101) (o := .cells #[.int .i64 a0_0, .int .i64 a0_1, .int .i64 a0_2, .slice (some ad102) l0_3.length c0_3] 44 (0, 0)) (by (with_reducible repeat (first | refine blk_drewN ?_ _ | refine blk_drew ?_ | refine blk_alloc ?_ _)); exact BK101.out)) : gb103 ≠ gb101)); clear BK101; clear HB; have BK101 := n0_; have HB := n1_; have BK103 := n2_; have GW103 := n3_; have GE103 := n4_; have NB101_103 := n5_; have NB103_101 := n6_; clear n0_ n1_ n2_ n3_ n4_ n5_ n6_; clear hb hbox hg; have hnb29 := NB103_101.out; have hnc29 := NB101_103.out; have hcz30_0 : w28.cell? ⟨gb103, 0, none⟩ = some (.bool false) := (blk_cell BK103.out 0).trans rfl; have hcz30_1 : w28.cell? ⟨gb103, 1, none⟩ = some (.int .i64 0) := (blk_cell BK103.out 1).trans rfl; have hcz30_2 : w28.cell? ⟨gb103, 2, none⟩ = some (.int .i64 0) := (blk_cell BK103.out 2).trans rfl; have hfz30_0 := blk_frozen BK103.out 0; have hfz30_1 := blk_frozen BK103.out 1; have hfz30_2 := blk_frozen BK103.out 2) | ((with_reducible refine gate_callee (f := 94) rfl ?_); refine goesL_ (some 50) rfl rfl Try.func94 (by kernel_rfl) rfl #[.agg #[.bool ((rd_T46 l0_3 x45_2).f0), .int .i64 ((rd_T46 l0_3 x45_2).f1), .int .i64 ((rd_T46 l0_3 x45_2).f2)]] rfl (by (try simp only [List.map_toArray, List.map_cons, List.map_nil]); first | done | rfl | (simp only [List.length_drop, List.length_take]; rfl)) ?_; (with_reducible refine (op_Right.calls ((rd_T46 l0_3 x45_2).f0) ((rd_T46 l0_3 x45_2).f1) ((rd_T46 l0_3 x45_2).f2) false _ A22.out).mono ?_); rintro e w31 ⟨rfl, hb⟩; refine ⟨_, rfl, ?_⟩; have n0_ := Aside0.mk (blk_below (g := gb101) (o := .cells #[.int .i64 a0_0, .int .i64 a0_1, .int .i64 a0_2, .slice (some ad102) l0_3.length c0_3] 44 (0, 0)) (by (with_reducible repeat (first | refine blk_drewN ?_ _ | refine blk_drew ?_ | refine blk_alloc ?_ _)); refine blk_far ?_ NB101_103.out _; (with_reducible repeat (first | refine blk_drewN ?_ _ | refine blk_drew ?_ | refine blk_alloc ?_ _)); refine blk_far ?_ NB101_103.out _; (with_reducible repeat (first | refine blk_drewN ?_ _ | refine blk_drew ?_ | refine blk_alloc ?_ _)); refine blk_far ?_ NB101_103.out _; (with_reducible repeat (first | refine blk_drewN ?_ _ | refine blk_drew ?_ | refine blk_alloc ?_ _)); exact BK101.out) hb); have n1_ := Aside0.mk (blk_below (g := gb103) (o := .cells #[.bool ((rd_T46 l0_3 x45_2).f0), .int .i64 ((rd_T46 l0_3 x45_2).f1), .int .i64 ((rd_T46 l0_3 x45_2).f2)] 46 (0, 0)) (by (with_reducible repeat (first | refine blk_drewN ?_ _ | refine blk_drew ?_ | refine blk_alloc ?_ _)); refine blk_put (cs := #[.bool ((rd_T46 l0_3 x45_2).f0), .int .i64 ((rd_T46 l0_3 x45_2).f1), .int .i64 0]) ?_ 2 _ rfl; (with_reducible repeat (first | refine blk_drewN ?_ _ | refine blk_drew ?_ | refine blk_alloc ?_ _)); refine blk_put (cs := #[.bool ((rd_T46 l0_3 x45_2).f0), .int .i64 0, .int .i64 0]) ?_ 1 _ rfl; (with_reducible repeat (first | refine blk_drewN ?_ _ | refine blk_drew ?_ | refine blk_alloc ?_ _)); refine blk_put (cs := #[.bool false, .int .i64 0, .int .i64 0]) ?_ 0 _ rfl; (with_reducible repeat (first | refine blk_drewN ?_ _ | refine blk_drew ?_ | refine blk_alloc ?_ _)); exact BK103.out) hb); have n2_ := Aside0.mk (below_step (by repeat (first | (with_reducible first | exact HB.out | apply below_alloc | apply pw_below_drewN | apply below_drew1 | refine below_set ?_ GE101.out | refine below_set ?_ GE103.out))) hb); clear BK101; clear BK103; clear HB; have BK101 := n0_; have BK103 := n1_; have HB := n2_; clear n0_ n1_ n2_; (try clear hb); (try clear hb2); (try clear hk); (try clear hi)))
          go_ret
          exact ⟨by first | rfl | (simp <;> rfl) | (simp [*] <;> rfl), by repeat (first | (with_reducible first | exact HB.out | apply below_alloc | apply pw_below_drewN | apply below_drew1 | refine below_set ?_ GE101.out | refine below_set ?_ GE103.out))⟩
        ·rw [if_neg c21] at H
         exact absurd H (by simp)
       ·rw [if_neg c20] at H
        exact absurd H (by simp)
      ·rw [if_neg c19] at H
       have c19b0 : decide (x45_2 < (l0_3.length : Int)) = false := decide_eq_false c19
       clear c19
       obtain rfl := Option.some.inj H
       go_wp2
       go_ret
       exact ⟨by first | rfl | (simp <;> rfl) | (simp [*] <;> rfl), by repeat (first | (with_reducible first | exact HB.out | apply below_alloc | apply pw_below_drewN | apply below_drew1 | refine below_set ?_ GE101.out))⟩
end Go.Proofs.Ytfocaefnmfkojaa.Q
namespace Go.Proofs.Ytfocaefnmfkojaa.Q
open Go.RowKit Go.Proofs.YtfocaefnmfkojaaW.PrintWords Go.Proofs.YtfocaefnmfkojaaW.PrintLast Go.Proofs.YtfocaefnmfkojaaW.PrintMore
attribute [local go_sem] max2_int min2_int max_two min_two max_three min_three max_four min_four   -- for this text's walks alone
set_option linter.unusedVariables false
set_option linter.unusedSimpArgs false
def txn_byKey.f (k : Nat) (l0 : List (S46)) : Option ((List (S46))) := (api_Op_107.f k l0 0).bind fun t101 => (some t101)
set_option maxHeartbeats 8000000 in
set_option maxRecDepth 100000 in
theorem txn_byKey.calls (k : Nat) (P0_ : Nat → Prop) (u9000_ : Value) (l0 : List (S46)) (r : List (S46)) (w0 w : World) (hB : Below w0.heap.size w0 w) (ho0 : Kd.R k46 46 w w0.heap.size P0_ u9000_ l0) (h : txn_byKey.f k l0 = some r) :
  Calls Try.prog 95 #[u9000_] w fun e w' => ∃ v0_ : Value, e = .returned (v0_) ∧ Kd.R k46 46 w' w0.heap.size (fun k_ => (P0_ k_ ∨ w.heap.size ≤ k_)) v0_ r ∧ Below w0.heap.size w0 w' ∧ Kept w w' (fun k_ => P0_ k_) := by
 have HO0 := Aside0.mk (show Kd.R k46 46 w w0.heap.size (fun k_ => (P0_ k_ ∨ w.heap.size ≤ k_)) u9000_ l0 from Kd.R_mono ho0 (fun k_ hk => (.inl hk)))
 have HK := Aside0.mk (Kept.refl w (fun k_ => P0_ k_))
 have HW0 := Aside0.mk hB.size
 have HB := Aside0.mk hB
 clear hB
 have H : ((api_Op_107.f k l0 0).bind fun t101 => (some t101)) = some r := h
 clear h
 replace H := Option.bind_eq_some_iff.mp H
 obtain ⟨t101, A20, H⟩ := H
 replace H : (some t101) = some r := H
 have A2 := Aside0.mk A20
 clear A20
 obtain rfl := Option.some.inj H
 obtain ⟨Ao3, co3, eo3⟩ := Kd.R_slice HO0.out
 subst eo3
 go_enter Try.func95, Try.ntmps95
 go_wp2_with (first | ((with_reducible refine gate_callee (f := 107) rfl ?_); refine goesL_ (some 4) rfl rfl Try.func107 (by kernel_rfl) rfl #[.slice Ao3 l0.length co3, .func (.func 108) #[] #[]] rfl (by (try simp only [List.map_toArray, List.map_cons, List.map_nil]); first | done | rfl | (simp only [List.length_drop, List.length_take]; rfl)) ?_; (with_reducible refine (api_Op_107.calls k (fun k_ => some k_ = (.slice Ao3 l0.length co3 : Value).ownBlock) (.slice Ao3 l0.length co3) l0 0 t101 w0 _ ?side1 ?side2 A2.out).mono ?_); (case side1 => repeat (first | (with_reducible first | exact HB.out | apply below_alloc | apply pw_below_drewN | apply below_drew1))); (case side2 => exact Kd.R_tight rfl HO0.out); rintro e w4 ⟨rfl, hy0, hb, hkp⟩; refine ⟨_, rfl, ?_⟩; have n0_ := Aside0.mk (Kd.R_reok rfl hy0 (fun k_ e_ => HO0.out.1 k_ e_)); have n1_ := Aside0.mk (Kept.then_ (S := (fun k_ => P0_ k_)) (by repeat (first | (with_reducible first | exact HK.out | apply Kept.alloc | apply Kept.drewN | apply Kept.drew) | exact HK.out)) hkp (fun k_ hs_ => (fun e_ => (HO0.out.1 k_ e_.symm)) hs_)); have n2_ := Aside0.mk (hb); clear HO0; clear HK; clear HB; have HO0 := n0_; have HK := n1_; have HB := n2_; clear n0_ n1_ n2_; (try clear hb); (try clear hkp); (try clear hy0)))
 go_ret
 exact ⟨_, by first | rfl | (simp <;> rfl) | (simp [*] <;> rfl), by (with_reducible repeat (first | apply Kd.R_alloc | apply Kd.R_drewN | apply Kd.R_drew)); exact HO0.out, by repeat (first | (with_reducible first | exact HB.out | apply below_alloc | apply pw_below_drewN | apply below_drew1)), by repeat (first | (with_reducible first | exact HK.out | apply Kept.alloc | apply Kept.drewN | apply Kept.drew) | exact HK.out)⟩
end Go.Proofs.Ytfocaefnmfkojaa.Q
namespace Go.Proofs.Ytfocaefnmfkojaa.R
open Go.RowKit Go.Proofs.Ytfocaefnmfkojaa.Q Go.Proofs.YtfocaefnmfkojaaW.PrintWords Go.Proofs.YtfocaefnmfkojaaW.PrintLast
set_option linter.unusedVariables false
set_option linter.unusedSimpArgs false
abbrev Op := S46
abbrev Txn := S44
abbrev Pair := S154
abbrev Op.w (o : Op) : Bool := o.f0
abbrev Op.key (o : Op) : Int := o.f1
abbrev Op.val (o : Op) : Int := o.f2
abbrev Txn.ops (t : Txn) : List Op := t.f3
theorem wrapN (n : Nat) (h : n < 4611686018427387904) : wrap64 ((n : Int) + 1) = ((n + 1 : Nat) : Int) := by
  unfold wrap64
  omega
theorem wrapI (x : Int) (h0 : -4611686018427387904 ≤ x) (h1 : x ≤ 4611686018427387904) : wrap64 x = x := by
  unfold wrap64
  omega
theorem rdOp (xs : List Op) (i : Nat) (h : i < xs.length) : rd_T46 xs (i : Int) = xs[i] := by
  simp [rd_T46, List.getD_eq_getElem?_getD, List.getElem?_eq_getElem h]
theorem rdTxn (xs : List Txn) (i : Nat) (h : i < xs.length) : rd_T44 xs (i : Int) = xs[i] := by
  simp [rd_T44, List.getD_eq_getElem?_getD, List.getElem?_eq_getElem h]
theorem drop_at {α : Type} (l : List α) (i : Nat) (h : i < l.length) : l.drop i = l[i] :: l.drop (i + 1) := List.drop_eq_getElem_cons h
theorem drop_end {α : Type} (l : List α) (i : Nat) (h : l.length ≤ i) : l.drop i = [] := List.drop_eq_nil_of_le h
abbrev Few {α : Type} (l : List α) : Prop := l.length ≤ 1000000000000
theorem Ev.ofEq {α : Type} {g : Nat → Option α} {r r' : α} (h : Ev g r) (e : r = r') : Ev g r' := e ▸ h
def has (l : List Pair) (a b : Int) : Bool := l.any fun p => p.f0 == a && p.f1 == b
def put (l : List Pair) (a b : Int) : List Pair := if has l a b then l else l ++ [(⟨a, b⟩ : Pair)]
end Go.Proofs.Ytfocaefnmfkojaa.R
namespace Go.Proofs.Ytfocaefnmfkojaa.R
open Go.RowKit Go.Proofs.Ytfocaefnmfkojaa.Q Go.Proofs.YtfocaefnmfkojaaW.PrintWords Go.Proofs.YtfocaefnmfkojaaW.PrintLast
set_option linter.unusedVariables false
set_option linter.unusedSimpArgs false
def prev (l : List Op) (i : Nat) (key : Int) : Option Op := (l.take i).reverse.find? fun o => o.f1 == key
def enc (o : Option Op) : Bool × Int × Int × Bool := match o with
  | none => (false, 0, 0, false)
  | some o => (o.f0, o.f1, o.f2, true)
theorem prev_succ (l : List Op) (i : Nat) (key : Int) (h : i < l.length) : prev l (i + 1) key = if (l[i]).f1 = key then some l[i] else prev l i key := by
  unfold prev
  rw [List.take_succ_eq_append_getElem h, List.reverse_append, List.reverse_singleton, List.singleton_append, List.find?_cons]
  by_cases h1 : (l[i]).f1 = key
  · simp [h1]
  · rw [if_neg h1, show ((l[i]).f1 == key) = false by simpa using h1]
def steadyAt (l : List Op) (i : Nat) : Bool := match l[i]? with
  | none => true
  | some o => match prev l i o.f1 with
    | none => true
    | some p => o.f0 || p.f2 == o.f2
def steady (l : List Op) : Bool := (List.range l.length).all (steadyAt l)
theorem range_drop (n i : Nat) (h : i < n) : (List.range n).drop i = i :: (List.range n).drop (i + 1) := by
  rw [drop_at (List.range n) i (by simpa using h)]
  simp
theorem range_end (n i : Nat) (h : n ≤ i) : (List.range n).drop i = [] := drop_end _ _ (by simpa using h)
def firstAt (l : List Op) (key : Int) (i : Nat) : Option Op := match l[i]? with
  | none => none
  | some o => if o.f1 = key ∧ o.f0 = false ∧ prev l i key = none then some o else none
def readsKey (l : List Op) (key : Int) : List Op := (List.range l.length).filterMap (firstAt l key)
def keys64 : List Nat := List.range 64
def reads (l : List Op) : List Op := keys64.flatMap fun key : Nat => readsKey l (key : Int)
def lastW (l : List Op) (key : Int) : Option Op := l.reverse.find? fun o => o.f0 && o.f1 == key
def writes (l : List Op) : List Op := keys64.flatMap fun key : Nat => (lastW l (key : Int)).toList
def lastI (l : List Op) (key : Int) : Nat → Int
  | 0 => -1
  | i + 1 => match l[i]? with
    | none => lastI l key i
    | some o => if o.f1 = key ∧ o.f0 = true then (i : Int) else lastI l key i
theorem lastI_range (l : List Op) (key : Int) : ∀ i, i ≤ l.length → -1 ≤ lastI l key i ∧ lastI l key i < i := by
  intro i
  induction i with
  | zero => intro _; simp [lastI]
  | succ i ih =>
    intro h
    have := ih (by omega)
    unfold lastI
    rw [List.getElem?_eq_getElem (show i < l.length by omega)]
    simp only
    split <;> omega
theorem lastI_find (l : List Op) (key : Int) : ∀ i, i ≤ l.length → (l.take i).reverse.find? (fun o => o.f0 && o.f1 == key) = if lastI l key i ≥ 0 then l[(lastI l key i).toNat]? else none := by
  intro i
  induction i with
  | zero => intro _; simp [lastI]
  | succ i ih =>
    intro h
    have hlt : i < l.length := by omega
    rw [List.take_succ_eq_append_getElem hlt, List.reverse_append, List.reverse_singleton, List.singleton_append, List.find?_cons]
    unfold lastI
    rw [List.getElem?_eq_getElem hlt]
    simp only
    by_cases h1 : (l[i]).f1 = key ∧ (l[i]).f0 = true
    · rw [if_pos h1, show ((l[i]).f0 && (l[i]).f1 == key) = true by simp [h1.1, h1.2]]
      simp [List.getElem?_eq_getElem hlt]
    · rw [if_neg h1, show ((l[i]).f0 && (l[i]).f1 == key) = false by
        cases hw : (l[i]).f0 with
        | false => rfl
        | true =>
          have h2 : ¬ (l[i]).f1 = key := fun h2 => h1 ⟨h2, hw⟩
          simpa using h2]
      exact ih (by omega)
theorem writes_inner (l : List Op) (key : Nat) (acc : List Op) (r : List Op) (hl : Few l) (ha : acc.length ≤ 64)
    (h : Ev (fun k => ref05_Writes.l0 k l (acc ++ (lastW l (key : Int)).toList) (wrap64 ((key : Int) + 1))) r) :
    ∀ d (i : Nat), i + d = l.length → Ev (fun k => ref05_Writes.l1 k l acc (key : Int) (lastI l (key : Int) i) (i : Int)) r := by
  intro d
  induction d with
  | zero =>
    intro i hi
    obtain rfl : i = l.length := by omega
    refine Ev.step (fun k => by rw [ref05_Writes.l1]) ?_
    simp only [if_neg (show ¬ (l.length : Int) < (l.length : Int) by omega)]
    have hf := lastI_find l (key : Int) l.length (Nat.le_refl _)
    rw [List.take_length] at hf
    have hr := lastI_range l (key : Int) l.length (Nat.le_refl _)
    by_cases h0 : lastI l (key : Int) l.length ≥ 0
    · have hlt : (lastI l (key : Int) l.length).toNat < l.length := by omega
      have e : lastI l (key : Int) l.length = (((lastI l (key : Int) l.length).toNat : Nat) : Int) := by omega
      have hrd := rdOp l (lastI l (key : Int) l.length).toNat hlt
      rw [← e] at hrd
      simp only [if_pos h0, if_pos (show 0 ≤ lastI l (key : Int) l.length from h0), if_pos (show lastI l (key : Int) l.length < (l.length : Int) by omega), if_pos (show acc.length < 5864062014805 by omega), hrd]
      have : lastW l (key : Int) = some l[(lastI l (key : Int) l.length).toNat] := by
        unfold lastW
        rw [hf, if_pos h0, List.getElem?_eq_getElem hlt]
      rw [this] at h
      exact h
    · simp only [if_neg h0]
      have : lastW l (key : Int) = none := by
        unfold lastW
        rw [hf, if_neg h0]
      rw [this, Option.toList_none, List.append_nil] at h
      exact h
  | succ d ih =>
    intro i hi
    have hlt : i < l.length := by omega
    have hn := ih (i + 1) (by omega)
    refine Ev.step (fun k => by rw [ref05_Writes.l1]) ?_
    simp only [if_pos (show (i : Int) < (l.length : Int) by omega), if_pos (show 0 ≤ (i : Int) by omega), rdOp l i hlt, wrapN i (by unfold Few at hl; omega)]
    have hs : lastI l (key : Int) (i + 1) = if (l[i]).f1 = (key : Int) ∧ (l[i]).f0 = true then (i : Int) else lastI l (key : Int) i := by
      rw [lastI, List.getElem?_eq_getElem hlt]
    rw [hs] at hn
    by_cases h1 : (l[i]).f1 = (key : Int)
    · cases hw : (l[i]).f0 with
      | true =>
        rw [if_pos ⟨h1, hw⟩] at hn
        simp only [if_pos h1, if_true]
        exact hn
      | false =>
        rw [if_neg (by rw [hw]; simp)] at hn
        simp only [if_pos h1, Bool.false_eq_true, if_false]
        exact hn
    · rw [if_neg (fun h2 => h1 h2.1)] at hn
      simp only [if_neg h1]
      exact hn
theorem writes_outer (l : List Op) (hl : Few l) : ∀ d (key : Nat) (acc : List Op), key + d = 64 → acc.length ≤ key →
    Ev (fun k => ref05_Writes.l0 k l acc (key : Int)) (acc ++ (keys64.drop key).flatMap fun key : Nat => (lastW l (key : Int)).toList) := by
  intro d
  induction d with
  | zero =>
    intro key acc hk _
    obtain rfl : key = 64 := by omega
    rw [keys64, range_end 64 64 (by omega), List.flatMap_nil, List.append_nil]
    refine Ev.step (fun k => by rw [ref05_Writes.l0]) ?_
    simp only [if_neg (show ¬ ((64 : Nat) : Int) < 64 by omega)]
    exact Ev.now _
  | succ d ih =>
    intro key acc hk ha
    rw [keys64, range_drop 64 key (by omega), List.flatMap_cons]
    refine Ev.step (fun k => by rw [ref05_Writes.l0]) ?_
    simp only [if_pos (show (key : Int) < 64 by omega)]
    refine writes_inner l key acc _ hl (by omega) ?_ l.length 0 (by omega)
    rw [wrapN key (by omega), ← List.append_assoc]
    refine ih (key + 1) _ (by omega) ?_
    have : (lastW l (key : Int)).toList.length ≤ 1 := by cases lastW l (key : Int) <;> simp
    rw [List.length_append]
    omega
theorem writes_ev (l : List Op) (hl : Few l) : Ev (fun k => ref05_Writes.f k l) (writes l) := writes_outer l hl 64 0 [] (by omega) (by simp)
theorem writes_len (l : List Op) : (writes l).length ≤ 64 := by
  have : ∀ ks : List Nat, (ks.flatMap fun key : Nat => (lastW l (key : Int)).toList).length ≤ ks.length := by
    intro ks
    induction ks with
    | nil => simp
    | cons a ks ih =>
      rw [List.flatMap_cons, List.length_append, List.length_cons]
      have : (lastW l (a : Int)).toList.length ≤ 1 := by cases lastW l (a : Int) <;> simp
      omega
  have h := this keys64
  rw [show keys64.length = 64 from List.length_range] at h
  exact h
def value (l : List Op) (key : Int) : Int := match (writes l).find? fun o => o.f1 == key with
  | none => 0
  | some o => o.f2
theorem value_loop (ws : List Op) (key : Int) (hl : Few ws) : ∀ d i : Nat, i + d = ws.length → Ev (fun k => ref05_Value.l0 k key ws (i : Int)) (match (ws.drop i).find? fun o => o.f1 == key with
  | none => 0
  | some o => o.f2) := by
  intro d
  induction d with
  | zero =>
    intro i hi
    rw [drop_end ws i (by omega)]
    refine Ev.step (fun k => by rw [ref05_Value.l0]) ?_
    simp only [if_neg (show ¬ (i : Int) < (ws.length : Int) by omega), List.find?_nil]
    exact Ev.now _
  | succ d ih =>
    intro i hi
    have hlt : i < ws.length := by omega
    have h := ih (i + 1) (by omega)
    rw [drop_at ws i hlt, List.find?_cons]
    refine Ev.step (fun k => by rw [ref05_Value.l0]) ?_
    simp only [if_pos (show (i : Int) < (ws.length : Int) by omega), if_pos (show 0 ≤ (i : Int) by omega), rdOp ws i hlt, wrapN i (by unfold Few at hl; omega)]
    by_cases h1 : (ws[i]).f1 = key
    · simp only [if_pos h1, show ((ws[i]).f1 == key) = true by simpa using h1]
      exact Ev.now _
    · simp only [if_neg h1, show ((ws[i]).f1 == key) = false by simpa using h1]
      exact h
theorem value_ev (l : List Op) (key : Int) (hl : Few l) : Ev (fun k => ref05_Value.f k l key) (value l key) := by
  unfold ref05_Value.f
  refine Ev.bind (writes_ev l hl) ?_
  exact value_loop (writes l) key (by have := writes_len l; unfold Few; omega) (writes l).length 0 (by omega)
theorem last_ev (t : Txn) (key v : Int) (hl : Few t.f3) : Ev (fun k => ref06_Last.f k t.f0 t.f1 t.f2 t.f3 key v) (value t.f3 key == v) := by
  unfold ref06_Last.f
  refine Ev.bind (value_ev t.f3 key hl) ?_
  exact Ev.now _
theorem lastW_key (l : List Op) (key : Int) (o : Op) (h : lastW l key = some o) : o.f0 = true ∧ o.f1 = key ∧ o ∈ l := by
  unfold lastW at h
  have h1 := List.find?_some h
  have h2 := List.mem_of_find?_eq_some h
  simp at h1
  exact ⟨h1.1, h1.2, by simpa using h2⟩
theorem value_eq (l : List Op) (key : Int) (h0 : 0 ≤ key) (h1 : key < 64) : value l key = match lastW l key with
  | none => 0
  | some o => o.f2 := by
  have gen : ∀ ks : List Nat, ((ks.flatMap fun key : Nat => (lastW l (key : Int)).toList).find? fun o => o.f1 == key) = if key.toNat ∈ ks then lastW l key else none := by
    intro ks
    induction ks with
    | nil => simp
    | cons a ks ih =>
      rw [List.flatMap_cons, List.find?_append, ih]
      by_cases ha : (a : Int) = key
      · have ha' : key.toNat = a := by omega
        cases hw : lastW l (a : Int) with
        | none =>
          rw [ha] at hw
          simp [hw, ha']
        | some o =>
          have hk := lastW_key l _ o hw
          rw [ha] at hw hk
          simp [hk.2.1, ha', hw]
      · have ha' : key.toNat ≠ a := by omega
        cases hw : lastW l (a : Int) with
        | none => simp [ha']
        | some o =>
          have hk := lastW_key l _ o hw
          have : (o.f1 == key) = false := by rw [hk.2.1]; simpa using ha
          simp [List.find?_cons, this, ha']
  unfold value writes
  rw [gen, if_pos (by simp [keys64]; omega)]
end Go.Proofs.Ytfocaefnmfkojaa.R
namespace Go.Proofs.Ytfocaefnmfkojaa.R
open Go.RowKit Go.Proofs.Ytfocaefnmfkojaa.Q Go.Proofs.YtfocaefnmfkojaaW.PrintWords Go.Proofs.YtfocaefnmfkojaaW.PrintLast
set_option linter.unusedVariables false
set_option linter.unusedSimpArgs false
namespace Srt
abbrev O := S46
theorem wrapI (x : Int) (h0 : -4611686018427387904 ≤ x) (h1 : x ≤ 4611686018427387904) : wrap64 x = x := by
  unfold wrap64
  omega
theorem rd_at {L : List O} {P Q : List O} {x : O} {i : Int} (h : L = P ++ x :: Q) (hi : i = (P.length : Int)) : rd_T46 L i = x := by
  subst h hi
  simp [rd_T46, List.getD_eq_getElem?_getD]
theorem set_at {L : List O} {P Q : List O} {x : O} {i : Nat} (y : O) (h : L = P ++ x :: Q) (hi : i = P.length) : L.set i y = P ++ y :: Q := by
  subst h hi
  simp
theorem len_at {L : List O} {P Q : List O} {x : O} {i : Int} (h : L = P ++ x :: Q) (hi : i = (P.length : Int)) : 0 ≤ i ∧ i < (L.length : Int) := by
  subst h hi
  simp
  omega
theorem evEq {α : Type} {g : Nat → Option α} {r r' : α} (h : Ev g r) (e : r = r') : Ev g r' := e ▸ h
theorem eta (x : O) : (⟨x.f0, x.f1, x.f2⟩ : O) = x := rfl
abbrev Few (l : List O) : Prop := l.length ≤ 1000000000000
theorem swap_loop : ∀ (X Y P M Q : List O) (a b n i : Int), X.length = Y.length → a + i = P.length → b + i = P.length + X.length + M.length → n - i = X.length → 0 ≤ i → 0 ≤ a → 0 ≤ b → Few (P ++ X ++ M ++ Y ++ Q) →
    Ev (fun k => api_Op_122.l0 k (P ++ X ++ M ++ Y ++ Q) a b n i) (P ++ Y ++ M ++ X ++ Q) := by
  intro X
  induction X with
  | nil =>
    intro Y P M Q a b n i hl ha hb hn h0 h1 h2 hf
    obtain rfl : Y = [] := List.length_eq_zero_iff.mp hl.symm
    refine Ev.step (fun k => by rw [api_Op_122.l0]) ?_
    simp only [List.length_nil] at hn
    simp only [if_neg (show ¬ i < n by omega)]
    exact Ev.now _
  | cons x X ih =>
    intro Y P M Q a b n i hl ha hb hn h0 h1 h2 hf
    obtain ⟨y, Y, rfl⟩ : ∃ y Y', Y = y :: Y' := by
      cases Y with
      | nil => simp at hl
      | cons y Y => exact ⟨y, Y, rfl⟩
    simp only [List.length_cons] at hl hn hb
    have hf' := hf
    unfold Few at hf'
    simp only [List.length_append, List.length_cons] at hf'
    have e1 : P ++ x :: X ++ M ++ y :: Y ++ Q = P ++ x :: (X ++ M ++ y :: Y ++ Q) := by simp
    have e2 : P ++ x :: X ++ M ++ y :: Y ++ Q = (P ++ x :: X ++ M) ++ y :: (Y ++ Q) := by simp
    have hb' : b + i = ((P ++ x :: X ++ M).length : Int) := by simp; omega
    have wa : wrap64 (a + i) = a + i := wrapI _ (by omega) (by omega)
    have wb : wrap64 (b + i) = b + i := wrapI _ (by omega) (by omega)
    have wi : wrap64 (i + 1) = i + 1 := wrapI _ (by omega) (by omega)
    obtain ⟨p1, p2⟩ := len_at e1 ha
    obtain ⟨q1, q2⟩ := len_at e2 hb'
    refine Ev.step (fun k => by rw [api_Op_122.l0]) ?_
    simp only [if_pos (show i < n by omega), wa, wb, wi, if_pos p1, if_pos p2, if_pos q1, if_pos q2, rd_at e1 ha, rd_at e2 hb', eta]
    rw [set_at y e1 (by omega), set_at (L := P ++ y :: (X ++ M ++ y :: Y ++ Q)) (P := P ++ y :: X ++ M) (x := y) (Q := Y ++ Q) x (by simp) (by simp at hb' ⊢; omega)]
    have h := ih Y (P ++ [y]) (M ++ [x]) Q a b n (i + 1) (by omega) (by simp; omega) (by simp; omega) (by omega) (by omega) h1 h2 (by unfold Few; simp; omega)
    simp only [List.append_assoc, List.cons_append, List.nil_append, List.singleton_append] at h ⊢
    exact h
theorem swap_ev (X Y P M Q : List O) (a b n c : Int) (hl : X.length = Y.length) (ha : a = P.length) (hb : b = P.length + X.length + M.length) (hn : n = X.length) (hf : Few (P ++ X ++ M ++ Y ++ Q)) :
    Ev (fun k => api_Op_122.f k (P ++ X ++ M ++ Y ++ Q) a b n c) (P ++ Y ++ M ++ X ++ Q) := by
  unfold api_Op_122.f
  exact swap_loop X Y P M Q a b n 0 hl (by omega) (by omega) (by omega) (by omega) (by omega) (by omega) hf
theorem rot_loop : ∀ (N : Nat) (X Y P Q : List O) (m c i j : Int), X.length + Y.length ≤ N → 0 < X.length → 0 < Y.length → m = P.length + X.length → i = X.length → j = Y.length → Few (P ++ X ++ Y ++ Q) →
    Ev (fun k => api_Op_121.l0 k (P ++ X ++ Y ++ Q) m c i j) (P ++ Y ++ X ++ Q) := by
  intro N
  induction N with
  | zero => intro X Y P Q m c i j h1 h2; omega
  | succ N ih =>
    intro X Y P Q m c i j hN hX hY hm hi hj hf
    have hf' := hf
    unfold Few at hf'
    simp only [List.length_append] at hf'
    have w1 : wrap64 (m - i) = m - i := wrapI _ (by omega) (by omega)
    have w2 : wrap64 (i - j) = i - j := wrapI _ (by omega) (by omega)
    have w3 : wrap64 (j - i) = j - i := wrapI _ (by omega) (by omega)
    have w4 : wrap64 (m + j) = m + j := wrapI _ (by omega) (by omega)
    have w5 : wrap64 (m + j - i) = m + j - i := wrapI _ (by omega) (by omega)
    refine Ev.step (fun k => by rw [api_Op_121.l0]) ?_
    simp only [w1, w2, w3, w4, w5]
    by_cases c1 : i = j
    · simp only [if_pos c1]
      have h := swap_ev X Y P [] Q (m - i) m i c (by omega) (by omega) (by simp; omega) (by omega) (by simpa using hf)
      simp only [List.append_nil] at h
      exact Ev.bind h (Ev.now _)
    · by_cases c2 : i > j
      · simp only [if_neg c1, if_pos c2]
        have hs : (X.take Y.length).length = Y.length := by rw [List.length_take]; omega
        have h := swap_ev (X.take Y.length) Y P (X.drop Y.length) Q (m - i) m j c hs (by omega) (by simp; omega) (by simp; omega) (by simpa using hf)
        have e : P ++ X.take Y.length ++ X.drop Y.length ++ Y ++ Q = P ++ X ++ Y ++ Q := by
          rw [List.append_assoc P, List.take_append_drop]
        rw [e] at h
        refine Ev.bind h ?_
        have h2 := ih (X.drop Y.length) (X.take Y.length) (P ++ Y) Q m c (i - j) j (by simp; omega) (by simp; omega) (by omega) (by simp; omega) (by simp; omega) (by omega) (by unfold Few; simp; omega)
        refine evEq h2 ?_
        rw [List.append_assoc (P ++ Y), List.take_append_drop]
      · simp only [if_neg c1, if_neg c2]
        obtain ⟨d, hd⟩ : ∃ d, d = Y.length - X.length := ⟨_, rfl⟩
        have hs : X.length = (Y.drop d).length := by rw [List.length_drop]; omega
        have h := swap_ev X (Y.drop d) P (Y.take d) Q (m - i) (m + j - i) i c hs (by omega) (by simp; omega) (by omega) (by unfold Few; simp; omega)
        have e : P ++ X ++ Y.take d ++ Y.drop d ++ Q = P ++ X ++ Y ++ Q := by
          rw [List.append_assoc (P ++ X), List.take_append_drop]
        rw [e] at h
        refine Ev.bind h ?_
        have h2 := ih (Y.drop d) (Y.take d) P (X ++ Q) m c i (j - i) (by simp; omega) (by omega) (by simp; omega) (by omega) (by omega) (by simp; omega) (by unfold Few; simp; omega)
        have e2 : P ++ Y.drop d ++ Y.take d ++ (X ++ Q) = P ++ Y.drop d ++ Y.take d ++ X ++ Q := by simp
        rw [e2] at h2
        refine evEq h2 ?_
        rw [List.append_assoc P, List.take_append_drop]
        simp
theorem rot_ev (X Y P Q : List O) (a m b c : Int) (hX : 0 < X.length) (hY : 0 < Y.length) (ha : a = P.length) (hm : m = P.length + X.length) (hb : b = P.length + X.length + Y.length) (hf : Few (P ++ X ++ Y ++ Q)) :
    Ev (fun k => api_Op_121.f k (P ++ X ++ Y ++ Q) a m b c) (P ++ Y ++ X ++ Q) := by
  unfold api_Op_121.f
  have hf' := hf
  unfold Few at hf'
  simp only [List.length_append] at hf'
  rw [wrapI (m - a) (by omega) (by omega), wrapI (b - m) (by omega) (by omega)]
  exact rot_loop _ X Y P Q m c (m - a) (b - m) (Nat.le_refl _) hX hY hm (by omega) (by omega) hf
end Srt
end Go.Proofs.Ytfocaefnmfkojaa.R
namespace Go.Proofs.Ytfocaefnmfkojaa.R
open Go.RowKit Go.Proofs.Ytfocaefnmfkojaa.Q Go.Proofs.YtfocaefnmfkojaaW.PrintWords Go.Proofs.YtfocaefnmfkojaaW.PrintLast
set_option linter.unusedVariables false
set_option linter.unusedSimpArgs false
namespace Srt
def cmp (x y : O) : Int := if x.f1 < y.f1 then -1 else if x.f1 > y.f1 then 1 else 0
theorem cmp_lt (x y : O) : (cmp x y < 0) = (x.f1 < y.f1) := by
  unfold cmp
  split
  · simp [*]
  · split <;> simp [*]
theorem cmpE (x y : O) : txn_byKey_1.f x.f0 x.f1 x.f2 y.f0 y.f1 y.f2 = some (cmp x y) := by
  unfold txn_byKey_1.f cmp_Compare_int.f cmp_isNaN_int.f cmp
  by_cases h1 : x.f1 < y.f1
  · simp [h1]
  · by_cases h2 : y.f1 < x.f1 <;> simp [h1, h2]
def Up (l : List O) : Prop := l.Pairwise fun x y => x.f1 ≤ y.f1
theorem Up.nil : Up [] := List.Pairwise.nil
theorem Up.one (x : O) : Up [x] := by simp [Up]
theorem Up.append {a b : List O} : Up (a ++ b) ↔ Up a ∧ Up b ∧ ∀ x ∈ a, ∀ y ∈ b, x.f1 ≤ y.f1 := List.pairwise_append
theorem Up.cons {x : O} {l : List O} : Up (x :: l) ↔ (∀ y ∈ l, x.f1 ≤ y.f1) ∧ Up l := List.pairwise_cons
theorem ins_inner (P Q : List O) (x : O) (a b i : Int) (ha : a = P.length) : ∀ (n : Nat) (S1 S2 : List O) (j : Int), S1.length = n → j = P.length + S1.length → Few (P ++ S1 ++ x :: S2 ++ Q) → Up (S1 ++ S2) → (∀ y ∈ S2, x.f1 ≤ y.f1) →
    ∃ S, S.Perm (S1 ++ x :: S2) ∧ Up S ∧ ∀ r, Ev (fun k => api_Op_119.l0 k (P ++ S ++ Q) a b (wrap64 (i + 1))) r → Ev (fun k => api_Op_119.l1 k (P ++ S1 ++ x :: S2 ++ Q) a b i j) r := by
  intro n
  induction n with
  | zero =>
    intro S1 S2 j hn hj hf hu hx
    obtain rfl : S1 = [] := List.length_eq_zero_iff.mp hn
    refine ⟨x :: S2, by simp, Up.cons.mpr ⟨hx, by simpa using hu⟩, fun r hr => ?_⟩
    refine Ev.step (fun k => by rw [api_Op_119.l1]) ?_
    simp only [List.length_nil] at hj
    simp only [if_neg (show ¬ j > a by omega), List.append_nil]
    exact hr
  | succ n ih =>
    intro S1 S2 j hn hj hf hu hx
    obtain ⟨S, y, rfl⟩ : ∃ S y, S1 = S ++ [y] := ⟨S1.dropLast, S1.getLast (by intro h; simp [h] at hn), (List.dropLast_concat_getLast _).symm⟩
    simp only [List.length_append, List.length_singleton] at hn hj
    have hf' := hf
    unfold Few at hf'
    simp only [List.length_append, List.length_cons, List.length_nil] at hf'
    have wj : wrap64 (j - 1) = j - 1 := wrapI _ (by omega) (by omega)
    have e1 : P ++ (S ++ [y]) ++ x :: S2 ++ Q = (P ++ S ++ [y]) ++ x :: (S2 ++ Q) := by simp
    have e2 : P ++ (S ++ [y]) ++ x :: S2 ++ Q = (P ++ S) ++ y :: (x :: S2 ++ Q) := by simp
    have j1 : j = ((P ++ S ++ [y]).length : Int) := by simp; omega
    have j2 : j - 1 = ((P ++ S).length : Int) := by simp; omega
    obtain ⟨p1, p2⟩ := len_at e1 j1
    obtain ⟨q1, q2⟩ := len_at e2 j2
    by_cases c : x.f1 < y.f1
    · have hu' : Up (S ++ y :: S2) := by simpa using hu
      have hy : ∀ z ∈ y :: S2, x.f1 ≤ z.f1 := by
        intro z hz
        rcases List.mem_cons.mp hz with rfl | hz
        · omega
        · exact hx z hz
      obtain ⟨S', hp, hS, hk⟩ := ih S (y :: S2) (j - 1) (by omega) (by omega) (by unfold Few; simp; omega) hu' hy
      refine ⟨S', hp.trans (by simpa using List.Perm.append_left S (List.Perm.swap y x S2)), hS, fun r hr => ?_⟩
      refine Ev.step (fun k => by rw [api_Op_119.l1]) ?_
      simp only [wj, if_pos (show j > a by omega), if_pos p1, if_pos p2, if_pos q1, if_pos q2, rd_at e1 j1, rd_at e2 j2, cmpE, Option.bind_some, cmp_lt, if_pos c, eta]
      rw [set_at y e1 (by omega), set_at (L := P ++ S ++ [y] ++ y :: (S2 ++ Q)) (P := P ++ S) (x := y) (Q := y :: (S2 ++ Q)) x (by simp) (by simp; omega)]
      have h := hk r hr
      rw [show P ++ S ++ x :: (y :: S2) ++ Q = P ++ S ++ x :: y :: (S2 ++ Q) by simp] at h
      exact h
    · have hS : Up (S ++ [y] ++ x :: S2) := by
        rw [Up.append] at hu ⊢
        refine ⟨hu.1, Up.cons.mpr ⟨hx, hu.2.1⟩, fun z hz u hu' => ?_⟩
        rcases List.mem_cons.mp hu' with rfl | hu'
        · rcases List.mem_append.mp hz with hz | hz
          · have := (Up.append.mp hu.1).2.2 z hz y (by simp)
            omega
          · simp at hz
            subst hz
            omega
        · exact hu.2.2 z hz u hu'
      refine ⟨S ++ [y] ++ x :: S2, List.Perm.refl _, hS, fun r hr => ?_⟩
      refine Ev.step (fun k => by rw [api_Op_119.l1]) ?_
      simp only [wj, if_pos (show j > a by omega), if_pos p1, if_pos p2, if_pos q1, if_pos q2, rd_at e1 j1, rd_at e2 j2, cmpE, Option.bind_some, cmp_lt, if_neg c]
      have e3 : P ++ (S ++ [y]) ++ x :: S2 ++ Q = P ++ (S ++ [y] ++ x :: S2) ++ Q := by simp
      rw [e3]
      exact hr
theorem ins_outer (P Q : List O) (a b : Int) (ha : a = P.length) : ∀ (T S : List O) (i : Int), 0 < S.length → i = P.length + S.length → b = P.length + S.length + T.length → Few (P ++ S ++ T ++ Q) → Up S →
    ∃ S', S'.Perm (S ++ T) ∧ Up S' ∧ Ev (fun k => api_Op_119.l0 k (P ++ S ++ T ++ Q) a b i) (P ++ S' ++ Q) := by
  intro T
  induction T with
  | nil =>
    intro S i h0 hi hb hf hu
    refine ⟨S, by simp, hu, ?_⟩
    refine Ev.step (fun k => by rw [api_Op_119.l0]) ?_
    simp only [List.length_nil] at hb
    simp only [if_neg (show ¬ i < b by omega), List.append_nil]
    exact Ev.now _
  | cons x T ih =>
    intro S i h0 hi hb hf hu
    have hf' := hf
    unfold Few at hf'
    simp only [List.length_append, List.length_cons] at hf' hb
    obtain ⟨S1, hp, hS, hk⟩ := ins_inner P (T ++ Q) x a b i ha S.length S [] i rfl hi (by unfold Few; simp; omega) (by simpa using hu) (by simp)
    have hl : S1.length = S.length + 1 := by rw [hp.length_eq]; simp
    obtain ⟨S', hp', hS', hr⟩ := ih S1 (i + 1) (by omega) (by omega) (by omega) (by unfold Few; simp; omega) hS
    refine ⟨S', hp'.trans ((hp.append_right T).trans (by simp)), hS', ?_⟩
    refine Ev.step (fun k => by rw [api_Op_119.l0]) ?_
    simp only [if_pos (show i < b by omega)]
    have h := hk (P ++ S' ++ Q) (by
      rw [wrapI (i + 1) (by omega) (by omega)]
      rw [show P ++ S1 ++ (T ++ Q) = P ++ S1 ++ T ++ Q by simp]
      exact hr)
    rw [show P ++ S ++ [x] ++ (T ++ Q) = P ++ S ++ x :: T ++ Q by simp] at h
    exact h
theorem ins_ev (P S Q : List O) (a b c : Int) (ha : a = P.length) (hb : b = P.length + S.length) (hf : Few (P ++ S ++ Q)) :
    ∃ S', S'.Perm S ∧ Up S' ∧ Ev (fun k => api_Op_119.f k (P ++ S ++ Q) a b c) (P ++ S' ++ Q) := by
  have hf' := hf
  unfold Few at hf'
  simp only [List.length_append] at hf'
  unfold api_Op_119.f
  rw [wrapI (a + 1) (by omega) (by omega)]
  cases S with
  | nil =>
    refine ⟨[], List.Perm.refl _, Up.nil, ?_⟩
    refine Ev.step (fun k => by rw [api_Op_119.l0]) ?_
    simp only [List.length_nil] at hb
    simp only [if_neg (show ¬ a + 1 < b by omega)]
    exact Ev.now _
  | cons x S =>
    simp only [List.length_cons] at hb hf'
    obtain ⟨S', hp, hS, hr⟩ := ins_outer P Q a b ha S [x] (a + 1) (by simp) (by simp; omega) (by simp; omega) (by unfold Few; simp; omega) (Up.one x)
    refine ⟨S', by simpa using hp, hS, ?_⟩
    rw [show P ++ [x] ++ S ++ Q = P ++ x :: S ++ Q by simp] at hr
    exact hr
end Srt
end Go.Proofs.Ytfocaefnmfkojaa.R
