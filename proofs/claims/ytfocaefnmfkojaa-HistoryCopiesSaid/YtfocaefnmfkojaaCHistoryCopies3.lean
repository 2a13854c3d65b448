/- A part of the proof of historyCopies_holds: words and contracts that its last text uses. -/
import Derived.Test.YtfocaefnmfkojaaCHistoryCopies2
import Derived.Deep.MidRow
import Derived.Maps.OwnSet
namespace Go.Proofs.Ytfocaefnmfkojaa.Q
open Go.RowKit Go.Proofs.YtfocaefnmfkojaaW.PrintWords Go.Proofs.YtfocaefnmfkojaaW.PrintLast Go.Proofs.YtfocaefnmfkojaaW.PrintMore
attribute [local go_sem] max2_int min2_int max_two min_two max_three min_three max_four min_four   -- for this text's walks alone
set_option linter.unusedVariables false
set_option linter.unusedSimpArgs false
attribute [local go_sem high] eqA46
mutual
def history_Same.l0 : Nat → List (S44) → List (S44) → Int → Int → Option (Bool)
 | 0, _, _, _, _ => none
 | k + 1, x1, x15, x16, x17 => if x17 < x16 then (if 0 ≤ x17 then (if x17 < (x15.length : Int) then (if x17 < (x1.length : Int) then (if ((rd_T44 x15 x17).f0) = ((rd_T44 x1 x17).f0) then (if ((rd_T44 x15 x17).f1) = ((rd_T44 x1 x17).f1) then (if ((rd_T44 x15 x17).f2) = ((rd_T44 x1 x17).f2) then (history_Same.j1 k x1 x15 x16 x17 ((((rd_T44 x15 x17).f3).length : Int) != (((rd_T44 x1 x17).f3).length : Int)) ((rd_T44 x15 x17).f0) ((rd_T44 x15 x17).f1) ((rd_T44 x15 x17).f2) ((rd_T44 x15 x17).f3) ((rd_T44 x1 x17).f0) ((rd_T44 x1 x17).f1) ((rd_T44 x1 x17).f2) ((rd_T44 x1 x17).f3)) else (history_Same.j1 k x1 x15 x16 x17 true ((rd_T44 x15 x17).f0) ((rd_T44 x15 x17).f1) ((rd_T44 x15 x17).f2) ((rd_T44 x15 x17).f3) ((rd_T44 x1 x17).f0) ((rd_T44 x1 x17).f1) ((rd_T44 x1 x17).f2) ((rd_T44 x1 x17).f3))) else (history_Same.j1 k x1 x15 x16 x17 true ((rd_T44 x15 x17).f0) ((rd_T44 x15 x17).f1) ((rd_T44 x15 x17).f2) ((rd_T44 x15 x17).f3) ((rd_T44 x1 x17).f0) ((rd_T44 x1 x17).f1) ((rd_T44 x1 x17).f2) ((rd_T44 x1 x17).f3))) else (history_Same.j1 k x1 x15 x16 x17 true ((rd_T44 x15 x17).f0) ((rd_T44 x15 x17).f1) ((rd_T44 x15 x17).f2) ((rd_T44 x15 x17).f3) ((rd_T44 x1 x17).f0) ((rd_T44 x1 x17).f1) ((rd_T44 x1 x17).f2) ((rd_T44 x1 x17).f3))) else (none)) else (none)) else (none)) else (some true)
def history_Same.j1 : Nat → List (S44) → List (S44) → Int → Int → Bool → Int → Int → Int → List (S46) → Int → Int → Int → List (S46) → Option (Bool)
 | 0, _, _, _, _, _, _, _, _, _, _, _, _, _ => none
 | k + 1, x1, x15, x16, x17, x53, x103000, x103001, x103002, x103003, x105000, x105001, x105002, x105003 => if x53 = true then (some false) else (history_Same.l1 k x1 x15 x16 x17 x103003 (x103003.length : Int) 0 x105000 x105001 x105002 x105003)
def history_Same.l1 : Nat → List (S44) → List (S44) → Int → Int → List (S46) → Int → Int → Int → Int → Int → List (S46) → Option (Bool)
 | 0, _, _, _, _, _, _, _, _, _, _, _ => none
 | k + 1, x1, x15, x16, x17, x55, x56, x57, x105000, x105001, x105002, x105003 => if x57 < x56 then (if 0 ≤ x57 then (if x57 < (x55.length : Int) then (if x57 < (x105003.length : Int) then (if (!(((rd_T46 x105003 x57).f0) == ((rd_T46 x55 x57).f0)) || (!(((rd_T46 x105003 x57).f1) == ((rd_T46 x55 x57).f1)) || (!(((rd_T46 x105003 x57).f2) == ((rd_T46 x55 x57).f2))))) = true then (some false) else (history_Same.l1 k x1 x15 x16 x17 x55 x56 (wrap64 (x57 + 1)) x105000 x105001 x105002 x105003)) else (none)) else (none)) else (none)) else (history_Same.l0 k x1 x15 x16 (wrap64 (x17 + 1)))
end
def history_Same.f (k : Nat) (l0 : List (S44)) (l1 : List (S44)) : Option (Bool) := if (l0.length : Int) = (l1.length : Int) then (history_Same.l0 k l1 l0 (l0.length : Int) 0) else (some false)
set_option maxHeartbeats 8000000 in
set_option maxRecDepth 100000 in
theorem history_Same.calls (k : Nat) (A0 : Option Addr) (c0 : Nat) (l0 : List (S44)) (A1 : Option Addr) (c1 : Nat) (l1 : List (S44)) (r : Bool) (w : World) (hr0 : Kd.C k44 w A0 l0.length l0) (hc0 : l0.length ≤ c0) (hr1 : Kd.C k44 w A1 l1.length l1) (hc1 : l1.length ≤ c1) (h : history_Same.f k l0 l1 = some r) :
  Calls Try.prog 32 #[.slice A0 l0.length c0, .slice A1 l1.length c1] w fun e w' => e = .returned (.bool r) ∧ Below w.heap.size w w' := by
 have hu44 := Try.underlying44
 have hu46 := Try.underlying46
 have HR0 := Aside0.mk hr0
 have HC0 := Aside0.mk hc0
 clear hr0 hc0
 have HR1 := Aside0.mk hr1
 have HC1 := Aside0.mk hc1
 clear hr1 hc1
 have HB := Aside0.mk (Below.refl w.heap.size w)
 have H : (if (l0.length : Int) = (l1.length : Int) then (history_Same.l0 k l1 l0 (l0.length : Int) 0) else (some false)) = some r := h
 clear h
 by_cases c3 : (l0.length : Int) = (l1.length : Int)
 ·rw [if_pos c3] at H
  have c3b0 : ((l0.length : Int) == (l1.length : Int)) = true := beq_iff_eq.mpr c3
  have c3b1 : ((l0.length : Int) != (l1.length : Int)) = false := bne_eq_false_iff_eq.mpr c3
  have c3b2 : (l0.length == l1.length) = true := by first | simpa using c3 | (simp at c3 ⊢; omega)
  clear c3
  have H' := Aside0.mk H
  clear H
  go_enter Try.func32, Try.ntmps32
  go_wp2
  repeat (go_quiet (fail); try go_wp2)
  go_loopg [17] k (fun kq v17 w' => ∃ (x17_1 : Int), v17 = .int .i64 x17_1 ∧ Aside0 (history_Same.l0 kq l1 l0 (l0.length : Int) x17_1 = some r) ∧ Aside0 (kq ≤ k) ∧ Aside0 (Below w.heap.size w w'))
  case atStart => exact ⟨(0), (by first | rfl | (simp; done) | (simp [*]; done)), H', ⟨Nat.le_refl _⟩, ⟨by repeat (first | (with_reducible first | exact HB.out | apply below_alloc | apply pw_below_drewN | apply below_drew1))⟩⟩
  case round =>
   clear H'
   try clear c1
   try clear p2
   try clear c3
   try clear c3b0
   try clear c3b1
   try clear c3b2
   obtain ⟨x17_1, rfl, HA, HK1, HB⟩ := hrel
   cases gk with
   | zero => exact absurd HA.out (by simp [history_Same.l0])
   | succ k1 =>
    have H := HA.out
    clear HA
    simp only [history_Same.l0] at H
    by_cases c4 : x17_1 < (l0.length : Int)
    ·rw [if_pos c4] at H
     have c4b0 : decide (x17_1 < (l0.length : Int)) = true := decide_eq_true c4
     clear c4
     by_cases c5 : 0 ≤ x17_1
     ·rw [if_pos c5] at H
      have c5b0 : decide (0 ≤ x17_1) = true := decide_eq_true c5
      clear c5
      by_cases c6 : x17_1 < (l0.length : Int)
      ·rw [if_pos c6] at H
       have c6b0 : decide (x17_1 < (l0.length : Int)) = true := decide_eq_true c6
       clear c6
       by_cases c7 : x17_1 < (l1.length : Int)
       ·rw [if_pos c7] at H
        have c7b0 : decide (x17_1 < (l1.length : Int)) = true := decide_eq_true c7
        clear c7
        have HC8 := Aside0.mk H
        clear H
        have p101 : 0 ≤ (x17_1 : Int) := of_decide_eq_true (by assumption)
        have q101 : x17_1 < (l0.length : Int) := of_decide_eq_true (by assumption)
        obtain ⟨ad101, A101_3, c101_3, e101, hx101_0, hx101_1, hx101_2, hx101_3, hl101_3, hi101_3⟩ := at_T44 HR0.out x17_1 p101 q101
        cases e101
        replace hx101_0 := (HB.out.cell (World.block_lt_of_cell? w _ hx101_0)).trans hx101_0
        replace hx101_1 := (HB.out.cell (World.block_lt_of_cell? w _ hx101_1)).trans hx101_1
        replace hx101_2 := (HB.out.cell (World.block_lt_of_cell? w _ hx101_2)).trans hx101_2
        replace hx101_3 := (HB.out.cell (World.block_lt_of_cell? w _ hx101_3)).trans hx101_3
        have HR101_3 := Aside0.mk hi101_3
        have HC101_3 := Aside0.mk hl101_3
        clear hi101_3 hl101_3
        replace p101 := eq_true p101
        replace q101 := eq_true q101
        go_upto_region 7 with (first | ((with_reducible refine gate_dst (N := 6) rfl ?_); (try (refine gate_guard (by rfl) ?_; dsimp only)); refine box_event ?hg (N := 6) ?hd (cs := #[.int .i64 0, .int .i64 0, .int .i64 0, .slice none 0 0]) (t := 44) ?hr ?_; (case hd => rfl); (case hg => rfl); (case hr => first | (go_simp; done) | (go_simp; rfl)); intro gb102 hg w9 hbox hb; have n0_ := Aside0.mk (below_step (by repeat (first | (with_reducible first | exact HB.out | apply below_alloc | apply pw_below_drewN | apply below_drew1))) hb); have n1_ := Aside0.mk (hbox); have n2_ := Aside0.mk ((by rw [hg]; exact (below_size (by repeat (first | (with_reducible first | exact HB.out | apply below_alloc | apply pw_below_drewN | apply below_drew1)))) : w.heap.size ≤ gb102)); have n3_ := Aside0.mk ((by rw [hg]; exact (below_size (by repeat (first | (with_reducible first | exact HB.out | apply below_alloc | apply pw_below_drewN | apply below_drew1)))) : w.heap.size ≤ gb102)); clear HB; have HB := n0_; have BK102 := n1_; have GW102 := n2_; have GE102 := n3_; clear n0_ n1_ n2_ n3_; clear hb hbox hg; have hcz10_0 : w9.cell? ⟨gb102, 0, none⟩ = some (.int .i64 0) := (blk_cell BK102.out 0).trans rfl; have hcz10_1 : w9.cell? ⟨gb102, 1, none⟩ = some (.int .i64 0) := (blk_cell BK102.out 1).trans rfl; have hcz10_2 : w9.cell? ⟨gb102, 2, none⟩ = some (.int .i64 0) := (blk_cell BK102.out 2).trans rfl; have hcz10_3 : w9.cell? ⟨gb102, 3, none⟩ = some (.slice none 0 0) := (blk_cell BK102.out 3).trans rfl; have hfz10_0 := blk_frozen BK102.out 0; have hfz10_1 := blk_frozen BK102.out 1; have hfz10_2 := blk_frozen BK102.out 2; have hfz10_3 := blk_frozen BK102.out 3; have p103 : 0 ≤ (x17_1 : Int) := of_decide_eq_true (by assumption); have q103 : x17_1 < (l1.length : Int) := of_decide_eq_true (by assumption); obtain ⟨ad103, A103_3, c103_3, e103, hx103_0, hx103_1, hx103_2, hx103_3, hl103_3, hi103_3⟩ := at_T44 HR1.out x17_1 p103 q103; cases e103; have hn103_0 : ad103.block ≠ gb102 := Nat.ne_of_lt (Nat.lt_of_lt_of_le (by have := World.block_lt_of_cell? _ _ hx103_0; first | rwa [add_block] at this | exact this) GW102.out); have hn103_1 : ad103.block ≠ gb102 := Nat.ne_of_lt (Nat.lt_of_lt_of_le (by have := World.block_lt_of_cell? _ _ hx103_0; first | rwa [add_block] at this | exact this) GW102.out); have hn103_2 : ad103.block ≠ gb102 := Nat.ne_of_lt (Nat.lt_of_lt_of_le (by have := World.block_lt_of_cell? _ _ hx103_0; first | rwa [add_block] at this | exact this) GW102.out); have hn103_3 : ad103.block ≠ gb102 := Nat.ne_of_lt (Nat.lt_of_lt_of_le (by have := World.block_lt_of_cell? _ _ hx103_0; first | rwa [add_block] at this | exact this) GW102.out); replace hx103_0 := (HB.out.cell (World.block_lt_of_cell? w _ hx103_0)).trans hx103_0; replace hx103_1 := (HB.out.cell (World.block_lt_of_cell? w _ hx103_1)).trans hx103_1; replace hx103_2 := (HB.out.cell (World.block_lt_of_cell? w _ hx103_2)).trans hx103_2; replace hx103_3 := (HB.out.cell (World.block_lt_of_cell? w _ hx103_3)).trans hx103_3; have HR103_3 := Aside0.mk hi103_3; have HC103_3 := Aside0.mk hl103_3; clear hi103_3 hl103_3; replace hx103_0 := (cell_far (p := ⟨gb102, 0, none⟩) (by first | (rw [add_block]; exact hn103_0) | (show (Addr.add _ _).block ≠ _; rw [add_block]; exact hn103_0) | exact hn103_0) (.int .i64 ((rd_T44 l0 x17_1).f0))).trans hx103_0; replace hx103_1 := (cell_far (p := ⟨gb102, 0, none⟩) (by first | (rw [add_block]; exact hn103_0) | (show (Addr.add _ _).block ≠ _; rw [add_block]; exact hn103_0) | exact hn103_0) (.int .i64 ((rd_T44 l0 x17_1).f0))).trans hx103_1; replace hx103_2 := (cell_far (p := ⟨gb102, 0, none⟩) (by first | (rw [add_block]; exact hn103_0) | (show (Addr.add _ _).block ≠ _; rw [add_block]; exact hn103_0) | exact hn103_0) (.int .i64 ((rd_T44 l0 x17_1).f0))).trans hx103_2; replace hx103_3 := (cell_far (p := ⟨gb102, 0, none⟩) (by first | (rw [add_block]; exact hn103_0) | (show (Addr.add _ _).block ≠ _; rw [add_block]; exact hn103_0) | exact hn103_0) (.int .i64 ((rd_T44 l0 x17_1).f0))).trans hx103_3; replace hx103_0 := (cell_far (p := ⟨gb102, 1, none⟩) (by first | (rw [add_block]; exact hn103_1) | (show (Addr.add _ _).block ≠ _; rw [add_block]; exact hn103_1) | exact hn103_1) (.int .i64 ((rd_T44 l0 x17_1).f1))).trans hx103_0; replace hx103_1 := (cell_far (p := ⟨gb102, 1, none⟩) (by first | (rw [add_block]; exact hn103_1) | (show (Addr.add _ _).block ≠ _; rw [add_block]; exact hn103_1) | exact hn103_1) (.int .i64 ((rd_T44 l0 x17_1).f1))).trans hx103_1; replace hx103_2 := (cell_far (p := ⟨gb102, 1, none⟩) (by first | (rw [add_block]; exact hn103_1) | (show (Addr.add _ _).block ≠ _; rw [add_block]; exact hn103_1) | exact hn103_1) (.int .i64 ((rd_T44 l0 x17_1).f1))).trans hx103_2; replace hx103_3 := (cell_far (p := ⟨gb102, 1, none⟩) (by first | (rw [add_block]; exact hn103_1) | (show (Addr.add _ _).block ≠ _; rw [add_block]; exact hn103_1) | exact hn103_1) (.int .i64 ((rd_T44 l0 x17_1).f1))).trans hx103_3; replace hx103_0 := (cell_far (p := ⟨gb102, 2, none⟩) (by first | (rw [add_block]; exact hn103_2) | (show (Addr.add _ _).block ≠ _; rw [add_block]; exact hn103_2) | exact hn103_2) (.int .i64 ((rd_T44 l0 x17_1).f2))).trans hx103_0; replace hx103_1 := (cell_far (p := ⟨gb102, 2, none⟩) (by first | (rw [add_block]; exact hn103_2) | (show (Addr.add _ _).block ≠ _; rw [add_block]; exact hn103_2) | exact hn103_2) (.int .i64 ((rd_T44 l0 x17_1).f2))).trans hx103_1; replace hx103_2 := (cell_far (p := ⟨gb102, 2, none⟩) (by first | (rw [add_block]; exact hn103_2) | (show (Addr.add _ _).block ≠ _; rw [add_block]; exact hn103_2) | exact hn103_2) (.int .i64 ((rd_T44 l0 x17_1).f2))).trans hx103_2; replace hx103_3 := (cell_far (p := ⟨gb102, 2, none⟩) (by first | (rw [add_block]; exact hn103_2) | (show (Addr.add _ _).block ≠ _; rw [add_block]; exact hn103_2) | exact hn103_2) (.int .i64 ((rd_T44 l0 x17_1).f2))).trans hx103_3; replace hx103_0 := (cell_far (p := ⟨gb102, 3, none⟩) (by first | (rw [add_block]; exact hn103_3) | (show (Addr.add _ _).block ≠ _; rw [add_block]; exact hn103_3) | exact hn103_3) (.slice A101_3 ((rd_T44 l0 x17_1).f3).length c101_3)).trans hx103_0; replace hx103_1 := (cell_far (p := ⟨gb102, 3, none⟩) (by first | (rw [add_block]; exact hn103_3) | (show (Addr.add _ _).block ≠ _; rw [add_block]; exact hn103_3) | exact hn103_3) (.slice A101_3 ((rd_T44 l0 x17_1).f3).length c101_3)).trans hx103_1; replace hx103_2 := (cell_far (p := ⟨gb102, 3, none⟩) (by first | (rw [add_block]; exact hn103_3) | (show (Addr.add _ _).block ≠ _; rw [add_block]; exact hn103_3) | exact hn103_3) (.slice A101_3 ((rd_T44 l0 x17_1).f3).length c101_3)).trans hx103_2; replace hx103_3 := (cell_far (p := ⟨gb102, 3, none⟩) (by first | (rw [add_block]; exact hn103_3) | (show (Addr.add _ _).block ≠ _; rw [add_block]; exact hn103_3) | exact hn103_3) (.slice A101_3 ((rd_T44 l0 x17_1).f3).length c101_3)).trans hx103_3; (try have hy103_0 := fun (n_ : Nat) => (show ((((((w9.drewN n_).setCell ⟨gb102, 0, none⟩ (.int .i64 ((rd_T44 l0 x17_1).f0))).setCell ⟨gb102, 1, none⟩ (.int .i64 ((rd_T44 l0 x17_1).f1))).setCell ⟨gb102, 2, none⟩ (.int .i64 ((rd_T44 l0 x17_1).f2))).setCell ⟨gb102, 3, none⟩ (.slice A101_3 ((rd_T44 l0 x17_1).f3).length c101_3))).cell? _ = some _ from hx103_0)); (try have hy103_1 := fun (n_ : Nat) => (show ((((((w9.drewN n_).setCell ⟨gb102, 0, none⟩ (.int .i64 ((rd_T44 l0 x17_1).f0))).setCell ⟨gb102, 1, none⟩ (.int .i64 ((rd_T44 l0 x17_1).f1))).setCell ⟨gb102, 2, none⟩ (.int .i64 ((rd_T44 l0 x17_1).f2))).setCell ⟨gb102, 3, none⟩ (.slice A101_3 ((rd_T44 l0 x17_1).f3).length c101_3))).cell? _ = some _ from hx103_1)); (try have hy103_2 := fun (n_ : Nat) => (show ((((((w9.drewN n_).setCell ⟨gb102, 0, none⟩ (.int .i64 ((rd_T44 l0 x17_1).f0))).setCell ⟨gb102, 1, none⟩ (.int .i64 ((rd_T44 l0 x17_1).f1))).setCell ⟨gb102, 2, none⟩ (.int .i64 ((rd_T44 l0 x17_1).f2))).setCell ⟨gb102, 3, none⟩ (.slice A101_3 ((rd_T44 l0 x17_1).f3).length c101_3))).cell? _ = some _ from hx103_2)); (try have hy103_3 := fun (n_ : Nat) => (show ((((((w9.drewN n_).setCell ⟨gb102, 0, none⟩ (.int .i64 ((rd_T44 l0 x17_1).f0))).setCell ⟨gb102, 1, none⟩ (.int .i64 ((rd_T44 l0 x17_1).f1))).setCell ⟨gb102, 2, none⟩ (.int .i64 ((rd_T44 l0 x17_1).f2))).setCell ⟨gb102, 3, none⟩ (.slice A101_3 ((rd_T44 l0 x17_1).f3).length c101_3))).cell? _ = some _ from hx103_3)); clear hn103_0; clear hn103_1; clear hn103_2; clear hn103_3; replace p103 := eq_true p103; replace q103 := eq_true q103) | ((with_reducible refine gate_dst (N := 7) rfl ?_); (try (refine gate_guard (by rfl) ?_; dsimp only)); refine box_event ?hg (N := 7) ?hd (cs := #[.int .i64 0, .int .i64 0, .int .i64 0, .slice none 0 0]) (t := 44) ?hr ?_; (case hd => rfl); (case hg => rfl); (case hr => first | (go_simp; done) | (go_simp; rfl)); intro gb104 hg w11 hbox hb; have n0_ := Aside0.mk (blk_below (g := gb102) (o := .cells #[.int .i64 ((rd_T44 l0 x17_1).f0), .int .i64 ((rd_T44 l0 x17_1).f1), .int .i64 ((rd_T44 l0 x17_1).f2), .slice A101_3 ((rd_T44 l0 x17_1).f3).length c101_3] 44 (0, 0)) (by (with_reducible repeat (first | refine blk_drewN ?_ _ | refine blk_drew ?_ | refine blk_alloc ?_ _)); refine blk_put (cs := #[.int .i64 ((rd_T44 l0 x17_1).f0), .int .i64 ((rd_T44 l0 x17_1).f1), .int .i64 ((rd_T44 l0 x17_1).f2), .slice none 0 0]) ?_ 3 _ rfl; (with_reducible repeat (first | refine blk_drewN ?_ _ | refine blk_drew ?_ | refine blk_alloc ?_ _)); refine blk_put (cs := #[.int .i64 ((rd_T44 l0 x17_1).f0), .int .i64 ((rd_T44 l0 x17_1).f1), .int .i64 0, .slice none 0 0]) ?_ 2 _ rfl; (with_reducible repeat (first | refine blk_drewN ?_ _ | refine blk_drew ?_ | refine blk_alloc ?_ _)); refine blk_put (cs := #[.int .i64 ((rd_T44 l0 x17_1).f0), .int .i64 0, .int .i64 0, .slice none 0 0]) ?_ 1 _ rfl; (with_reducible repeat (first | refine blk_drewN ?_ _ | refine blk_drew ?_ | refine blk_alloc ?_ _)); refine blk_put (cs := #[.int .i64 0, .int .i64 0, .int .i64 0, .slice none 0 0]) ?_ 0 _ rfl; (with_reducible repeat (first | refine blk_drewN ?_ _ | refine blk_drew ?_ | refine blk_alloc ?_ _)); exact BK102.out) hb); have n1_ := Aside0.mk (below_step (by repeat (first | (with_reducible first | exact HB.out | apply below_alloc | apply pw_below_drewN | apply below_drew1 | refine below_set ?_ GE102.out))) hb); have n2_ := Aside0.mk (hbox); have n3_ := Aside0.mk ((by rw [hg]; exact (below_size (by repeat (first | (with_reducible first | exact HB.out | apply below_alloc | apply pw_below_drewN | apply below_drew1 | refine below_set ?_ GE102.out)))) : w.heap.size ≤ gb104)); have n4_ := Aside0.mk ((by rw [hg]; exact (below_size (by repeat (first | (with_reducible first | exact HB.out | apply below_alloc | apply pw_below_drewN | apply below_drew1 | refine below_set ?_ GE102.out)))) : w.heap.size ≤ gb104)); have n5_ := Aside0.mk ((by rw [hg]; exact Nat.ne_of_lt (blk_lt (g := gb102) (o := .cells #[.int .i64 ((rd_T44 l0 x17_1).f0), .int .i64 ((rd_T44 l0 x17_1).f1), .int .i64 ((rd_T44 l0 x17_1).f2), .slice A101_3 ((rd_T44 l0 x17_1).f3).length c101_3] 44 (0, 0)) (by (with_reducible repeat (first | refine blk_drewN ?_ _ | refine blk_drew ?_ | refine blk_alloc ?_ _)); refine blk_put (cs := #[.int .i64 ((rd_T44 l0 x17_1).f0), .int .i64 ((rd_T44 l0 x17_1).f1), .int .i64 ((rd_T44 l0 x17_1).f2), .slice none 0 0]) ?_ 3 _ rfl; (with_reducible repeat (first | refine blk_drewN ?_ _ | refine blk_drew ?_ | refine blk_alloc ?_ _)); refine blk_put (cs := #[.int .i64 ((rd_T44 l0 x17_1).f0), .int .i64 ((rd_T44 l0 x17_1).f1), .int .i64 0, .slice none 0 0]) ?_ 2 _ rfl; (with_reducible repeat (first | refine blk_drewN ?_ _ | refine blk_drew ?_ | refine blk_alloc ?_ _)); refine blk_put (cs := #[.int .i64 ((rd_T44 l0 x17_1).f0), .int .i64 0, .int .i64 0, .slice none 0 0]) ?_ 1 _ rfl; (with_reducible repeat (first | refine blk_drewN ?_ _ | refine blk_drew ?_ | refine blk_alloc ?_ _)); refine blk_put (cs := #[.int .i64 0, .int .i64 0, .int .i64 0, .slice none 0 0]) ?_ 0 _ rfl; (with_reducible repeat (first | refine blk_drewN ?_ _ | refine blk_drew ?_ | refine blk_alloc ?_ _)); exact BK102.out)) : gb102 ≠ gb104)); have n6_ := Aside0.mk ((by rw [hg]; exact Nat.ne_of_gt (blk_lt (g := gb102) (o := .cells #[.int .i64 ((rd_T44 l0 x17_1).f0), .int .i64 ((rd_T44 l0 x17_1).f1), .int .i64 ((rd_T44 l0 x17_1).f2), .slice A101_3 ((rd_T44 l0 x17_1).f3).length c101_3] 44 (0, 0)) (by (with_reducible repeat (first | refine blk_drewN ?_ _ | refine blk_drew ?_ | refine blk_alloc ?_ _)); refine blk_put (cs := #[.int .i64 ((rd_T44 l0 x17_1).f0), .int .i64 ((rd_T44 l0 x17_1).f1), .int .i64 ((rd_T44 l0 x17_1).f2), .slice none 0 0]) ?_ 3 _ rfl; (with_reducible repeat (first | refine blk_drewN ?_ _ | refine blk_drew ?_ | refine blk_alloc ?_ _)); refine blk_put (cs := #[.int .i64 ((rd_T44 l0 x17_1).f0), .int .i64 ((rd_T44 l0 x17_1).f1), .int .i64 0, .slice none 0 0]) ?_ 2 _ rfl; (with_reducible repeat (first | refine blk_drewN ?_ _ | refine blk_drew ?_ | refine blk_alloc ?_ _)); refine blk_put (cs := #[.int .i64 ((rd_T44 l0 x17_1).f0), .int .i64 0, .int .i64 0, .slice none 0 0]) ?_ 1 _ rfl; (with_reducible repeat (first | refine blk_drewN ?_ _ | refine blk_drew ?_ | refine blk_alloc ?_ _)); refine blk_put (cs := #[.int .i64 0, .int .i64 0, .int .i64 0, .slice none 0 0]) ?_ 0 _ rfl; (with_reducible repeat (first | refine blk_drewN ?_ _ | refine blk_drew ?_ | refine blk_alloc ?_ _)); exact BK102.out)) : gb104 ≠ gb102)); clear BK102; clear HB; have BK102 := n0_; have HB := n1_; have BK104 := n2_; have GW104 := n3_; have GE104 := n4_; have NB102_104 := n5_; have NB104_102 := n6_; clear n0_ n1_ n2_ n3_ n4_ n5_ n6_; clear hb hbox hg; have hnb12 := NB104_102.out; have hnc12 := NB102_104.out; have hcz13_0 : w11.cell? ⟨gb104, 0, none⟩ = some (.int .i64 0) := (blk_cell BK104.out 0).trans rfl; have hcz13_1 : w11.cell? ⟨gb104, 1, none⟩ = some (.int .i64 0) := (blk_cell BK104.out 1).trans rfl; have hcz13_2 : w11.cell? ⟨gb104, 2, none⟩ = some (.int .i64 0) := (blk_cell BK104.out 2).trans rfl; have hcz13_3 : w11.cell? ⟨gb104, 3, none⟩ = some (.slice none 0 0) := (blk_cell BK104.out 3).trans rfl; have hfz13_0 := blk_frozen BK104.out 0; have hfz13_1 := blk_frozen BK104.out 1; have hfz13_2 := blk_frozen BK104.out 2; have hfz13_3 := blk_frozen BK104.out 3))
        repeat (go_quiet (first | ((with_reducible refine gate_dst (N := 6) rfl ?_); (try (refine gate_guard (by rfl) ?_; dsimp only)); refine box_event ?hg (N := 6) ?hd (cs := #[.int .i64 0, .int .i64 0, .int .i64 0, .slice none 0 0]) (t := 44) ?hr ?_; (case hd => rfl); (case hg => rfl); (case hr => first | (go_simp; done) | (go_simp; rfl)); intro gb102 hg w9 hbox hb; have n0_ := Aside0.mk (below_step (by repeat (first | (with_reducible first | exact HB.out | apply below_alloc | apply pw_below_drewN | apply below_drew1))) hb); have n1_ := Aside0.mk (hbox); have n2_ := Aside0.mk ((by rw [hg]; exact (below_size (by repeat (first | (with_reducible first | exact HB.out | apply below_alloc | apply pw_below_drewN | apply below_drew1)))) : w.heap.size ≤ gb102)); have n3_ := Aside0.mk ((by rw [hg]; exact (below_size (by repeat (first | (with_reducible first | exact HB.out | apply below_alloc | apply pw_below_drewN | apply below_drew1)))) : w.heap.size ≤ gb102)); clear HB; have HB := n0_; have BK102 := n1_; have GW102 := n2_; have GE102 := n3_; clear n0_ n1_ n2_ n3_; clear hb hbox hg; have hcz10_0 : w9.cell? ⟨gb102, 0, none⟩ = some (.int .i64 0) := (blk_cell BK102.out 0).trans rfl; have hcz10_1 : w9.cell? ⟨gb102, 1, none⟩ = some (.int .i64 0) := (blk_cell BK102.out 1).trans rfl; have hcz10_2 : w9.cell? ⟨gb102, 2, none⟩ = some (.int .i64 0) := (blk_cell BK102.out 2).trans rfl; have hcz10_3 : w9.cell? ⟨gb102, 3, none⟩ = some (.slice none 0 0) := (blk_cell BK102.out 3).trans rfl; have hfz10_0 := blk_frozen BK102.out 0; have hfz10_1 := blk_frozen BK102.out 1; have hfz10_2 := blk_frozen BK102.out 2; have hfz10_3 := blk_frozen BK102.out 3; have p103 : 0 ≤ (x17_1 : Int) := of_decide_eq_true (by assumption); have q103 : x17_1 < (l1.length : Int) := of_decide_eq_true (by assumption); obtain ⟨ad103, A103_3, c103_3, e103, hx103_0, hx103_1, hx103_2, hx103_3, hl103_3, hi103_3⟩ := at_T44 HR1.out x17_1 p103 q103; cases e103; have hn103_0 : ad103.block ≠ gb102 := Nat.ne_of_lt (Nat.lt_of_lt_of_le (by have := World.block_lt_of_cell? _ _ hx103_0; first | rwa [add_block] at this | exact this) GW102.out); have hn103_1 : ad103.block ≠ gb102 := Nat.ne_of_lt (Nat.lt_of_lt_of_le (by have := World.block_lt_of_cell? _ _ hx103_0; first | rwa [add_block] at this | exact this) GW102.out); have hn103_2 : ad103.block ≠ gb102 := Nat.ne_of_lt (Nat.lt_of_lt_of_le (by have := World.block_lt_of_cell? _ _ hx103_0; first | rwa [add_block] at this | exact this) GW102.out); have hn103_3 : ad103.block ≠ gb102 := Nat.ne_of_lt (Nat.lt_of_lt_of_le (by have := World.block_lt_of_cell? _ _ hx103_0; first | rwa [add_block] at this | exact this) GW102.out); replace hx103_0 := (HB.out.cell (World.block_lt_of_cell? w _ hx103_0)).trans hx103_0; replace hx103_1 := (HB.out.cell (World.block_lt_of_cell? w _ hx103_1)).trans hx103_1; replace hx103_2 := (HB.out.cell (World.block_lt_of_cell? w _ hx103_2)).trans hx103_2; replace hx103_3 := (HB.out.cell (World.block_lt_of_cell? w _ hx103_3)).trans hx103_3; have HR103_3 := Aside0.mk hi103_3; have HC103_3 := Aside0.mk hl103_3; clear hi103_3 hl103_3; replace hx103_0 := (cell_far (p := ⟨gb102, 0, none⟩) (by first | (rw [add_block]; exact hn103_0) | (show (Addr.add _ _).block ≠ _; rw [add_block]; exact hn103_0) | exact hn103_0) (.int .i64 ((rd_T44 l0 x17_1).f0))).trans hx103_0; replace hx103_1 := (cell_far (p := ⟨gb102, 0, none⟩) (by first | (rw [add_block]; exact hn103_0) | (show (Addr.add _ _).block ≠ _; rw [add_block]; exact hn103_0) | exact hn103_0) (.int .i64 ((rd_T44 l0 x17_1).f0))).trans hx103_1; replace hx103_2 := (cell_far (p := ⟨gb102, 0, none⟩) (by first | (rw [add_block]; exact hn103_0) | (show (Addr.add _ _).block ≠ _; rw [add_block]; exact hn103_0) | exact hn103_0) (.int .i64 ((rd_T44 l0 x17_1).f0))).trans hx103_2; replace hx103_3 := (cell_far (p := ⟨gb102, 0, none⟩) (by first | (rw [add_block]; exact hn103_0) | (show (Addr.add _ _).block ≠ _; rw [add_block]; exact hn103_0) | exact hn103_0) (.int .i64 ((rd_T44 l0 x17_1).f0))).trans hx103_3; replace hx103_0 := (cell_far (p := ⟨gb102, 1, none⟩) (by first | (rw [add_block]; exact hn103_1) | (show (Addr.add _ _).block ≠ _; rw [add_block]; exact hn103_1) | exact hn103_1) (.int .i64 ((rd_T44 l0 x17_1).f1))).trans hx103_0; replace hx103_1 := (cell_far (p := ⟨gb102, 1, none⟩) (by first | (rw [add_block]; exact hn103_1) | (show (Addr.add _ _).block ≠ _; rw [add_block]; exact hn103_1) | exact hn103_1) (.int .i64 ((rd_T44 l0 x17_1).f1))).trans hx103_1; replace hx103_2 := (cell_far (p := ⟨gb102, 1, none⟩) (by first | (rw [add_block]; exact hn103_1) | (show (Addr.add _ _).block ≠ _; rw [add_block]; exact hn103_1) | exact hn103_1) (.int .i64 ((rd_T44 l0 x17_1).f1))).trans hx103_2; replace hx103_3 := (cell_far (p := ⟨gb102, 1, none⟩) (by first | (rw [add_block]; exact hn103_1) | (show (Addr.add _ _).block ≠ _; rw [add_block]; exact hn103_1) | exact hn103_1) (.int .i64 ((rd_T44 l0 x17_1).f1))).trans hx103_3; replace hx103_0 := (cell_far (p := ⟨gb102, 2, none⟩) (by first | (rw [add_block]; exact hn103_2) | (show (Addr.add _ _).block ≠ _; rw [add_block]; exact hn103_2) | exact hn103_2) (.int .i64 ((rd_T44 l0 x17_1).f2))).trans hx103_0; replace hx103_1 := (cell_far (p := ⟨gb102, 2, none⟩) (by first | (rw [add_block]; exact hn103_2) | (show (Addr.add _ _).block ≠ _; rw [add_block]; exact hn103_2) | exact hn103_2) (.int .i64 ((rd_T44 l0 x17_1).f2))).trans hx103_1; replace hx103_2 := (cell_far (p := ⟨gb102, 2, none⟩) (by first | (rw [add_block]; exact hn103_2) | (show (Addr.add _ _).block ≠ _; rw [add_block]; exact hn103_2) | exact hn103_2) (.int .i64 ((rd_T44 l0 x17_1).f2))).trans hx103_2; replace hx103_3 := (cell_far (p := ⟨gb102, 2, none⟩) (by first | (rw [add_block]; exact hn103_2) | (show (Addr.add _ _).block ≠ _; rw [add_block]; exact hn103_2) | exact hn103_2) (.int .i64 ((rd_T44 l0 x17_1).f2))).trans hx103_3; replace hx103_0 := (cell_far (p := ⟨gb102, 3, none⟩) (by first | (rw [add_block]; exact hn103_3) | (show (Addr.add _ _).block ≠ _; rw [add_block]; exact hn103_3) | exact hn103_3) (.slice A101_3 ((rd_T44 l0 x17_1).f3).length c101_3)).trans hx103_0; replace hx103_1 := (cell_far (p := ⟨gb102, 3, none⟩) (by first | (rw [add_block]; exact hn103_3) | (show (Addr.add _ _).block ≠ _; rw [add_block]; exact hn103_3) | exact hn103_3) (.slice A101_3 ((rd_T44 l0 x17_1).f3).length c101_3)).trans hx103_1; replace hx103_2 := (cell_far (p := ⟨gb102, 3, none⟩) (by first | (rw [add_block]; exact hn103_3) | (show (Addr.add _ _).block ≠ _; rw [add_block]; exact hn103_3) | exact hn103_3) (.slice A101_3 ((rd_T44 l0 x17_1).f3).length c101_3)).trans hx103_2; replace hx103_3 := (cell_far (p := ⟨gb102, 3, none⟩) (by first | (rw [add_block]; exact hn103_3) | (show (Addr.add _ _).block ≠ _; rw [add_block]; exact hn103_3) | exact hn103_3) (.slice A101_3 ((rd_T44 l0 x17_1).f3).length c101_3)).trans hx103_3; (try have hy103_0 := fun (n_ : Nat) => (show ((((((w9.drewN n_).setCell ⟨gb102, 0, none⟩ (.int .i64 ((rd_T44 l0 x17_1).f0))).setCell ⟨gb102, 1, none⟩ (.int .i64 ((rd_T44 l0 x17_1).f1))).setCell ⟨gb102, 2, none⟩ (.int .i64 ((rd_T44 l0 x17_1).f2))).setCell ⟨gb102, 3, none⟩ (.slice A101_3 ((rd_T44 l0 x17_1).f3).length c101_3))).cell? _ = some _ from hx103_0)); (try have hy103_1 := fun (n_ : Nat) => (show ((((((w9.drewN n_).setCell ⟨gb102, 0, none⟩ (.int .i64 ((rd_T44 l0 x17_1).f0))).setCell ⟨gb102, 1, none⟩ (.int .i64 ((rd_T44 l0 x17_1).f1))).setCell ⟨gb102, 2, none⟩ (.int .i64 ((rd_T44 l0 x17_1).f2))).setCell ⟨gb102, 3, none⟩ (.slice A101_3 ((rd_T44 l0 x17_1).f3).length c101_3))).cell? _ = some _ from hx103_1)); (try have hy103_2 := fun (n_ : Nat) => (show ((((((w9.drewN n_).setCell ⟨gb102, 0, none⟩ (.int .i64 ((rd_T44 l0 x17_1).f0))).setCell ⟨gb102, 1, none⟩ (.int .i64 ((rd_T44 l0 x17_1).f1))).setCell ⟨gb102, 2, none⟩ (.int .i64 ((rd_T44 l0 x17_1).f2))).setCell ⟨gb102, 3, none⟩ (.slice A101_3 ((rd_T44 l0 x17_1).f3).length c101_3))).cell? _ = some _ from hx103_2)); (try have hy103_3 := fun (n_ : Nat) => (show ((((((w9.drewN n_).setCell ⟨gb102, 0, none⟩ (.int .i64 ((rd_T44 l0 x17_1).f0))).setCell ⟨gb102, 1, none⟩ (.int .i64 ((rd_T44 l0 x17_1).f1))).setCell ⟨gb102, 2, none⟩ (.int .i64 ((rd_T44 l0 x17_1).f2))).setCell ⟨gb102, 3, none⟩ (.slice A101_3 ((rd_T44 l0 x17_1).f3).length c101_3))).cell? _ = some _ from hx103_3)); clear hn103_0; clear hn103_1; clear hn103_2; clear hn103_3; replace p103 := eq_true p103; replace q103 := eq_true q103) | ((with_reducible refine gate_dst (N := 7) rfl ?_); (try (refine gate_guard (by rfl) ?_; dsimp only)); refine box_event ?hg (N := 7) ?hd (cs := #[.int .i64 0, .int .i64 0, .int .i64 0, .slice none 0 0]) (t := 44) ?hr ?_; (case hd => rfl); (case hg => rfl); (case hr => first | (go_simp; done) | (go_simp; rfl)); intro gb104 hg w11 hbox hb; have n0_ := Aside0.mk (blk_below (g := gb102) (o := .cells #[.int .i64 ((rd_T44 l0 x17_1).f0), .int .i64 ((rd_T44 l0 x17_1).f1), .int .i64 ((rd_T44 l0 x17_1).f2), .slice A101_3 ((rd_T44 l0 x17_1).f3).length c101_3] 44 (0, 0)) (by (with_reducible repeat (first | refine blk_drewN ?_ _ | refine blk_drew ?_ | refine blk_alloc ?_ _)); refine blk_put (cs := #[.int .i64 ((rd_T44 l0 x17_1).f0), .int .i64 ((rd_T44 l0 x17_1).f1), .int .i64 ((rd_T44 l0 x17_1).f2), .slice none 0 0]) ?_ 3 _ rfl; (with_reducible repeat (first | refine blk_drewN ?_ _ | refine blk_drew ?_ | refine blk_alloc ?_ _)); refine blk_put (cs := #[.int .i64 ((rd_T44 l0 x17_1).f0), .int .i64 ((rd_T44 l0 x17_1).f1), .int .i64 0, .slice none 0 0]) ?_ 2 _ rfl; (with_reducible repeat (first | refine blk_drewN ?_ _ | refine blk_drew ?_ | refine blk_alloc ?_ _)); refine blk_put (cs := #[.int .i64 ((rd_T44 l0 x17_1).f0), .int .i64 0, .int .i64 0, .slice none 0 0]) ?_ 1 _ rfl; (with_reducible repeat (first | refine blk_drewN ?_ _ | refine blk_drew ?_ | refine blk_alloc ?_ _)); refine blk_put (cs := #[.int .i64 0, .int .i64 0, .int .i64 0, .slice none 0 0]) ?_ 0 _ rfl; (with_reducible repeat (first | refine blk_drewN ?_ _ | refine blk_drew ?_ | refine blk_alloc ?_ _)); exact BK102.out) hb); have n1_ := Aside0.mk (below_step (by repeat (first | (with_reducible first | exact HB.out | apply below_alloc | apply pw_below_drewN | apply below_drew1 | refine below_set ?_ GE102.out))) hb); have n2_ := Aside0.mk (hbox); have n3_ := Aside0.mk ((by rw [hg]; exact (below_size (by repeat (first | (with_reducible first | exact HB.out | apply below_alloc | apply pw_below_drewN | apply below_drew1 | refine below_set ?_ GE102.out)))) : w.heap.size ≤ gb104)); have n4_ := Aside0.mk ((by rw [hg]; exact (below_size (by repeat (first | (with_reducible first | exact HB.out | apply below_alloc | apply pw_below_drewN | apply below_drew1 | refine below_set ?_ GE102.out)))) : w.heap.size ≤ gb104)); have n5_ := Aside0.mk ((by rw [hg]; exact Nat.ne_of_lt (blk_lt (g := gb102) (o := .cells #[.int .i64 ((rd_T44 l0 x17_1).f0), .int .i64 ((rd_T44 l0 x17_1).f1), .int .i64 ((rd_T44 l0 x17_1).f2), .slice A101_3 ((rd_T44 l0 x17_1).f3).length c101_3] 44 (0, 0)) (by (with_reducible repeat (first | refine blk_drewN ?_ _ | refine blk_drew ?_ | refine blk_alloc ?_ _)); refine blk_put (cs := #[.int .i64 ((rd_T44 l0 x17_1).f0), .int .i64 ((rd_T44 l0 x17_1).f1), .int .i64 ((rd_T44 l0 x17_1).f2), .slice none 0 0]) ?_ 3 _ rfl; (with_reducible repeat (first | refine blk_drewN ?_ _ | refine blk_drew ?_ | refine blk_alloc ?_ _)); refine blk_put (cs := #[.int .i64 ((rd_T44 l0 x17_1).f0), .int .i64 ((rd_T44 l0 x17_1).f1), .int .i64 0, .slice none 0 0]) ?_ 2 _ rfl; (with_reducible repeat (first | refine blk_drewN ?_ _ | refine blk_drew ?_ | refine blk_alloc ?_ _)); refine blk_put (cs := #[.int .i64 ((rd_T44 l0 x17_1).f0), .int .i64 0, .int .i64 0, .slice none 0 0]) ?_ 1 _ rfl; (with_reducible repeat (first | refine blk_drewN ?_ _ | refine blk_drew ?_ | refine blk_alloc ?_ _)); refine blk_put (cs := #[.int .i64 0, .int .i64 0, .int .i64 0, .slice none 0 0]) ?_ 0 _ rfl; (with_reducible repeat (first | refine blk_drewN ?_ _ | refine blk_drew ?_ | refine blk_alloc ?_ _)); exact BK102.out)) : gb102 ≠ gb104)); have n6_ := Aside0.mk ((by rw [hg]; exact Nat.ne_of_gt (blk_lt (g := gb102) (o := .cells #[.int .i64 ((rd_T44 l0 x17_1).f0), .int .i64 ((rd_T44 l0 x17_1).f1), .int .i64 ((rd_T44 l0 x17_1).f2), .slice A101_3 ((rd_T44 l0 x17_1).f3).length c101_3] 44 (0, 0)) (by (with_reducible repeat (first | refine blk_drewN ?_ _ | refine blk_drew ?_ | refine blk_alloc ?_ _)); refine blk_put (cs := #[.int .i64 ((rd_T44 l0 x17_1).f0), .int .i64 ((rd_T44 l0 x17_1).f1), .int .i64 ((rd_T44 l0 x17_1).f2), .slice none 0 0]) ?_ 3 _ rfl; (with_reducible repeat (first | refine blk_drewN ?_ _ | refine blk_drew ?_ | refine blk_alloc ?_ _)); refine blk_put (cs := #[.int .i64 ((rd_T44 l0 x17_1).f0), .int .i64 ((rd_T44 l0 x17_1).f1), .int .i64 0, .slice none 0 0]) ?_ 2 _ rfl; (with_reducible repeat (first | refine blk_drewN ?_ _ | refine blk_drew ?_ | refine blk_alloc ?_ _)); refine blk_put (cs := #[.int .i64 ((rd_T44 l0 x17_1).f0), .int .i64 0, .int .i64 0, .slice none 0 0]) ?_ 1 _ rfl; (with_reducible repeat (first | refine blk_drewN ?_ _ | refine blk_drew ?_ | refine blk_alloc ?_ _)); refine blk_put (cs := #[.int .i64 0, .int .i64 0, .int .i64 0, .slice none 0 0]) ?_ 0 _ rfl; (with_reducible repeat (first | refine blk_drewN ?_ _ | refine blk_drew ?_ | refine blk_alloc ?_ _)); exact BK102.out)) : gb104 ≠ gb102)); clear BK102; clear HB; have BK102 := n0_; have HB := n1_; have BK104 := n2_; have GW104 := n3_; have GE104 := n4_; have NB102_104 := n5_; have NB104_102 := n6_; clear n0_ n1_ n2_ n3_ n4_ n5_ n6_; clear hb hbox hg; have hnb12 := NB104_102.out; have hnc12 := NB102_104.out; have hcz13_0 : w11.cell? ⟨gb104, 0, none⟩ = some (.int .i64 0) := (blk_cell BK104.out 0).trans rfl; have hcz13_1 : w11.cell? ⟨gb104, 1, none⟩ = some (.int .i64 0) := (blk_cell BK104.out 1).trans rfl; have hcz13_2 : w11.cell? ⟨gb104, 2, none⟩ = some (.int .i64 0) := (blk_cell BK104.out 2).trans rfl; have hcz13_3 : w11.cell? ⟨gb104, 3, none⟩ = some (.slice none 0 0) := (blk_cell BK104.out 3).trans rfl; have hfz13_0 := blk_frozen BK104.out 0; have hfz13_1 := blk_frozen BK104.out 1; have hfz13_2 := blk_frozen BK104.out 2; have hfz13_3 := blk_frozen BK104.out 3)); go_upto_region 7 with (first | ((with_reducible refine gate_dst (N := 6) rfl ?_); (try (refine gate_guard (by rfl) ?_; dsimp only)); refine box_event ?hg (N := 6) ?hd (cs := #[.int .i64 0, .int .i64 0, .int .i64 0, .slice none 0 0]) (t := 44) ?hr ?_; (case hd => rfl); (case hg => rfl); (case hr => first | (go_simp; done) | (go_simp; rfl)); intro gb102 hg w9 hbox hb; have n0_ := Aside0.mk (below_step (by repeat (first | (with_reducible first | exact HB.out | apply below_alloc | apply pw_below_drewN | apply below_drew1))) hb); have n1_ := Aside0.mk (hbox); have n2_ := Aside0.mk ((by rw [hg]; exact (below_size (by repeat (first | (with_reducible first | exact HB.out | apply below_alloc | apply pw_below_drewN | apply below_drew1)))) : w.heap.size ≤ gb102)); have n3_ := Aside0.mk ((by rw [hg]; exact (below_size (by repeat (first | (with_reducible first | exact HB.out | apply below_alloc | apply pw_below_drewN | apply below_drew1)))) : w.heap.size ≤ gb102)); clear HB; have HB := n0_; have BK102 := n1_; have GW102 := n2_; have GE102 := n3_; clear n0_ n1_ n2_ n3_; clear hb hbox hg; have hcz10_0 : w9.cell? ⟨gb102, 0, none⟩ = some (.int .i64 0) := (blk_cell BK102.out 0).trans rfl; have hcz10_1 : w9.cell? ⟨gb102, 1, none⟩ = some (.int .i64 0) := (blk_cell BK102.out 1).trans rfl; have hcz10_2 : w9.cell? ⟨gb102, 2, none⟩ = some (.int .i64 0) := (blk_cell BK102.out 2).trans rfl; have hcz10_3 : w9.cell? ⟨gb102, 3, none⟩ = some (.slice none 0 0) := (blk_cell BK102.out 3).trans rfl; have hfz10_0 := blk_frozen BK102.out 0; have hfz10_1 := blk_frozen BK102.out 1; have hfz10_2 := blk_frozen BK102.out 2; have hfz10_3 := blk_frozen BK102.out 3; have p103 : 0 ≤ (x17_1 : Int) := of_decide_eq_true (by assumption); have q103 : x17_1 < (l1.length : Int) := of_decide_eq_true (by assumption); obtain ⟨ad103, A103_3, c103_3, e103, hx103_0, hx103_1, hx103_2, hx103_3, hl103_3, hi103_3⟩ := at_T44 HR1.out x17_1 p103 q103; cases e103; have hn103_0 : ad103.block ≠ gb102 := Nat.ne_of_lt (Nat.lt_of_lt_of_le (by have := World.block_lt_of_cell? _ _ hx103_0; first | rwa [add_block] at this | exact this) GW102.out); have hn103_1 : ad103.block ≠ gb102 := Nat.ne_of_lt (Nat.lt_of_lt_of_le (by have := World.block_lt_of_cell? _ _ hx103_0; first | rwa [add_block] at this | exact this) GW102.out); have hn103_2 : ad103.block ≠ gb102 := Nat.ne_of_lt (Nat.lt_of_lt_of_le (by have := World.block_lt_of_cell? _ _ hx103_0; first | rwa [add_block] at this | exact this) GW102.out); have hn103_3 : ad103.block ≠ gb102 := Nat.ne_of_lt (Nat.lt_of_lt_of_le (by have := World.block_lt_of_cell? _ _ hx103_0; first | rwa [add_block] at this | exact this) GW102.out); replace hx103_0 := (HB.out.cell (World.block_lt_of_cell? w _ hx103_0)).trans hx103_0; replace hx103_1 := (HB.out.cell (World.block_lt_of_cell? w _ hx103_1)).trans hx103_1; replace hx103_2 := (HB.out.cell (World.block_lt_of_cell? w _ hx103_2)).trans hx103_2; replace hx103_3 := (HB.out.cell (World.block_lt_of_cell? w _ hx103_3)).trans hx103_3; have HR103_3 := Aside0.mk hi103_3; have HC103_3 := Aside0.mk hl103_3; clear hi103_3 hl103_3; replace hx103_0 := (cell_far (p := ⟨gb102, 0, none⟩) (by first | (rw [add_block]; exact hn103_0) | (show (Addr.add _ _).block ≠ _; rw [add_block]; exact hn103_0) | exact hn103_0) (.int .i64 ((rd_T44 l0 x17_1).f0))).trans hx103_0; replace hx103_1 := (cell_far (p := ⟨gb102, 0, none⟩) (by first | (rw [add_block]; exact hn103_0) | (show (Addr.add _ _).block ≠ _; rw [add_block]; exact hn103_0) | exact hn103_0) (.int .i64 ((rd_T44 l0 x17_1).f0))).trans hx103_1; replace hx103_2 := (cell_far (p := ⟨gb102, 0, none⟩) (by first | (rw [add_block]; exact hn103_0) | (show (Addr.add _ _).block ≠ _; rw [add_block]; exact hn103_0) | exact hn103_0) (.int .i64 ((rd_T44 l0 x17_1).f0))).trans hx103_2; replace hx103_3 := (cell_far (p := ⟨gb102, 0, none⟩) (by first | (rw [add_block]; exact hn103_0) | (show (Addr.add _ _).block ≠ _; rw [add_block]; exact hn103_0) | exact hn103_0) (.int .i64 ((rd_T44 l0 x17_1).f0))).trans hx103_3; replace hx103_0 := (cell_far (p := ⟨gb102, 1, none⟩) (by first | (rw [add_block]; exact hn103_1) | (show (Addr.add _ _).block ≠ _; rw [add_block]; exact hn103_1) | exact hn103_1) (.int .i64 ((rd_T44 l0 x17_1).f1))).trans hx103_0; replace hx103_1 := (cell_far (p := ⟨gb102, 1, none⟩) (by first | (rw [add_block]; exact hn103_1) | (show (Addr.add _ _).block ≠ _; rw [add_block]; exact hn103_1) | exact hn103_1) (.int .i64 ((rd_T44 l0 x17_1).f1))).trans hx103_1; replace hx103_2 := (cell_far (p := ⟨gb102, 1, none⟩) (by first | (rw [add_block]; exact hn103_1) | (show (Addr.add _ _).block ≠ _; rw [add_block]; exact hn103_1) | exact hn103_1) (.int .i64 ((rd_T44 l0 x17_1).f1))).trans hx103_2; replace hx103_3 := (cell_far (p := ⟨gb102, 1, none⟩) (by first | (rw [add_block]; exact hn103_1) | (show (Addr.add _ _).block ≠ _; rw [add_block]; exact hn103_1) | exact hn103_1) (.int .i64 ((rd_T44 l0 x17_1).f1))).trans hx103_3; replace hx103_0 := (cell_far (p := ⟨gb102, 2, none⟩) (by first | (rw [add_block]; exact hn103_2) | (show (Addr.add _ _).block ≠ _; rw [add_block]; exact hn103_2) | exact hn103_2) (.int .i64 ((rd_T44 l0 x17_1).f2))).trans hx103_0; replace hx103_1 := (cell_far (p := ⟨gb102, 2, none⟩) (by first | (rw [add_block]; exact hn103_2) | (show (Addr.add _ _).block ≠ _; rw [add_block]; exact hn103_2) | exact hn103_2) (.int .i64 ((rd_T44 l0 x17_1).f2))).trans hx103_1; replace hx103_2 := (cell_far (p := ⟨gb102, 2, none⟩) (by first | (rw [add_block]; exact hn103_2) | (show (Addr.add _ _).block ≠ _; rw [add_block]; exact hn103_2) | exact hn103_2) (.int .i64 ((rd_T44 l0 x17_1).f2))).trans hx103_2; replace hx103_3 := (cell_far (p := ⟨gb102, 2, none⟩) (by first | (rw [add_block]; exact hn103_2) | (show (Addr.add _ _).block ≠ _; rw [add_block]; exact hn103_2) | exact hn103_2) (.int .i64 ((rd_T44 l0 x17_1).f2))).trans hx103_3; replace hx103_0 := (cell_far (p := ⟨gb102, 3, none⟩) (by first | (rw [add_block]; exact hn103_3) | (show (Addr.add _ _).block ≠ _; rw [add_block]; exact hn103_3) | exact hn103_3) (.slice A101_3 ((rd_T44 l0 x17_1).f3).length c101_3)).trans hx103_0; replace hx103_1 := (cell_far (p := ⟨gb102, 3, none⟩) (by first | (rw [add_block]; exact hn103_3) | (show (Addr.add _ _).block ≠ _; rw [add_block]; exact hn103_3) | exact hn103_3) (.slice A101_3 ((rd_T44 l0 x17_1).f3).length c101_3)).trans hx103_1; replace hx103_2 := (cell_far (p := ⟨gb102, 3, none⟩) (by first | (rw [add_block]; exact hn103_3) | (show (Addr.add _ _).block ≠ _; rw [add_block]; exact hn103_3) | exact hn103_3) (.slice A101_3 ((rd_T44 l0 x17_1).f3).length c101_3)).trans hx103_2; replace hx103_3 := (cell_far (p := ⟨gb102, 3, none⟩) (by first | (rw [add_block]; exact hn103_3) | (show (Addr.add _ _).block ≠ _; rw [add_block]; exact hn103_3) | exact hn103_3) (.slice A101_3 ((rd_T44 l0 x17_1).f3).length c101_3)).trans hx103_3; (try have hy103_0 := fun (n_ : Nat) => (show ((((((w9.drewN n_).setCell ⟨gb102, 0, none⟩ (.int .i64 ((rd_T44 l0 x17_1).f0))).setCell ⟨gb102, 1, none⟩ (.int .i64 ((rd_T44 l0 x17_1).f1))).setCell ⟨gb102, 2, none⟩ (.int .i64 ((rd_T44 l0 x17_1).f2))).setCell ⟨gb102, 3, none⟩ (.slice A101_3 ((rd_T44 l0 x17_1).f3).length c101_3))).cell? _ = some _ from hx103_0)); (try have hy103_1 := fun (n_ : Nat) => (show ((((((w9.drewN n_).setCell ⟨gb102, 0, none⟩ (.int .i64 ((rd_T44 l0 x17_1).f0))).setCell ⟨gb102, 1, none⟩ (.int .i64 ((rd_T44 l0 x17_1).f1))).setCell ⟨gb102, 2, none⟩ (.int .i64 ((rd_T44 l0 x17_1).f2))).setCell ⟨gb102, 3, none⟩ (.slice A101_3 ((rd_T44 l0 x17_1).f3).length c101_3))).cell? _ = some _ from hx103_1)); (try have hy103_2 := fun (n_ : Nat) => (show ((((((w9.drewN n_).setCell ⟨gb102, 0, none⟩ (.int .i64 ((rd_T44 l0 x17_1).f0))).setCell ⟨gb102, 1, none⟩ (.int .i64 ((rd_T44 l0 x17_1).f1))).setCell ⟨gb102, 2, none⟩ (.int .i64 ((rd_T44 l0 x17_1).f2))).setCell ⟨gb102, 3, none⟩ (.slice A101_3 ((rd_T44 l0 x17_1).f3).length c101_3))).cell? _ = some _ from hx103_2)); (try have hy103_3 := fun (n_ : Nat) => (show ((((((w9.drewN n_).setCell ⟨gb102, 0, none⟩ (.int .i64 ((rd_T44 l0 x17_1).f0))).setCell ⟨gb102, 1, none⟩ (.int .i64 ((rd_T44 l0 x17_1).f1))).setCell ⟨gb102, 2, none⟩ (.int .i64 ((rd_T44 l0 x17_1).f2))).setCell ⟨gb102, 3, none⟩ (.slice A101_3 ((rd_T44 l0 x17_1).f3).length c101_3))).cell? _ = some _ from hx103_3)); clear hn103_0; clear hn103_1; clear hn103_2; clear hn103_3; replace p103 := eq_true p103; replace q103 := eq_true q103) | ((with_reducible refine gate_dst (N := 7) rfl ?_); (try (refine gate_guard (by rfl) ?_; dsimp only)); refine box_event ?hg (N := 7) ?hd (cs := #[.int .i64 0, .int .i64 0, .int .i64 0, .slice none 0 0]) (t := 44) ?hr ?_; (case hd => rfl); (case hg => rfl); (case hr => first | (go_simp; done) | (go_simp; rfl)); intro gb104 hg w11 hbox hb; have n0_ := Aside0.mk (blk_below (g := gb102) (o := .cells #[.int .i64 ((rd_T44 l0 x17_1).f0), .int .i64 ((rd_T44 l0 x17_1).f1), .int .i64 ((rd_T44 l0 x17_1).f2), .slice A101_3 ((rd_T44 l0 x17_1).f3).length c101_3] 44 (0, 0)) (by (with_reducible repeat (first | refine blk_drewN ?_ _ | refine blk_drew ?_ | refine blk_alloc ?_ _)); refine blk_put (cs := #[.int .i64 ((rd_T44 l0 x17_1).f0), .int .i64 ((rd_T44 l0 x17_1).f1), .int .i64 ((rd_T44 l0 x17_1).f2), .slice none 0 0]) ?_ 3 _ rfl; (with_reducible repeat (first | refine blk_drewN ?_ _ | refine blk_drew ?_ | refine blk_alloc ?_ _)); refine blk_put (cs := #[.int .i64 ((rd_T44 l0 x17_1).f0), .int .i64 ((rd_T44 l0 x17_1).f1), .int .i64 0, .slice none 0 0]) ?_ 2 _ rfl; (with_reducible repeat (first | refine blk_drewN ?_ _ | refine blk_drew ?_ | refine blk_alloc ?_ _)); refine blk_put (cs := #[.int .i64 ((rd_T44 l0 x17_1).f0), .int .i64 0, .int .i64 0, .slice none 0 0]) ?_ 1 _ rfl; (with_reducible repeat (first | refine blk_drewN ?_ _ | refine blk_drew ?_ | refine blk_alloc ?_ _)); refine blk_put (cs := #[.int .i64 0, .int .i64 0, .int .i64 0, .slice none 0 0]) ?_ 0 _ rfl; (with_reducible repeat (first | refine blk_drewN ?_ _ | refine blk_drew ?_ | refine blk_alloc ?_ _)); exact BK102.out) hb); have n1_ := Aside0.mk (below_step (by repeat (first | (with_reducible first | exact HB.out | apply below_alloc | apply pw_below_drewN | apply below_drew1 | refine below_set ?_ GE102.out))) hb); have n2_ := Aside0.mk (hbox); have n3_ := Aside0.mk ((by rw [hg]; exact (below_size (by repeat (first | (with_reducible first | exact HB.out | apply below_alloc | apply pw_below_drewN | apply below_drew1 | refine below_set ?_ GE102.out)))) : w.heap.size ≤ gb104)); have n4_ := Aside0.mk ((by rw [hg]; exact (below_size (by repeat (first | (with_reducible first | exact HB.out | apply below_alloc | apply pw_below_drewN | apply below_drew1 | refine below_set ?_ GE102.out)))) : w.heap.size ≤ gb104)); have n5_ := Aside0.mk ((by rw [hg]; exact Nat.ne_of_lt (blk_lt (g := gb102) (o := .cells #[.int .i64 ((rd_T44 l0 x17_1).f0), .int .i64 ((rd_T44 l0 x17_1).f1), .int .i64 ((rd_T44 l0 x17_1).f2), .slice A101_3 ((rd_T44 l0 x17_1).f3).length c101_3] 44 (0, 0)) (by (with_reducible repeat (first | refine blk_drewN ?_ _ | refine blk_drew ?_ | refine blk_alloc ?_ _)); refine blk_put (cs := #[.int .i64 ((rd_T44 l0 x17_1).f0), .int .i64 ((rd_T44 l0 x17_1).f1), .int .i64 ((rd_T44 l0 x17_1).f2), .slice none 0 0]) ?_ 3 _ rfl; (with_reducible repeat (first | refine blk_drewN ?_ _ | refine blk_drew ?_ | refine blk_alloc ?_ _)); refine blk_put (cs := #[.int .i64 ((rd_T44 l0 x17_1).f0), .int .i64 ((rd_T44 l0 x17_1).f1), .int .i64 0, .slice none 0 0]) ?_ 2 _ rfl; (with_reducible repeat (first | refine blk_drewN ?_ _ | refine blk_drew ?_ | refine blk_alloc ?_ _)); refine blk_put (cs := #[.int .i64 ((rd_T44 l0 x17_1).f0), .int .i64 0, .int .i64 0, .slice none 0 0]) ?_ 1 _ rfl; (with_reducible repeat (first | refine blk_drewN ?_ _ | refine blk_drew ?_ | refine blk_alloc ?_ _)); refine blk_put (cs := #[.int .i64 0, .int .i64 0, .int .i64 0, .slice none 0 0]) ?_ 0 _ rfl; (with_reducible repeat (first | refine blk_drewN ?_ _ | refine blk_drew ?_ | refine blk_alloc ?_ _)); exact BK102.out)) : gb102 ≠ gb104)); have n6_ := Aside0.mk ((by rw [hg]; exact Nat.ne_of_gt (blk_lt (g := gb102) (o := .cells #[.int .i64 ((rd_T44 l0 x17_1).f0), .int .i64 ((rd_T44 l0 x17_1).f1), .int .i64 ((rd_T44 l0 x17_1).f2), .slice A101_3 ((rd_T44 l0 x17_1).f3).length c101_3] 44 (0, 0)) (by (with_reducible repeat (first | refine blk_drewN ?_ _ | refine blk_drew ?_ | refine blk_alloc ?_ _)); refine blk_put (cs := #[.int .i64 ((rd_T44 l0 x17_1).f0), .int .i64 ((rd_T44 l0 x17_1).f1), .int .i64 ((rd_T44 l0 x17_1).f2), .slice none 0 0]) ?_ 3 _ rfl; (with_reducible repeat (first | refine blk_drewN ?_ _ | refine blk_drew ?_ | refine blk_alloc ?_ _)); refine blk_put (cs := #[.int .i64 ((rd_T44 l0 x17_1).f0), .int .i64 ((rd_T44 l0 x17_1).f1), .int .i64 0, .slice none 0 0]) ?_ 2 _ rfl; (with_reducible repeat (first | refine blk_drewN ?_ _ | refine blk_drew ?_ | refine blk_alloc ?_ _)); refine blk_put (cs := #[.int .i64 ((rd_T44 l0 x17_1).f0), .int .i64 0, .int .i64 0, .slice none 0 0]) ?_ 1 _ rfl; (with_reducible repeat (first | refine blk_drewN ?_ _ | refine blk_drew ?_ | refine blk_alloc ?_ _)); refine blk_put (cs := #[.int .i64 0, .int .i64 0, .int .i64 0, .slice none 0 0]) ?_ 0 _ rfl; (with_reducible repeat (first | refine blk_drewN ?_ _ | refine blk_drew ?_ | refine blk_alloc ?_ _)); exact BK102.out)) : gb104 ≠ gb102)); clear BK102; clear HB; have BK102 := n0_; have HB := n1_; have BK104 := n2_; have GW104 := n3_; have GE104 := n4_; have NB102_104 := n5_; have NB104_102 := n6_; clear n0_ n1_ n2_ n3_ n4_ n5_ n6_; clear hb hbox hg; have hnb12 := NB104_102.out; have hnc12 := NB102_104.out; have hcz13_0 : w11.cell? ⟨gb104, 0, none⟩ = some (.int .i64 0) := (blk_cell BK104.out 0).trans rfl; have hcz13_1 : w11.cell? ⟨gb104, 1, none⟩ = some (.int .i64 0) := (blk_cell BK104.out 1).trans rfl; have hcz13_2 : w11.cell? ⟨gb104, 2, none⟩ = some (.int .i64 0) := (blk_cell BK104.out 2).trans rfl; have hcz13_3 : w11.cell? ⟨gb104, 3, none⟩ = some (.slice none 0 0) := (blk_cell BK104.out 3).trans rfl; have hfz13_0 := blk_frozen BK104.out 0; have hfz13_1 := blk_frozen BK104.out 1; have hfz13_2 := blk_frozen BK104.out 2; have hfz13_3 := blk_frozen BK104.out 3)))
        (try simp only [Act.put, List.setIfInBounds_toArray, List.set_cons_zero, List.set_cons_succ])
        go_cut [53] (fun v53 wc => ∃ (kq : Nat) (x53_7 : Bool), v53 = .bool x53_7 ∧ Aside0 (history_Same.j1 kq l1 l0 (l0.length : Int) x17_1 x53_7 ((rd_T44 l0 x17_1).f0) ((rd_T44 l0 x17_1).f1) ((rd_T44 l0 x17_1).f2) ((rd_T44 l0 x17_1).f3) ((rd_T44 l1 x17_1).f0) ((rd_T44 l1 x17_1).f1) ((rd_T44 l1 x17_1).f2) ((rd_T44 l1 x17_1).f3) = some r) ∧ Aside0 (kq ≤ k1) ∧ Aside0 (wc.heap[gb102]? = some (.cells #[.int .i64 ((rd_T44 l0 x17_1).f0), .int .i64 ((rd_T44 l0 x17_1).f1), .int .i64 ((rd_T44 l0 x17_1).f2), (.slice A101_3 ((rd_T44 l0 x17_1).f3).length c101_3)] 44 (0, 0))) ∧ Aside0 (wc.heap[gb104]? = some (.cells #[.int .i64 ((rd_T44 l1 x17_1).f0), .int .i64 ((rd_T44 l1 x17_1).f1), .int .i64 ((rd_T44 l1 x17_1).f2), (.slice A103_3 ((rd_T44 l1 x17_1).f3).length c103_3)] 44 (0, 0))) ∧ Aside0 (Below w.heap.size w wc))
        case first =>
         have H := HC8.out
         clear HC8
         by_cases c14 : ((rd_T44 l0 x17_1).f0) = ((rd_T44 l1 x17_1).f0)
         ·rw [if_pos c14] at H
          have c14b0 : (((rd_T44 l0 x17_1).f0) == ((rd_T44 l1 x17_1).f0)) = true := beq_iff_eq.mpr c14
          have c14b1 : (((rd_T44 l0 x17_1).f0) != ((rd_T44 l1 x17_1).f0)) = false := bne_eq_false_iff_eq.mpr c14
          clear c14
          (first | rw [c14b0] | (simp only [i64_w, i32_w]; rw [c14b0]) | skip)
          by_cases c15 : ((rd_T44 l0 x17_1).f1) = ((rd_T44 l1 x17_1).f1)
          ·rw [if_pos c15] at H
           have c15b0 : (((rd_T44 l0 x17_1).f1) == ((rd_T44 l1 x17_1).f1)) = true := beq_iff_eq.mpr c15
           have c15b1 : (((rd_T44 l0 x17_1).f1) != ((rd_T44 l1 x17_1).f1)) = false := bne_eq_false_iff_eq.mpr c15
           clear c15
           by_cases c16 : ((rd_T44 l0 x17_1).f2) = ((rd_T44 l1 x17_1).f2)
           ·rw [if_pos c16] at H
            have c16b0 : (((rd_T44 l0 x17_1).f2) == ((rd_T44 l1 x17_1).f2)) = true := beq_iff_eq.mpr c16
            have c16b1 : (((rd_T44 l0 x17_1).f2) != ((rd_T44 l1 x17_1).f2)) = false := bne_eq_false_iff_eq.mpr c16
            clear c16
            have H' := Aside0.mk H
            clear H
            have hnb17 := NB102_104.out
            have hnc17 := NB104_102.out
            have hcz18_0 : w11.cell? ⟨gb102, 0, none⟩ = some (.int .i64 ((rd_T44 l0 x17_1).f0)) := (blk_cell BK102.out 0).trans rfl
            have hcz18_1 : w11.cell? ⟨gb102, 1, none⟩ = some (.int .i64 ((rd_T44 l0 x17_1).f1)) := (blk_cell BK102.out 1).trans rfl
            have hcz18_2 : w11.cell? ⟨gb102, 2, none⟩ = some (.int .i64 ((rd_T44 l0 x17_1).f2)) := (blk_cell BK102.out 2).trans rfl
            have hcz18_3 : w11.cell? ⟨gb102, 3, none⟩ = some (.slice A101_3 ((rd_T44 l0 x17_1).f3).length c101_3) := (blk_cell BK102.out 3).trans rfl
            have hfz18_0 := blk_frozen BK102.out 0
            have hfz18_1 := blk_frozen BK102.out 1
            have hfz18_2 := blk_frozen BK102.out 2
            have hfz18_3 := blk_frozen BK102.out 3
            have hcz19_0 : w11.cell? ⟨gb104, 0, none⟩ = some (.int .i64 0) := (blk_cell BK104.out 0).trans rfl
            have hcz19_1 : w11.cell? ⟨gb104, 1, none⟩ = some (.int .i64 0) := (blk_cell BK104.out 1).trans rfl
            have hcz19_2 : w11.cell? ⟨gb104, 2, none⟩ = some (.int .i64 0) := (blk_cell BK104.out 2).trans rfl
            have hcz19_3 : w11.cell? ⟨gb104, 3, none⟩ = some (.slice none 0 0) := (blk_cell BK104.out 3).trans rfl
            have hfz19_0 := blk_frozen BK104.out 0
            have hfz19_1 := blk_frozen BK104.out 1
            have hfz19_2 := blk_frozen BK104.out 2
            have hfz19_3 := blk_frozen BK104.out 3
            go_wp2
            repeat (go_quiet (fail); try go_wp2)
            go_meet
            case rel => exact ⟨_, (((((rd_T44 l0 x17_1).f3).length : Int) != (((rd_T44 l1 x17_1).f3).length : Int))), (by first | rfl | (simp; done) | (simp [*]; done)), H', ⟨by have := HK1.out; first | omega | exact Nat.le_refl _⟩, ⟨by (with_reducible repeat (first | refine blk_drewN ?_ _ | refine blk_drew ?_ | refine blk_alloc ?_ _)); refine blk_far ?_ NB102_104.out _; (with_reducible repeat (first | refine blk_drewN ?_ _ | refine blk_drew ?_ | refine blk_alloc ?_ _)); refine blk_far ?_ NB102_104.out _; (with_reducible repeat (first | refine blk_drewN ?_ _ | refine blk_drew ?_ | refine blk_alloc ?_ _)); refine blk_far ?_ NB102_104.out _; (with_reducible repeat (first | refine blk_drewN ?_ _ | refine blk_drew ?_ | refine blk_alloc ?_ _)); refine blk_far ?_ NB102_104.out _; (with_reducible repeat (first | refine blk_drewN ?_ _ | refine blk_drew ?_ | refine blk_alloc ?_ _)); exact BK102.out⟩, ⟨by (with_reducible repeat (first | refine blk_drewN ?_ _ | refine blk_drew ?_ | refine blk_alloc ?_ _)); refine blk_put (cs := #[.int .i64 ((rd_T44 l1 x17_1).f0), .int .i64 ((rd_T44 l1 x17_1).f1), .int .i64 ((rd_T44 l1 x17_1).f2), .slice none 0 0]) ?_ 3 _ rfl; (with_reducible repeat (first | refine blk_drewN ?_ _ | refine blk_drew ?_ | refine blk_alloc ?_ _)); refine blk_put (cs := #[.int .i64 ((rd_T44 l1 x17_1).f0), .int .i64 ((rd_T44 l1 x17_1).f1), .int .i64 0, .slice none 0 0]) ?_ 2 _ rfl; (with_reducible repeat (first | refine blk_drewN ?_ _ | refine blk_drew ?_ | refine blk_alloc ?_ _)); refine blk_put (cs := #[.int .i64 ((rd_T44 l1 x17_1).f0), .int .i64 0, .int .i64 0, .slice none 0 0]) ?_ 1 _ rfl; (with_reducible repeat (first | refine blk_drewN ?_ _ | refine blk_drew ?_ | refine blk_alloc ?_ _)); refine blk_put (cs := #[.int .i64 0, .int .i64 0, .int .i64 0, .slice none 0 0]) ?_ 0 _ rfl; (with_reducible repeat (first | refine blk_drewN ?_ _ | refine blk_drew ?_ | refine blk_alloc ?_ _)); exact BK104.out⟩, ⟨by repeat (first | (with_reducible first | exact HB.out | apply below_alloc | apply pw_below_drewN | apply below_drew1 | refine below_set ?_ GE102.out | refine below_set ?_ GE104.out))⟩⟩
           ·rw [if_neg c16] at H
            have c16b0 : (((rd_T44 l0 x17_1).f2) == ((rd_T44 l1 x17_1).f2)) = false := beq_eq_false_iff_ne.mpr c16
            have c16b1 : (((rd_T44 l0 x17_1).f2) != ((rd_T44 l1 x17_1).f2)) = true := bne_iff_ne.mpr c16
            have H' := Aside0.mk H
            clear H
            have hnb20 := NB102_104.out
            have hnc20 := NB104_102.out
            have hcz21_0 : w11.cell? ⟨gb102, 0, none⟩ = some (.int .i64 ((rd_T44 l0 x17_1).f0)) := (blk_cell BK102.out 0).trans rfl
            have hcz21_1 : w11.cell? ⟨gb102, 1, none⟩ = some (.int .i64 ((rd_T44 l0 x17_1).f1)) := (blk_cell BK102.out 1).trans rfl
            have hcz21_2 : w11.cell? ⟨gb102, 2, none⟩ = some (.int .i64 ((rd_T44 l0 x17_1).f2)) := (blk_cell BK102.out 2).trans rfl
            have hcz21_3 : w11.cell? ⟨gb102, 3, none⟩ = some (.slice A101_3 ((rd_T44 l0 x17_1).f3).length c101_3) := (blk_cell BK102.out 3).trans rfl
            have hfz21_0 := blk_frozen BK102.out 0
            have hfz21_1 := blk_frozen BK102.out 1
            have hfz21_2 := blk_frozen BK102.out 2
            have hfz21_3 := blk_frozen BK102.out 3
            have hcz22_0 : w11.cell? ⟨gb104, 0, none⟩ = some (.int .i64 0) := (blk_cell BK104.out 0).trans rfl
            have hcz22_1 : w11.cell? ⟨gb104, 1, none⟩ = some (.int .i64 0) := (blk_cell BK104.out 1).trans rfl
            have hcz22_2 : w11.cell? ⟨gb104, 2, none⟩ = some (.int .i64 0) := (blk_cell BK104.out 2).trans rfl
            have hcz22_3 : w11.cell? ⟨gb104, 3, none⟩ = some (.slice none 0 0) := (blk_cell BK104.out 3).trans rfl
            have hfz22_0 := blk_frozen BK104.out 0
            have hfz22_1 := blk_frozen BK104.out 1
            have hfz22_2 := blk_frozen BK104.out 2
            have hfz22_3 := blk_frozen BK104.out 3
            go_wp2
            repeat (go_quiet (fail); try go_wp2)
            go_meet
            case rel => exact ⟨_, (true), (by first | rfl | (simp; done) | (simp [*]; done)), H', ⟨by have := HK1.out; first | omega | exact Nat.le_refl _⟩, ⟨by (with_reducible repeat (first | refine blk_drewN ?_ _ | refine blk_drew ?_ | refine blk_alloc ?_ _)); refine blk_far ?_ NB102_104.out _; (with_reducible repeat (first | refine blk_drewN ?_ _ | refine blk_drew ?_ | refine blk_alloc ?_ _)); refine blk_far ?_ NB102_104.out _; (with_reducible repeat (first | refine blk_drewN ?_ _ | refine blk_drew ?_ | refine blk_alloc ?_ _)); refine blk_far ?_ NB102_104.out _; (with_reducible repeat (first | refine blk_drewN ?_ _ | refine blk_drew ?_ | refine blk_alloc ?_ _)); refine blk_far ?_ NB102_104.out _; (with_reducible repeat (first | refine blk_drewN ?_ _ | refine blk_drew ?_ | refine blk_alloc ?_ _)); exact BK102.out⟩, ⟨by (with_reducible repeat (first | refine blk_drewN ?_ _ | refine blk_drew ?_ | refine blk_alloc ?_ _)); refine blk_put (cs := #[.int .i64 ((rd_T44 l1 x17_1).f0), .int .i64 ((rd_T44 l1 x17_1).f1), .int .i64 ((rd_T44 l1 x17_1).f2), .slice none 0 0]) ?_ 3 _ rfl; (with_reducible repeat (first | refine blk_drewN ?_ _ | refine blk_drew ?_ | refine blk_alloc ?_ _)); refine blk_put (cs := #[.int .i64 ((rd_T44 l1 x17_1).f0), .int .i64 ((rd_T44 l1 x17_1).f1), .int .i64 0, .slice none 0 0]) ?_ 2 _ rfl; (with_reducible repeat (first | refine blk_drewN ?_ _ | refine blk_drew ?_ | refine blk_alloc ?_ _)); refine blk_put (cs := #[.int .i64 ((rd_T44 l1 x17_1).f0), .int .i64 0, .int .i64 0, .slice none 0 0]) ?_ 1 _ rfl; (with_reducible repeat (first | refine blk_drewN ?_ _ | refine blk_drew ?_ | refine blk_alloc ?_ _)); refine blk_put (cs := #[.int .i64 0, .int .i64 0, .int .i64 0, .slice none 0 0]) ?_ 0 _ rfl; (with_reducible repeat (first | refine blk_drewN ?_ _ | refine blk_drew ?_ | refine blk_alloc ?_ _)); exact BK104.out⟩, ⟨by repeat (first | (with_reducible first | exact HB.out | apply below_alloc | apply pw_below_drewN | apply below_drew1 | refine below_set ?_ GE102.out | refine below_set ?_ GE104.out))⟩⟩
          ·rw [if_neg c15] at H
           have c15b0 : (((rd_T44 l0 x17_1).f1) == ((rd_T44 l1 x17_1).f1)) = false := beq_eq_false_iff_ne.mpr c15
           have c15b1 : (((rd_T44 l0 x17_1).f1) != ((rd_T44 l1 x17_1).f1)) = true := bne_iff_ne.mpr c15
           have H' := Aside0.mk H
           clear H
           have hnb23 := NB102_104.out
           have hnc23 := NB104_102.out
           have hcz24_0 : w11.cell? ⟨gb102, 0, none⟩ = some (.int .i64 ((rd_T44 l0 x17_1).f0)) := (blk_cell BK102.out 0).trans rfl
           have hcz24_1 : w11.cell? ⟨gb102, 1, none⟩ = some (.int .i64 ((rd_T44 l0 x17_1).f1)) := (blk_cell BK102.out 1).trans rfl
           have hcz24_2 : w11.cell? ⟨gb102, 2, none⟩ = some (.int .i64 ((rd_T44 l0 x17_1).f2)) := (blk_cell BK102.out 2).trans rfl
           have hcz24_3 : w11.cell? ⟨gb102, 3, none⟩ = some (.slice A101_3 ((rd_T44 l0 x17_1).f3).length c101_3) := (blk_cell BK102.out 3).trans rfl
           have hfz24_0 := blk_frozen BK102.out 0
           have hfz24_1 := blk_frozen BK102.out 1
           have hfz24_2 := blk_frozen BK102.out 2
           have hfz24_3 := blk_frozen BK102.out 3
           have hcz25_0 : w11.cell? ⟨gb104, 0, none⟩ = some (.int .i64 0) := (blk_cell BK104.out 0).trans rfl
           have hcz25_1 : w11.cell? ⟨gb104, 1, none⟩ = some (.int .i64 0) := (blk_cell BK104.out 1).trans rfl
           have hcz25_2 : w11.cell? ⟨gb104, 2, none⟩ = some (.int .i64 0) := (blk_cell BK104.out 2).trans rfl
           have hcz25_3 : w11.cell? ⟨gb104, 3, none⟩ = some (.slice none 0 0) := (blk_cell BK104.out 3).trans rfl
           have hfz25_0 := blk_frozen BK104.out 0
           have hfz25_1 := blk_frozen BK104.out 1
           have hfz25_2 := blk_frozen BK104.out 2
           have hfz25_3 := blk_frozen BK104.out 3
           go_wp2
           repeat (go_quiet (fail); try go_wp2)
           go_meet
           case rel => exact ⟨_, (true), (by first | rfl | (simp; done) | (simp [*]; done)), H', ⟨by have := HK1.out; first | omega | exact Nat.le_refl _⟩, ⟨by (with_reducible repeat (first | refine blk_drewN ?_ _ | refine blk_drew ?_ | refine blk_alloc ?_ _)); refine blk_far ?_ NB102_104.out _; (with_reducible repeat (first | refine blk_drewN ?_ _ | refine blk_drew ?_ | refine blk_alloc ?_ _)); refine blk_far ?_ NB102_104.out _; (with_reducible repeat (first | refine blk_drewN ?_ _ | refine blk_drew ?_ | refine blk_alloc ?_ _)); refine blk_far ?_ NB102_104.out _; (with_reducible repeat (first | refine blk_drewN ?_ _ | refine blk_drew ?_ | refine blk_alloc ?_ _)); refine blk_far ?_ NB102_104.out _; (with_reducible repeat (first | refine blk_drewN ?_ _ | refine blk_drew ?_ | refine blk_alloc ?_ _)); exact BK102.out⟩, ⟨by (with_reducible repeat (first | refine blk_drewN ?_ _ | refine blk_drew ?_ | refine blk_alloc ?_ _)); refine blk_put (cs := #[.int .i64 ((rd_T44 l1 x17_1).f0), .int .i64 ((rd_T44 l1 x17_1).f1), .int .i64 ((rd_T44 l1 x17_1).f2), .slice none 0 0]) ?_ 3 _ rfl; (with_reducible repeat (first | refine blk_drewN ?_ _ | refine blk_drew ?_ | refine blk_alloc ?_ _)); refine blk_put (cs := #[.int .i64 ((rd_T44 l1 x17_1).f0), .int .i64 ((rd_T44 l1 x17_1).f1), .int .i64 0, .slice none 0 0]) ?_ 2 _ rfl; (with_reducible repeat (first | refine blk_drewN ?_ _ | refine blk_drew ?_ | refine blk_alloc ?_ _)); refine blk_put (cs := #[.int .i64 ((rd_T44 l1 x17_1).f0), .int .i64 0, .int .i64 0, .slice none 0 0]) ?_ 1 _ rfl; (with_reducible repeat (first | refine blk_drewN ?_ _ | refine blk_drew ?_ | refine blk_alloc ?_ _)); refine blk_put (cs := #[.int .i64 0, .int .i64 0, .int .i64 0, .slice none 0 0]) ?_ 0 _ rfl; (with_reducible repeat (first | refine blk_drewN ?_ _ | refine blk_drew ?_ | refine blk_alloc ?_ _)); exact BK104.out⟩, ⟨by repeat (first | (with_reducible first | exact HB.out | apply below_alloc | apply pw_below_drewN | apply below_drew1 | refine below_set ?_ GE102.out | refine below_set ?_ GE104.out))⟩⟩
         ·rw [if_neg c14] at H
          have c14b0 : (((rd_T44 l0 x17_1).f0) == ((rd_T44 l1 x17_1).f0)) = false := beq_eq_false_iff_ne.mpr c14
          have c14b1 : (((rd_T44 l0 x17_1).f0) != ((rd_T44 l1 x17_1).f0)) = true := bne_iff_ne.mpr c14
          (first | rw [c14b0] | (simp only [i64_w, i32_w]; rw [c14b0]) | skip)
          have H' := Aside0.mk H
          clear H
          have hnb26 := NB102_104.out
          have hnc26 := NB104_102.out
          have hcz27_0 : w11.cell? ⟨gb102, 0, none⟩ = some (.int .i64 ((rd_T44 l0 x17_1).f0)) := (blk_cell BK102.out 0).trans rfl
          have hcz27_1 : w11.cell? ⟨gb102, 1, none⟩ = some (.int .i64 ((rd_T44 l0 x17_1).f1)) := (blk_cell BK102.out 1).trans rfl
          have hcz27_2 : w11.cell? ⟨gb102, 2, none⟩ = some (.int .i64 ((rd_T44 l0 x17_1).f2)) := (blk_cell BK102.out 2).trans rfl
          have hcz27_3 : w11.cell? ⟨gb102, 3, none⟩ = some (.slice A101_3 ((rd_T44 l0 x17_1).f3).length c101_3) := (blk_cell BK102.out 3).trans rfl
          have hfz27_0 := blk_frozen BK102.out 0
          have hfz27_1 := blk_frozen BK102.out 1
          have hfz27_2 := blk_frozen BK102.out 2
          have hfz27_3 := blk_frozen BK102.out 3
          have hcz28_0 : w11.cell? ⟨gb104, 0, none⟩ = some (.int .i64 0) := (blk_cell BK104.out 0).trans rfl
          have hcz28_1 : w11.cell? ⟨gb104, 1, none⟩ = some (.int .i64 0) := (blk_cell BK104.out 1).trans rfl
          have hcz28_2 : w11.cell? ⟨gb104, 2, none⟩ = some (.int .i64 0) := (blk_cell BK104.out 2).trans rfl
          have hcz28_3 : w11.cell? ⟨gb104, 3, none⟩ = some (.slice none 0 0) := (blk_cell BK104.out 3).trans rfl
          have hfz28_0 := blk_frozen BK104.out 0
          have hfz28_1 := blk_frozen BK104.out 1
          have hfz28_2 := blk_frozen BK104.out 2
          have hfz28_3 := blk_frozen BK104.out 3
          go_wp2
          repeat (go_quiet (fail); try go_wp2)
          go_meet
          case rel => exact ⟨_, (true), (by first | rfl | (simp; done) | (simp [*]; done)), H', ⟨by have := HK1.out; first | omega | exact Nat.le_refl _⟩, ⟨by (with_reducible repeat (first | refine blk_drewN ?_ _ | refine blk_drew ?_ | refine blk_alloc ?_ _)); refine blk_far ?_ NB102_104.out _; (with_reducible repeat (first | refine blk_drewN ?_ _ | refine blk_drew ?_ | refine blk_alloc ?_ _)); refine blk_far ?_ NB102_104.out _; (with_reducible repeat (first | refine blk_drewN ?_ _ | refine blk_drew ?_ | refine blk_alloc ?_ _)); refine blk_far ?_ NB102_104.out _; (with_reducible repeat (first | refine blk_drewN ?_ _ | refine blk_drew ?_ | refine blk_alloc ?_ _)); refine blk_far ?_ NB102_104.out _; (with_reducible repeat (first | refine blk_drewN ?_ _ | refine blk_drew ?_ | refine blk_alloc ?_ _)); exact BK102.out⟩, ⟨by (with_reducible repeat (first | refine blk_drewN ?_ _ | refine blk_drew ?_ | refine blk_alloc ?_ _)); refine blk_put (cs := #[.int .i64 ((rd_T44 l1 x17_1).f0), .int .i64 ((rd_T44 l1 x17_1).f1), .int .i64 ((rd_T44 l1 x17_1).f2), .slice none 0 0]) ?_ 3 _ rfl; (with_reducible repeat (first | refine blk_drewN ?_ _ | refine blk_drew ?_ | refine blk_alloc ?_ _)); refine blk_put (cs := #[.int .i64 ((rd_T44 l1 x17_1).f0), .int .i64 ((rd_T44 l1 x17_1).f1), .int .i64 0, .slice none 0 0]) ?_ 2 _ rfl; (with_reducible repeat (first | refine blk_drewN ?_ _ | refine blk_drew ?_ | refine blk_alloc ?_ _)); refine blk_put (cs := #[.int .i64 ((rd_T44 l1 x17_1).f0), .int .i64 0, .int .i64 0, .slice none 0 0]) ?_ 1 _ rfl; (with_reducible repeat (first | refine blk_drewN ?_ _ | refine blk_drew ?_ | refine blk_alloc ?_ _)); refine blk_put (cs := #[.int .i64 0, .int .i64 0, .int .i64 0, .slice none 0 0]) ?_ 0 _ rfl; (with_reducible repeat (first | refine blk_drewN ?_ _ | refine blk_drew ?_ | refine blk_alloc ?_ _)); exact BK104.out⟩, ⟨by repeat (first | (with_reducible first | exact HB.out | apply below_alloc | apply pw_below_drewN | apply below_drew1 | refine below_set ?_ GE102.out | refine below_set ?_ GE104.out))⟩⟩
        case rest =>
         clear HC8
         try clear c1
         try clear p1
         try clear q1
         try clear hx1
         try clear c2
         try clear p2
         try clear c3
         try clear c3b0
         try clear c3b1
         try clear c3b2
         try clear c4
         try clear c4b0
         try clear c5
         try clear c5b0
         try clear c6
         try clear c6b0
         try clear c7
         try clear c7b0
         try clear c10
         try clear p10
         try clear q10
         try clear hx10
         try clear c12
         try clear c14
         try clear c14b0
         try clear c14b1
         try clear c15
         try clear c15b0
         try clear c15b1
         try clear c16
         try clear c16b0
         try clear c16b1
         try clear c17
         try clear c20
         try clear c23
         try clear c26
         try clear hcz10_0
         try clear hcz10_1
         try clear hcz10_2
         try clear hcz10_3
         try clear hcz13_0
         try clear hcz13_1
         try clear hcz13_2
         try clear hcz13_3
         try clear hcz18_0
         try clear hcz18_1
         try clear hcz18_2
         try clear hcz18_3
         try clear hcz19_0
         try clear hcz19_1
         try clear hcz19_2
         try clear hcz19_3
         try clear hcz21_0
         try clear hcz21_1
         try clear hcz21_2
         try clear hcz21_3
         try clear hcz22_0
         try clear hcz22_1
         try clear hcz22_2
         try clear hcz22_3
         try clear hcz24_0
         try clear hcz24_1
         try clear hcz24_2
         try clear hcz24_3
         try clear hcz25_0
         try clear hcz25_1
         try clear hcz25_2
         try clear hcz25_3
         try clear hcz27_0
         try clear hcz27_1
         try clear hcz27_2
         try clear hcz27_3
         try clear hcz28_0
         try clear hcz28_1
         try clear hcz28_2
         try clear hcz28_3
         try clear hfz10_0
         try clear hfz10_1
         try clear hfz10_2
         try clear hfz10_3
         try clear hfz13_0
         try clear hfz13_1
         try clear hfz13_2
         try clear hfz13_3
         try clear hfz18_0
         try clear hfz18_1
         try clear hfz18_2
         try clear hfz18_3
         try clear hfz19_0
         try clear hfz19_1
         try clear hfz19_2
         try clear hfz19_3
         try clear hfz21_0
         try clear hfz21_1
         try clear hfz21_2
         try clear hfz21_3
         try clear hfz22_0
         try clear hfz22_1
         try clear hfz22_2
         try clear hfz22_3
         try clear hfz24_0
         try clear hfz24_1
         try clear hfz24_2
         try clear hfz24_3
         try clear hfz25_0
         try clear hfz25_1
         try clear hfz25_2
         try clear hfz25_3
         try clear hfz27_0
         try clear hfz27_1
         try clear hfz27_2
         try clear hfz27_3
         try clear hfz28_0
         try clear hfz28_1
         try clear hfz28_2
         try clear hfz28_3
         try clear hx101_0
         try clear hx101_1
         try clear hx101_2
         try clear hx101_3
         try clear hx103_0
         try clear hx103_1
         try clear hx103_2
         try clear hx103_3
         try clear p101
         try clear p103
         try clear p2
         try clear q101
         try clear q103
         obtain ⟨kq, x53_7, rfl, HA, HJ7, BK102, BK104, HB⟩ := hcut
         cases kq with
         | zero => exact absurd HA.out (by simp [history_Same.j1])
         | succ kj7 =>
          have H := HA.out
          clear HA
          simp only [history_Same.j1] at H
          by_cases c29 : x53_7 = true
          ·subst c29
           have H1 : (some false) = some r := by rw [if_pos rfl] at H; exact H
           clear H
           have H := H1
           clear H1
           obtain rfl := Option.some.inj H
           go_wp2
           repeat (go_quiet (fail); try go_wp2)
           go_ret
           exact ⟨by first | rfl | (simp <;> rfl) | (simp [*] <;> rfl), by repeat (first | (with_reducible first | exact HB.out | apply below_alloc | apply pw_below_drewN | apply below_drew1 | refine below_set ?_ GE102.out | refine below_set ?_ GE104.out))⟩
          ·replace c29 := Bool.eq_false_iff.mpr c29
           subst c29
           have H1 : (history_Same.l1 kj7 l1 l0 (l0.length : Int) x17_1 ((rd_T44 l0 x17_1).f3) (((rd_T44 l0 x17_1).f3).length : Int) 0 ((rd_T44 l1 x17_1).f0) ((rd_T44 l1 x17_1).f1) ((rd_T44 l1 x17_1).f2) ((rd_T44 l1 x17_1).f3)) = some r := by rw [if_neg (show ¬ (false = true) by decide)] at H; exact H
           clear H
           have H := H1
           clear H1
           have H' := Aside0.mk H
           clear H
           have hnb30 := NB102_104.out
           have hnc30 := NB104_102.out
           have hcz31_0 : wc.cell? ⟨gb102, 0, none⟩ = some (.int .i64 ((rd_T44 l0 x17_1).f0)) := (blk_cell BK102.out 0).trans rfl
           have hcz31_1 : wc.cell? ⟨gb102, 1, none⟩ = some (.int .i64 ((rd_T44 l0 x17_1).f1)) := (blk_cell BK102.out 1).trans rfl
           have hcz31_2 : wc.cell? ⟨gb102, 2, none⟩ = some (.int .i64 ((rd_T44 l0 x17_1).f2)) := (blk_cell BK102.out 2).trans rfl
           have hcz31_3 : wc.cell? ⟨gb102, 3, none⟩ = some (.slice A101_3 ((rd_T44 l0 x17_1).f3).length c101_3) := (blk_cell BK102.out 3).trans rfl
           have hfz31_0 := blk_frozen BK102.out 0
           have hfz31_1 := blk_frozen BK102.out 1
           have hfz31_2 := blk_frozen BK102.out 2
           have hfz31_3 := blk_frozen BK102.out 3
           go_wp2
           repeat (go_quiet (fail); try go_wp2)
           go_loopg [57] kj7 (fun kq v57 w' => ∃ (x57_3 : Int), v57 = .int .i64 x57_3 ∧ Aside0 (history_Same.l1 kq l1 l0 (l0.length : Int) x17_1 ((rd_T44 l0 x17_1).f3) (((rd_T44 l0 x17_1).f3).length : Int) x57_3 ((rd_T44 l1 x17_1).f0) ((rd_T44 l1 x17_1).f1) ((rd_T44 l1 x17_1).f2) ((rd_T44 l1 x17_1).f3) = some r) ∧ Aside0 (kq ≤ kj7) ∧ Aside0 (w'.heap[gb102]? = some (.cells #[.int .i64 ((rd_T44 l0 x17_1).f0), .int .i64 ((rd_T44 l0 x17_1).f1), .int .i64 ((rd_T44 l0 x17_1).f2), (.slice A101_3 ((rd_T44 l0 x17_1).f3).length c101_3)] 44 (0, 0))) ∧ Aside0 (w'.heap[gb104]? = some (.cells #[.int .i64 ((rd_T44 l1 x17_1).f0), .int .i64 ((rd_T44 l1 x17_1).f1), .int .i64 ((rd_T44 l1 x17_1).f2), (.slice A103_3 ((rd_T44 l1 x17_1).f3).length c103_3)] 44 (0, 0))) ∧ Aside0 (Below w.heap.size w w'))
           case atStart => exact ⟨(0), (by first | rfl | (simp; done) | (simp [*]; done)), H', ⟨Nat.le_refl _⟩, ⟨by (with_reducible repeat (first | refine blk_drewN ?_ _ | refine blk_drew ?_ | refine blk_alloc ?_ _)); exact BK102.out⟩, ⟨by (with_reducible repeat (first | refine blk_drewN ?_ _ | refine blk_drew ?_ | refine blk_alloc ?_ _)); exact BK104.out⟩, ⟨by repeat (first | (with_reducible first | exact HB.out | apply below_alloc | apply pw_below_drewN | apply below_drew1 | refine below_set ?_ GE102.out | refine below_set ?_ GE104.out))⟩⟩
           case round =>
            clear H'
            try clear c1
            try clear p1
            try clear q1
            try clear hx1
            try clear c2
            try clear p2
            try clear c3
            try clear c3b0
            try clear c3b1
            try clear c3b2
            try clear c4
            try clear c4b0
            try clear c5
            try clear c5b0
            try clear c6
            try clear c6b0
            try clear c7
            try clear c7b0
            try clear c10
            try clear p10
            try clear q10
            try clear hx10
            try clear c12
            try clear c14
            try clear c14b0
            try clear c14b1
            try clear c15
            try clear c15b0
            try clear c15b1
            try clear c16
            try clear c16b0
            try clear c16b1
            try clear c17
            try clear c20
            try clear c23
            try clear c26
            try clear c29
            try clear c30
            try clear hcz10_0
            try clear hcz10_1
            try clear hcz10_2
            try clear hcz10_3
            try clear hcz13_0
            try clear hcz13_1
            try clear hcz13_2
            try clear hcz13_3
            try clear hcz18_0
            try clear hcz18_1
            try clear hcz18_2
            try clear hcz18_3
            try clear hcz19_0
            try clear hcz19_1
            try clear hcz19_2
            try clear hcz19_3
            try clear hcz21_0
            try clear hcz21_1
            try clear hcz21_2
            try clear hcz21_3
            try clear hcz22_0
            try clear hcz22_1
            try clear hcz22_2
            try clear hcz22_3
            try clear hcz24_0
            try clear hcz24_1
            try clear hcz24_2
            try clear hcz24_3
            try clear hcz25_0
            try clear hcz25_1
            try clear hcz25_2
            try clear hcz25_3
            try clear hcz27_0
            try clear hcz27_1
            try clear hcz27_2
            try clear hcz27_3
            try clear hcz28_0
            try clear hcz28_1
            try clear hcz28_2
            try clear hcz28_3
            try clear hcz31_0
            try clear hcz31_1
            try clear hcz31_2
            try clear hcz31_3
            try clear hfz10_0
            try clear hfz10_1
            try clear hfz10_2
            try clear hfz10_3
            try clear hfz13_0
            try clear hfz13_1
            try clear hfz13_2
            try clear hfz13_3
            try clear hfz18_0
            try clear hfz18_1
            try clear hfz18_2
            try clear hfz18_3
            try clear hfz19_0
            try clear hfz19_1
            try clear hfz19_2
            try clear hfz19_3
            try clear hfz21_0
            try clear hfz21_1
            try clear hfz21_2
            try clear hfz21_3
            try clear hfz22_0
            try clear hfz22_1
            try clear hfz22_2
            try clear hfz22_3
            try clear hfz24_0
            try clear hfz24_1
            try clear hfz24_2
            try clear hfz24_3
            try clear hfz25_0
            try clear hfz25_1
            try clear hfz25_2
            try clear hfz25_3
            try clear hfz27_0
            try clear hfz27_1
            try clear hfz27_2
            try clear hfz27_3
            try clear hfz28_0
            try clear hfz28_1
            try clear hfz28_2
            try clear hfz28_3
            try clear hfz31_0
            try clear hfz31_1
            try clear hfz31_2
            try clear hfz31_3
            try clear hx101_0
            try clear hx101_1
            try clear hx101_2
            try clear hx101_3
            try clear hx103_0
            try clear hx103_1
            try clear hx103_2
            try clear hx103_3
            try clear p1
            try clear p10
            try clear p101
            try clear p103
            try clear p2
            try clear q1
            try clear q10
            try clear q101
            try clear q103
            obtain ⟨x57_3, rfl, HA, HK3, BK102, BK104, HB⟩ := hrel
            cases gk with
            | zero => exact absurd HA.out (by simp [history_Same.l1])
            | succ k3 =>
             have H := HA.out
             clear HA
             simp only [history_Same.l1] at H
             by_cases c32 : x57_3 < (((rd_T44 l0 x17_1).f3).length : Int)
             ·rw [if_pos c32] at H
              have c32b0 : decide (x57_3 < (((rd_T44 l0 x17_1).f3).length : Int)) = true := decide_eq_true c32
              clear c32
              by_cases c33 : 0 ≤ x57_3
              ·rw [if_pos c33] at H
               have c33b0 : decide (0 ≤ x57_3) = true := decide_eq_true c33
               clear c33
               by_cases c34 : x57_3 < (((rd_T44 l0 x17_1).f3).length : Int)
               ·rw [if_pos c34] at H
                have c34b0 : decide (x57_3 < (((rd_T44 l0 x17_1).f3).length : Int)) = true := decide_eq_true c34
                clear c34
                by_cases c35 : x57_3 < (((rd_T44 l1 x17_1).f3).length : Int)
                ·rw [if_pos c35] at H
                 have c35b0 : decide (x57_3 < (((rd_T44 l1 x17_1).f3).length : Int)) = true := decide_eq_true c35
                 clear c35
                 by_cases c36 : (!(((rd_T46 ((rd_T44 l1 x17_1).f3) x57_3).f0) == ((rd_T46 ((rd_T44 l0 x17_1).f3) x57_3).f0)) || (!(((rd_T46 ((rd_T44 l1 x17_1).f3) x57_3).f1) == ((rd_T46 ((rd_T44 l0 x17_1).f3) x57_3).f1)) || (!(((rd_T46 ((rd_T44 l1 x17_1).f3) x57_3).f2) == ((rd_T46 ((rd_T44 l0 x17_1).f3) x57_3).f2))))) = true
                 ·rw [if_pos c36] at H
                  have c36b0 : (!(((rd_T46 ((rd_T44 l1 x17_1).f3) x57_3).f0) == ((rd_T46 ((rd_T44 l0 x17_1).f3) x57_3).f0)) || (!(((rd_T46 ((rd_T44 l1 x17_1).f3) x57_3).f1) == ((rd_T46 ((rd_T44 l0 x17_1).f3) x57_3).f1)) || (!(((rd_T46 ((rd_T44 l1 x17_1).f3) x57_3).f2) == ((rd_T46 ((rd_T44 l0 x17_1).f3) x57_3).f2))))) = true := c36
                  clear c36
                  obtain rfl := Option.some.inj H
                  have p105 : 0 ≤ (x57_3 : Int) := of_decide_eq_true (by assumption)
                  have q105 : x57_3 < (((rd_T44 l0 x17_1).f3).length : Int) := of_decide_eq_true (by assumption)
                  obtain ⟨ad105, e105, hx105_0, hx105_1, hx105_2⟩ := at_T46 HR101_3.out x57_3 p105 q105
                  cases e105
                  replace hx105_0 := (HB.out.cell (World.block_lt_of_cell? w _ hx105_0)).trans hx105_0
                  replace hx105_1 := (HB.out.cell (World.block_lt_of_cell? w _ hx105_1)).trans hx105_1
                  replace hx105_2 := (HB.out.cell (World.block_lt_of_cell? w _ hx105_2)).trans hx105_2
                  replace p105 := eq_true p105
                  replace q105 := eq_true q105
                  go_wp2_with (first | ((with_reducible refine gate_dst (N := 9) rfl ?_); (try (refine gate_guard (by rfl) ?_; dsimp only)); refine box_event ?hg (N := 9) ?hd (cs := #[.bool false, .int .i64 0, .int .i64 0]) (t := 46) ?hr ?_; (case hd => rfl); (case hg => rfl); (case hr => first | (go_simp; done) | (go_simp; rfl)); intro gb106 hg w37 hbox hb; have n0_ := Aside0.mk (blk_below (g := gb102) (o := .cells #[.int .i64 ((rd_T44 l0 x17_1).f0), .int .i64 ((rd_T44 l0 x17_1).f1), .int .i64 ((rd_T44 l0 x17_1).f2), .slice (some ad105) ((rd_T44 l0 x17_1).f3).length c101_3] 44 (0, 0)) (by (with_reducible repeat (first | refine blk_drewN ?_ _ | refine blk_drew ?_ | refine blk_alloc ?_ _)); exact BK102.out) hb); have n1_ := Aside0.mk (blk_below (g := gb104) (o := .cells #[.int .i64 ((rd_T44 l1 x17_1).f0), .int .i64 ((rd_T44 l1 x17_1).f1), .int .i64 ((rd_T44 l1 x17_1).f2), .slice A103_3 ((rd_T44 l1 x17_1).f3).length c103_3] 44 (0, 0)) (by (with_reducible repeat (first | refine blk_drewN ?_ _ | refine blk_drew ?_ | refine blk_alloc ?_ _)); exact BK104.out) hb); have n2_ := Aside0.mk (below_step (by repeat (first | (with_reducible first | exact HB.out | apply below_alloc | apply pw_below_drewN | apply below_drew1 | refine below_set ?_ GE102.out | refine below_set ?_ GE104.out))) hb); have n3_ := Aside0.mk (hbox); have n4_ := Aside0.mk ((by rw [hg]; exact (below_size (by repeat (first | (with_reducible first | exact HB.out | apply below_alloc | apply pw_below_drewN | apply below_drew1 | refine below_set ?_ GE102.out | refine below_set ?_ GE104.out)))) : w.heap.size ≤ gb106)); have n5_ := Aside0.mk ((by rw [hg]; exact (below_size (by repeat (first | (with_reducible first | exact HB.out | apply below_alloc | apply pw_below_drewN | apply below_drew1 | refine below_set ?_ GE102.out | refine below_set ?_ GE104.out)))) : w.heap.size ≤ gb106)); have n6_ := Aside0.mk ((by rw [hg]; exact Nat.ne_of_lt (blk_lt (g := gb102) (o := .cells #[.int .i64 ((rd_T44 l0 x17_1).f0), .int .i64 ((rd_T44 l0 x17_1).f1), .int .i64 ((rd_T44 l0 x17_1).f2), .slice (some ad105) ((rd_T44 l0 x17_1).f3).length c101_3] 44 (0, 0)) (by (with_reducible repeat (first | refine blk_drewN ?_ _ | refine blk_drew ?_ | refine blk_alloc ?_ _)); exact BK102.out)) : gb102 ≠ gb106)); have n7_ := Aside0.mk ((by rw [hg]; exact Nat.ne_of_gt (blk_lt (g := gb102) (o := .cells #[.int .i64 ((rd_T44 l0 x17_1).f0), .int .i64 ((rd_T44 l0 x17_1).f1), .int .i64 ((rd_T44 l0 x17_1).f2), .slice (some ad105) ((rd_T44 l0 x17_1).f3).length c101_3] 44 (0, 0)) (by (with_reducible repeat (first | refine blk_drewN ?_ _ | refine blk_drew ?_ | refine blk_alloc ?_ _)); exact BK102.out)) : gb106 ≠ gb102)); have n8_ := Aside0.mk ((by rw [hg]; exact Nat.ne_of_lt (blk_lt (g := gb104) (o := .cells #[.int .i64 ((rd_T44 l1 x17_1).f0), .int .i64 ((rd_T44 l1 x17_1).f1), .int .i64 ((rd_T44 l1 x17_1).f2), .slice A103_3 ((rd_T44 l1 x17_1).f3).length c103_3] 44 (0, 0)) (by (with_reducible repeat (first | refine blk_drewN ?_ _ | refine blk_drew ?_ | refine blk_alloc ?_ _)); exact BK104.out)) : gb104 ≠ gb106)); have n9_ := Aside0.mk ((by rw [hg]; exact Nat.ne_of_gt (blk_lt (g := gb104) (o := .cells #[.int .i64 ((rd_T44 l1 x17_1).f0), .int .i64 ((rd_T44 l1 x17_1).f1), .int .i64 ((rd_T44 l1 x17_1).f2), .slice A103_3 ((rd_T44 l1 x17_1).f3).length c103_3] 44 (0, 0)) (by (with_reducible repeat (first | refine blk_drewN ?_ _ | refine blk_drew ?_ | refine blk_alloc ?_ _)); exact BK104.out)) : gb106 ≠ gb104)); clear BK102; clear BK104; clear HB; have BK102 := n0_; have BK104 := n1_; have HB := n2_; have BK106 := n3_; have GW106 := n4_; have GE106 := n5_; have NB102_106 := n6_; have NB106_102 := n7_; have NB104_106 := n8_; have NB106_104 := n9_; clear n0_ n1_ n2_ n3_ n4_ n5_ n6_ n7_ n8_ n9_; clear hb hbox hg; have hnb38 := NB106_102.out; have hnc38 := NB102_106.out; have hnb39 := NB106_104.out; have hnc39 := NB104_106.out; have hcz40_0 : w37.cell? ⟨gb106, 0, none⟩ = some (.bool false) := (blk_cell BK106.out 0).trans rfl; have hcz40_1 : w37.cell? ⟨gb106, 1, none⟩ = some (.int .i64 0) := (blk_cell BK106.out 1).trans rfl; have hcz40_2 : w37.cell? ⟨gb106, 2, none⟩ = some (.int .i64 0) := (blk_cell BK106.out 2).trans rfl; have hfz40_0 := blk_frozen BK106.out 0; have hfz40_1 := blk_frozen BK106.out 1; have hfz40_2 := blk_frozen BK106.out 2; have hnb41 := NB104_102.out; have hnc41 := NB102_104.out; have hcz42_0 : w37.cell? ⟨gb104, 0, none⟩ = some (.int .i64 ((rd_T44 l1 x17_1).f0)) := (blk_cell BK104.out 0).trans rfl; have hcz42_1 : w37.cell? ⟨gb104, 1, none⟩ = some (.int .i64 ((rd_T44 l1 x17_1).f1)) := (blk_cell BK104.out 1).trans rfl; have hcz42_2 : w37.cell? ⟨gb104, 2, none⟩ = some (.int .i64 ((rd_T44 l1 x17_1).f2)) := (blk_cell BK104.out 2).trans rfl; have hcz42_3 : w37.cell? ⟨gb104, 3, none⟩ = some (.slice A103_3 ((rd_T44 l1 x17_1).f3).length c103_3) := (blk_cell BK104.out 3).trans rfl; have hfz42_0 := blk_frozen BK104.out 0; have hfz42_1 := blk_frozen BK104.out 1; have hfz42_2 := blk_frozen BK104.out 2; have hfz42_3 := blk_frozen BK104.out 3; have p107 : 0 ≤ (x57_3 : Int) := of_decide_eq_true (by assumption); have q107 : x57_3 < (((rd_T44 l1 x17_1).f3).length : Int) := of_decide_eq_true (by assumption); obtain ⟨ad107, e107, hx107_0, hx107_1, hx107_2⟩ := at_T46 HR103_3.out x57_3 p107 q107; cases e107; have hn107_0 : ad107.block ≠ gb106 := Nat.ne_of_lt (Nat.lt_of_lt_of_le (by have := World.block_lt_of_cell? _ _ hx107_0; first | rwa [add_block] at this | exact this) GW106.out); have hn107_1 : ad107.block ≠ gb106 := Nat.ne_of_lt (Nat.lt_of_lt_of_le (by have := World.block_lt_of_cell? _ _ hx107_0; first | rwa [add_block] at this | exact this) GW106.out); have hn107_2 : ad107.block ≠ gb106 := Nat.ne_of_lt (Nat.lt_of_lt_of_le (by have := World.block_lt_of_cell? _ _ hx107_0; first | rwa [add_block] at this | exact this) GW106.out); replace hx107_0 := (HB.out.cell (World.block_lt_of_cell? w _ hx107_0)).trans hx107_0; replace hx107_1 := (HB.out.cell (World.block_lt_of_cell? w _ hx107_1)).trans hx107_1; replace hx107_2 := (HB.out.cell (World.block_lt_of_cell? w _ hx107_2)).trans hx107_2; replace hx107_0 := (cell_far (p := ⟨gb106, 0, none⟩) (by first | (rw [add_block]; exact hn107_0) | (show (Addr.add _ _).block ≠ _; rw [add_block]; exact hn107_0) | exact hn107_0) (.bool ((rd_T46 ((rd_T44 l0 x17_1).f3) x57_3).f0))).trans hx107_0; replace hx107_1 := (cell_far (p := ⟨gb106, 0, none⟩) (by first | (rw [add_block]; exact hn107_0) | (show (Addr.add _ _).block ≠ _; rw [add_block]; exact hn107_0) | exact hn107_0) (.bool ((rd_T46 ((rd_T44 l0 x17_1).f3) x57_3).f0))).trans hx107_1; replace hx107_2 := (cell_far (p := ⟨gb106, 0, none⟩) (by first | (rw [add_block]; exact hn107_0) | (show (Addr.add _ _).block ≠ _; rw [add_block]; exact hn107_0) | exact hn107_0) (.bool ((rd_T46 ((rd_T44 l0 x17_1).f3) x57_3).f0))).trans hx107_2; replace hx107_0 := (cell_far (p := ⟨gb106, 1, none⟩) (by first | (rw [add_block]; exact hn107_1) | (show (Addr.add _ _).block ≠ _; rw [add_block]; exact hn107_1) | exact hn107_1) (.int .i64 ((rd_T46 ((rd_T44 l0 x17_1).f3) x57_3).f1))).trans hx107_0; replace hx107_1 := (cell_far (p := ⟨gb106, 1, none⟩) (by first | (rw [add_block]; exact hn107_1) | (show (Addr.add _ _).block ≠ _; rw [add_block]; exact hn107_1) | exact hn107_1) (.int .i64 ((rd_T46 ((rd_T44 l0 x17_1).f3) x57_3).f1))).trans hx107_1; replace hx107_2 := (cell_far (p := ⟨gb106, 1, none⟩) (by first | (rw [add_block]; exact hn107_1) | (show (Addr.add _ _).block ≠ _; rw [add_block]; exact hn107_1) | exact hn107_1) (.int .i64 ((rd_T46 ((rd_T44 l0 x17_1).f3) x57_3).f1))).trans hx107_2; replace hx107_0 := (cell_far (p := ⟨gb106, 2, none⟩) (by first | (rw [add_block]; exact hn107_2) | (show (Addr.add _ _).block ≠ _; rw [add_block]; exact hn107_2) | exact hn107_2) (.int .i64 ((rd_T46 ((rd_T44 l0 x17_1).f3) x57_3).f2))).trans hx107_0; replace hx107_1 := (cell_far (p := ⟨gb106, 2, none⟩) (by first | (rw [add_block]; exact hn107_2) | (show (Addr.add _ _).block ≠ _; rw [add_block]; exact hn107_2) | exact hn107_2) (.int .i64 ((rd_T46 ((rd_T44 l0 x17_1).f3) x57_3).f2))).trans hx107_1; replace hx107_2 := (cell_far (p := ⟨gb106, 2, none⟩) (by first | (rw [add_block]; exact hn107_2) | (show (Addr.add _ _).block ≠ _; rw [add_block]; exact hn107_2) | exact hn107_2) (.int .i64 ((rd_T46 ((rd_T44 l0 x17_1).f3) x57_3).f2))).trans hx107_2; (try have hy107_0 := fun (n_ : Nat) => (show (((((w37.drewN n_).setCell ⟨gb106, 0, none⟩ (.bool ((rd_T46 ((rd_T44 l0 x17_1).f3) x57_3).f0))).setCell ⟨gb106, 1, none⟩ (.int .i64 ((rd_T46 ((rd_T44 l0 x17_1).f3) x57_3).f1))).setCell ⟨gb106, 2, none⟩ (.int .i64 ((rd_T46 ((rd_T44 l0 x17_1).f3) x57_3).f2)))).cell? _ = some _ from hx107_0)); (try have hy107_1 := fun (n_ : Nat) => (show (((((w37.drewN n_).setCell ⟨gb106, 0, none⟩ (.bool ((rd_T46 ((rd_T44 l0 x17_1).f3) x57_3).f0))).setCell ⟨gb106, 1, none⟩ (.int .i64 ((rd_T46 ((rd_T44 l0 x17_1).f3) x57_3).f1))).setCell ⟨gb106, 2, none⟩ (.int .i64 ((rd_T46 ((rd_T44 l0 x17_1).f3) x57_3).f2)))).cell? _ = some _ from hx107_1)); (try have hy107_2 := fun (n_ : Nat) => (show (((((w37.drewN n_).setCell ⟨gb106, 0, none⟩ (.bool ((rd_T46 ((rd_T44 l0 x17_1).f3) x57_3).f0))).setCell ⟨gb106, 1, none⟩ (.int .i64 ((rd_T46 ((rd_T44 l0 x17_1).f3) x57_3).f1))).setCell ⟨gb106, 2, none⟩ (.int .i64 ((rd_T46 ((rd_T44 l0 x17_1).f3) x57_3).f2)))).cell? _ = some _ from hx107_2)); clear hn107_0; clear hn107_1; clear hn107_2; replace p107 := eq_true p107; replace q107 := eq_true q107))
                  repeat (go_quiet (first | ((with_reducible refine gate_dst (N := 9) rfl ?_); (try (refine gate_guard (by rfl) ?_; dsimp only)); refine box_event ?hg (N := 9) ?hd (cs := #[.bool false, .int .i64 0, .int .i64 0]) (t := 46) ?hr ?_; (case hd => rfl); (case hg => rfl); (case hr => first | (go_simp; done) | (go_simp; rfl)); intro gb106 hg w37 hbox hb; have n0_ := Aside0.mk (blk_below (g := gb102) (o := .cells #[.int .i64 ((rd_T44 l0 x17_1).f0), .int .i64 ((rd_T44 l0 x17_1).f1), .int .i64 ((rd_T44 l0 x17_1).f2), .slice (some ad105) ((rd_T44 l0 x17_1).f3).length c101_3] 44 (0, 0)) (by (with_reducible repeat (first | refine blk_drewN ?_ _ | refine blk_drew ?_ | refine blk_alloc ?_ _)); exact BK102.out) hb); have n1_ := Aside0.mk (blk_below (g := gb104) (o := .cells #[.int .i64 ((rd_T44 l1 x17_1).f0), .int .i64 ((rd_T44 l1 x17_1).f1), .int .i64 ((rd_T44 l1 x17_1).f2), .slice A103_3 ((rd_T44 l1 x17_1).f3).length c103_3] 44 (0, 0)) (by (with_reducible repeat (first | refine blk_drewN ?_ _ | refine blk_drew ?_ | refine blk_alloc ?_ _)); exact BK104.out) hb); have n2_ := Aside0.mk (below_step (by repeat (first | (with_reducible first | exact HB.out | apply below_alloc | apply pw_below_drewN | apply below_drew1 | refine below_set ?_ GE102.out | refine below_set ?_ GE104.out))) hb); have n3_ := Aside0.mk (hbox); have n4_ := Aside0.mk ((by rw [hg]; exact (below_size (by repeat (first | (with_reducible first | exact HB.out | apply below_alloc | apply pw_below_drewN | apply below_drew1 | refine below_set ?_ GE102.out | refine below_set ?_ GE104.out)))) : w.heap.size ≤ gb106)); have n5_ := Aside0.mk ((by rw [hg]; exact (below_size (by repeat (first | (with_reducible first | exact HB.out | apply below_alloc | apply pw_below_drewN | apply below_drew1 | refine below_set ?_ GE102.out | refine below_set ?_ GE104.out)))) : w.heap.size ≤ gb106)); have n6_ := Aside0.mk ((by rw [hg]; exact Nat.ne_of_lt (blk_lt (g := gb102) (o := .cells #[.int .i64 ((rd_T44 l0 x17_1).f0), .int .i64 ((rd_T44 l0 x17_1).f1), .int .i64 ((rd_T44 l0 x17_1).f2), .slice (some ad105) ((rd_T44 l0 x17_1).f3).length c101_3] 44 (0, 0)) (by (with_reducible repeat (first | refine blk_drewN ?_ _ | refine blk_drew ?_ | refine blk_alloc ?_ _)); exact BK102.out)) : gb102 ≠ gb106)); have n7_ := Aside0.mk ((by rw [hg]; exact Nat.ne_of_gt (blk_lt (g := gb102) (o := .cells #[.int .i64 ((rd_T44 l0 x17_1).f0), .int .i64 ((rd_T44 l0 x17_1).f1), .int .i64 ((rd_T44 l0 x17_1).f2), .slice (some ad105) ((rd_T44 l0 x17_1).f3).length c101_3] 44 (0, 0)) (by (with_reducible repeat (first | refine blk_drewN ?_ _ | refine blk_drew ?_ | refine blk_alloc ?_ _)); exact BK102.out)) : gb106 ≠ gb102)); have n8_ := Aside0.mk ((by rw [hg]; exact Nat.ne_of_lt (blk_lt (g := gb104) (o := .cells #[.int .i64 ((rd_T44 l1 x17_1).f0), .int .i64 ((rd_T44 l1 x17_1).f1), .int .i64 ((rd_T44 l1 x17_1).f2), .slice A103_3 ((rd_T44 l1 x17_1).f3).length c103_3] 44 (0, 0)) (by (with_reducible repeat (first | refine blk_drewN ?_ _ | refine blk_drew ?_ | refine blk_alloc ?_ _)); exact BK104.out)) : gb104 ≠ gb106)); have n9_ := Aside0.mk ((by rw [hg]; exact Nat.ne_of_gt (blk_lt (g := gb104) (o := .cells #[.int .i64 ((rd_T44 l1 x17_1).f0), .int .i64 ((rd_T44 l1 x17_1).f1), .int .i64 ((rd_T44 l1 x17_1).f2), .slice A103_3 ((rd_T44 l1 x17_1).f3).length c103_3] 44 (0, 0)) (by (with_reducible repeat (first | refine blk_drewN ?_ _ | refine blk_drew ?_ | refine blk_alloc ?_ _)); exact BK104.out)) : gb106 ≠ gb104)); clear BK102; clear BK104; clear HB; have BK102 := n0_; have BK104 := n1_; have HB := n2_; have BK106 := n3_; have GW106 := n4_; have GE106 := n5_; have NB102_106 := n6_; have NB106_102 := n7_; have NB104_106 := n8_; have NB106_104 := n9_; clear n0_ n1_ n2_ n3_ n4_ n5_ n6_ n7_ n8_ n9_; clear hb hbox hg; have hnb38 := NB106_102.out; have hnc38 := NB102_106.out; have hnb39 := NB106_104.out; have hnc39 := NB104_106.out; have hcz40_0 : w37.cell? ⟨gb106, 0, none⟩ = some (.bool false) := (blk_cell BK106.out 0).trans rfl; have hcz40_1 : w37.cell? ⟨gb106, 1, none⟩ = some (.int .i64 0) := (blk_cell BK106.out 1).trans rfl; have hcz40_2 : w37.cell? ⟨gb106, 2, none⟩ = some (.int .i64 0) := (blk_cell BK106.out 2).trans rfl; have hfz40_0 := blk_frozen BK106.out 0; have hfz40_1 := blk_frozen BK106.out 1; have hfz40_2 := blk_frozen BK106.out 2; have hnb41 := NB104_102.out; have hnc41 := NB102_104.out; have hcz42_0 : w37.cell? ⟨gb104, 0, none⟩ = some (.int .i64 ((rd_T44 l1 x17_1).f0)) := (blk_cell BK104.out 0).trans rfl; have hcz42_1 : w37.cell? ⟨gb104, 1, none⟩ = some (.int .i64 ((rd_T44 l1 x17_1).f1)) := (blk_cell BK104.out 1).trans rfl; have hcz42_2 : w37.cell? ⟨gb104, 2, none⟩ = some (.int .i64 ((rd_T44 l1 x17_1).f2)) := (blk_cell BK104.out 2).trans rfl; have hcz42_3 : w37.cell? ⟨gb104, 3, none⟩ = some (.slice A103_3 ((rd_T44 l1 x17_1).f3).length c103_3) := (blk_cell BK104.out 3).trans rfl; have hfz42_0 := blk_frozen BK104.out 0; have hfz42_1 := blk_frozen BK104.out 1; have hfz42_2 := blk_frozen BK104.out 2; have hfz42_3 := blk_frozen BK104.out 3; have p107 : 0 ≤ (x57_3 : Int) := of_decide_eq_true (by assumption); have q107 : x57_3 < (((rd_T44 l1 x17_1).f3).length : Int) := of_decide_eq_true (by assumption); obtain ⟨ad107, e107, hx107_0, hx107_1, hx107_2⟩ := at_T46 HR103_3.out x57_3 p107 q107; cases e107; have hn107_0 : ad107.block ≠ gb106 := Nat.ne_of_lt (Nat.lt_of_lt_of_le (by have := World.block_lt_of_cell? _ _ hx107_0; first | rwa [add_block] at this | exact this) GW106.out); have hn107_1 : ad107.block ≠ gb106 := Nat.ne_of_lt (Nat.lt_of_lt_of_le (by have := World.block_lt_of_cell? _ _ hx107_0; first | rwa [add_block] at this | exact this) GW106.out); have hn107_2 : ad107.block ≠ gb106 := Nat.ne_of_lt (Nat.lt_of_lt_of_le (by have := World.block_lt_of_cell? _ _ hx107_0; first | rwa [add_block] at this | exact this) GW106.out); replace hx107_0 := (HB.out.cell (World.block_lt_of_cell? w _ hx107_0)).trans hx107_0; replace hx107_1 := (HB.out.cell (World.block_lt_of_cell? w _ hx107_1)).trans hx107_1; replace hx107_2 := (HB.out.cell (World.block_lt_of_cell? w _ hx107_2)).trans hx107_2; replace hx107_0 := (cell_far (p := ⟨gb106, 0, none⟩) (by first | (rw [add_block]; exact hn107_0) | (show (Addr.add _ _).block ≠ _; rw [add_block]; exact hn107_0) | exact hn107_0) (.bool ((rd_T46 ((rd_T44 l0 x17_1).f3) x57_3).f0))).trans hx107_0; replace hx107_1 := (cell_far (p := ⟨gb106, 0, none⟩) (by first | (rw [add_block]; exact hn107_0) | (show (Addr.add _ _).block ≠ _; rw [add_block]; exact hn107_0) | exact hn107_0) (.bool ((rd_T46 ((rd_T44 l0 x17_1).f3) x57_3).f0))).trans hx107_1; replace hx107_2 := (cell_far (p := ⟨gb106, 0, none⟩) (by first | (rw [add_block]; exact hn107_0) | (show (Addr.add _ _).block ≠ _; rw [add_block]; exact hn107_0) | exact hn107_0) (.bool ((rd_T46 ((rd_T44 l0 x17_1).f3) x57_3).f0))).trans hx107_2; replace hx107_0 := (cell_far (p := ⟨gb106, 1, none⟩) (by first | (rw [add_block]; exact hn107_1) | (show (Addr.add _ _).block ≠ _; rw [add_block]; exact hn107_1) | exact hn107_1) (.int .i64 ((rd_T46 ((rd_T44 l0 x17_1).f3) x57_3).f1))).trans hx107_0; replace hx107_1 := (cell_far (p := ⟨gb106, 1, none⟩) (by first | (rw [add_block]; exact hn107_1) | (show (Addr.add _ _).block ≠ _; rw [add_block]; exact hn107_1) | exact hn107_1) (.int .i64 ((rd_T46 ((rd_T44 l0 x17_1).f3) x57_3).f1))).trans hx107_1; replace hx107_2 := (cell_far (p := ⟨gb106, 1, none⟩) (by first | (rw [add_block]; exact hn107_1) | (show (Addr.add _ _).block ≠ _; rw [add_block]; exact hn107_1) | exact hn107_1) (.int .i64 ((rd_T46 ((rd_T44 l0 x17_1).f3) x57_3).f1))).trans hx107_2; replace hx107_0 := (cell_far (p := ⟨gb106, 2, none⟩) (by first | (rw [add_block]; exact hn107_2) | (show (Addr.add _ _).block ≠ _; rw [add_block]; exact hn107_2) | exact hn107_2) (.int .i64 ((rd_T46 ((rd_T44 l0 x17_1).f3) x57_3).f2))).trans hx107_0; replace hx107_1 := (cell_far (p := ⟨gb106, 2, none⟩) (by first | (rw [add_block]; exact hn107_2) | (show (Addr.add _ _).block ≠ _; rw [add_block]; exact hn107_2) | exact hn107_2) (.int .i64 ((rd_T46 ((rd_T44 l0 x17_1).f3) x57_3).f2))).trans hx107_1; replace hx107_2 := (cell_far (p := ⟨gb106, 2, none⟩) (by first | (rw [add_block]; exact hn107_2) | (show (Addr.add _ _).block ≠ _; rw [add_block]; exact hn107_2) | exact hn107_2) (.int .i64 ((rd_T46 ((rd_T44 l0 x17_1).f3) x57_3).f2))).trans hx107_2; (try have hy107_0 := fun (n_ : Nat) => (show (((((w37.drewN n_).setCell ⟨gb106, 0, none⟩ (.bool ((rd_T46 ((rd_T44 l0 x17_1).f3) x57_3).f0))).setCell ⟨gb106, 1, none⟩ (.int .i64 ((rd_T46 ((rd_T44 l0 x17_1).f3) x57_3).f1))).setCell ⟨gb106, 2, none⟩ (.int .i64 ((rd_T46 ((rd_T44 l0 x17_1).f3) x57_3).f2)))).cell? _ = some _ from hx107_0)); (try have hy107_1 := fun (n_ : Nat) => (show (((((w37.drewN n_).setCell ⟨gb106, 0, none⟩ (.bool ((rd_T46 ((rd_T44 l0 x17_1).f3) x57_3).f0))).setCell ⟨gb106, 1, none⟩ (.int .i64 ((rd_T46 ((rd_T44 l0 x17_1).f3) x57_3).f1))).setCell ⟨gb106, 2, none⟩ (.int .i64 ((rd_T46 ((rd_T44 l0 x17_1).f3) x57_3).f2)))).cell? _ = some _ from hx107_1)); (try have hy107_2 := fun (n_ : Nat) => (show (((((w37.drewN n_).setCell ⟨gb106, 0, none⟩ (.bool ((rd_T46 ((rd_T44 l0 x17_1).f3) x57_3).f0))).setCell ⟨gb106, 1, none⟩ (.int .i64 ((rd_T46 ((rd_T44 l0 x17_1).f3) x57_3).f1))).setCell ⟨gb106, 2, none⟩ (.int .i64 ((rd_T46 ((rd_T44 l0 x17_1).f3) x57_3).f2)))).cell? _ = some _ from hx107_2)); clear hn107_0; clear hn107_1; clear hn107_2; replace p107 := eq_true p107; replace q107 := eq_true q107)); try go_wp2_with (first | ((with_reducible refine gate_dst (N := 9) rfl ?_); (try (refine gate_guard (by rfl) ?_; dsimp only)); refine box_event ?hg (N := 9) ?hd (cs := #[.bool false, .int .i64 0, .int .i64 0]) (t := 46) ?hr ?_; (case hd => rfl); (case hg => rfl); (case hr => first | (go_simp; done) | (go_simp; rfl)); intro gb106 hg w37 hbox hb; have n0_ := Aside0.mk (blk_below (g := gb102) (o := .cells #[.int .i64 ((rd_T44 l0 x17_1).f0), .int .i64 ((rd_T44 l0 x17_1).f1), .int .i64 ((rd_T44 l0 x17_1).f2), .slice (some ad105) ((rd_T44 l0 x17_1).f3).length c101_3] 44 (0, 0)) (by (with_reducible repeat (first | refine blk_drewN ?_ _ | refine blk_drew ?_ | refine blk_alloc ?_ _)); exact BK102.out) hb); have n1_ := Aside0.mk (blk_below (g := gb104) (o := .cells #[.int .i64 ((rd_T44 l1 x17_1).f0), .int .i64 ((rd_T44 l1 x17_1).f1), .int .i64 ((rd_T44 l1 x17_1).f2), .slice A103_3 ((rd_T44 l1 x17_1).f3).length c103_3] 44 (0, 0)) (by (with_reducible repeat (first | refine blk_drewN ?_ _ | refine blk_drew ?_ | refine blk_alloc ?_ _)); exact BK104.out) hb); have n2_ := Aside0.mk (below_step (by repeat (first | (with_reducible first | exact HB.out | apply below_alloc | apply pw_below_drewN | apply below_drew1 | refine below_set ?_ GE102.out | refine below_set ?_ GE104.out))) hb); have n3_ := Aside0.mk (hbox); have n4_ := Aside0.mk ((by rw [hg]; exact (below_size (by repeat (first | (with_reducible first | exact HB.out | apply below_alloc | apply pw_below_drewN | apply below_drew1 | refine below_set ?_ GE102.out | refine below_set ?_ GE104.out)))) : w.heap.size ≤ gb106)); have n5_ := Aside0.mk ((by rw [hg]; exact (below_size (by repeat (first | (with_reducible first | exact HB.out | apply below_alloc | apply pw_below_drewN | apply below_drew1 | refine below_set ?_ GE102.out | refine below_set ?_ GE104.out)))) : w.heap.size ≤ gb106)); have n6_ := Aside0.mk ((by rw [hg]; exact Nat.ne_of_lt (blk_lt (g := gb102) (o := .cells #[.int .i64 ((rd_T44 l0 x17_1).f0), .int .i64 ((rd_T44 l0 x17_1).f1), .int .i64 ((rd_T44 l0 x17_1).f2), .slice (some ad105) ((rd_T44 l0 x17_1).f3).length c101_3] 44 (0, 0)) (by (with_reducible repeat (first | refine blk_drewN ?_ _ | refine blk_drew ?_ | refine blk_alloc ?_ _)); exact BK102.out)) : gb102 ≠ gb106)); have n7_ := Aside0.mk ((by rw [hg]; exact Nat.ne_of_gt (blk_lt (g := gb102) (o := .cells #[.int .i64 ((rd_T44 l0 x17_1).f0), .int .i64 ((rd_T44 l0 x17_1).f1), .int .i64 ((rd_T44 l0 x17_1).f2), .slice (some ad105) ((rd_T44 l0 x17_1).f3).length c101_3] 44 (0, 0)) (by (with_reducible repeat (first | refine blk_drewN ?_ _ | refine blk_drew ?_ | refine blk_alloc ?_ _)); exact BK102.out)) : gb106 ≠ gb102)); have n8_ := Aside0.mk ((by rw [hg]; exact Nat.ne_of_lt (blk_lt (g := gb104) (o := .cells #[.int .i64 ((rd_T44 l1 x17_1).f0), .int .i64 ((rd_T44 l1 x17_1).f1), .int .i64 ((rd_T44 l1 x17_1).f2), .slice A103_3 ((rd_T44 l1 x17_1).f3).length c103_3] 44 (0, 0)) (by (with_reducible repeat (first | refine blk_drewN ?_ _ | refine blk_drew ?_ | refine blk_alloc ?_ _)); exact BK104.out)) : gb104 ≠ gb106)); have n9_ := Aside0.mk ((by rw [hg]; exact Nat.ne_of_gt (blk_lt (g := gb104) (o := .cells #[.int .i64 ((rd_T44 l1 x17_1).f0), .int .i64 ((rd_T44 l1 x17_1).f1), .int .i64 ((rd_T44 l1 x17_1).f2), .slice A103_3 ((rd_T44 l1 x17_1).f3).length c103_3] 44 (0, 0)) (by (with_reducible repeat (first | refine blk_drewN ?_ _ | refine blk_drew ?_ | refine blk_alloc ?_ _)); exact BK104.out)) : gb106 ≠ gb104)); clear BK102; clear BK104; clear HB; have BK102 := n0_; have BK104 := n1_; have HB := n2_; have BK106 := n3_; have GW106 := n4_; have GE106 := n5_; have NB102_106 := n6_; have NB106_102 := n7_; have NB104_106 := n8_; have NB106_104 := n9_; clear n0_ n1_ n2_ n3_ n4_ n5_ n6_ n7_ n8_ n9_; clear hb hbox hg; have hnb38 := NB106_102.out; have hnc38 := NB102_106.out; have hnb39 := NB106_104.out; have hnc39 := NB104_106.out; have hcz40_0 : w37.cell? ⟨gb106, 0, none⟩ = some (.bool false) := (blk_cell BK106.out 0).trans rfl; have hcz40_1 : w37.cell? ⟨gb106, 1, none⟩ = some (.int .i64 0) := (blk_cell BK106.out 1).trans rfl; have hcz40_2 : w37.cell? ⟨gb106, 2, none⟩ = some (.int .i64 0) := (blk_cell BK106.out 2).trans rfl; have hfz40_0 := blk_frozen BK106.out 0; have hfz40_1 := blk_frozen BK106.out 1; have hfz40_2 := blk_frozen BK106.out 2; have hnb41 := NB104_102.out; have hnc41 := NB102_104.out; have hcz42_0 : w37.cell? ⟨gb104, 0, none⟩ = some (.int .i64 ((rd_T44 l1 x17_1).f0)) := (blk_cell BK104.out 0).trans rfl; have hcz42_1 : w37.cell? ⟨gb104, 1, none⟩ = some (.int .i64 ((rd_T44 l1 x17_1).f1)) := (blk_cell BK104.out 1).trans rfl; have hcz42_2 : w37.cell? ⟨gb104, 2, none⟩ = some (.int .i64 ((rd_T44 l1 x17_1).f2)) := (blk_cell BK104.out 2).trans rfl; have hcz42_3 : w37.cell? ⟨gb104, 3, none⟩ = some (.slice A103_3 ((rd_T44 l1 x17_1).f3).length c103_3) := (blk_cell BK104.out 3).trans rfl; have hfz42_0 := blk_frozen BK104.out 0; have hfz42_1 := blk_frozen BK104.out 1; have hfz42_2 := blk_frozen BK104.out 2; have hfz42_3 := blk_frozen BK104.out 3; have p107 : 0 ≤ (x57_3 : Int) := of_decide_eq_true (by assumption); have q107 : x57_3 < (((rd_T44 l1 x17_1).f3).length : Int) := of_decide_eq_true (by assumption); obtain ⟨ad107, e107, hx107_0, hx107_1, hx107_2⟩ := at_T46 HR103_3.out x57_3 p107 q107; cases e107; have hn107_0 : ad107.block ≠ gb106 := Nat.ne_of_lt (Nat.lt_of_lt_of_le (by have := World.block_lt_of_cell? _ _ hx107_0; first | rwa [add_block] at this | exact this) GW106.out); have hn107_1 : ad107.block ≠ gb106 := Nat.ne_of_lt (Nat.lt_of_lt_of_le (by have := World.block_lt_of_cell? _ _ hx107_0; first | rwa [add_block] at this | exact this) GW106.out); have hn107_2 : ad107.block ≠ gb106 := Nat.ne_of_lt (Nat.lt_of_lt_of_le (by have := World.block_lt_of_cell? _ _ hx107_0; first | rwa [add_block] at this | exact this) GW106.out); replace hx107_0 := (HB.out.cell (World.block_lt_of_cell? w _ hx107_0)).trans hx107_0; replace hx107_1 := (HB.out.cell (World.block_lt_of_cell? w _ hx107_1)).trans hx107_1; replace hx107_2 := (HB.out.cell (World.block_lt_of_cell? w _ hx107_2)).trans hx107_2; replace hx107_0 := (cell_far (p := ⟨gb106, 0, none⟩) (by first | (rw [add_block]; exact hn107_0) | (show (Addr.add _ _).block ≠ _; rw [add_block]; exact hn107_0) | exact hn107_0) (.bool ((rd_T46 ((rd_T44 l0 x17_1).f3) x57_3).f0))).trans hx107_0; replace hx107_1 := (cell_far (p := ⟨gb106, 0, none⟩) (by first | (rw [add_block]; exact hn107_0) | (show (Addr.add _ _).block ≠ _; rw [add_block]; exact hn107_0) | exact hn107_0) (.bool ((rd_T46 ((rd_T44 l0 x17_1).f3) x57_3).f0))).trans hx107_1; replace hx107_2 := (cell_far (p := ⟨gb106, 0, none⟩) (by first | (rw [add_block]; exact hn107_0) | (show (Addr.add _ _).block ≠ _; rw [add_block]; exact hn107_0) | exact hn107_0) (.bool ((rd_T46 ((rd_T44 l0 x17_1).f3) x57_3).f0))).trans hx107_2; replace hx107_0 := (cell_far (p := ⟨gb106, 1, none⟩) (by first | (rw [add_block]; exact hn107_1) | (show (Addr.add _ _).block ≠ _; rw [add_block]; exact hn107_1) | exact hn107_1) (.int .i64 ((rd_T46 ((rd_T44 l0 x17_1).f3) x57_3).f1))).trans hx107_0; replace hx107_1 := (cell_far (p := ⟨gb106, 1, none⟩) (by first | (rw [add_block]; exact hn107_1) | (show (Addr.add _ _).block ≠ _; rw [add_block]; exact hn107_1) | exact hn107_1) (.int .i64 ((rd_T46 ((rd_T44 l0 x17_1).f3) x57_3).f1))).trans hx107_1; replace hx107_2 := (cell_far (p := ⟨gb106, 1, none⟩) (by first | (rw [add_block]; exact hn107_1) | (show (Addr.add _ _).block ≠ _; rw [add_block]; exact hn107_1) | exact hn107_1) (.int .i64 ((rd_T46 ((rd_T44 l0 x17_1).f3) x57_3).f1))).trans hx107_2; replace hx107_0 := (cell_far (p := ⟨gb106, 2, none⟩) (by first | (rw [add_block]; exact hn107_2) | (show (Addr.add _ _).block ≠ _; rw [add_block]; exact hn107_2) | exact hn107_2) (.int .i64 ((rd_T46 ((rd_T44 l0 x17_1).f3) x57_3).f2))).trans hx107_0; replace hx107_1 := (cell_far (p := ⟨gb106, 2, none⟩) (by first | (rw [add_block]; exact hn107_2) | (show (Addr.add _ _).block ≠ _; rw [add_block]; exact hn107_2) | exact hn107_2) (.int .i64 ((rd_T46 ((rd_T44 l0 x17_1).f3) x57_3).f2))).trans hx107_1; replace hx107_2 := (cell_far (p := ⟨gb106, 2, none⟩) (by first | (rw [add_block]; exact hn107_2) | (show (Addr.add _ _).block ≠ _; rw [add_block]; exact hn107_2) | exact hn107_2) (.int .i64 ((rd_T46 ((rd_T44 l0 x17_1).f3) x57_3).f2))).trans hx107_2; (try have hy107_0 := fun (n_ : Nat) => (show (((((w37.drewN n_).setCell ⟨gb106, 0, none⟩ (.bool ((rd_T46 ((rd_T44 l0 x17_1).f3) x57_3).f0))).setCell ⟨gb106, 1, none⟩ (.int .i64 ((rd_T46 ((rd_T44 l0 x17_1).f3) x57_3).f1))).setCell ⟨gb106, 2, none⟩ (.int .i64 ((rd_T46 ((rd_T44 l0 x17_1).f3) x57_3).f2)))).cell? _ = some _ from hx107_0)); (try have hy107_1 := fun (n_ : Nat) => (show (((((w37.drewN n_).setCell ⟨gb106, 0, none⟩ (.bool ((rd_T46 ((rd_T44 l0 x17_1).f3) x57_3).f0))).setCell ⟨gb106, 1, none⟩ (.int .i64 ((rd_T46 ((rd_T44 l0 x17_1).f3) x57_3).f1))).setCell ⟨gb106, 2, none⟩ (.int .i64 ((rd_T46 ((rd_T44 l0 x17_1).f3) x57_3).f2)))).cell? _ = some _ from hx107_1)); (try have hy107_2 := fun (n_ : Nat) => (show (((((w37.drewN n_).setCell ⟨gb106, 0, none⟩ (.bool ((rd_T46 ((rd_T44 l0 x17_1).f3) x57_3).f0))).setCell ⟨gb106, 1, none⟩ (.int .i64 ((rd_T46 ((rd_T44 l0 x17_1).f3) x57_3).f1))).setCell ⟨gb106, 2, none⟩ (.int .i64 ((rd_T46 ((rd_T44 l0 x17_1).f3) x57_3).f2)))).cell? _ = some _ from hx107_2)); clear hn107_0; clear hn107_1; clear hn107_2; replace p107 := eq_true p107; replace q107 := eq_true q107)))
                  go_ret
                  exact ⟨by first | rfl | (simp <;> rfl) | (simp [*] <;> rfl), by repeat (first | (with_reducible first | exact HB.out | apply below_alloc | apply pw_below_drewN | apply below_drew1 | refine below_set ?_ GE102.out | refine below_set ?_ GE104.out | refine below_set ?_ GE106.out))⟩
                 ·rw [if_neg c36] at H
                  have c36b0 : (!(((rd_T46 ((rd_T44 l1 x17_1).f3) x57_3).f0) == ((rd_T46 ((rd_T44 l0 x17_1).f3) x57_3).f0)) || (!(((rd_T46 ((rd_T44 l1 x17_1).f3) x57_3).f1) == ((rd_T46 ((rd_T44 l0 x17_1).f3) x57_3).f1)) || (!(((rd_T46 ((rd_T44 l1 x17_1).f3) x57_3).f2) == ((rd_T46 ((rd_T44 l0 x17_1).f3) x57_3).f2))))) = false := by simpa using c36
                  clear c36
                  have H' := Aside0.mk H
                  clear H
                  have p105 : 0 ≤ (x57_3 : Int) := of_decide_eq_true (by assumption)
                  have q105 : x57_3 < (((rd_T44 l0 x17_1).f3).length : Int) := of_decide_eq_true (by assumption)
                  obtain ⟨ad105, e105, hx105_0, hx105_1, hx105_2⟩ := at_T46 HR101_3.out x57_3 p105 q105
                  cases e105
                  replace hx105_0 := (HB.out.cell (World.block_lt_of_cell? w _ hx105_0)).trans hx105_0
                  replace hx105_1 := (HB.out.cell (World.block_lt_of_cell? w _ hx105_1)).trans hx105_1
                  replace hx105_2 := (HB.out.cell (World.block_lt_of_cell? w _ hx105_2)).trans hx105_2
                  replace p105 := eq_true p105
                  replace q105 := eq_true q105
                  go_wp2_with (first | ((with_reducible refine gate_dst (N := 9) rfl ?_); (try (refine gate_guard (by rfl) ?_; dsimp only)); refine box_event ?hg (N := 9) ?hd (cs := #[.bool false, .int .i64 0, .int .i64 0]) (t := 46) ?hr ?_; (case hd => rfl); (case hg => rfl); (case hr => first | (go_simp; done) | (go_simp; rfl)); intro gb106 hg w43 hbox hb; have n0_ := Aside0.mk (blk_below (g := gb102) (o := .cells #[.int .i64 ((rd_T44 l0 x17_1).f0), .int .i64 ((rd_T44 l0 x17_1).f1), .int .i64 ((rd_T44 l0 x17_1).f2), .slice (some ad105) ((rd_T44 l0 x17_1).f3).length c101_3] 44 (0, 0)) (by (with_reducible repeat (first | refine blk_drewN ?_ _ | refine blk_drew ?_ | refine blk_alloc ?_ _)); exact BK102.out) hb); have n1_ := Aside0.mk (blk_below (g := gb104) (o := .cells #[.int .i64 ((rd_T44 l1 x17_1).f0), .int .i64 ((rd_T44 l1 x17_1).f1), .int .i64 ((rd_T44 l1 x17_1).f2), .slice A103_3 ((rd_T44 l1 x17_1).f3).length c103_3] 44 (0, 0)) (by (with_reducible repeat (first | refine blk_drewN ?_ _ | refine blk_drew ?_ | refine blk_alloc ?_ _)); exact BK104.out) hb); have n2_ := Aside0.mk (below_step (by repeat (first | (with_reducible first | exact HB.out | apply below_alloc | apply pw_below_drewN | apply below_drew1 | refine below_set ?_ GE102.out | refine below_set ?_ GE104.out))) hb); have n3_ := Aside0.mk (hbox); have n4_ := Aside0.mk ((by rw [hg]; exact (below_size (by repeat (first | (with_reducible first | exact HB.out | apply below_alloc | apply pw_below_drewN | apply below_drew1 | refine below_set ?_ GE102.out | refine below_set ?_ GE104.out)))) : w.heap.size ≤ gb106)); have n5_ := Aside0.mk ((by rw [hg]; exact (below_size (by repeat (first | (with_reducible first | exact HB.out | apply below_alloc | apply pw_below_drewN | apply below_drew1 | refine below_set ?_ GE102.out | refine below_set ?_ GE104.out)))) : w.heap.size ≤ gb106)); have n6_ := Aside0.mk ((by rw [hg]; exact Nat.ne_of_lt (blk_lt (g := gb102) (o := .cells #[.int .i64 ((rd_T44 l0 x17_1).f0), .int .i64 ((rd_T44 l0 x17_1).f1), .int .i64 ((rd_T44 l0 x17_1).f2), .slice (some ad105) ((rd_T44 l0 x17_1).f3).length c101_3] 44 (0, 0)) (by (with_reducible repeat (first | refine blk_drewN ?_ _ | refine blk_drew ?_ | refine blk_alloc ?_ _)); exact BK102.out)) : gb102 ≠ gb106)); have n7_ := Aside0.mk ((by rw [hg]; exact Nat.ne_of_gt (blk_lt (g := gb102) (o := .cells #[.int .i64 ((rd_T44 l0 x17_1).f0), .int .i64 ((rd_T44 l0 x17_1).f1), .int .i64 ((rd_T44 l0 x17_1).f2), .slice (some ad105) ((rd_T44 l0 x17_1).f3).length c101_3] 44 (0, 0)) (by (with_reducible repeat (first | refine blk_drewN ?_ _ | refine blk_drew ?_ | refine blk_alloc ?_ _)); exact BK102.out)) : gb106 ≠ gb102)); have n8_ := Aside0.mk ((by rw [hg]; exact Nat.ne_of_lt (blk_lt (g := gb104) (o := .cells #[.int .i64 ((rd_T44 l1 x17_1).f0), .int .i64 ((rd_T44 l1 x17_1).f1), .int .i64 ((rd_T44 l1 x17_1).f2), .slice A103_3 ((rd_T44 l1 x17_1).f3).length c103_3] 44 (0, 0)) (by (with_reducible repeat (first | refine blk_drewN ?_ _ | refine blk_drew ?_ | refine blk_alloc ?_ _)); exact BK104.out)) : gb104 ≠ gb106)); have n9_ := Aside0.mk ((by rw [hg]; exact Nat.ne_of_gt (blk_lt (g := gb104) (o := .cells #[.int .i64 ((rd_T44 l1 x17_1).f0), .int .i64 ((rd_T44 l1 x17_1).f1), .int .i64 ((rd_T44 l1 x17_1).f2), .slice A103_3 ((rd_T44 l1 x17_1).f3).length c103_3] 44 (0, 0)) (by (with_reducible repeat (first | refine blk_drewN ?_ _ | refine blk_drew ?_ | refine blk_alloc ?_ _)); exact BK104.out)) : gb106 ≠ gb104)); clear BK102; clear BK104; clear HB; have BK102 := n0_; have BK104 := n1_; have HB := n2_; have BK106 := n3_; have GW106 := n4_; have GE106 := n5_; have NB102_106 := n6_; have NB106_102 := n7_; have NB104_106 := n8_; have NB106_104 := n9_; clear n0_ n1_ n2_ n3_ n4_ n5_ n6_ n7_ n8_ n9_; clear hb hbox hg; have hnb44 := NB106_102.out; have hnc44 := NB102_106.out; have hnb45 := NB106_104.out; have hnc45 := NB104_106.out; have hcz46_0 : w43.cell? ⟨gb106, 0, none⟩ = some (.bool false) := (blk_cell BK106.out 0).trans rfl; have hcz46_1 : w43.cell? ⟨gb106, 1, none⟩ = some (.int .i64 0) := (blk_cell BK106.out 1).trans rfl; have hcz46_2 : w43.cell? ⟨gb106, 2, none⟩ = some (.int .i64 0) := (blk_cell BK106.out 2).trans rfl; have hfz46_0 := blk_frozen BK106.out 0; have hfz46_1 := blk_frozen BK106.out 1; have hfz46_2 := blk_frozen BK106.out 2; have hnb47 := NB104_102.out; have hnc47 := NB102_104.out; have hcz48_0 : w43.cell? ⟨gb104, 0, none⟩ = some (.int .i64 ((rd_T44 l1 x17_1).f0)) := (blk_cell BK104.out 0).trans rfl; have hcz48_1 : w43.cell? ⟨gb104, 1, none⟩ = some (.int .i64 ((rd_T44 l1 x17_1).f1)) := (blk_cell BK104.out 1).trans rfl; have hcz48_2 : w43.cell? ⟨gb104, 2, none⟩ = some (.int .i64 ((rd_T44 l1 x17_1).f2)) := (blk_cell BK104.out 2).trans rfl; have hcz48_3 : w43.cell? ⟨gb104, 3, none⟩ = some (.slice A103_3 ((rd_T44 l1 x17_1).f3).length c103_3) := (blk_cell BK104.out 3).trans rfl; have hfz48_0 := blk_frozen BK104.out 0; have hfz48_1 := blk_frozen BK104.out 1; have hfz48_2 := blk_frozen BK104.out 2; have hfz48_3 := blk_frozen BK104.out 3; have p107 : 0 ≤ (x57_3 : Int) := of_decide_eq_true (by assumption); have q107 : x57_3 < (((rd_T44 l1 x17_1).f3).length : Int) := of_decide_eq_true (by assumption); obtain ⟨ad107, e107, hx107_0, hx107_1, hx107_2⟩ := at_T46 HR103_3.out x57_3 p107 q107; cases e107; have hn107_0 : ad107.block ≠ gb106 := Nat.ne_of_lt (Nat.lt_of_lt_of_le (by have := World.block_lt_of_cell? _ _ hx107_0; first | rwa [add_block] at this | exact this) GW106.out); have hn107_1 : ad107.block ≠ gb106 := Nat.ne_of_lt (Nat.lt_of_lt_of_le (by have := World.block_lt_of_cell? _ _ hx107_0; first | rwa [add_block] at this | exact this) GW106.out); have hn107_2 : ad107.block ≠ gb106 := Nat.ne_of_lt (Nat.lt_of_lt_of_le (by have := World.block_lt_of_cell? _ _ hx107_0; first | rwa [add_block] at this | exact this) GW106.out); replace hx107_0 := (HB.out.cell (World.block_lt_of_cell? w _ hx107_0)).trans hx107_0; replace hx107_1 := (HB.out.cell (World.block_lt_of_cell? w _ hx107_1)).trans hx107_1; replace hx107_2 := (HB.out.cell (World.block_lt_of_cell? w _ hx107_2)).trans hx107_2; replace hx107_0 := (cell_far (p := ⟨gb106, 0, none⟩) (by first | (rw [add_block]; exact hn107_0) | (show (Addr.add _ _).block ≠ _; rw [add_block]; exact hn107_0) | exact hn107_0) (.bool ((rd_T46 ((rd_T44 l0 x17_1).f3) x57_3).f0))).trans hx107_0; replace hx107_1 := (cell_far (p := ⟨gb106, 0, none⟩) (by first | (rw [add_block]; exact hn107_0) | (show (Addr.add _ _).block ≠ _; rw [add_block]; exact hn107_0) | exact hn107_0) (.bool ((rd_T46 ((rd_T44 l0 x17_1).f3) x57_3).f0))).trans hx107_1; replace hx107_2 := (cell_far (p := ⟨gb106, 0, none⟩) (by first | (rw [add_block]; exact hn107_0) | (show (Addr.add _ _).block ≠ _; rw [add_block]; exact hn107_0) | exact hn107_0) (.bool ((rd_T46 ((rd_T44 l0 x17_1).f3) x57_3).f0))).trans hx107_2; replace hx107_0 := (cell_far (p := ⟨gb106, 1, none⟩) (by first | (rw [add_block]; exact hn107_1) | (show (Addr.add _ _).block ≠ _; rw [add_block]; exact hn107_1) | exact hn107_1) (.int .i64 ((rd_T46 ((rd_T44 l0 x17_1).f3) x57_3).f1))).trans hx107_0; replace hx107_1 := (cell_far (p := ⟨gb106, 1, none⟩) (by first | (rw [add_block]; exact hn107_1) | (show (Addr.add _ _).block ≠ _; rw [add_block]; exact hn107_1) | exact hn107_1) (.int .i64 ((rd_T46 ((rd_T44 l0 x17_1).f3) x57_3).f1))).trans hx107_1; replace hx107_2 := (cell_far (p := ⟨gb106, 1, none⟩) (by first | (rw [add_block]; exact hn107_1) | (show (Addr.add _ _).block ≠ _; rw [add_block]; exact hn107_1) | exact hn107_1) (.int .i64 ((rd_T46 ((rd_T44 l0 x17_1).f3) x57_3).f1))).trans hx107_2; replace hx107_0 := (cell_far (p := ⟨gb106, 2, none⟩) (by first | (rw [add_block]; exact hn107_2) | (show (Addr.add _ _).block ≠ _; rw [add_block]; exact hn107_2) | exact hn107_2) (.int .i64 ((rd_T46 ((rd_T44 l0 x17_1).f3) x57_3).f2))).trans hx107_0; replace hx107_1 := (cell_far (p := ⟨gb106, 2, none⟩) (by first | (rw [add_block]; exact hn107_2) | (show (Addr.add _ _).block ≠ _; rw [add_block]; exact hn107_2) | exact hn107_2) (.int .i64 ((rd_T46 ((rd_T44 l0 x17_1).f3) x57_3).f2))).trans hx107_1; replace hx107_2 := (cell_far (p := ⟨gb106, 2, none⟩) (by first | (rw [add_block]; exact hn107_2) | (show (Addr.add _ _).block ≠ _; rw [add_block]; exact hn107_2) | exact hn107_2) (.int .i64 ((rd_T46 ((rd_T44 l0 x17_1).f3) x57_3).f2))).trans hx107_2; (try have hy107_0 := fun (n_ : Nat) => (show (((((w43.drewN n_).setCell ⟨gb106, 0, none⟩ (.bool ((rd_T46 ((rd_T44 l0 x17_1).f3) x57_3).f0))).setCell ⟨gb106, 1, none⟩ (.int .i64 ((rd_T46 ((rd_T44 l0 x17_1).f3) x57_3).f1))).setCell ⟨gb106, 2, none⟩ (.int .i64 ((rd_T46 ((rd_T44 l0 x17_1).f3) x57_3).f2)))).cell? _ = some _ from hx107_0)); (try have hy107_1 := fun (n_ : Nat) => (show (((((w43.drewN n_).setCell ⟨gb106, 0, none⟩ (.bool ((rd_T46 ((rd_T44 l0 x17_1).f3) x57_3).f0))).setCell ⟨gb106, 1, none⟩ (.int .i64 ((rd_T46 ((rd_T44 l0 x17_1).f3) x57_3).f1))).setCell ⟨gb106, 2, none⟩ (.int .i64 ((rd_T46 ((rd_T44 l0 x17_1).f3) x57_3).f2)))).cell? _ = some _ from hx107_1)); (try have hy107_2 := fun (n_ : Nat) => (show (((((w43.drewN n_).setCell ⟨gb106, 0, none⟩ (.bool ((rd_T46 ((rd_T44 l0 x17_1).f3) x57_3).f0))).setCell ⟨gb106, 1, none⟩ (.int .i64 ((rd_T46 ((rd_T44 l0 x17_1).f3) x57_3).f1))).setCell ⟨gb106, 2, none⟩ (.int .i64 ((rd_T46 ((rd_T44 l0 x17_1).f3) x57_3).f2)))).cell? _ = some _ from hx107_2)); clear hn107_0; clear hn107_1; clear hn107_2; replace p107 := eq_true p107; replace q107 := eq_true q107))
                  repeat (go_quiet (first | ((with_reducible refine gate_dst (N := 9) rfl ?_); (try (refine gate_guard (by rfl) ?_; dsimp only)); refine box_event ?hg (N := 9) ?hd (cs := #[.bool false, .int .i64 0, .int .i64 0]) (t := 46) ?hr ?_; (case hd => rfl); (case hg => rfl); (case hr => first | (go_simp; done) | (go_simp; rfl)); intro gb106 hg w43 hbox hb; have n0_ := Aside0.mk (blk_below (g := gb102) (o := .cells #[.int .i64 ((rd_T44 l0 x17_1).f0), .int .i64 ((rd_T44 l0 x17_1).f1), .int .i64 ((rd_T44 l0 x17_1).f2), .slice (some ad105) ((rd_T44 l0 x17_1).f3).length c101_3] 44 (0, 0)) (by (with_reducible repeat (first | refine blk_drewN ?_ _ | refine blk_drew ?_ | refine blk_alloc ?_ _)); exact BK102.out) hb); have n1_ := Aside0.mk (blk_below (g := gb104) (o := .cells #[.int .i64 ((rd_T44 l1 x17_1).f0), .int .i64 ((rd_T44 l1 x17_1).f1), .int .i64 ((rd_T44 l1 x17_1).f2), .slice A103_3 ((rd_T44 l1 x17_1).f3).length c103_3] 44 (0, 0)) (by (with_reducible repeat (first | refine blk_drewN ?_ _ | refine blk_drew ?_ | refine blk_alloc ?_ _)); exact BK104.out) hb); have n2_ := Aside0.mk (below_step (by repeat (first | (with_reducible first | exact HB.out | apply below_alloc | apply pw_below_drewN | apply below_drew1 | refine below_set ?_ GE102.out | refine below_set ?_ GE104.out))) hb); have n3_ := Aside0.mk (hbox); have n4_ := Aside0.mk ((by rw [hg]; exact (below_size (by repeat (first | (with_reducible first | exact HB.out | apply below_alloc | apply pw_below_drewN | apply below_drew1 | refine below_set ?_ GE102.out | refine below_set ?_ GE104.out)))) : w.heap.size ≤ gb106)); have n5_ := Aside0.mk ((by rw [hg]; exact (below_size (by repeat (first | (with_reducible first | exact HB.out | apply below_alloc | apply pw_below_drewN | apply below_drew1 | refine below_set ?_ GE102.out | refine below_set ?_ GE104.out)))) : w.heap.size ≤ gb106)); have n6_ := Aside0.mk ((by rw [hg]; exact Nat.ne_of_lt (blk_lt (g := gb102) (o := .cells #[.int .i64 ((rd_T44 l0 x17_1).f0), .int .i64 ((rd_T44 l0 x17_1).f1), .int .i64 ((rd_T44 l0 x17_1).f2), .slice (some ad105) ((rd_T44 l0 x17_1).f3).length c101_3] 44 (0, 0)) (by (with_reducible repeat (first | refine blk_drewN ?_ _ | refine blk_drew ?_ | refine blk_alloc ?_ _)); exact BK102.out)) : gb102 ≠ gb106)); have n7_ := Aside0.mk ((by rw [hg]; exact Nat.ne_of_gt (blk_lt (g := gb102) (o := .cells #[.int .i64 ((rd_T44 l0 x17_1).f0), .int .i64 ((rd_T44 l0 x17_1).f1), .int .i64 ((rd_T44 l0 x17_1).f2), .slice (some ad105) ((rd_T44 l0 x17_1).f3).length c101_3] 44 (0, 0)) (by (with_reducible repeat (first | refine blk_drewN ?_ _ | refine blk_drew ?_ | refine blk_alloc ?_ _)); exact BK102.out)) : gb106 ≠ gb102)); have n8_ := Aside0.mk ((by rw [hg]; exact Nat.ne_of_lt (blk_lt (g := gb104) (o := .cells #[.int .i64 ((rd_T44 l1 x17_1).f0), .int .i64 ((rd_T44 l1 x17_1).f1), .int .i64 ((rd_T44 l1 x17_1).f2), .slice A103_3 ((rd_T44 l1 x17_1).f3).length c103_3] 44 (0, 0)) (by (with_reducible repeat (first | refine blk_drewN ?_ _ | refine blk_drew ?_ | refine blk_alloc ?_ _)); exact BK104.out)) : gb104 ≠ gb106)); have n9_ := Aside0.mk ((by rw [hg]; exact Nat.ne_of_gt (blk_lt (g := gb104) (o := .cells #[.int .i64 ((rd_T44 l1 x17_1).f0), .int .i64 ((rd_T44 l1 x17_1).f1), .int .i64 ((rd_T44 l1 x17_1).f2), .slice A103_3 ((rd_T44 l1 x17_1).f3).length c103_3] 44 (0, 0)) (by (with_reducible repeat (first | refine blk_drewN ?_ _ | refine blk_drew ?_ | refine blk_alloc ?_ _)); exact BK104.out)) : gb106 ≠ gb104)); clear BK102; clear BK104; clear HB; have BK102 := n0_; have BK104 := n1_; have HB := n2_; have BK106 := n3_; have GW106 := n4_; have GE106 := n5_; have NB102_106 := n6_; have NB106_102 := n7_; have NB104_106 := n8_; have NB106_104 := n9_; clear n0_ n1_ n2_ n3_ n4_ n5_ n6_ n7_ n8_ n9_; clear hb hbox hg; have hnb44 := NB106_102.out; have hnc44 := NB102_106.out; have hnb45 := NB106_104.out; have hnc45 := NB104_106.out; have hcz46_0 : w43.cell? ⟨gb106, 0, none⟩ = some (.bool false) := (blk_cell BK106.out 0).trans rfl; have hcz46_1 : w43.cell? ⟨gb106, 1, none⟩ = some (.int .i64 0) := (blk_cell BK106.out 1).trans rfl; have hcz46_2 : w43.cell? ⟨gb106, 2, none⟩ = some (.int .i64 0) := (blk_cell BK106.out 2).trans rfl; have hfz46_0 := blk_frozen BK106.out 0; have hfz46_1 := blk_frozen BK106.out 1; have hfz46_2 := blk_frozen BK106.out 2; have hnb47 := NB104_102.out; have hnc47 := NB102_104.out; have hcz48_0 : w43.cell? ⟨gb104, 0, none⟩ = some (.int .i64 ((rd_T44 l1 x17_1).f0)) := (blk_cell BK104.out 0).trans rfl; have hcz48_1 : w43.cell? ⟨gb104, 1, none⟩ = some (.int .i64 ((rd_T44 l1 x17_1).f1)) := (blk_cell BK104.out 1).trans rfl; have hcz48_2 : w43.cell? ⟨gb104, 2, none⟩ = some (.int .i64 ((rd_T44 l1 x17_1).f2)) := (blk_cell BK104.out 2).trans rfl; have hcz48_3 : w43.cell? ⟨gb104, 3, none⟩ = some (.slice A103_3 ((rd_T44 l1 x17_1).f3).length c103_3) := (blk_cell BK104.out 3).trans rfl; have hfz48_0 := blk_frozen BK104.out 0; have hfz48_1 := blk_frozen BK104.out 1; have hfz48_2 := blk_frozen BK104.out 2; have hfz48_3 := blk_frozen BK104.out 3; have p107 : 0 ≤ (x57_3 : Int) := of_decide_eq_true (by assumption); have q107 : x57_3 < (((rd_T44 l1 x17_1).f3).length : Int) := of_decide_eq_true (by assumption); obtain ⟨ad107, e107, hx107_0, hx107_1, hx107_2⟩ := at_T46 HR103_3.out x57_3 p107 q107; cases e107; have hn107_0 : ad107.block ≠ gb106 := Nat.ne_of_lt (Nat.lt_of_lt_of_le (by have := World.block_lt_of_cell? _ _ hx107_0; first | rwa [add_block] at this | exact this) GW106.out); have hn107_1 : ad107.block ≠ gb106 := Nat.ne_of_lt (Nat.lt_of_lt_of_le (by have := World.block_lt_of_cell? _ _ hx107_0; first | rwa [add_block] at this | exact this) GW106.out); have hn107_2 : ad107.block ≠ gb106 := Nat.ne_of_lt (Nat.lt_of_lt_of_le (by have := World.block_lt_of_cell? _ _ hx107_0; first | rwa [add_block] at this | exact this) GW106.out); replace hx107_0 := (HB.out.cell (World.block_lt_of_cell? w _ hx107_0)).trans hx107_0; replace hx107_1 := (HB.out.cell (World.block_lt_of_cell? w _ hx107_1)).trans hx107_1; replace hx107_2 := (HB.out.cell (World.block_lt_of_cell? w _ hx107_2)).trans hx107_2; replace hx107_0 := (cell_far (p := ⟨gb106, 0, none⟩) (by first | (rw [add_block]; exact hn107_0) | (show (Addr.add _ _).block ≠ _; rw [add_block]; exact hn107_0) | exact hn107_0) (.bool ((rd_T46 ((rd_T44 l0 x17_1).f3) x57_3).f0))).trans hx107_0; replace hx107_1 := (cell_far (p := ⟨gb106, 0, none⟩) (by first | (rw [add_block]; exact hn107_0) | (show (Addr.add _ _).block ≠ _; rw [add_block]; exact hn107_0) | exact hn107_0) (.bool ((rd_T46 ((rd_T44 l0 x17_1).f3) x57_3).f0))).trans hx107_1; replace hx107_2 := (cell_far (p := ⟨gb106, 0, none⟩) (by first | (rw [add_block]; exact hn107_0) | (show (Addr.add _ _).block ≠ _; rw [add_block]; exact hn107_0) | exact hn107_0) (.bool ((rd_T46 ((rd_T44 l0 x17_1).f3) x57_3).f0))).trans hx107_2; replace hx107_0 := (cell_far (p := ⟨gb106, 1, none⟩) (by first | (rw [add_block]; exact hn107_1) | (show (Addr.add _ _).block ≠ _; rw [add_block]; exact hn107_1) | exact hn107_1) (.int .i64 ((rd_T46 ((rd_T44 l0 x17_1).f3) x57_3).f1))).trans hx107_0; replace hx107_1 := (cell_far (p := ⟨gb106, 1, none⟩) (by first | (rw [add_block]; exact hn107_1) | (show (Addr.add _ _).block ≠ _; rw [add_block]; exact hn107_1) | exact hn107_1) (.int .i64 ((rd_T46 ((rd_T44 l0 x17_1).f3) x57_3).f1))).trans hx107_1; replace hx107_2 := (cell_far (p := ⟨gb106, 1, none⟩) (by first | (rw [add_block]; exact hn107_1) | (show (Addr.add _ _).block ≠ _; rw [add_block]; exact hn107_1) | exact hn107_1) (.int .i64 ((rd_T46 ((rd_T44 l0 x17_1).f3) x57_3).f1))).trans hx107_2; replace hx107_0 := (cell_far (p := ⟨gb106, 2, none⟩) (by first | (rw [add_block]; exact hn107_2) | (show (Addr.add _ _).block ≠ _; rw [add_block]; exact hn107_2) | exact hn107_2) (.int .i64 ((rd_T46 ((rd_T44 l0 x17_1).f3) x57_3).f2))).trans hx107_0; replace hx107_1 := (cell_far (p := ⟨gb106, 2, none⟩) (by first | (rw [add_block]; exact hn107_2) | (show (Addr.add _ _).block ≠ _; rw [add_block]; exact hn107_2) | exact hn107_2) (.int .i64 ((rd_T46 ((rd_T44 l0 x17_1).f3) x57_3).f2))).trans hx107_1; replace hx107_2 := (cell_far (p := ⟨gb106, 2, none⟩) (by first | (rw [add_block]; exact hn107_2) | (show (Addr.add _ _).block ≠ _; rw [add_block]; exact hn107_2) | exact hn107_2) (.int .i64 ((rd_T46 ((rd_T44 l0 x17_1).f3) x57_3).f2))).trans hx107_2; (try have hy107_0 := fun (n_ : Nat) => (show (((((w43.drewN n_).setCell ⟨gb106, 0, none⟩ (.bool ((rd_T46 ((rd_T44 l0 x17_1).f3) x57_3).f0))).setCell ⟨gb106, 1, none⟩ (.int .i64 ((rd_T46 ((rd_T44 l0 x17_1).f3) x57_3).f1))).setCell ⟨gb106, 2, none⟩ (.int .i64 ((rd_T46 ((rd_T44 l0 x17_1).f3) x57_3).f2)))).cell? _ = some _ from hx107_0)); (try have hy107_1 := fun (n_ : Nat) => (show (((((w43.drewN n_).setCell ⟨gb106, 0, none⟩ (.bool ((rd_T46 ((rd_T44 l0 x17_1).f3) x57_3).f0))).setCell ⟨gb106, 1, none⟩ (.int .i64 ((rd_T46 ((rd_T44 l0 x17_1).f3) x57_3).f1))).setCell ⟨gb106, 2, none⟩ (.int .i64 ((rd_T46 ((rd_T44 l0 x17_1).f3) x57_3).f2)))).cell? _ = some _ from hx107_1)); (try have hy107_2 := fun (n_ : Nat) => (show (((((w43.drewN n_).setCell ⟨gb106, 0, none⟩ (.bool ((rd_T46 ((rd_T44 l0 x17_1).f3) x57_3).f0))).setCell ⟨gb106, 1, none⟩ (.int .i64 ((rd_T46 ((rd_T44 l0 x17_1).f3) x57_3).f1))).setCell ⟨gb106, 2, none⟩ (.int .i64 ((rd_T46 ((rd_T44 l0 x17_1).f3) x57_3).f2)))).cell? _ = some _ from hx107_2)); clear hn107_0; clear hn107_1; clear hn107_2; replace p107 := eq_true p107; replace q107 := eq_true q107)); try go_wp2_with (first | ((with_reducible refine gate_dst (N := 9) rfl ?_); (try (refine gate_guard (by rfl) ?_; dsimp only)); refine box_event ?hg (N := 9) ?hd (cs := #[.bool false, .int .i64 0, .int .i64 0]) (t := 46) ?hr ?_; (case hd => rfl); (case hg => rfl); (case hr => first | (go_simp; done) | (go_simp; rfl)); intro gb106 hg w43 hbox hb; have n0_ := Aside0.mk (blk_below (g := gb102) (o := .cells #[.int .i64 ((rd_T44 l0 x17_1).f0), .int .i64 ((rd_T44 l0 x17_1).f1), .int .i64 ((rd_T44 l0 x17_1).f2), .slice (some ad105) ((rd_T44 l0 x17_1).f3).length c101_3] 44 (0, 0)) (by (with_reducible repeat (first | refine blk_drewN ?_ _ | refine blk_drew ?_ | refine blk_alloc ?_ _)); exact BK102.out) hb); have n1_ := Aside0.mk (blk_below (g := gb104) (o := .cells #[.int .i64 ((rd_T44 l1 x17_1).f0), .int .i64 ((rd_T44 l1 x17_1).f1), .int .i64 ((rd_T44 l1 x17_1).f2), .slice A103_3 ((rd_T44 l1 x17_1).f3).length c103_3] 44 (0, 0)) (by (with_reducible repeat (first | refine blk_drewN ?_ _ | refine blk_drew ?_ | refine blk_alloc ?_ _)); exact BK104.out) hb); have n2_ := Aside0.mk (below_step (by repeat (first | (with_reducible first | exact HB.out | apply below_alloc | apply pw_below_drewN | apply below_drew1 | refine below_set ?_ GE102.out | refine below_set ?_ GE104.out))) hb); have n3_ := Aside0.mk (hbox); have n4_ := Aside0.mk ((by rw [hg]; exact (below_size (by repeat (first | (with_reducible first | exact HB.out | apply below_alloc | apply pw_below_drewN | apply below_drew1 | refine below_set ?_ GE102.out | refine below_set ?_ GE104.out)))) : w.heap.size ≤ gb106)); have n5_ := Aside0.mk ((by rw [hg]; exact (below_size (by repeat (first | (with_reducible first | exact HB.out | apply below_alloc | apply pw_below_drewN | apply below_drew1 | refine below_set ?_ GE102.out | refine below_set ?_ GE104.out)))) : w.heap.size ≤ gb106)); have n6_ := Aside0.mk ((by rw [hg]; exact Nat.ne_of_lt (blk_lt (g := gb102) (o := .cells #[.int .i64 ((rd_T44 l0 x17_1).f0), .int .i64 ((rd_T44 l0 x17_1).f1), .int .i64 ((rd_T44 l0 x17_1).f2), .slice (some ad105) ((rd_T44 l0 x17_1).f3).length c101_3] 44 (0, 0)) (by (with_reducible repeat (first | refine blk_drewN ?_ _ | refine blk_drew ?_ | refine blk_alloc ?_ _)); exact BK102.out)) : gb102 ≠ gb106)); have n7_ := Aside0.mk ((by rw [hg]; exact Nat.ne_of_gt (blk_lt (g := gb102) (o := .cells #[.int .i64 ((rd_T44 l0 x17_1).f0), .int .i64 ((rd_T44 l0 x17_1).f1), .int .i64 ((rd_T44 l0 x17_1).f2), .slice (some ad105) ((rd_T44 l0 x17_1).f3).length c101_3] 44 (0, 0)) (by (with_reducible repeat (first | refine blk_drewN ?_ _ | refine blk_drew ?_ | refine blk_alloc ?_ _)); exact BK102.out)) : gb106 ≠ gb102)); have n8_ := Aside0.mk ((by rw [hg]; exact Nat.ne_of_lt (blk_lt (g := gb104) (o := .cells #[.int .i64 ((rd_T44 l1 x17_1).f0), .int .i64 ((rd_T44 l1 x17_1).f1), .int .i64 ((rd_T44 l1 x17_1).f2), .slice A103_3 ((rd_T44 l1 x17_1).f3).length c103_3] 44 (0, 0)) (by (with_reducible repeat (first | refine blk_drewN ?_ _ | refine blk_drew ?_ | refine blk_alloc ?_ _)); exact BK104.out)) : gb104 ≠ gb106)); have n9_ := Aside0.mk ((by rw [hg]; exact Nat.ne_of_gt (blk_lt (g := gb104) (o := .cells #[.int .i64 ((rd_T44 l1 x17_1).f0), .int .i64 ((rd_T44 l1 x17_1).f1), .int .i64 ((rd_T44 l1 x17_1).f2), .slice A103_3 ((rd_T44 l1 x17_1).f3).length c103_3] 44 (0, 0)) (by (with_reducible repeat (first | refine blk_drewN ?_ _ | refine blk_drew ?_ | refine blk_alloc ?_ _)); exact BK104.out)) : gb106 ≠ gb104)); clear BK102; clear BK104; clear HB; have BK102 := n0_; have BK104 := n1_; have HB := n2_; have BK106 := n3_; have GW106 := n4_; have GE106 := n5_; have NB102_106 := n6_; have NB106_102 := n7_; have NB104_106 := n8_; have NB106_104 := n9_; clear n0_ n1_ n2_ n3_ n4_ n5_ n6_ n7_ n8_ n9_; clear hb hbox hg; have hnb44 := NB106_102.out; have hnc44 := NB102_106.out; have hnb45 := NB106_104.out; have hnc45 := NB104_106.out; have hcz46_0 : w43.cell? ⟨gb106, 0, none⟩ = some (.bool false) := (blk_cell BK106.out 0).trans rfl; have hcz46_1 : w43.cell? ⟨gb106, 1, none⟩ = some (.int .i64 0) := (blk_cell BK106.out 1).trans rfl; have hcz46_2 : w43.cell? ⟨gb106, 2, none⟩ = some (.int .i64 0) := (blk_cell BK106.out 2).trans rfl; have hfz46_0 := blk_frozen BK106.out 0; have hfz46_1 := blk_frozen BK106.out 1; have hfz46_2 := blk_frozen BK106.out 2; have hnb47 := NB104_102.out; have hnc47 := NB102_104.out; have hcz48_0 : w43.cell? ⟨gb104, 0, none⟩ = some (.int .i64 ((rd_T44 l1 x17_1).f0)) := (blk_cell BK104.out 0).trans rfl; have hcz48_1 : w43.cell? ⟨gb104, 1, none⟩ = some (.int .i64 ((rd_T44 l1 x17_1).f1)) := (blk_cell BK104.out 1).trans rfl; have hcz48_2 : w43.cell? ⟨gb104, 2, none⟩ = some (.int .i64 ((rd_T44 l1 x17_1).f2)) := (blk_cell BK104.out 2).trans rfl; have hcz48_3 : w43.cell? ⟨gb104, 3, none⟩ = some (.slice A103_3 ((rd_T44 l1 x17_1).f3).length c103_3) := (blk_cell BK104.out 3).trans rfl; have hfz48_0 := blk_frozen BK104.out 0; have hfz48_1 := blk_frozen BK104.out 1; have hfz48_2 := blk_frozen BK104.out 2; have hfz48_3 := blk_frozen BK104.out 3; have p107 : 0 ≤ (x57_3 : Int) := of_decide_eq_true (by assumption); have q107 : x57_3 < (((rd_T44 l1 x17_1).f3).length : Int) := of_decide_eq_true (by assumption); obtain ⟨ad107, e107, hx107_0, hx107_1, hx107_2⟩ := at_T46 HR103_3.out x57_3 p107 q107; cases e107; have hn107_0 : ad107.block ≠ gb106 := Nat.ne_of_lt (Nat.lt_of_lt_of_le (by have := World.block_lt_of_cell? _ _ hx107_0; first | rwa [add_block] at this | exact this) GW106.out); have hn107_1 : ad107.block ≠ gb106 := Nat.ne_of_lt (Nat.lt_of_lt_of_le (by have := World.block_lt_of_cell? _ _ hx107_0; first | rwa [add_block] at this | exact this) GW106.out); have hn107_2 : ad107.block ≠ gb106 := Nat.ne_of_lt (Nat.lt_of_lt_of_le (by have := World.block_lt_of_cell? _ _ hx107_0; first | rwa [add_block] at this | exact this) GW106.out); replace hx107_0 := (HB.out.cell (World.block_lt_of_cell? w _ hx107_0)).trans hx107_0; replace hx107_1 := (HB.out.cell (World.block_lt_of_cell? w _ hx107_1)).trans hx107_1; replace hx107_2 := (HB.out.cell (World.block_lt_of_cell? w _ hx107_2)).trans hx107_2; replace hx107_0 := (cell_far (p := ⟨gb106, 0, none⟩) (by first | (rw [add_block]; exact hn107_0) | (show (Addr.add _ _).block ≠ _; rw [add_block]; exact hn107_0) | exact hn107_0) (.bool ((rd_T46 ((rd_T44 l0 x17_1).f3) x57_3).f0))).trans hx107_0; replace hx107_1 := (cell_far (p := ⟨gb106, 0, none⟩) (by first | (rw [add_block]; exact hn107_0) | (show (Addr.add _ _).block ≠ _; rw [add_block]; exact hn107_0) | exact hn107_0) (.bool ((rd_T46 ((rd_T44 l0 x17_1).f3) x57_3).f0))).trans hx107_1; replace hx107_2 := (cell_far (p := ⟨gb106, 0, none⟩) (by first | (rw [add_block]; exact hn107_0) | (show (Addr.add _ _).block ≠ _; rw [add_block]; exact hn107_0) | exact hn107_0) (.bool ((rd_T46 ((rd_T44 l0 x17_1).f3) x57_3).f0))).trans hx107_2; replace hx107_0 := (cell_far (p := ⟨gb106, 1, none⟩) (by first | (rw [add_block]; exact hn107_1) | (show (Addr.add _ _).block ≠ _; rw [add_block]; exact hn107_1) | exact hn107_1) (.int .i64 ((rd_T46 ((rd_T44 l0 x17_1).f3) x57_3).f1))).trans hx107_0; replace hx107_1 := (cell_far (p := ⟨gb106, 1, none⟩) (by first | (rw [add_block]; exact hn107_1) | (show (Addr.add _ _).block ≠ _; rw [add_block]; exact hn107_1) | exact hn107_1) (.int .i64 ((rd_T46 ((rd_T44 l0 x17_1).f3) x57_3).f1))).trans hx107_1; replace hx107_2 := (cell_far (p := ⟨gb106, 1, none⟩) (by first | (rw [add_block]; exact hn107_1) | (show (Addr.add _ _).block ≠ _; rw [add_block]; exact hn107_1) | exact hn107_1) (.int .i64 ((rd_T46 ((rd_T44 l0 x17_1).f3) x57_3).f1))).trans hx107_2; replace hx107_0 := (cell_far (p := ⟨gb106, 2, none⟩) (by first | (rw [add_block]; exact hn107_2) | (show (Addr.add _ _).block ≠ _; rw [add_block]; exact hn107_2) | exact hn107_2) (.int .i64 ((rd_T46 ((rd_T44 l0 x17_1).f3) x57_3).f2))).trans hx107_0; replace hx107_1 := (cell_far (p := ⟨gb106, 2, none⟩) (by first | (rw [add_block]; exact hn107_2) | (show (Addr.add _ _).block ≠ _; rw [add_block]; exact hn107_2) | exact hn107_2) (.int .i64 ((rd_T46 ((rd_T44 l0 x17_1).f3) x57_3).f2))).trans hx107_1; replace hx107_2 := (cell_far (p := ⟨gb106, 2, none⟩) (by first | (rw [add_block]; exact hn107_2) | (show (Addr.add _ _).block ≠ _; rw [add_block]; exact hn107_2) | exact hn107_2) (.int .i64 ((rd_T46 ((rd_T44 l0 x17_1).f3) x57_3).f2))).trans hx107_2; (try have hy107_0 := fun (n_ : Nat) => (show (((((w43.drewN n_).setCell ⟨gb106, 0, none⟩ (.bool ((rd_T46 ((rd_T44 l0 x17_1).f3) x57_3).f0))).setCell ⟨gb106, 1, none⟩ (.int .i64 ((rd_T46 ((rd_T44 l0 x17_1).f3) x57_3).f1))).setCell ⟨gb106, 2, none⟩ (.int .i64 ((rd_T46 ((rd_T44 l0 x17_1).f3) x57_3).f2)))).cell? _ = some _ from hx107_0)); (try have hy107_1 := fun (n_ : Nat) => (show (((((w43.drewN n_).setCell ⟨gb106, 0, none⟩ (.bool ((rd_T46 ((rd_T44 l0 x17_1).f3) x57_3).f0))).setCell ⟨gb106, 1, none⟩ (.int .i64 ((rd_T46 ((rd_T44 l0 x17_1).f3) x57_3).f1))).setCell ⟨gb106, 2, none⟩ (.int .i64 ((rd_T46 ((rd_T44 l0 x17_1).f3) x57_3).f2)))).cell? _ = some _ from hx107_1)); (try have hy107_2 := fun (n_ : Nat) => (show (((((w43.drewN n_).setCell ⟨gb106, 0, none⟩ (.bool ((rd_T46 ((rd_T44 l0 x17_1).f3) x57_3).f0))).setCell ⟨gb106, 1, none⟩ (.int .i64 ((rd_T46 ((rd_T44 l0 x17_1).f3) x57_3).f1))).setCell ⟨gb106, 2, none⟩ (.int .i64 ((rd_T46 ((rd_T44 l0 x17_1).f3) x57_3).f2)))).cell? _ = some _ from hx107_2)); clear hn107_0; clear hn107_1; clear hn107_2; replace p107 := eq_true p107; replace q107 := eq_true q107)))
                  go_roundg k3
                  case measure => have := HK1.out; have := HJ7.out; have := HK3.out; omega
                  case rel => exact ⟨(wrap64 (x57_3 + 1)), (by first | rfl | (simp; done) | (simp [*]; done)), H', ⟨by have := HK1.out; have := HJ7.out; have := HK3.out; omega⟩, ⟨by (with_reducible repeat (first | refine blk_drewN ?_ _ | refine blk_drew ?_ | refine blk_alloc ?_ _)); refine blk_far ?_ NB102_106.out _; (with_reducible repeat (first | refine blk_drewN ?_ _ | refine blk_drew ?_ | refine blk_alloc ?_ _)); refine blk_far ?_ NB102_106.out _; (with_reducible repeat (first | refine blk_drewN ?_ _ | refine blk_drew ?_ | refine blk_alloc ?_ _)); refine blk_far ?_ NB102_106.out _; (with_reducible repeat (first | refine blk_drewN ?_ _ | refine blk_drew ?_ | refine blk_alloc ?_ _)); exact BK102.out⟩, ⟨by (with_reducible repeat (first | refine blk_drewN ?_ _ | refine blk_drew ?_ | refine blk_alloc ?_ _)); refine blk_far ?_ NB104_106.out _; (with_reducible repeat (first | refine blk_drewN ?_ _ | refine blk_drew ?_ | refine blk_alloc ?_ _)); refine blk_far ?_ NB104_106.out _; (with_reducible repeat (first | refine blk_drewN ?_ _ | refine blk_drew ?_ | refine blk_alloc ?_ _)); refine blk_far ?_ NB104_106.out _; (with_reducible repeat (first | refine blk_drewN ?_ _ | refine blk_drew ?_ | refine blk_alloc ?_ _)); exact BK104.out⟩, ⟨by repeat (first | (with_reducible first | exact HB.out | apply below_alloc | apply pw_below_drewN | apply below_drew1 | refine below_set ?_ GE102.out | refine below_set ?_ GE104.out | refine below_set ?_ GE106.out))⟩⟩
                ·rw [if_neg c35] at H
                 exact absurd H (by simp)
               ·rw [if_neg c34] at H
                exact absurd H (by simp)
              ·rw [if_neg c33] at H
               exact absurd H (by simp)
             ·rw [if_neg c32] at H
              have c32b0 : decide (x57_3 < (((rd_T44 l0 x17_1).f3).length : Int)) = false := decide_eq_false c32
              clear c32
              have H' := Aside0.mk H
              clear H
              go_wp2
              repeat (go_quiet (fail); try go_wp2)
              go_roundg k3
              case measure => have := HK1.out; have := HJ7.out; have := HK3.out; omega
              case rel => exact ⟨(wrap64 (x17_1 + 1)), (by first | rfl | (simp; done) | (simp [*]; done)), H', ⟨by have := HK1.out; have := HJ7.out; have := HK3.out; omega⟩, ⟨by repeat (first | (with_reducible first | exact HB.out | apply below_alloc | apply pw_below_drewN | apply below_drew1 | refine below_set ?_ GE102.out | refine below_set ?_ GE104.out))⟩⟩
       ·rw [if_neg c7] at H
        exact absurd H (by simp)
      ·rw [if_neg c6] at H
       exact absurd H (by simp)
     ·rw [if_neg c5] at H
      exact absurd H (by simp)
    ·rw [if_neg c4] at H
     have c4b0 : decide (x17_1 < (l0.length : Int)) = false := decide_eq_false c4
     clear c4
     obtain rfl := Option.some.inj H
     go_wp2
     repeat (go_quiet (fail); try go_wp2)
     go_ret
     exact ⟨by first | rfl | (simp <;> rfl) | (simp [*] <;> rfl), by repeat (first | (with_reducible first | exact HB.out | apply below_alloc | apply pw_below_drewN | apply below_drew1))⟩
 ·rw [if_neg c3] at H
  have c3b0 : ((l0.length : Int) == (l1.length : Int)) = false := beq_eq_false_iff_ne.mpr c3
  have c3b1 : ((l0.length : Int) != (l1.length : Int)) = true := bne_iff_ne.mpr c3
  have c3b2 : (l0.length == l1.length) = false := by first | simpa using c3 | (simp at c3 ⊢; omega)
  obtain rfl := Option.some.inj H
  go_enter Try.func32, Try.ntmps32
  go_wp2
  repeat (go_quiet (fail); try go_wp2)
  go_ret
  exact ⟨by first | rfl | (simp <;> rfl) | (simp [*] <;> rfl), by repeat (first | (with_reducible first | exact HB.out | apply below_alloc | apply pw_below_drewN | apply below_drew1))⟩
end Go.Proofs.Ytfocaefnmfkojaa.Q
namespace Go.Proofs.Ytfocaefnmfkojaa.Q
open Go.RowKit Go.Proofs.YtfocaefnmfkojaaW.PrintWords Go.Proofs.YtfocaefnmfkojaaW.PrintLast Go.Proofs.YtfocaefnmfkojaaW.PrintMore
attribute [local go_sem] max2_int min2_int max_two min_two max_three min_three max_four min_four   -- for this text's walks alone
set_option linter.unusedVariables false
set_option linter.unusedSimpArgs false
def op_Right.f (a0_0 : Bool) (a0_1 : Int) (a0_2 : Int) : Option (Bool) := if a0_1 < 0 then (some false) else (if a0_1 ≥ 64 then (some false) else (if a0_2 < 0 then (some false) else (if a0_2 > 2147483647 then (some false) else (if a0_0 = true then (some (decide (a0_2 > 0))) else (some true)))))
set_option maxHeartbeats 8000000 in
set_option maxRecDepth 100000 in
theorem op_Right.calls (a0_0 : Bool) (a0_1 : Int) (a0_2 : Int) (r : Bool) (w : World) (h : op_Right.f a0_0 a0_1 a0_2 = some r) :
  Calls Try.prog 94 #[.agg #[.bool a0_0, .int .i64 a0_1, .int .i64 a0_2]] w fun e w' => e = .returned (.bool r) ∧ Below w.heap.size w w' := by
 have hu46 := Try.underlying46
 have HB := Aside0.mk (Below.refl w.heap.size w)
 have H : (if a0_1 < 0 then (some false) else (if a0_1 ≥ 64 then (some false) else (if a0_2 < 0 then (some false) else (if a0_2 > 2147483647 then (some false) else (if a0_0 = true then (some (decide (a0_2 > 0))) else (some true)))))) = some r := h
 clear h
 by_cases c2 : a0_1 < 0
 ·rw [if_pos c2] at H
  have c2b0 : decide (a0_1 < 0) = true := decide_eq_true c2
  clear c2
  obtain rfl := Option.some.inj H
  go_enter Try.func94, Try.ntmps94
  go_wp2_with (first | ((with_reducible refine gate_dst (N := 1) rfl ?_); refine box_event ?hg (N := 1) ?hd (cs := #[.bool a0_0, .int .i64 a0_1, .int .i64 a0_2]) (t := 46) ?hr ?_; (case hd => rfl); (case hg => rfl); (case hr => first | (go_simp; done) | (go_simp; rfl)); intro gb101 hg w3 hbox hb; have n0_ := Aside0.mk (below_step (by repeat (first | (with_reducible first | exact HB.out | apply below_alloc | apply pw_below_drewN | apply below_drew1))) hb); have n1_ := Aside0.mk (hbox); have n2_ := Aside0.mk ((by rw [hg]; exact (below_size (by repeat (first | (with_reducible first | exact HB.out | apply below_alloc | apply pw_below_drewN | apply below_drew1)))) : w.heap.size ≤ gb101)); have n3_ := Aside0.mk ((by rw [hg]; exact (below_size (by repeat (first | (with_reducible first | exact HB.out | apply below_alloc | apply pw_below_drewN | apply below_drew1)))) : w.heap.size ≤ gb101)); clear HB; have HB := n0_; have BK101 := n1_; have GW101 := n2_; have GE101 := n3_; clear n0_ n1_ n2_ n3_; clear hb hbox hg; have hcz4_0 : w3.cell? ⟨gb101, 0, none⟩ = some (.bool a0_0) := (blk_cell BK101.out 0).trans rfl; have hcz4_1 : w3.cell? ⟨gb101, 1, none⟩ = some (.int .i64 a0_1) := (blk_cell BK101.out 1).trans rfl; have hcz4_2 : w3.cell? ⟨gb101, 2, none⟩ = some (.int .i64 a0_2) := (blk_cell BK101.out 2).trans rfl; have hfz4_0 := blk_frozen BK101.out 0; have hfz4_1 := blk_frozen BK101.out 1; have hfz4_2 := blk_frozen BK101.out 2))
  go_ret
  exact ⟨by first | rfl | (simp <;> rfl) | (simp [*] <;> rfl), by repeat (first | (with_reducible first | exact HB.out | apply below_alloc | apply pw_below_drewN | apply below_drew1 | refine below_set ?_ GE101.out))⟩
 ·rw [if_neg c2] at H
  have c2b0 : decide (a0_1 < 0) = false := decide_eq_false c2
  clear c2
  by_cases c5 : a0_1 ≥ 64
  ·rw [if_pos c5] at H
   have c5b0 : decide (64 ≤ a0_1) = true := decide_eq_true c5
   clear c5
   obtain rfl := Option.some.inj H
   go_enter Try.func94, Try.ntmps94
   go_wp2_with (first | ((with_reducible refine gate_dst (N := 1) rfl ?_); refine box_event ?hg (N := 1) ?hd (cs := #[.bool a0_0, .int .i64 a0_1, .int .i64 a0_2]) (t := 46) ?hr ?_; (case hd => rfl); (case hg => rfl); (case hr => first | (go_simp; done) | (go_simp; rfl)); intro gb101 hg w6 hbox hb; have n0_ := Aside0.mk (below_step (by repeat (first | (with_reducible first | exact HB.out | apply below_alloc | apply pw_below_drewN | apply below_drew1))) hb); have n1_ := Aside0.mk (hbox); have n2_ := Aside0.mk ((by rw [hg]; exact (below_size (by repeat (first | (with_reducible first | exact HB.out | apply below_alloc | apply pw_below_drewN | apply below_drew1)))) : w.heap.size ≤ gb101)); have n3_ := Aside0.mk ((by rw [hg]; exact (below_size (by repeat (first | (with_reducible first | exact HB.out | apply below_alloc | apply pw_below_drewN | apply below_drew1)))) : w.heap.size ≤ gb101)); clear HB; have HB := n0_; have BK101 := n1_; have GW101 := n2_; have GE101 := n3_; clear n0_ n1_ n2_ n3_; clear hb hbox hg; have hcz7_0 : w6.cell? ⟨gb101, 0, none⟩ = some (.bool a0_0) := (blk_cell BK101.out 0).trans rfl; have hcz7_1 : w6.cell? ⟨gb101, 1, none⟩ = some (.int .i64 a0_1) := (blk_cell BK101.out 1).trans rfl; have hcz7_2 : w6.cell? ⟨gb101, 2, none⟩ = some (.int .i64 a0_2) := (blk_cell BK101.out 2).trans rfl; have hfz7_0 := blk_frozen BK101.out 0; have hfz7_1 := blk_frozen BK101.out 1; have hfz7_2 := blk_frozen BK101.out 2))
   go_ret
   exact ⟨by first | rfl | (simp <;> rfl) | (simp [*] <;> rfl), by repeat (first | (with_reducible first | exact HB.out | apply below_alloc | apply pw_below_drewN | apply below_drew1 | refine below_set ?_ GE101.out))⟩
  ·rw [if_neg c5] at H
   have c5b0 : decide (64 ≤ a0_1) = false := decide_eq_false c5
   clear c5
   by_cases c8 : a0_2 < 0
   ·rw [if_pos c8] at H
    have c8b0 : decide (a0_2 < 0) = true := decide_eq_true c8
    clear c8
    obtain rfl := Option.some.inj H
    go_enter Try.func94, Try.ntmps94
    go_wp2_with (first | ((with_reducible refine gate_dst (N := 1) rfl ?_); refine box_event ?hg (N := 1) ?hd (cs := #[.bool a0_0, .int .i64 a0_1, .int .i64 a0_2]) (t := 46) ?hr ?_; (case hd => rfl); (case hg => rfl); (case hr => first | (go_simp; done) | (go_simp; rfl)); intro gb101 hg w9 hbox hb; have n0_ := Aside0.mk (below_step (by repeat (first | (with_reducible first | exact HB.out | apply below_alloc | apply pw_below_drewN | apply below_drew1))) hb); have n1_ := Aside0.mk (hbox); have n2_ := Aside0.mk ((by rw [hg]; exact (below_size (by repeat (first | (with_reducible first | exact HB.out | apply below_alloc | apply pw_below_drewN | apply below_drew1)))) : w.heap.size ≤ gb101)); have n3_ := Aside0.mk ((by rw [hg]; exact (below_size (by repeat (first | (with_reducible first | exact HB.out | apply below_alloc | apply pw_below_drewN | apply below_drew1)))) : w.heap.size ≤ gb101)); clear HB; have HB := n0_; have BK101 := n1_; have GW101 := n2_; have GE101 := n3_; clear n0_ n1_ n2_ n3_; clear hb hbox hg; have hcz10_0 : w9.cell? ⟨gb101, 0, none⟩ = some (.bool a0_0) := (blk_cell BK101.out 0).trans rfl; have hcz10_1 : w9.cell? ⟨gb101, 1, none⟩ = some (.int .i64 a0_1) := (blk_cell BK101.out 1).trans rfl; have hcz10_2 : w9.cell? ⟨gb101, 2, none⟩ = some (.int .i64 a0_2) := (blk_cell BK101.out 2).trans rfl; have hfz10_0 := blk_frozen BK101.out 0; have hfz10_1 := blk_frozen BK101.out 1; have hfz10_2 := blk_frozen BK101.out 2))
    go_ret
    exact ⟨by first | rfl | (simp <;> rfl) | (simp [*] <;> rfl), by repeat (first | (with_reducible first | exact HB.out | apply below_alloc | apply pw_below_drewN | apply below_drew1 | refine below_set ?_ GE101.out))⟩
   ·rw [if_neg c8] at H
    have c8b0 : decide (a0_2 < 0) = false := decide_eq_false c8
    clear c8
    by_cases c11 : a0_2 > 2147483647
    ·rw [if_pos c11] at H
     have c11b0 : decide (2147483647 < a0_2) = true := decide_eq_true c11
     clear c11
     obtain rfl := Option.some.inj H
     go_enter Try.func94, Try.ntmps94
     go_wp2_with (first | ((with_reducible refine gate_dst (N := 1) rfl ?_); refine box_event ?hg (N := 1) ?hd (cs := #[.bool a0_0, .int .i64 a0_1, .int .i64 a0_2]) (t := 46) ?hr ?_; (case hd => rfl); (case hg => rfl); (case hr => first | (go_simp; done) | (go_simp; rfl)); intro gb101 hg w12 hbox hb; have n0_ := Aside0.mk (below_step (by repeat (first | (with_reducible first | exact HB.out | apply below_alloc | apply pw_below_drewN | apply below_drew1))) hb); have n1_ := Aside0.mk (hbox); have n2_ := Aside0.mk ((by rw [hg]; exact (below_size (by repeat (first | (with_reducible first | exact HB.out | apply below_alloc | apply pw_below_drewN | apply below_drew1)))) : w.heap.size ≤ gb101)); have n3_ := Aside0.mk ((by rw [hg]; exact (below_size (by repeat (first | (with_reducible first | exact HB.out | apply below_alloc | apply pw_below_drewN | apply below_drew1)))) : w.heap.size ≤ gb101)); clear HB; have HB := n0_; have BK101 := n1_; have GW101 := n2_; have GE101 := n3_; clear n0_ n1_ n2_ n3_; clear hb hbox hg; have hcz13_0 : w12.cell? ⟨gb101, 0, none⟩ = some (.bool a0_0) := (blk_cell BK101.out 0).trans rfl; have hcz13_1 : w12.cell? ⟨gb101, 1, none⟩ = some (.int .i64 a0_1) := (blk_cell BK101.out 1).trans rfl; have hcz13_2 : w12.cell? ⟨gb101, 2, none⟩ = some (.int .i64 a0_2) := (blk_cell BK101.out 2).trans rfl; have hfz13_0 := blk_frozen BK101.out 0; have hfz13_1 := blk_frozen BK101.out 1; have hfz13_2 := blk_frozen BK101.out 2))
     go_ret
     exact ⟨by first | rfl | (simp <;> rfl) | (simp [*] <;> rfl), by repeat (first | (with_reducible first | exact HB.out | apply below_alloc | apply pw_below_drewN | apply below_drew1 | refine below_set ?_ GE101.out))⟩
    ·rw [if_neg c11] at H
     have c11b0 : decide (2147483647 < a0_2) = false := decide_eq_false c11
     clear c11
     by_cases c14 : a0_0 = true
     ·subst c14
      have H1 : (some (decide (a0_2 > 0))) = some r := by rw [if_pos rfl] at H; exact H
      clear H
      have H := H1
      clear H1
      obtain rfl := Option.some.inj H
      go_enter Try.func94, Try.ntmps94
      go_wp2_with (first | ((with_reducible refine gate_dst (N := 1) rfl ?_); refine box_event ?hg (N := 1) ?hd (cs := #[.bool true, .int .i64 a0_1, .int .i64 a0_2]) (t := 46) ?hr ?_; (case hd => rfl); (case hg => rfl); (case hr => first | (go_simp; done) | (go_simp; rfl)); intro gb101 hg w15 hbox hb; have n0_ := Aside0.mk (below_step (by repeat (first | (with_reducible first | exact HB.out | apply below_alloc | apply pw_below_drewN | apply below_drew1))) hb); have n1_ := Aside0.mk (hbox); have n2_ := Aside0.mk ((by rw [hg]; exact (below_size (by repeat (first | (with_reducible first | exact HB.out | apply below_alloc | apply pw_below_drewN | apply below_drew1)))) : w.heap.size ≤ gb101)); have n3_ := Aside0.mk ((by rw [hg]; exact (below_size (by repeat (first | (with_reducible first | exact HB.out | apply below_alloc | apply pw_below_drewN | apply below_drew1)))) : w.heap.size ≤ gb101)); clear HB; have HB := n0_; have BK101 := n1_; have GW101 := n2_; have GE101 := n3_; clear n0_ n1_ n2_ n3_; clear hb hbox hg; have hcz16_0 : w15.cell? ⟨gb101, 0, none⟩ = some (.bool true) := (blk_cell BK101.out 0).trans rfl; have hcz16_1 : w15.cell? ⟨gb101, 1, none⟩ = some (.int .i64 a0_1) := (blk_cell BK101.out 1).trans rfl; have hcz16_2 : w15.cell? ⟨gb101, 2, none⟩ = some (.int .i64 a0_2) := (blk_cell BK101.out 2).trans rfl; have hfz16_0 := blk_frozen BK101.out 0; have hfz16_1 := blk_frozen BK101.out 1; have hfz16_2 := blk_frozen BK101.out 2))
      go_ret
      exact ⟨by first | rfl | (simp <;> rfl) | (simp [*] <;> rfl), by repeat (first | (with_reducible first | exact HB.out | apply below_alloc | apply pw_below_drewN | apply below_drew1 | refine below_set ?_ GE101.out))⟩
     ·replace c14 := Bool.eq_false_iff.mpr c14
      subst c14
      have H1 : (some true) = some r := by rw [if_neg (show ¬ (false = true) by decide)] at H; exact H
      clear H
      have H := H1
      clear H1
      obtain rfl := Option.some.inj H
      go_enter Try.func94, Try.ntmps94
      go_wp2_with (first | ((with_reducible refine gate_dst (N := 1) rfl ?_); refine box_event ?hg (N := 1) ?hd (cs := #[.bool false, .int .i64 a0_1, .int .i64 a0_2]) (t := 46) ?hr ?_; (case hd => rfl); (case hg => rfl); (case hr => first | (go_simp; done) | (go_simp; rfl)); intro gb101 hg w17 hbox hb; have n0_ := Aside0.mk (below_step (by repeat (first | (with_reducible first | exact HB.out | apply below_alloc | apply pw_below_drewN | apply below_drew1))) hb); have n1_ := Aside0.mk (hbox); have n2_ := Aside0.mk ((by rw [hg]; exact (below_size (by repeat (first | (with_reducible first | exact HB.out | apply below_alloc | apply pw_below_drewN | apply below_drew1)))) : w.heap.size ≤ gb101)); have n3_ := Aside0.mk ((by rw [hg]; exact (below_size (by repeat (first | (with_reducible first | exact HB.out | apply below_alloc | apply pw_below_drewN | apply below_drew1)))) : w.heap.size ≤ gb101)); clear HB; have HB := n0_; have BK101 := n1_; have GW101 := n2_; have GE101 := n3_; clear n0_ n1_ n2_ n3_; clear hb hbox hg; have hcz18_0 : w17.cell? ⟨gb101, 0, none⟩ = some (.bool false) := (blk_cell BK101.out 0).trans rfl; have hcz18_1 : w17.cell? ⟨gb101, 1, none⟩ = some (.int .i64 a0_1) := (blk_cell BK101.out 1).trans rfl; have hcz18_2 : w17.cell? ⟨gb101, 2, none⟩ = some (.int .i64 a0_2) := (blk_cell BK101.out 2).trans rfl; have hfz18_0 := blk_frozen BK101.out 0; have hfz18_1 := blk_frozen BK101.out 1; have hfz18_2 := blk_frozen BK101.out 2))
      go_ret
      exact ⟨by first | rfl | (simp <;> rfl) | (simp [*] <;> rfl), by repeat (first | (with_reducible first | exact HB.out | apply below_alloc | apply pw_below_drewN | apply below_drew1 | refine below_set ?_ GE101.out))⟩
end Go.Proofs.Ytfocaefnmfkojaa.Q
namespace Go.Proofs.Ytfocaefnmfkojaa.Q
end Go.Proofs.Ytfocaefnmfkojaa.Q
namespace Go.Proofs.Ytfocaefnmfkojaa.Q
end Go.Proofs.Ytfocaefnmfkojaa.Q
namespace Go.Proofs.Ytfocaefnmfkojaa.Q
end Go.Proofs.Ytfocaefnmfkojaa.Q
namespace Go.Proofs.Ytfocaefnmfkojaa.Q
end Go.Proofs.Ytfocaefnmfkojaa.Q
namespace Go.Proofs.Ytfocaefnmfkojaa.Q
end Go.Proofs.Ytfocaefnmfkojaa.Q
namespace Go.Proofs.Ytfocaefnmfkojaa.Q
end Go.Proofs.Ytfocaefnmfkojaa.Q
namespace Go.Proofs.Ytfocaefnmfkojaa.Q
end Go.Proofs.Ytfocaefnmfkojaa.Q
namespace Go.Proofs.Ytfocaefnmfkojaa.Q
open Go.RowKit Go.Proofs.YtfocaefnmfkojaaW.PrintWords Go.Proofs.YtfocaefnmfkojaaW.PrintLast Go.Proofs.YtfocaefnmfkojaaW.PrintMore
attribute [local go_sem] max2_int min2_int max_two min_two max_three min_three max_four min_four   -- for this text's walks alone
set_option linter.unusedVariables false
set_option linter.unusedSimpArgs false
mutual
def txn_Right.j0 : Nat → Bool → Int → Int → Int → List (S46) → Option (Bool)
 | 0, _, _, _, _, _ => none
 | k + 1, x41, x102000, x102001, x102002, x102003 => if x41 = true then (some false) else (txn_Right.l0 k x102003 (x102003.length : Int) 0)
def txn_Right.l0 : Nat → List (S46) → Int → Int → Option (Bool)
 | 0, _, _, _ => none
 | k + 1, x43, x44, x45 => if x45 < x44 then (if 0 ≤ x45 then (if x45 < (x43.length : Int) then ((op_Right.f ((rd_T46 x43 x45).f0) ((rd_T46 x43 x45).f1) ((rd_T46 x43 x45).f2)).bind fun t104 => (if t104 = true then (txn_Right.l0 k x43 x44 (wrap64 (x45 + 1))) else (some false))) else (none)) else (none)) else (some true)
end
def txn_Right.f (k : Nat) (a0_0 : Int) (a0_1 : Int) (a0_2 : Int) (l0_3 : List (S46)) : Option (Bool) := if a0_0 < 0 then (txn_Right.j0 k true a0_0 a0_1 a0_2 l0_3) else (if a0_0 ≥ 64 then (txn_Right.j0 k true a0_0 a0_1 a0_2 l0_3) else (if a0_1 < 0 then (txn_Right.j0 k true a0_0 a0_1 a0_2 l0_3) else (if a0_1 ≥ a0_2 then (txn_Right.j0 k true a0_0 a0_1 a0_2 l0_3) else (if a0_2 > 2147483647 then (txn_Right.j0 k true a0_0 a0_1 a0_2 l0_3) else (if (l0_3.length : Int) < 1 then (txn_Right.j0 k true a0_0 a0_1 a0_2 l0_3) else (txn_Right.j0 k (decide ((l0_3.length : Int) > 64)) a0_0 a0_1 a0_2 l0_3))))))
set_option maxHeartbeats 8000000 in
set_option maxRecDepth 100000 in
theorem txn_Right.calls (k : Nat) (a0_0 : Int) (a0_1 : Int) (a0_2 : Int) (A0_3 : Option Addr) (c0_3 : Nat) (l0_3 : List (S46)) (r : Bool) (w : World) (hr0_3 : Kd.C k46 w A0_3 l0_3.length l0_3) (hc0_3 : l0_3.length ≤ c0_3) (h : txn_Right.f k a0_0 a0_1 a0_2 l0_3 = some r) :
  Calls Try.prog 61 #[.agg #[.int .i64 a0_0, .int .i64 a0_1, .int .i64 a0_2, .slice A0_3 l0_3.length c0_3]] w fun e w' => e = .returned (.bool r) ∧ Below w.heap.size w w' := by
 have hu44 := Try.underlying44
 have hu46 := Try.underlying46
 have HR0_3 := Aside0.mk hr0_3
 have HC0_3 := Aside0.mk hc0_3
 clear hr0_3 hc0_3
 have HB := Aside0.mk (Below.refl w.heap.size w)
 have H : (if a0_0 < 0 then (txn_Right.j0 k true a0_0 a0_1 a0_2 l0_3) else (if a0_0 ≥ 64 then (txn_Right.j0 k true a0_0 a0_1 a0_2 l0_3) else (if a0_1 < 0 then (txn_Right.j0 k true a0_0 a0_1 a0_2 l0_3) else (if a0_1 ≥ a0_2 then (txn_Right.j0 k true a0_0 a0_1 a0_2 l0_3) else (if a0_2 > 2147483647 then (txn_Right.j0 k true a0_0 a0_1 a0_2 l0_3) else (if (l0_3.length : Int) < 1 then (txn_Right.j0 k true a0_0 a0_1 a0_2 l0_3) else (txn_Right.j0 k (decide ((l0_3.length : Int) > 64)) a0_0 a0_1 a0_2 l0_3))))))) = some r := h
 clear h
 have HC2 := Aside0.mk H
 clear H
 go_enter Try.func61, Try.ntmps61
 go_upto_region 1 with (first | ((with_reducible refine gate_dst (N := 1) rfl ?_); (try (refine gate_guard (by rfl) ?_; dsimp only)); refine box_event ?hg (N := 1) ?hd (cs := #[.int .i64 a0_0, .int .i64 a0_1, .int .i64 a0_2, .slice A0_3 l0_3.length c0_3]) (t := 44) ?hr ?_; (case hd => rfl); (case hg => rfl); (case hr => first | (go_simp; done) | (go_simp; rfl)); intro gb101 hg w3 hbox hb; have n0_ := Aside0.mk (below_step (by repeat (first | (with_reducible first | exact HB.out | apply below_alloc | apply pw_below_drewN | apply below_drew1))) hb); have n1_ := Aside0.mk (hbox); have n2_ := Aside0.mk ((by rw [hg]; exact (below_size (by repeat (first | (with_reducible first | exact HB.out | apply below_alloc | apply pw_below_drewN | apply below_drew1)))) : w.heap.size ≤ gb101)); have n3_ := Aside0.mk ((by rw [hg]; exact (below_size (by repeat (first | (with_reducible first | exact HB.out | apply below_alloc | apply pw_below_drewN | apply below_drew1)))) : w.heap.size ≤ gb101)); clear HB; have HB := n0_; have BK101 := n1_; have GW101 := n2_; have GE101 := n3_; clear n0_ n1_ n2_ n3_; clear hb hbox hg))
 (try simp only [Act.put, List.setIfInBounds_toArray, List.set_cons_zero, List.set_cons_succ])
 go_cut [41] (fun v41 wc => ∃ (kq : Nat) (x41_1 : Bool), v41 = .bool x41_1 ∧ Aside0 (txn_Right.j0 kq x41_1 a0_0 a0_1 a0_2 l0_3 = some r) ∧ Aside0 (kq ≤ k) ∧ Aside0 (wc.heap[gb101]? = some (.cells #[.int .i64 a0_0, .int .i64 a0_1, .int .i64 a0_2, (.slice A0_3 l0_3.length c0_3)] 44 (0, 0))) ∧ Aside0 (Below w.heap.size w wc))
 case first =>
  have H := HC2.out
  clear HC2
  by_cases c4 : a0_0 < 0
  ·rw [if_pos c4] at H
   have c4b0 : decide (a0_0 < 0) = true := decide_eq_true c4
   clear c4
   (first | rw [c4b0] | (simp only [i64_w, i32_w]; rw [c4b0]) | skip)
   have H' := Aside0.mk H
   clear H
   have hcz5_0 : w3.cell? ⟨gb101, 0, none⟩ = some (.int .i64 a0_0) := (blk_cell BK101.out 0).trans rfl
   have hcz5_1 : w3.cell? ⟨gb101, 1, none⟩ = some (.int .i64 a0_1) := (blk_cell BK101.out 1).trans rfl
   have hcz5_2 : w3.cell? ⟨gb101, 2, none⟩ = some (.int .i64 a0_2) := (blk_cell BK101.out 2).trans rfl
   have hcz5_3 : w3.cell? ⟨gb101, 3, none⟩ = some (.slice A0_3 l0_3.length c0_3) := (blk_cell BK101.out 3).trans rfl
   have hfz5_0 := blk_frozen BK101.out 0
   have hfz5_1 := blk_frozen BK101.out 1
   have hfz5_2 := blk_frozen BK101.out 2
   have hfz5_3 := blk_frozen BK101.out 3
   go_wp2
   go_meet
   case rel => exact ⟨_, (true), (by first | rfl | (simp; done) | (simp [*]; done)), H', ⟨by first | omega | exact Nat.le_refl _⟩, ⟨by (with_reducible repeat (first | refine blk_drewN ?_ _ | refine blk_drew ?_ | refine blk_alloc ?_ _)); exact BK101.out⟩, ⟨by repeat (first | (with_reducible first | exact HB.out | apply below_alloc | apply pw_below_drewN | apply below_drew1 | refine below_set ?_ GE101.out))⟩⟩
  ·rw [if_neg c4] at H
   have c4b0 : decide (a0_0 < 0) = false := decide_eq_false c4
   clear c4
   (first | rw [c4b0] | (simp only [i64_w, i32_w]; rw [c4b0]) | skip)
   by_cases c6 : a0_0 ≥ 64
   ·rw [if_pos c6] at H
    have c6b0 : decide (64 ≤ a0_0) = true := decide_eq_true c6
    clear c6
    have H' := Aside0.mk H
    clear H
    have hcz7_0 : w3.cell? ⟨gb101, 0, none⟩ = some (.int .i64 a0_0) := (blk_cell BK101.out 0).trans rfl
    have hcz7_1 : w3.cell? ⟨gb101, 1, none⟩ = some (.int .i64 a0_1) := (blk_cell BK101.out 1).trans rfl
    have hcz7_2 : w3.cell? ⟨gb101, 2, none⟩ = some (.int .i64 a0_2) := (blk_cell BK101.out 2).trans rfl
    have hcz7_3 : w3.cell? ⟨gb101, 3, none⟩ = some (.slice A0_3 l0_3.length c0_3) := (blk_cell BK101.out 3).trans rfl
    have hfz7_0 := blk_frozen BK101.out 0
    have hfz7_1 := blk_frozen BK101.out 1
    have hfz7_2 := blk_frozen BK101.out 2
    have hfz7_3 := blk_frozen BK101.out 3
    go_wp2
    go_meet
    case rel => exact ⟨_, (true), (by first | rfl | (simp; done) | (simp [*]; done)), H', ⟨by first | omega | exact Nat.le_refl _⟩, ⟨by (with_reducible repeat (first | refine blk_drewN ?_ _ | refine blk_drew ?_ | refine blk_alloc ?_ _)); exact BK101.out⟩, ⟨by repeat (first | (with_reducible first | exact HB.out | apply below_alloc | apply pw_below_drewN | apply below_drew1 | refine below_set ?_ GE101.out))⟩⟩
   ·rw [if_neg c6] at H
    have c6b0 : decide (64 ≤ a0_0) = false := decide_eq_false c6
    clear c6
    by_cases c8 : a0_1 < 0
    ·rw [if_pos c8] at H
     have c8b0 : decide (a0_1 < 0) = true := decide_eq_true c8
     clear c8
     have H' := Aside0.mk H
     clear H
     have hcz9_0 : w3.cell? ⟨gb101, 0, none⟩ = some (.int .i64 a0_0) := (blk_cell BK101.out 0).trans rfl
     have hcz9_1 : w3.cell? ⟨gb101, 1, none⟩ = some (.int .i64 a0_1) := (blk_cell BK101.out 1).trans rfl
     have hcz9_2 : w3.cell? ⟨gb101, 2, none⟩ = some (.int .i64 a0_2) := (blk_cell BK101.out 2).trans rfl
     have hcz9_3 : w3.cell? ⟨gb101, 3, none⟩ = some (.slice A0_3 l0_3.length c0_3) := (blk_cell BK101.out 3).trans rfl
     have hfz9_0 := blk_frozen BK101.out 0
     have hfz9_1 := blk_frozen BK101.out 1
     have hfz9_2 := blk_frozen BK101.out 2
     have hfz9_3 := blk_frozen BK101.out 3
     go_wp2
     go_meet
     case rel => exact ⟨_, (true), (by first | rfl | (simp; done) | (simp [*]; done)), H', ⟨by first | omega | exact Nat.le_refl _⟩, ⟨by (with_reducible repeat (first | refine blk_drewN ?_ _ | refine blk_drew ?_ | refine blk_alloc ?_ _)); exact BK101.out⟩, ⟨by repeat (first | (with_reducible first | exact HB.out | apply below_alloc | apply pw_below_drewN | apply below_drew1 | refine below_set ?_ GE101.out))⟩⟩
    ·rw [if_neg c8] at H
     have c8b0 : decide (a0_1 < 0) = false := decide_eq_false c8
     clear c8
     by_cases c10 : a0_1 ≥ a0_2
     ·rw [if_pos c10] at H
      have c10b0 : decide (a0_2 ≤ a0_1) = true := decide_eq_true c10
      clear c10
      have H' := Aside0.mk H
      clear H
      have hcz11_0 : w3.cell? ⟨gb101, 0, none⟩ = some (.int .i64 a0_0) := (blk_cell BK101.out 0).trans rfl
      have hcz11_1 : w3.cell? ⟨gb101, 1, none⟩ = some (.int .i64 a0_1) := (blk_cell BK101.out 1).trans rfl
      have hcz11_2 : w3.cell? ⟨gb101, 2, none⟩ = some (.int .i64 a0_2) := (blk_cell BK101.out 2).trans rfl
      have hcz11_3 : w3.cell? ⟨gb101, 3, none⟩ = some (.slice A0_3 l0_3.length c0_3) := (blk_cell BK101.out 3).trans rfl
      have hfz11_0 := blk_frozen BK101.out 0
      have hfz11_1 := blk_frozen BK101.out 1
      have hfz11_2 := blk_frozen BK101.out 2
      have hfz11_3 := blk_frozen BK101.out 3
      go_wp2
      go_meet
      case rel => exact ⟨_, (true), (by first | rfl | (simp; done) | (simp [*]; done)), H', ⟨by first | omega | exact Nat.le_refl _⟩, ⟨by (with_reducible repeat (first | refine blk_drewN ?_ _ | refine blk_drew ?_ | refine blk_alloc ?_ _)); exact BK101.out⟩, ⟨by repeat (first | (with_reducible first | exact HB.out | apply below_alloc | apply pw_below_drewN | apply below_drew1 | refine below_set ?_ GE101.out))⟩⟩
     ·rw [if_neg c10] at H
      have c10b0 : decide (a0_2 ≤ a0_1) = false := decide_eq_false c10
      clear c10
      by_cases c12 : a0_2 > 2147483647
      ·rw [if_pos c12] at H
       have c12b0 : decide (2147483647 < a0_2) = true := decide_eq_true c12
       clear c12
       have H' := Aside0.mk H
       clear H
       have hcz13_0 : w3.cell? ⟨gb101, 0, none⟩ = some (.int .i64 a0_0) := (blk_cell BK101.out 0).trans rfl
       have hcz13_1 : w3.cell? ⟨gb101, 1, none⟩ = some (.int .i64 a0_1) := (blk_cell BK101.out 1).trans rfl
       have hcz13_2 : w3.cell? ⟨gb101, 2, none⟩ = some (.int .i64 a0_2) := (blk_cell BK101.out 2).trans rfl
       have hcz13_3 : w3.cell? ⟨gb101, 3, none⟩ = some (.slice A0_3 l0_3.length c0_3) := (blk_cell BK101.out 3).trans rfl
       have hfz13_0 := blk_frozen BK101.out 0
       have hfz13_1 := blk_frozen BK101.out 1
       have hfz13_2 := blk_frozen BK101.out 2
       have hfz13_3 := blk_frozen BK101.out 3
       go_wp2
       go_meet
       case rel => exact ⟨_, (true), (by first | rfl | (simp; done) | (simp [*]; done)), H', ⟨by first | omega | exact Nat.le_refl _⟩, ⟨by (with_reducible repeat (first | refine blk_drewN ?_ _ | refine blk_drew ?_ | refine blk_alloc ?_ _)); exact BK101.out⟩, ⟨by repeat (first | (with_reducible first | exact HB.out | apply below_alloc | apply pw_below_drewN | apply below_drew1 | refine below_set ?_ GE101.out))⟩⟩
      ·rw [if_neg c12] at H
       have c12b0 : decide (2147483647 < a0_2) = false := decide_eq_false c12
       clear c12
       by_cases c14 : (l0_3.length : Int) < 1
       ·rw [if_pos c14] at H
        have c14b0 : decide ((l0_3.length : Int) < 1) = true := decide_eq_true c14
        have c14b1 : decide (l0_3.length < 1) = true := decide_eq_true (by omega)
        clear c14
        have H' := Aside0.mk H
        clear H
        have hcz15_0 : w3.cell? ⟨gb101, 0, none⟩ = some (.int .i64 a0_0) := (blk_cell BK101.out 0).trans rfl
        have hcz15_1 : w3.cell? ⟨gb101, 1, none⟩ = some (.int .i64 a0_1) := (blk_cell BK101.out 1).trans rfl
        have hcz15_2 : w3.cell? ⟨gb101, 2, none⟩ = some (.int .i64 a0_2) := (blk_cell BK101.out 2).trans rfl
        have hcz15_3 : w3.cell? ⟨gb101, 3, none⟩ = some (.slice A0_3 l0_3.length c0_3) := (blk_cell BK101.out 3).trans rfl
        have hfz15_0 := blk_frozen BK101.out 0
        have hfz15_1 := blk_frozen BK101.out 1
        have hfz15_2 := blk_frozen BK101.out 2
        have hfz15_3 := blk_frozen BK101.out 3
        go_wp2
        go_meet
        case rel => exact ⟨_, (true), (by first | rfl | (simp; done) | (simp [*]; done)), H', ⟨by first | omega | exact Nat.le_refl _⟩, ⟨by (with_reducible repeat (first | refine blk_drewN ?_ _ | refine blk_drew ?_ | refine blk_alloc ?_ _)); exact BK101.out⟩, ⟨by repeat (first | (with_reducible first | exact HB.out | apply below_alloc | apply pw_below_drewN | apply below_drew1 | refine below_set ?_ GE101.out))⟩⟩
       ·rw [if_neg c14] at H
        have c14b0 : decide ((l0_3.length : Int) < 1) = false := decide_eq_false c14
        have c14b1 : decide (l0_3.length < 1) = false := decide_eq_false (by omega)
        clear c14
        have H' := Aside0.mk H
        clear H
        have hcz16_0 : w3.cell? ⟨gb101, 0, none⟩ = some (.int .i64 a0_0) := (blk_cell BK101.out 0).trans rfl
        have hcz16_1 : w3.cell? ⟨gb101, 1, none⟩ = some (.int .i64 a0_1) := (blk_cell BK101.out 1).trans rfl
        have hcz16_2 : w3.cell? ⟨gb101, 2, none⟩ = some (.int .i64 a0_2) := (blk_cell BK101.out 2).trans rfl
        have hcz16_3 : w3.cell? ⟨gb101, 3, none⟩ = some (.slice A0_3 l0_3.length c0_3) := (blk_cell BK101.out 3).trans rfl
        have hfz16_0 := blk_frozen BK101.out 0
        have hfz16_1 := blk_frozen BK101.out 1
        have hfz16_2 := blk_frozen BK101.out 2
        have hfz16_3 := blk_frozen BK101.out 3
        go_wp2
        go_meet
        case rel => exact ⟨_, (decide ((l0_3.length : Int) > 64)), (by first | rfl | (simp; done) | (simp [*]; done)), H', ⟨by first | omega | exact Nat.le_refl _⟩, ⟨by (with_reducible repeat (first | refine blk_drewN ?_ _ | refine blk_drew ?_ | refine blk_alloc ?_ _)); exact BK101.out⟩, ⟨by repeat (first | (with_reducible first | exact HB.out | apply below_alloc | apply pw_below_drewN | apply below_drew1 | refine below_set ?_ GE101.out))⟩⟩
 case rest =>
  clear HC2
  try clear c1
  try clear p2
  try clear c4
  try clear c4b0
  try clear c6
  try clear c6b0
  try clear c8
  try clear c8b0
  try clear c10
  try clear c10b0
  try clear c12
  try clear c12b0
  try clear c14
  try clear c14b0
  try clear c14b1
  try clear hcz11_0
  try clear hcz11_1
  try clear hcz11_2
  try clear hcz11_3
  try clear hcz13_0
  try clear hcz13_1
  try clear hcz13_2
  try clear hcz13_3
  try clear hcz15_0
  try clear hcz15_1
  try clear hcz15_2
  try clear hcz15_3
  try clear hcz16_0
  try clear hcz16_1
  try clear hcz16_2
  try clear hcz16_3
  try clear hcz5_0
  try clear hcz5_1
  try clear hcz5_2
  try clear hcz5_3
  try clear hcz7_0
  try clear hcz7_1
  try clear hcz7_2
  try clear hcz7_3
  try clear hcz9_0
  try clear hcz9_1
  try clear hcz9_2
  try clear hcz9_3
  try clear hfz11_0
  try clear hfz11_1
  try clear hfz11_2
  try clear hfz11_3
  try clear hfz13_0
  try clear hfz13_1
  try clear hfz13_2
  try clear hfz13_3
  try clear hfz15_0
  try clear hfz15_1
  try clear hfz15_2
  try clear hfz15_3
  try clear hfz16_0
  try clear hfz16_1
  try clear hfz16_2
  try clear hfz16_3
  try clear hfz5_0
  try clear hfz5_1
  try clear hfz5_2
  try clear hfz5_3
  try clear hfz7_0
  try clear hfz7_1
  try clear hfz7_2
  try clear hfz7_3
  try clear hfz9_0
  try clear hfz9_1
  try clear hfz9_2
  try clear hfz9_3
  obtain ⟨kq, x41_1, rfl, HA, HJ1, BK101, HB⟩ := hcut
  cases kq with
  | zero => exact absurd HA.out (by simp [txn_Right.j0])
  | succ kj1 =>
   have H := HA.out
   clear HA
   simp only [txn_Right.j0] at H
   by_cases c17 : x41_1 = true
   ·subst c17
    have H1 : (some false) = some r := by rw [if_pos rfl] at H; exact H
    clear H
    have H := H1
    clear H1
    obtain rfl := Option.some.inj H
    go_wp2
    go_ret
    exact ⟨by first | rfl | (simp <;> rfl) | (simp [*] <;> rfl), by repeat (first | (with_reducible first | exact HB.out | apply below_alloc | apply pw_below_drewN | apply below_drew1 | refine below_set ?_ GE101.out))⟩
   ·replace c17 := Bool.eq_false_iff.mpr c17
    subst c17
    have H1 : (txn_Right.l0 kj1 l0_3 (l0_3.length : Int) 0) = some r := by rw [if_neg (show ¬ (false = true) by decide)] at H; exact H
    clear H
    have H := H1
    clear H1
    have H' := Aside0.mk H
    clear H
    have hcz18_0 : wc.cell? ⟨gb101, 0, none⟩ = some (.int .i64 a0_0) := (blk_cell BK101.out 0).trans rfl
    have hcz18_1 : wc.cell? ⟨gb101, 1, none⟩ = some (.int .i64 a0_1) := (blk_cell BK101.out 1).trans rfl
    have hcz18_2 : wc.cell? ⟨gb101, 2, none⟩ = some (.int .i64 a0_2) := (blk_cell BK101.out 2).trans rfl
    have hcz18_3 : wc.cell? ⟨gb101, 3, none⟩ = some (.slice A0_3 l0_3.length c0_3) := (blk_cell BK101.out 3).trans rfl
    have hfz18_0 := blk_frozen BK101.out 0
    have hfz18_1 := blk_frozen BK101.out 1
    have hfz18_2 := blk_frozen BK101.out 2
    have hfz18_3 := blk_frozen BK101.out 3
    go_wp2
    go_loopg [45] kj1 (fun kq v45 w' => ∃ (x45_2 : Int), v45 = .int .i64 x45_2 ∧ Aside0 (txn_Right.l0 kq l0_3 (l0_3.length : Int) x45_2 = some r) ∧ Aside0 (kq ≤ kj1) ∧ Aside0 (w'.heap[gb101]? = some (.cells #[.int .i64 a0_0, .int .i64 a0_1, .int .i64 a0_2, (.slice A0_3 l0_3.length c0_3)] 44 (0, 0))) ∧ Aside0 (Below w.heap.size w w'))
    case atStart => exact ⟨(0), (by first | rfl | (simp; done) | (simp [*]; done)), H', ⟨Nat.le_refl _⟩, ⟨by (with_reducible repeat (first | refine blk_drewN ?_ _ | refine blk_drew ?_ | refine blk_alloc ?_ _)); exact BK101.out⟩, ⟨by repeat (first | (with_reducible first | exact HB.out | apply below_alloc | apply pw_below_drewN | apply below_drew1 | refine below_set ?_ GE101.out))⟩⟩
    case round =>
     clear H'
     try clear c1
     try clear p2
     try clear c4
     try clear c4b0
     try clear c6
     try clear c6b0
     try clear c8
     try clear c8b0
     try clear c10
     try clear c10b0
     try clear c12
     try clear c12b0
     try clear c14
     try clear c14b0
     try clear c14b1
     try clear c17
     try clear hcz11_0
     try clear hcz11_1
     try clear hcz11_2
     try clear hcz11_3
     try clear hcz13_0
     try clear hcz13_1
     try clear hcz13_2
     try clear hcz13_3
     try clear hcz15_0
     try clear hcz15_1
     try clear hcz15_2
     try clear hcz15_3
     try clear hcz16_0
     try clear hcz16_1
     try clear hcz16_2
     try clear hcz16_3
     try clear hcz18_0
     try clear hcz18_1
     try clear hcz18_2
     try clear hcz18_3
     try clear hcz5_0
     try clear hcz5_1
     try clear hcz5_2
     try clear hcz5_3
     try clear hcz7_0
     try clear hcz7_1
     try clear hcz7_2
     try clear hcz7_3
     try clear hcz9_0
     try clear hcz9_1
     try clear hcz9_2
     try clear hcz9_3
     try clear hfz11_0
     try clear hfz11_1
     try clear hfz11_2
     try clear hfz11_3
     try clear hfz13_0
     try clear hfz13_1
     try clear hfz13_2
     try clear hfz13_3
     try clear hfz15_0
     try clear hfz15_1
     try clear hfz15_2
     try clear hfz15_3
     try clear hfz16_0
     try clear hfz16_1
     try clear hfz16_2
     try clear hfz16_3
     try clear hfz18_0
     try clear hfz18_1
     try clear hfz18_2
     try clear hfz18_3
     try clear hfz5_0
     try clear hfz5_1
     try clear hfz5_2
     try clear hfz5_3
     try clear hfz7_0
     try clear hfz7_1
     try clear hfz7_2
     try clear hfz7_3
     try clear hfz9_0
     try clear hfz9_1
     try clear hfz9_2
     try clear hfz9_3
     try clear p2
     obtain ⟨x45_2, rfl, HA, HK2, BK101, HB⟩ := hrel
     cases gk with
     | zero => exact absurd HA.out (by simp [txn_Right.l0])
     | succ k2 =>
      have H := HA.out
      clear HA
      simp only [txn_Right.l0] at H
      by_cases c19 : x45_2 < (l0_3.length : Int)
      ·rw [if_pos c19] at H
       have c19b0 : decide (x45_2 < (l0_3.length : Int)) = true := decide_eq_true c19
       clear c19
       by_cases c20 : 0 ≤ x45_2
       ·rw [if_pos c20] at H
        have c20b0 : decide (0 ≤ x45_2) = true := decide_eq_true c20
        clear c20
        by_cases c21 : x45_2 < (l0_3.length : Int)
        ·rw [if_pos c21] at H
         have c21b0 : decide (x45_2 < (l0_3.length : Int)) = true := decide_eq_true c21
         clear c21
         replace H := Option.bind_eq_some_iff.mp H
         obtain ⟨t104, A220, H⟩ := H
         replace H : (if t104 = true then (txn_Right.l0 k2 l0_3 (l0_3.length : Int) (wrap64 (x45_2 + 1))) else (some false)) = some r := H
         have A22 := Aside0.mk A220
         clear A220
         by_cases c23 : t104 = true
         ·subst c23
          have H1 : (txn_Right.l0 k2 l0_3 (l0_3.length : Int) (wrap64 (x45_2 + 1))) = some r := by rw [if_pos rfl] at H; exact H
          clear H
          have H := H1
          clear H1
          have H' := Aside0.mk H
          clear H
          have p102 : 0 ≤ (x45_2 : Int) := of_decide_eq_true (by assumption)
          have q102 : x45_2 < (l0_3.length : Int) := of_decide_eq_true (by assumption)
          obtain ⟨ad102, e102, hx102_0, hx102_1, hx102_2⟩ := at_T46 HR0_3.out x45_2 p102 q102
          cases e102
          replace hx102_0 := (HB.out.cell (World.block_lt_of_cell? w _ hx102_0)).trans hx102_0
          replace hx102_1 := (HB.out.cell (World.block_lt_of_cell? w _ hx102_1)).trans hx102_1
          replace hx102_2 := (HB.out.cell (World.block_lt_of_cell? w _ hx102_2)).trans hx102_2
          replace p102 := eq_true p102
          replace q102 := eq_true q102
          go_wp2_with (first | ((with_reducible refine gate_dst (N := 4) rfl ?_); (try (refine gate_guard (by rfl) ?_; dsimp only)); refine box_event ?hg (N := 4) ?hd (cs := #[.bool false, .int .i64 0, .int .i64 0]) (t := 46) ?hr ?_; (case hd => rfl); (case hg => rfl); (case hr => first | (go_simp; done) | (go_simp; rfl)); intro gb103 hg w24 hbox hb; have n0_ := Aside0.mk (blk_below (g := gb101) (o := .cells #[.int .i64 a0_0, .int .i64 a0_1, .int .i64 a0_2, .slice (some ad102) l0_3.length c0_3] 44 (0, 0)) (by (with_reducible repeat (first | refine blk_drewN ?_ _ | refine blk_drew ?_ | refine blk_alloc ?_ _)); exact BK101.out) hb); have n1_ := Aside0.mk (below_step (by repeat (first | (with_reducible first | exact HB.out | apply below_alloc | apply pw_below_drewN | apply below_drew1 | refine below_set ?_ GE101.out))) hb); have n2_ := Aside0.mk (hbox); have n3_ := Aside0.mk ((by rw [hg]; exact (below_size (by repeat (first | (with_reducible first | exact HB.out | apply below_alloc | apply pw_below_drewN | apply below_drew1 | refine below_set ?_ GE101.out)))) : w.heap.size ≤ gb103)); have n4_ := Aside0.mk ((by rw [hg]; exact (below_size (by repeat (first | (with_reducible first | exact HB.out | apply below_alloc | apply pw_below_drewN | apply below_drew1 | refine below_set ?_ GE101.out)))) : w.heap.size ≤ gb103)); have n5_ := Aside0.mk ((by rw [hg]; exact Nat.ne_of_lt (blk_lt (g := gb101) (o := .cells #[.int .i64 a0_0, .int .i64 a0_1, .int .i64 a0_2, .slice (some ad102) l0_3.length c0_3] 44 (0, 0)) (by (with_reducible repeat (first | refine blk_drewN ?_ _ | refine blk_drew ?_ | refine blk_alloc ?_ _)); exact BK101.out)) : gb101 ≠ gb103)); have n6_ := Aside0.mk ((by rw [hg]; exact Nat.ne_of_gt (blk_lt (g := gb101) (o := .cells #[.int .i64 a0_0, .int .i64 a0_1, .int .i64 a0_2, .slice (some ad102) l0_3.length c0_3] 44 (0, 0)) (by (with_reducible repeat (first | refine blk_drewN ?_ _ | refine blk_drew ?_ | refine blk_alloc ?_ _)); exact BK101.out)) : gb103 ≠ gb101)); clear BK101; clear HB; have BK101 := n0_; have HB := n1_; have BK103 := n2_; have GW103 := n3_; have GE103 := n4_; have NB101_103 := n5_; have NB103_101 := n6_; clear n0_ n1_ n2_ n3_ n4_ n5_ n6_; clear hb hbox hg; have hnb25 := NB103_101.out; have hnc25 := NB101_103.out; have hcz26_0 : w24.cell? ⟨gb103, 0, none⟩ = some (.bool false) := (blk_cell BK103.out 0).trans rfl; have hcz26_1 : w24.cell? ⟨gb103, 1, none⟩ = some (.int .i64 0) := (blk_cell BK103.out 1).trans rfl; have hcz26_2 : w24.cell? ⟨gb103, 2, none⟩ = some (.int .i64 0) := (blk_cell BK103.out 2).trans rfl; have hfz26_0 := blk_frozen BK103.out 0; have hfz26_1 := blk_frozen BK103.out 1; have hfz26_2 := blk_frozen BK103.out 2) | ((with_reducible refine gate_callee (f := 94) rfl ?_); refine goesL_ (some 50) rfl rfl Try.func94 (by kernel_rfl) rfl #[.agg #[.bool ((rd_T46 l0_3 x45_2).f0), .int .i64 ((rd_T46 l0_3 x45_2).f1), .int .i64 ((rd_T46 l0_3 x45_2).f2)]] rfl (by (try simp only [List.map_toArray, List.map_cons, List.map_nil]); first | done | rfl | (simp only [List.length_drop, List.length_take]; rfl)) ?_; (with_reducible refine (op_Right.calls ((rd_T46 l0_3 x45_2).f0) ((rd_T46 l0_3 x45_2).f1) ((rd_T46 l0_3 x45_2).f2) true _ A22.out).mono ?_); rintro e w27 ⟨rfl, hb⟩; refine ⟨_, rfl, ?_⟩; have n0_ := Aside0.mk (blk_below (g := gb101) (o := .cells #[.int .i64 a0_0, .int .i64 a0_1, .int .i64 a0_2, .slice (some ad102) l0_3.length c0_3] 44 (0, 0)) (by (with_reducible repeat (first | refine blk_drewN ?_ _ | refine blk_drew ?_ | refine blk_alloc ?_ _)); refine blk_far ?_ NB101_103.out _; (with_reducible repeat (first | refine blk_drewN ?_ _ | refine blk_drew ?_ | refine blk_alloc ?_ _)); refine blk_far ?_ NB101_103.out _; (with_reducible repeat (first | refine blk_drewN ?_ _ | refine blk_drew ?_ | refine blk_alloc ?_ _)); refine blk_far ?_ NB101_103.out _; (with_reducible repeat (first | refine blk_drewN ?_ _ | refine blk_drew ?_ | refine blk_alloc ?_ _)); exact BK101.out) hb); have n1_ := Aside0.mk (blk_below (g := gb103) (o := .cells #[.bool ((rd_T46 l0_3 x45_2).f0), .int .i64 ((rd_T46 l0_3 x45_2).f1), .int .i64 ((rd_T46 l0_3 x45_2).f2)] 46 (0, 0)) (by (with_reducible repeat (first | refine blk_drewN ?_ _ | refine blk_drew ?_ | refine blk_alloc ?_ _)); refine blk_put (cs := #[.bool ((rd_T46 l0_3 x45_2).f0), .int .i64 ((rd_T46 l0_3 x45_2).f1), .int .i64 0]) ?_ 2 _ rfl; (with_reducible repeat (first | refine blk_drewN ?_ _ | refine blk_drew ?_ | refine blk_alloc ?_ _)); refine blk_put (cs := #[.bool ((rd_T46 l0_3 x45_2).f0), .int .i64 0, .int .i64 0]) ?_ 1 _ rfl; (with_reducible repeat (first | refine blk_drewN ?_ _ | refine blk_drew ?_ | refine blk_alloc ?_ _)); refine blk_put (cs := #[.bool false, .int .i64 0, .int .i64 0]) ?_ 0 _ rfl; (with_reducible repeat (first | refine blk_drewN ?_ _ | refine blk_drew ?_ | refine blk_alloc ?_ _)); exact BK103.out) hb); have n2_ := Aside0.mk (below_step (by repeat (first | (with_reducible first | exact HB.out | apply below_alloc | apply pw_below_drewN | apply below_drew1 | refine below_set ?_ GE101.out | refine below_set ?_ GE103.out))) hb); clear BK101; clear BK103; clear HB; have BK101 := n0_; have BK103 := n1_; have HB := n2_; clear n0_ n1_ n2_; (try clear hb); (try clear hb2); (try clear hk); (try clear hi)))
          go_roundg k2
          case measure => have := HJ1.out; have := HK2.out; omega
          case rel => exact ⟨(wrap64 (x45_2 + 1)), (by first | rfl | (simp; done) | (simp [*]; done)), H', ⟨by have := HJ1.out; have := HK2.out; omega⟩, ⟨by (with_reducible repeat (first | refine blk_drewN ?_ _ | refine blk_drew ?_ | refine blk_alloc ?_ _)); exact BK101.out⟩, ⟨by repeat (first | (with_reducible first | exact HB.out | apply below_alloc | apply pw_below_drewN | apply below_drew1 | refine below_set ?_ GE101.out | refine below_set ?_ GE103.out))⟩⟩
         ·replace c23 := Bool.eq_false_iff.mpr c23
          subst c23
          have H1 : (some false) = some r := by rw [if_neg (show ¬ (false = true) by decide)] at H; exact H
          clear H
          have H := H1
          clear H1
          obtain rfl := Option.some.inj H
          have p102 : 0 ≤ (x45_2 : Int) := of_decide_eq_true (by assumption)
          have q102 : x45_2 < (l0_3.length : Int) := of_decide_eq_true (by assumption)
          obtain ⟨ad102, e102, hx102_0, hx102_1, hx102_2⟩ := at_T46 HR0_3.out x45_2 p102 q102
          cases e102
          replace hx102_0 := (HB.out.cell (World.block_lt_of_cell? w _ hx102_0)).trans hx102_0
          replace hx102_1 := (HB.out.cell (World.block_lt_of_cell? w _ hx102_1)).trans hx102_1
          replace hx102_2 := (HB.out.cell (World.block_lt_of_cell? w _ hx102_2)).trans hx102_2
          replace p102 := eq_true p102
          replace q102 := eq_true q102
          go_wp2_with (first | ((with_reducible refine gate_dst (N := 4) rfl ?_); (try (refine gate_guard (by rfl) ?_; dsimp only)); refine box_event ?hg (N := 4) ?hd (cs := #[.bool false, .int .i64 0, .int .i64 0]) (t := 46) ?hr ?_; (case hd => rfl); (case hg => rfl); (case hr => first | (go_simp; done) | (go_simp; rfl)); intro gb103 hg w28 hbox hb; have n0_ := Aside0.mk (blk_below (g := gb101) (o := .cells #[.int .i64 a0_0, .int .i64 a0_1, .int .i64 a0_2, .slice (some ad102) l0_3.length c0_3] 44 (0, 0)) (by (with_reducible repeat (first | refine blk_drewN ?_ _ | refine blk_drew ?_ | refine blk_alloc ?_ _)); exact BK101.out) hb); have n1_ := Aside0.mk (below_step (by repeat (first | (with_reducible first | exact HB.out | apply below_alloc | apply pw_below_drewN | apply below_drew1 | refine below_set ?_ GE101.out))) hb); have n2_ := Aside0.mk (hbox); have n3_ := Aside0.mk ((by rw [hg]; exact (below_size (by repeat (first | (with_reducible first | exact HB.out | apply below_alloc | apply pw_below_drewN | apply below_drew1 | refine below_set ?_ GE101.out)))) : w.heap.size ≤ gb103)); have n4_ := Aside0.mk ((by rw [hg]; exact (below_size (by repeat (first | (with_reducible first | exact HB.out | apply below_alloc | apply pw_below_drewN | apply below_drew1 | refine below_set ?_ GE101.out)))) : w.heap.size ≤ gb103)); have n5_ := Aside0.mk ((by rw [hg]; exact Nat.ne_of_lt (blk_lt (g := gb101) (o := .cells #[.int .i64 a0_0, .int .i64 a0_1, .int .i64 a0_2, .slice (some ad102) l0_3.length c0_3] 44 (0, 0)) (by (with_reducible repeat (first | refine blk_drewN ?_ _ | refine blk_drew ?_ | refine blk_alloc ?_ _)); exact BK101.out)) : gb101 ≠ gb103)); have n6_ := Aside0.mk ((by rw [hg]; exact Nat.ne_of_gt (blk_lt (g := gb101) (o := .cells #[.int .i64 a0_0, .int .i64 a0_1, .int .i64 a0_2, .slice (some ad102) l0_3.length c0_3] 44 (0, 0)) (by (with_reducible repeat (first | refine blk_drewN ?_ _ | refine blk_drew ?_ | refine blk_alloc ?_ _)); exact BK101.out)) : gb103 ≠ gb101)); clear BK101; clear HB; have BK101 := n0_; have HB := n1_; have BK103 := n2_; have GW103 := n3_; have GE103 := n4_; have NB101_103 := n5_; have NB103_101 := n6_; clear n0_ n1_ n2_ n3_ n4_ n5_ n6_; clear hb hbox hg; have hnb29 := NB103_101.out; have hnc29 := NB101_103.out; have hcz30_0 : w28.cell? ⟨gb103, 0, none⟩ = some (.bool false) := (blk_cell BK103.out 0).trans rfl; have hcz30_1 : w28.cell? ⟨gb103, 1, none⟩ = some (.int .i64 0) := (blk_cell BK103.out 1).trans rfl; have hcz30_2 : w28.cell? ⟨gb103, 2, none⟩ = some (.int .i64 0) := (blk_cell BK103.out 2).trans rfl; have hfz30_0 := blk_frozen BK103.out 0; have hfz30_1 := blk_frozen BK103.out 1; have hfz30_2 := blk_frozen BK103.out 2) | ((with_reducible refine gate_callee (f := 94) rfl ?_); refine goesL_ (some 50) rfl rfl Try.func94 (by kernel_rfl) rfl #[.agg #[.bool ((rd_T46 l0_3 x45_2).f0), .int .i64 ((rd_T46 l0_3 x45_2).f1), .int .i64 ((rd_T46 l0_3 x45_2).f2)]] rfl (by (try simp only [List.map_toArray, List.map_cons, List.map_nil]); first | done | rfl | (simp only [List.length_drop, List.length_take]; rfl)) ?_; (with_reducible refine (op_Right.calls ((rd_T46 l0_3 x45_2).f0) ((rd_T46 l0_3 x45_2).f1) ((rd_T46 l0_3 x45_2).f2) false _ A22.out).mono ?_); rintro e w31 ⟨rfl, hb⟩; refine ⟨_, rfl, ?_⟩; have n0_ := Aside0.mk (blk_below (g := gb101) (o := .cells #[.int .i64 a0_0, .int .i64 a0_1, .int .i64 a0_2, .slice (some ad102) l0_3.length c0_3] 44 (0, 0)) (by (with_reducible repeat (first | refine blk_drewN ?_ _ | refine blk_drew ?_ | refine blk_alloc ?_ _)); refine blk_far ?_ NB101_103.out _; (with_reducible repeat (first | refine blk_drewN ?_ _ | refine blk_drew ?_ | refine blk_alloc ?_ _)); refine blk_far ?_ NB101_103.out _; (with_reducible repeat (first | refine blk_drewN ?_ _ | refine blk_drew ?_ | refine blk_alloc ?_ _)); refine blk_far ?_ NB101_103.out _; (with_reducible repeat (first | refine blk_drewN ?_ _ | refine blk_drew ?_ | refine blk_alloc ?_ _)); exact BK101.out) hb); have n1_ := Aside0.mk (blk_below (g := gb103) (o := .cells #[.bool ((rd_T46 l0_3 x45_2).f0), .int .i64 ((rd_T46 l0_3 x45_2).f1), .int .i64 ((rd_T46 l0_3 x45_2).f2)] 46 (0, 0)) (by (with_reducible repeat (first | refine blk_drewN ?_ _ | refine blk_drew ?_ | refine blk_alloc ?_ _)); refine blk_put (cs := #[.bool ((rd_T46 l0_3 x45_2).f0), .int .i64 ((rd_T46 l0_3 x45_2).f1), .int .i64 0]) ?_ 2 _ rfl; (with_reducible repeat (first | refine blk_drewN ?_ _ | refine blk_drew ?_ | refine blk_alloc ?_ _)); refine blk_put (cs := #[.bool ((rd_T46 l0_3 x45_2).f0), .int .i64 0, .int .i64 0]) ?_ 1 _ rfl; (with_reducible repeat (first | refine blk_drewN ?_ _ | refine blk_drew ?_ | refine blk_alloc ?_ _)); refine blk_put (cs := #[.bool false, .int .i64 0, .int .i64 0]) ?_ 0 _ rfl; (with_reducible repeat (first | refine blk_drewN ?_ _ | refine blk_drew ?_ | refine blk_alloc ?_ _)); exact BK103.out) hb); have n2_ := Aside0.mk (below_step (by repeat (first | (with_reducible first | exact HB.out | apply below_alloc | apply pw_below_drewN | apply below_drew1 | refine below_set ?_ GE101.out | refine below_set ?_ GE103.out))) hb); clear BK101; clear BK103; clear HB; have BK101 := n0_; have BK103 := n1_; have HB := n2_; clear n0_ n1_ n2_; (try clear hb); (try clear hb2); (try clear hk); (try clear hi)))
          go_ret
          exact ⟨by first | rfl | (simp <;> rfl) | (simp [*] <;> rfl), by repeat (first | (with_reducible first | exact HB.out | apply below_alloc | apply pw_below_drewN | apply below_drew1 | refine below_set ?_ GE101.out | refine below_set ?_ GE103.out))⟩
        ·rw [if_neg c21] at H
         exact absurd H (by simp)
       ·rw [if_neg c20] at H
        exact absurd H (by simp)
      ·rw [if_neg c19] at H
       have c19b0 : decide (x45_2 < (l0_3.length : Int)) = false := decide_eq_false c19
       clear c19
       obtain rfl := Option.some.inj H
       go_wp2
       go_ret
       exact ⟨by first | rfl | (simp <;> rfl) | (simp [*] <;> rfl), by repeat (first | (with_reducible first | exact HB.out | apply below_alloc | apply pw_below_drewN | apply below_drew1 | refine below_set ?_ GE101.out))⟩
end Go.Proofs.Ytfocaefnmfkojaa.Q
namespace Go.Proofs.Ytfocaefnmfkojaa.Q
open Go.RowKit Go.Proofs.YtfocaefnmfkojaaW.PrintWords Go.Proofs.YtfocaefnmfkojaaW.PrintLast Go.Proofs.YtfocaefnmfkojaaW.PrintMore
attribute [local go_sem] max2_int min2_int max_two min_two max_three min_three max_four min_four   -- for this text's walks alone
set_option linter.unusedVariables false
set_option linter.unusedSimpArgs false
def txn_byKey.f (k : Nat) (l0 : List (S46)) : Option ((List (S46))) := (api_Op_107.f k l0 0).bind fun t101 => (some t101)
set_option maxHeartbeats 8000000 in
set_option maxRecDepth 100000 in
theorem txn_byKey.calls (k : Nat) (P0_ : Nat → Prop) (u9000_ : Value) (l0 : List (S46)) (r : List (S46)) (w0 w : World) (hB : Below w0.heap.size w0 w) (ho0 : Kd.R k46 46 w w0.heap.size P0_ u9000_ l0) (h : txn_byKey.f k l0 = some r) :
  Calls Try.prog 95 #[u9000_] w fun e w' => ∃ v0_ : Value, e = .returned (v0_) ∧ Kd.R k46 46 w' w0.heap.size (fun k_ => (P0_ k_ ∨ w.heap.size ≤ k_)) v0_ r ∧ Below w0.heap.size w0 w' ∧ Kept w w' (fun k_ => P0_ k_) := by
 have HO0 := Aside0.mk (show Kd.R k46 46 w w0.heap.size (fun k_ => (P0_ k_ ∨ w.heap.size ≤ k_)) u9000_ l0 from Kd.R_mono ho0 (fun k_ hk => (.inl hk)))
 have HK := Aside0.mk (Kept.refl w (fun k_ => P0_ k_))
 have HW0 := Aside0.mk hB.size
 have HB := Aside0.mk hB
 clear hB
 have H : ((api_Op_107.f k l0 0).bind fun t101 => (some t101)) = some r := h
 clear h
 replace H := Option.bind_eq_some_iff.mp H
 obtain ⟨t101, A20, H⟩ := H
 replace H : (some t101) = some r := H
 have A2 := Aside0.mk A20
 clear A20
 obtain rfl := Option.some.inj H
 obtain ⟨Ao3, co3, eo3⟩ := Kd.R_slice HO0.out
 subst eo3
 go_enter Try.func95, Try.ntmps95
 go_wp2_with (first | ((with_reducible refine gate_callee (f := 107) rfl ?_); refine goesL_ (some 4) rfl rfl Try.func107 (by kernel_rfl) rfl #[.slice Ao3 l0.length co3, .func (.func 108) #[] #[]] rfl (by (try simp only [List.map_toArray, List.map_cons, List.map_nil]); first | done | rfl | (simp only [List.length_drop, List.length_take]; rfl)) ?_; (with_reducible refine (api_Op_107.calls k (fun k_ => some k_ = (.slice Ao3 l0.length co3 : Value).ownBlock) (.slice Ao3 l0.length co3) l0 0 t101 w0 _ ?side1 ?side2 A2.out).mono ?_); (case side1 => repeat (first | (with_reducible first | exact HB.out | apply below_alloc | apply pw_below_drewN | apply below_drew1))); (case side2 => exact Kd.R_tight rfl HO0.out); rintro e w4 ⟨rfl, hy0, hb, hkp⟩; refine ⟨_, rfl, ?_⟩; have n0_ := Aside0.mk (Kd.R_reok rfl hy0 (fun k_ e_ => HO0.out.1 k_ e_)); have n1_ := Aside0.mk (Kept.then_ (S := (fun k_ => P0_ k_)) (by repeat (first | (with_reducible first | exact HK.out | apply Kept.alloc | apply Kept.drewN | apply Kept.drew) | exact HK.out)) hkp (fun k_ hs_ => (fun e_ => (HO0.out.1 k_ e_.symm)) hs_)); have n2_ := Aside0.mk (hb); clear HO0; clear HK; clear HB; have HO0 := n0_; have HK := n1_; have HB := n2_; clear n0_ n1_ n2_; (try clear hb); (try clear hkp); (try clear hy0)))
 go_ret
 exact ⟨_, by first | rfl | (simp <;> rfl) | (simp [*] <;> rfl), by (with_reducible repeat (first | apply Kd.R_alloc | apply Kd.R_drewN | apply Kd.R_drew)); exact HO0.out, by repeat (first | (with_reducible first | exact HB.out | apply below_alloc | apply pw_below_drewN | apply below_drew1)), by repeat (first | (with_reducible first | exact HK.out | apply Kept.alloc | apply Kept.drewN | apply Kept.drew) | exact HK.out)⟩
end Go.Proofs.Ytfocaefnmfkojaa.Q
namespace Go.Proofs.Ytfocaefnmfkojaa.R
open Go.RowKit Go.Proofs.Ytfocaefnmfkojaa.Q Go.Proofs.YtfocaefnmfkojaaW.PrintWords Go.Proofs.YtfocaefnmfkojaaW.PrintLast
set_option linter.unusedVariables false
set_option linter.unusedSimpArgs false
abbrev Op := S46
abbrev Txn := S44
abbrev Pair := S154
abbrev Op.w (o : Op) : Bool := o.f0
abbrev Op.key (o : Op) : Int := o.f1
abbrev Op.val (o : Op) : Int := o.f2
abbrev Txn.ops (t : Txn) : List Op := t.f3
theorem wrapN (n : Nat) (h : n < 4611686018427387904) : wrap64 ((n : Int) + 1) = ((n + 1 : Nat) : Int) := by
  unfold wrap64
  omega
theorem wrapI (x : Int) (h0 : -4611686018427387904 ≤ x) (h1 : x ≤ 4611686018427387904) : wrap64 x = x := by
  unfold wrap64
  omega
theorem rdOp (xs : List Op) (i : Nat) (h : i < xs.length) : rd_T46 xs (i : Int) = xs[i] := by
  simp [rd_T46, List.getD_eq_getElem?_getD, List.getElem?_eq_getElem h]
theorem rdTxn (xs : List Txn) (i : Nat) (h : i < xs.length) : rd_T44 xs (i : Int) = xs[i] := by
  simp [rd_T44, List.getD_eq_getElem?_getD, List.getElem?_eq_getElem h]
theorem drop_at {α : Type} (l : List α) (i : Nat) (h : i < l.length) : l.drop i = l[i] :: l.drop (i + 1) := List.drop_eq_getElem_cons h
theorem drop_end {α : Type} (l : List α) (i : Nat) (h : l.length ≤ i) : l.drop i = [] := List.drop_eq_nil_of_le h
abbrev Few {α : Type} (l : List α) : Prop := l.length ≤ 1000000000000
theorem Ev.ofEq {α : Type} {g : Nat → Option α} {r r' : α} (h : Ev g r) (e : r = r') : Ev g r' := e ▸ h
def has (l : List Pair) (a b : Int) : Bool := l.any fun p => p.f0 == a && p.f1 == b
def put (l : List Pair) (a b : Int) : List Pair := if has l a b then l else l ++ [(⟨a, b⟩ : Pair)]
end Go.Proofs.Ytfocaefnmfkojaa.R
namespace Go.Proofs.Ytfocaefnmfkojaa.R
open Go.RowKit Go.Proofs.Ytfocaefnmfkojaa.Q Go.Proofs.YtfocaefnmfkojaaW.PrintWords Go.Proofs.YtfocaefnmfkojaaW.PrintLast
set_option linter.unusedVariables false
set_option linter.unusedSimpArgs false
def prev (l : List Op) (i : Nat) (key : Int) : Option Op := (l.take i).reverse.find? fun o => o.f1 == key
def enc (o : Option Op) : Bool × Int × Int × Bool := match o with
  | none => (false, 0, 0, false)
  | some o => (o.f0, o.f1, o.f2, true)
theorem prev_succ (l : List Op) (i : Nat) (key : Int) (h : i < l.length) : prev l (i + 1) key = if (l[i]).f1 = key then some l[i] else prev l i key := by
  unfold prev
  rw [List.take_succ_eq_append_getElem h, List.reverse_append, List.reverse_singleton, List.singleton_append, List.find?_cons]
  by_cases h1 : (l[i]).f1 = key
  · simp [h1]
  · rw [if_neg h1, show ((l[i]).f1 == key) = false by simpa using h1]
def steadyAt (l : List Op) (i : Nat) : Bool := match l[i]? with
  | none => true
  | some o => match prev l i o.f1 with
    | none => true
    | some p => o.f0 || p.f2 == o.f2
def steady (l : List Op) : Bool := (List.range l.length).all (steadyAt l)
def firstAt (l : List Op) (key : Int) (i : Nat) : Option Op := match l[i]? with
  | none => none
  | some o => if o.f1 = key ∧ o.f0 = false ∧ prev l i key = none then some o else none
def readsKey (l : List Op) (key : Int) : List Op := (List.range l.length).filterMap (firstAt l key)
def keys64 : List Nat := List.range 64
def reads (l : List Op) : List Op := keys64.flatMap fun key : Nat => readsKey l (key : Int)
def lastW (l : List Op) (key : Int) : Option Op := l.reverse.find? fun o => o.f0 && o.f1 == key
def writes (l : List Op) : List Op := keys64.flatMap fun key : Nat => (lastW l (key : Int)).toList
theorem writes_len (l : List Op) : (writes l).length ≤ 64 := by
  have : ∀ ks : List Nat, (ks.flatMap fun key : Nat => (lastW l (key : Int)).toList).length ≤ ks.length := by
    intro ks
    induction ks with
    | nil => simp
    | cons a ks ih =>
      rw [List.flatMap_cons, List.length_append, List.length_cons]
      have : (lastW l (a : Int)).toList.length ≤ 1 := by cases lastW l (a : Int) <;> simp
      omega
  have h := this keys64
  rw [show keys64.length = 64 from List.length_range] at h
  exact h
def value (l : List Op) (key : Int) : Int := match (writes l).find? fun o => o.f1 == key with
  | none => 0
  | some o => o.f2
theorem lastW_key (l : List Op) (key : Int) (o : Op) (h : lastW l key = some o) : o.f0 = true ∧ o.f1 = key ∧ o ∈ l := by
  unfold lastW at h
  have h1 := List.find?_some h
  have h2 := List.mem_of_find?_eq_some h
  simp at h1
  exact ⟨h1.1, h1.2, by simpa using h2⟩
end Go.Proofs.Ytfocaefnmfkojaa.R
namespace Go.Proofs.Ytfocaefnmfkojaa.R
open Go.RowKit Go.Proofs.Ytfocaefnmfkojaa.Q Go.Proofs.YtfocaefnmfkojaaW.PrintWords Go.Proofs.YtfocaefnmfkojaaW.PrintLast
set_option linter.unusedVariables false
set_option linter.unusedSimpArgs false
namespace Srt
abbrev O := S46
theorem wrapI (x : Int) (h0 : -4611686018427387904 ≤ x) (h1 : x ≤ 4611686018427387904) : wrap64 x = x := by
  unfold wrap64
  omega
theorem rd_at {L : List O} {P Q : List O} {x : O} {i : Int} (h : L = P ++ x :: Q) (hi : i = (P.length : Int)) : rd_T46 L i = x := by
  subst h hi
  simp [rd_T46, List.getD_eq_getElem?_getD]
theorem set_at {L : List O} {P Q : List O} {x : O} {i : Nat} (y : O) (h : L = P ++ x :: Q) (hi : i = P.length) : L.set i y = P ++ y :: Q := by
  subst h hi
  simp
theorem len_at {L : List O} {P Q : List O} {x : O} {i : Int} (h : L = P ++ x :: Q) (hi : i = (P.length : Int)) : 0 ≤ i ∧ i < (L.length : Int) := by
  subst h hi
  simp
  omega
theorem evEq {α : Type} {g : Nat → Option α} {r r' : α} (h : Ev g r) (e : r = r') : Ev g r' := e ▸ h
theorem eta (x : O) : (⟨x.f0, x.f1, x.f2⟩ : O) = x := rfl
abbrev Few (l : List O) : Prop := l.length ≤ 1000000000000
theorem swap_loop : ∀ (X Y P M Q : List O) (a b n i : Int), X.length = Y.length → a + i = P.length → b + i = P.length + X.length + M.length → n - i = X.length → 0 ≤ i → 0 ≤ a → 0 ≤ b → Few (P ++ X ++ M ++ Y ++ Q) →
    Ev (fun k => api_Op_122.l0 k (P ++ X ++ M ++ Y ++ Q) a b n i) (P ++ Y ++ M ++ X ++ Q) := by
  intro X
  induction X with
  | nil =>
    intro Y P M Q a b n i hl ha hb hn h0 h1 h2 hf
    obtain rfl : Y = [] := List.length_eq_zero_iff.mp hl.symm
    refine Ev.step (fun k => by rw [api_Op_122.l0]) ?_
    simp only [List.length_nil] at hn
    simp only [if_neg (show ¬ i < n by omega)]
    exact Ev.now _
  | cons x X ih =>
    intro Y P M Q a b n i hl ha hb hn h0 h1 h2 hf
    obtain ⟨y, Y, rfl⟩ : ∃ y Y', Y = y :: Y' := by
      cases Y with
      | nil => simp at hl
      | cons y Y => exact ⟨y, Y, rfl⟩
    simp only [List.length_cons] at hl hn hb
    have hf' := hf
    unfold Few at hf'
    simp only [List.length_append, List.length_cons] at hf'
    have e1 : P ++ x :: X ++ M ++ y :: Y ++ Q = P ++ x :: (X ++ M ++ y :: Y ++ Q) := by simp
    have e2 : P ++ x :: X ++ M ++ y :: Y ++ Q = (P ++ x :: X ++ M) ++ y :: (Y ++ Q) := by simp
    have hb' : b + i = ((P ++ x :: X ++ M).length : Int) := by simp; omega
    have wa : wrap64 (a + i) = a + i := wrapI _ (by omega) (by omega)
    have wb : wrap64 (b + i) = b + i := wrapI _ (by omega) (by omega)
    have wi : wrap64 (i + 1) = i + 1 := wrapI _ (by omega) (by omega)
    obtain ⟨p1, p2⟩ := len_at e1 ha
    obtain ⟨q1, q2⟩ := len_at e2 hb'
    refine Ev.step (fun k => by rw [api_Op_122.l0]) ?_
    simp only [if_pos (show i < n by omega), wa, wb, wi, if_pos p1, if_pos p2, if_pos q1, if_pos q2, rd_at e1 ha, rd_at e2 hb', eta]
    rw [set_at y e1 (by omega), set_at (L := P ++ y :: (X ++ M ++ y :: Y ++ Q)) (P := P ++ y :: X ++ M) (x := y) (Q := Y ++ Q) x (by simp) (by simp at hb' ⊢; omega)]
    have h := ih Y (P ++ [y]) (M ++ [x]) Q a b n (i + 1) (by omega) (by simp; omega) (by simp; omega) (by omega) (by omega) h1 h2 (by unfold Few; simp; omega)
    simp only [List.append_assoc, List.cons_append, List.nil_append, List.singleton_append] at h ⊢
    exact h
theorem swap_ev (X Y P M Q : List O) (a b n c : Int) (hl : X.length = Y.length) (ha : a = P.length) (hb : b = P.length + X.length + M.length) (hn : n = X.length) (hf : Few (P ++ X ++ M ++ Y ++ Q)) :
    Ev (fun k => api_Op_122.f k (P ++ X ++ M ++ Y ++ Q) a b n c) (P ++ Y ++ M ++ X ++ Q) := by
  unfold api_Op_122.f
  exact swap_loop X Y P M Q a b n 0 hl (by omega) (by omega) (by omega) (by omega) (by omega) (by omega) hf
theorem rot_loop : ∀ (N : Nat) (X Y P Q : List O) (m c i j : Int), X.length + Y.length ≤ N → 0 < X.length → 0 < Y.length → m = P.length + X.length → i = X.length → j = Y.length → Few (P ++ X ++ Y ++ Q) →
    Ev (fun k => api_Op_121.l0 k (P ++ X ++ Y ++ Q) m c i j) (P ++ Y ++ X ++ Q) := by
  intro N
  induction N with
  | zero => intro X Y P Q m c i j h1 h2; omega
  | succ N ih =>
    intro X Y P Q m c i j hN hX hY hm hi hj hf
    have hf' := hf
    unfold Few at hf'
    simp only [List.length_append] at hf'
    have w1 : wrap64 (m - i) = m - i := wrapI _ (by omega) (by omega)
    have w2 : wrap64 (i - j) = i - j := wrapI _ (by omega) (by omega)
    have w3 : wrap64 (j - i) = j - i := wrapI _ (by omega) (by omega)
    have w4 : wrap64 (m + j) = m + j := wrapI _ (by omega) (by omega)
    have w5 : wrap64 (m + j - i) = m + j - i := wrapI _ (by omega) (by omega)
    refine Ev.step (fun k => by rw [api_Op_121.l0]) ?_
    simp only [w1, w2, w3, w4, w5]
    by_cases c1 : i = j
    · simp only [if_pos c1]
      have h := swap_ev X Y P [] Q (m - i) m i c (by omega) (by omega) (by simp; omega) (by omega) (by simpa using hf)
      simp only [List.append_nil] at h
      exact Ev.bind h (Ev.now _)
    · by_cases c2 : i > j
      · simp only [if_neg c1, if_pos c2]
        have hs : (X.take Y.length).length = Y.length := by rw [List.length_take]; omega
        have h := swap_ev (X.take Y.length) Y P (X.drop Y.length) Q (m - i) m j c hs (by omega) (by simp; omega) (by simp; omega) (by simpa using hf)
        have e : P ++ X.take Y.length ++ X.drop Y.length ++ Y ++ Q = P ++ X ++ Y ++ Q := by
          rw [List.append_assoc P, List.take_append_drop]
        rw [e] at h
        refine Ev.bind h ?_
        have h2 := ih (X.drop Y.length) (X.take Y.length) (P ++ Y) Q m c (i - j) j (by simp; omega) (by simp; omega) (by omega) (by simp; omega) (by simp; omega) (by omega) (by unfold Few; simp; omega)
        refine evEq h2 ?_
        rw [List.append_assoc (P ++ Y), List.take_append_drop]
      · simp only [if_neg c1, if_neg c2]
        obtain ⟨d, hd⟩ : ∃ d, d = Y.length - X.length := ⟨_, rfl⟩
        have hs : X.length = (Y.drop d).length := by rw [List.length_drop]; omega
        have h := swap_ev X (Y.drop d) P (Y.take d) Q (m - i) (m + j - i) i c hs (by omega) (by simp; omega) (by omega) (by unfold Few; simp; omega)
        have e : P ++ X ++ Y.take d ++ Y.drop d ++ Q = P ++ X ++ Y ++ Q := by
          rw [List.append_assoc (P ++ X), List.take_append_drop]
        rw [e] at h
        refine Ev.bind h ?_
        have h2 := ih (Y.drop d) (Y.take d) P (X ++ Q) m c i (j - i) (by simp; omega) (by omega) (by simp; omega) (by omega) (by omega) (by simp; omega) (by unfold Few; simp; omega)
        have e2 : P ++ Y.drop d ++ Y.take d ++ (X ++ Q) = P ++ Y.drop d ++ Y.take d ++ X ++ Q := by simp
        rw [e2] at h2
        refine evEq h2 ?_
        rw [List.append_assoc P, List.take_append_drop]
        simp
theorem rot_ev (X Y P Q : List O) (a m b c : Int) (hX : 0 < X.length) (hY : 0 < Y.length) (ha : a = P.length) (hm : m = P.length + X.length) (hb : b = P.length + X.length + Y.length) (hf : Few (P ++ X ++ Y ++ Q)) :
    Ev (fun k => api_Op_121.f k (P ++ X ++ Y ++ Q) a m b c) (P ++ Y ++ X ++ Q) := by
  unfold api_Op_121.f
  have hf' := hf
  unfold Few at hf'
  simp only [List.length_append] at hf'
  rw [wrapI (m - a) (by omega) (by omega), wrapI (b - m) (by omega) (by omega)]
  exact rot_loop _ X Y P Q m c (m - a) (b - m) (Nat.le_refl _) hX hY hm (by omega) (by omega) hf
end Srt
end Go.Proofs.Ytfocaefnmfkojaa.R
namespace Go.Proofs.Ytfocaefnmfkojaa.R
open Go.RowKit Go.Proofs.Ytfocaefnmfkojaa.Q Go.Proofs.YtfocaefnmfkojaaW.PrintWords Go.Proofs.YtfocaefnmfkojaaW.PrintLast
set_option linter.unusedVariables false
set_option linter.unusedSimpArgs false
namespace Srt
def cmp (x y : O) : Int := if x.f1 < y.f1 then -1 else if x.f1 > y.f1 then 1 else 0
theorem cmp_lt (x y : O) : (cmp x y < 0) = (x.f1 < y.f1) := by
  unfold cmp
  split
  · simp [*]
  · split <;> simp [*]
theorem cmpE (x y : O) : txn_byKey_1.f x.f0 x.f1 x.f2 y.f0 y.f1 y.f2 = some (cmp x y) := by
  unfold txn_byKey_1.f cmp_Compare_int.f cmp_isNaN_int.f cmp
  by_cases h1 : x.f1 < y.f1
  · simp [h1]
  · by_cases h2 : y.f1 < x.f1 <;> simp [h1, h2]
def Up (l : List O) : Prop := l.Pairwise fun x y => x.f1 ≤ y.f1
theorem Up.nil : Up [] := List.Pairwise.nil
theorem Up.one (x : O) : Up [x] := by simp [Up]
theorem Up.append {a b : List O} : Up (a ++ b) ↔ Up a ∧ Up b ∧ ∀ x ∈ a, ∀ y ∈ b, x.f1 ≤ y.f1 := List.pairwise_append
theorem Up.cons {x : O} {l : List O} : Up (x :: l) ↔ (∀ y ∈ l, x.f1 ≤ y.f1) ∧ Up l := List.pairwise_cons
theorem ins_inner (P Q : List O) (x : O) (a b i : Int) (ha : a = P.length) : ∀ (n : Nat) (S1 S2 : List O) (j : Int), S1.length = n → j = P.length + S1.length → Few (P ++ S1 ++ x :: S2 ++ Q) → Up (S1 ++ S2) → (∀ y ∈ S2, x.f1 ≤ y.f1) →
    ∃ S, S.Perm (S1 ++ x :: S2) ∧ Up S ∧ ∀ r, Ev (fun k => api_Op_119.l0 k (P ++ S ++ Q) a b (wrap64 (i + 1))) r → Ev (fun k => api_Op_119.l1 k (P ++ S1 ++ x :: S2 ++ Q) a b i j) r := by
  intro n
  induction n with
  | zero =>
    intro S1 S2 j hn hj hf hu hx
    obtain rfl : S1 = [] := List.length_eq_zero_iff.mp hn
    refine ⟨x :: S2, by simp, Up.cons.mpr ⟨hx, by simpa using hu⟩, fun r hr => ?_⟩
    refine Ev.step (fun k => by rw [api_Op_119.l1]) ?_
    simp only [List.length_nil] at hj
    simp only [if_neg (show ¬ j > a by omega), List.append_nil]
    exact hr
  | succ n ih =>
    intro S1 S2 j hn hj hf hu hx
    obtain ⟨S, y, rfl⟩ : ∃ S y, S1 = S ++ [y] := ⟨S1.dropLast, S1.getLast (by intro h; simp [h] at hn), (List.dropLast_concat_getLast _).symm⟩
    simp only [List.length_append, List.length_singleton] at hn hj
    have hf' := hf
    unfold Few at hf'
    simp only [List.length_append, List.length_cons, List.length_nil] at hf'
    have wj : wrap64 (j - 1) = j - 1 := wrapI _ (by omega) (by omega)
    have e1 : P ++ (S ++ [y]) ++ x :: S2 ++ Q = (P ++ S ++ [y]) ++ x :: (S2 ++ Q) := by simp
    have e2 : P ++ (S ++ [y]) ++ x :: S2 ++ Q = (P ++ S) ++ y :: (x :: S2 ++ Q) := by simp
    have j1 : j = ((P ++ S ++ [y]).length : Int) := by simp; omega
    have j2 : j - 1 = ((P ++ S).length : Int) := by simp; omega
    obtain ⟨p1, p2⟩ := len_at e1 j1
    obtain ⟨q1, q2⟩ := len_at e2 j2
    by_cases c : x.f1 < y.f1
    · have hu' : Up (S ++ y :: S2) := by simpa using hu
      have hy : ∀ z ∈ y :: S2, x.f1 ≤ z.f1 := by
        intro z hz
        rcases List.mem_cons.mp hz with rfl | hz
        · omega
        · exact hx z hz
      obtain ⟨S', hp, hS, hk⟩ := ih S (y :: S2) (j - 1) (by omega) (by omega) (by unfold Few; simp; omega) hu' hy
      refine ⟨S', hp.trans (by simpa using List.Perm.append_left S (List.Perm.swap y x S2)), hS, fun r hr => ?_⟩
      refine Ev.step (fun k => by rw [api_Op_119.l1]) ?_
      simp only [wj, if_pos (show j > a by omega), if_pos p1, if_pos p2, if_pos q1, if_pos q2, rd_at e1 j1, rd_at e2 j2, cmpE, Option.bind_some, cmp_lt, if_pos c, eta]
      rw [set_at y e1 (by omega), set_at (L := P ++ S ++ [y] ++ y :: (S2 ++ Q)) (P := P ++ S) (x := y) (Q := y :: (S2 ++ Q)) x (by simp) (by simp; omega)]
      have h := hk r hr
      rw [show P ++ S ++ x :: (y :: S2) ++ Q = P ++ S ++ x :: y :: (S2 ++ Q) by simp] at h
      exact h
    · have hS : Up (S ++ [y] ++ x :: S2) := by
        rw [Up.append] at hu ⊢
        refine ⟨hu.1, Up.cons.mpr ⟨hx, hu.2.1⟩, fun z hz u hu' => ?_⟩
        rcases List.mem_cons.mp hu' with rfl | hu'
        · rcases List.mem_append.mp hz with hz | hz
          · have := (Up.append.mp hu.1).2.2 z hz y (by simp)
            omega
          · simp at hz
            subst hz
            omega
        · exact hu.2.2 z hz u hu'
      refine ⟨S ++ [y] ++ x :: S2, List.Perm.refl _, hS, fun r hr => ?_⟩
      refine Ev.step (fun k => by rw [api_Op_119.l1]) ?_
      simp only [wj, if_pos (show j > a by omega), if_pos p1, if_pos p2, if_pos q1, if_pos q2, rd_at e1 j1, rd_at e2 j2, cmpE, Option.bind_some, cmp_lt, if_neg c]
      have e3 : P ++ (S ++ [y]) ++ x :: S2 ++ Q = P ++ (S ++ [y] ++ x :: S2) ++ Q := by simp
      rw [e3]
      exact hr
theorem ins_outer (P Q : List O) (a b : Int) (ha : a = P.length) : ∀ (T S : List O) (i : Int), 0 < S.length → i = P.length + S.length → b = P.length + S.length + T.length → Few (P ++ S ++ T ++ Q) → Up S →
    ∃ S', S'.Perm (S ++ T) ∧ Up S' ∧ Ev (fun k => api_Op_119.l0 k (P ++ S ++ T ++ Q) a b i) (P ++ S' ++ Q) := by
  intro T
  induction T with
  | nil =>
    intro S i h0 hi hb hf hu
    refine ⟨S, by simp, hu, ?_⟩
    refine Ev.step (fun k => by rw [api_Op_119.l0]) ?_
    simp only [List.length_nil] at hb
    simp only [if_neg (show ¬ i < b by omega), List.append_nil]
    exact Ev.now _
  | cons x T ih =>
    intro S i h0 hi hb hf hu
    have hf' := hf
    unfold Few at hf'
    simp only [List.length_append, List.length_cons] at hf' hb
    obtain ⟨S1, hp, hS, hk⟩ := ins_inner P (T ++ Q) x a b i ha S.length S [] i rfl hi (by unfold Few; simp; omega) (by simpa using hu) (by simp)
    have hl : S1.length = S.length + 1 := by rw [hp.length_eq]; simp
    obtain ⟨S', hp', hS', hr⟩ := ih S1 (i + 1) (by omega) (by omega) (by omega) (by unfold Few; simp; omega) hS
    refine ⟨S', hp'.trans ((hp.append_right T).trans (by simp)), hS', ?_⟩
    refine Ev.step (fun k => by rw [api_Op_119.l0]) ?_
    simp only [if_pos (show i < b by omega)]
    have h := hk (P ++ S' ++ Q) (by
      rw [wrapI (i + 1) (by omega) (by omega)]
      rw [show P ++ S1 ++ (T ++ Q) = P ++ S1 ++ T ++ Q by simp]
      exact hr)
    rw [show P ++ S ++ [x] ++ (T ++ Q) = P ++ S ++ x :: T ++ Q by simp] at h
    exact h
theorem ins_ev (P S Q : List O) (a b c : Int) (ha : a = P.length) (hb : b = P.length + S.length) (hf : Few (P ++ S ++ Q)) :
    ∃ S', S'.Perm S ∧ Up S' ∧ Ev (fun k => api_Op_119.f k (P ++ S ++ Q) a b c) (P ++ S' ++ Q) := by
  have hf' := hf
  unfold Few at hf'
  simp only [List.length_append] at hf'
  unfold api_Op_119.f
  rw [wrapI (a + 1) (by omega) (by omega)]
  cases S with
  | nil =>
    refine ⟨[], List.Perm.refl _, Up.nil, ?_⟩
    refine Ev.step (fun k => by rw [api_Op_119.l0]) ?_
    simp only [List.length_nil] at hb
    simp only [if_neg (show ¬ a + 1 < b by omega)]
    exact Ev.now _
  | cons x S =>
    simp only [List.length_cons] at hb hf'
    obtain ⟨S', hp, hS, hr⟩ := ins_outer P Q a b ha S [x] (a + 1) (by simp) (by simp; omega) (by simp; omega) (by unfold Few; simp; omega) (Up.one x)
    refine ⟨S', by simpa using hp, hS, ?_⟩
    rw [show P ++ [x] ++ S ++ Q = P ++ x :: S ++ Q by simp] at hr
    exact hr
end Srt
end Go.Proofs.Ytfocaefnmfkojaa.R
namespace Go.Proofs.Ytfocaefnmfkojaa.R
open Go.RowKit Go.Proofs.Ytfocaefnmfkojaa.Q Go.Proofs.YtfocaefnmfkojaaW.PrintWords Go.Proofs.YtfocaefnmfkojaaW.PrintLast
set_option linter.unusedVariables false
set_option linter.unusedSimpArgs false
namespace Srt
theorem midE (x y : Int) (h0 : 0 ≤ x) (h1 : 0 ≤ y) (h2 : x ≤ 4000000000000) (h3 : y ≤ 4000000000000) : wrap64 ((IntKind.u64.wrap (wrap64 (x + y))) / 2) = (x + y) / 2 := by
  rw [wrapI (x + y) (by omega) (by omega)]
  have : IntKind.u64.wrap (x + y) = x + y := by
    simp only [IntKind.wrap, IntKind.bits, IntKind.signed]
    first | omega | (simp; omega)
  rw [this, wrapI _ (by omega) (by omega)]
theorem cut (M : List O) (t : Nat) (h : t < M.length) : ∃ M1 y M2, M = M1 ++ y :: M2 ∧ M1.length = t :=
  ⟨M.take t, M[t], M.drop (t + 1), by rw [← List.drop_eq_getElem_cons h, List.take_append_drop], by rw [List.length_take]; omega⟩
theorem cut2 (M : List O) (t : Nat) (h : t ≤ M.length) : ∃ M1 M2, M = M1 ++ M2 ∧ M1.length = t :=
  ⟨M.take t, M.drop t, (List.take_append_drop t M).symm, by rw [List.length_take]; omega⟩
theorem up_loop (Q : List O) (x : O) : ∀ (B P : List O) (i p : Int), p = P.length → i - 1 = P.length + B.length → Few (P ++ x :: B ++ Q) →
    Ev (fun k => api_Op_120.l1 k (P ++ x :: B ++ Q) i p) (P ++ B ++ x :: Q) := by
  intro B
  induction B with
  | nil =>
    intro P i p hp hi hf
    have hf' := hf
    unfold Few at hf'
    simp only [List.length_append, List.length_cons, List.length_nil] at hf' hi
    refine Ev.step (fun k => by rw [api_Op_120.l1]) ?_
    rw [wrapI (i - 1) (by omega) (by omega)]
    simp only [if_neg (show ¬ p < i - 1 by omega)]
    refine evEq (Ev.now _) ?_
    simp
  | cons y B ih =>
    intro P i p hp hi hf
    have hf' := hf
    unfold Few at hf'
    simp only [List.length_append, List.length_cons] at hf' hi
    have wi : wrap64 (i - 1) = i - 1 := wrapI _ (by omega) (by omega)
    have wp : wrap64 (p + 1) = p + 1 := wrapI _ (by omega) (by omega)
    have e1 : P ++ x :: y :: B ++ Q = P ++ x :: (y :: B ++ Q) := by simp
    have e2 : P ++ x :: y :: B ++ Q = (P ++ [x]) ++ y :: (B ++ Q) := by simp
    have j2 : p + 1 = ((P ++ [x]).length : Int) := by simp; omega
    obtain ⟨p1, p2⟩ := len_at e1 hp
    obtain ⟨q1, q2⟩ := len_at e2 j2
    refine Ev.step (fun k => by rw [api_Op_120.l1]) ?_
    simp only [wi, wp, if_pos (show p < i - 1 by omega), if_pos p1, if_pos p2, if_pos q1, if_pos q2, rd_at e1 hp, rd_at e2 j2, eta]
    rw [set_at y e1 (by omega), set_at (L := P ++ y :: (y :: B ++ Q)) (P := P ++ [y]) (x := y) (Q := B ++ Q) x (by simp) (by simp; omega)]
    have h := ih (P ++ [y]) i (p + 1) (by simp; omega) (by simp; omega) (by unfold Few; simp; omega)
    rw [show P ++ [y] ++ x :: B ++ Q = P ++ [y] ++ x :: (B ++ Q) by simp] at h
    refine evEq h ?_
    simp
theorem low_search (P B Q : List O) (x : O) (a : Int) (ha : a = P.length) (hu : Up B) (hf : Few (P ++ x :: B ++ Q)) : ∀ (n : Nat) (L M R : List O) (i j : Int), M.length ≤ n → B = L ++ M ++ R → i = P.length + 1 + L.length → j = i + M.length →
    (∀ y ∈ L, y.f1 < x.f1) → (∀ y ∈ R, x.f1 ≤ y.f1) → ∃ B1 B2, B = B1 ++ B2 ∧ (∀ y ∈ B1, y.f1 < x.f1) ∧ (∀ y ∈ B2, x.f1 ≤ y.f1) ∧
      ∀ r, Ev (fun k => api_Op_120.l1 k (P ++ x :: B ++ Q) (a + 1 + B1.length) a) r → Ev (fun k => api_Op_120.l0 k (P ++ x :: B ++ Q) a i j) r := by
  intro n
  induction n with
  | zero =>
    intro L M R i j hn hB hi hj hL hR
    obtain rfl : M = [] := List.length_eq_zero_iff.mp (by omega)
    refine ⟨L, R, by simpa using hB, hL, hR, fun r hr => ?_⟩
    refine Ev.step (fun k => by rw [api_Op_120.l0]) ?_
    simp only [List.length_nil] at hj
    simp only [if_neg (show ¬ i < j by omega)]
    rw [show i = a + 1 + (L.length : Int) by omega]
    exact hr
  | succ n ih =>
    intro L M R i j hn hB hi hj hL hR
    by_cases hM : M.length = 0
    · exact ih L M R i j (by omega) hB hi hj hL hR
    have hf' := hf
    unfold Few at hf'
    rw [hB] at hf'
    simp only [List.length_append, List.length_cons] at hf'
    obtain ⟨t, ht⟩ : ∃ t : Nat, (t : Int) = (i + j) / 2 - i := ⟨((i + j) / 2 - i).toNat, by omega⟩
    obtain ⟨M1, y, M2, rfl, hM1⟩ := cut M t (by omega)
    simp only [List.length_append, List.length_cons] at hn hj hf'
    have wm := midE i j (by omega) (by omega) (by omega) (by omega)
    have wm1 : wrap64 ((i + j) / 2 + 1) = (i + j) / 2 + 1 := wrapI _ (by omega) (by omega)
    have e1 : P ++ x :: B ++ Q = P ++ x :: (B ++ Q) := by simp
    have e2 : P ++ x :: B ++ Q = (P ++ x :: L ++ M1) ++ y :: (M2 ++ R ++ Q) := by rw [hB]; simp
    have j2 : (i + j) / 2 = ((P ++ x :: L ++ M1).length : Int) := by simp; omega
    obtain ⟨p1, p2⟩ := len_at e1 ha
    obtain ⟨q1, q2⟩ := len_at e2 j2
    have hu' := hu
    rw [hB, show L ++ (M1 ++ y :: M2) ++ R = (L ++ M1) ++ (y :: (M2 ++ R)) by simp, Up.append, Up.cons] at hu'
    by_cases c : y.f1 < x.f1
    · obtain ⟨B1, B2, h1, h2, h3, h4⟩ := ih (L ++ M1 ++ [y]) M2 R ((i + j) / 2 + 1) j (by omega) (by rw [hB]; simp) (by simp; omega) (by omega) (by
        intro z hz
        simp only [List.mem_append, List.mem_singleton] at hz
        rcases hz with (hz | hz) | rfl
        · exact hL z hz
        · have := hu'.2.2 z (by simp [hz]) y (by simp)
          omega
        · exact c) hR
      refine ⟨B1, B2, h1, h2, h3, fun r hr => ?_⟩
      refine Ev.step (fun k => by rw [api_Op_120.l0]) ?_
      simp only [wm, wm1, if_pos (show i < j by omega), if_pos p1, if_pos p2, if_pos q1, if_pos q2, rd_at e1 ha, rd_at e2 j2, cmpE, Option.bind_some, cmp_lt, if_pos c]
      exact h4 r hr
    · obtain ⟨B1, B2, h1, h2, h3, h4⟩ := ih L M1 (y :: (M2 ++ R)) i ((i + j) / 2) (by omega) (by rw [hB]; simp) hi (by omega) hL (by
        intro z hz
        rcases List.mem_cons.mp hz with rfl | hz
        · omega
        · have := hu'.2.1.1 z hz
          omega)
      refine ⟨B1, B2, h1, h2, h3, fun r hr => ?_⟩
      refine Ev.step (fun k => by rw [api_Op_120.l0]) ?_
      simp only [wm, wm1, if_pos (show i < j by omega), if_pos p1, if_pos p2, if_pos q1, if_pos q2, rd_at e1 ha, rd_at e2 j2, cmpE, Option.bind_some, cmp_lt, if_neg c]
      exact h4 r hr
theorem down_loop (P : List O) (x : O) : ∀ (n : Nat) (R Q : List O) (i p : Int), R.length = n → i = P.length → p = P.length + R.length → Few (P ++ R ++ x :: Q) →
    Ev (fun k => api_Op_120.l3 k (P ++ R ++ x :: Q) i p) (P ++ x :: R ++ Q) := by
  intro n
  induction n with
  | zero =>
    intro R Q i p hn hi hp hf
    obtain rfl : R = [] := List.length_eq_zero_iff.mp hn
    simp only [List.length_nil] at hp
    refine Ev.step (fun k => by rw [api_Op_120.l3]) ?_
    simp only [if_neg (show ¬ p > i by omega)]
    refine evEq (Ev.now _) ?_
    simp
  | succ n ih =>
    intro R Q i p hn hi hp hf
    obtain ⟨S, y, rfl⟩ : ∃ S y, R = S ++ [y] := ⟨R.dropLast, R.getLast (by intro h; simp [h] at hn), (List.dropLast_concat_getLast _).symm⟩
    have hf' := hf
    unfold Few at hf'
    simp only [List.length_append, List.length_cons, List.length_nil] at hf' hp hn
    have wp : wrap64 (p - 1) = p - 1 := wrapI _ (by omega) (by omega)
    have e1 : P ++ (S ++ [y]) ++ x :: Q = (P ++ S ++ [y]) ++ x :: Q := by simp
    have e2 : P ++ (S ++ [y]) ++ x :: Q = (P ++ S) ++ y :: (x :: Q) := by simp
    have j1 : p = ((P ++ S ++ [y]).length : Int) := by simp; omega
    have j2 : p - 1 = ((P ++ S).length : Int) := by simp; omega
    obtain ⟨p1, p2⟩ := len_at e1 j1
    obtain ⟨q1, q2⟩ := len_at e2 j2
    refine Ev.step (fun k => by rw [api_Op_120.l3]) ?_
    simp only [wp, if_pos (show p > i by omega), if_pos p1, if_pos p2, if_pos q1, if_pos q2, rd_at e1 j1, rd_at e2 j2, eta]
    have s1 : (P ++ (S ++ [y]) ++ x :: Q).set p.toNat y = P ++ S ++ [y] ++ y :: Q := set_at y e1 (by omega)
    have s2 : (P ++ (S ++ [y]) ++ x :: Q).set (p - 1).toNat x = P ++ S ++ x :: x :: Q := set_at x e2 (by omega)
    first
    | rw [s1, set_at (L := P ++ S ++ [y] ++ y :: Q) (P := P ++ S) (x := y) (Q := y :: Q) x (by simp) (by simp; omega)]
    | rw [s2, set_at (L := P ++ S ++ x :: x :: Q) (P := P ++ S ++ [x]) (x := x) (Q := Q) y (by simp) (by simp; omega)]
    have h := ih S (y :: Q) i (p - 1) (by omega) hi (by omega) (by unfold Few; simp; omega)
    refine evEq (r := P ++ x :: S ++ y :: Q) ?_ (by simp)
    first | exact h | (simp only [List.append_assoc, List.cons_append, List.nil_append, List.singleton_append] at h ⊢; exact h)
theorem high_search (P A Q : List O) (x : O) (m : Int) (hm : m = P.length + A.length) (hu : Up A) (hf : Few (P ++ A ++ x :: Q)) : ∀ (n : Nat) (L M R : List O) (i j : Int), M.length ≤ n → A = L ++ M ++ R → i = P.length + L.length → j = i + M.length →
    (∀ y ∈ L, y.f1 ≤ x.f1) → (∀ y ∈ R, x.f1 < y.f1) → ∃ A1 A2, A = A1 ++ A2 ∧ (∀ y ∈ A1, y.f1 ≤ x.f1) ∧ (∀ y ∈ A2, x.f1 < y.f1) ∧
      ∀ r, Ev (fun k => api_Op_120.l3 k (P ++ A ++ x :: Q) (P.length + A1.length) m) r → Ev (fun k => api_Op_120.l2 k (P ++ A ++ x :: Q) m i j) r := by
  intro n
  induction n with
  | zero =>
    intro L M R i j hn hB hi hj hL hR
    obtain rfl : M = [] := List.length_eq_zero_iff.mp (by omega)
    refine ⟨L, R, by simpa using hB, hL, hR, fun r hr => ?_⟩
    refine Ev.step (fun k => by rw [api_Op_120.l2]) ?_
    simp only [List.length_nil] at hj
    simp only [if_neg (show ¬ i < j by omega)]
    rw [hi]
    exact hr
  | succ n ih =>
    intro L M R i j hn hB hi hj hL hR
    by_cases hM : M.length = 0
    · exact ih L M R i j (by omega) hB hi hj hL hR
    have hf' := hf
    unfold Few at hf'
    rw [hB] at hf'
    simp only [List.length_append, List.length_cons] at hf'
    obtain ⟨t, ht⟩ : ∃ t : Nat, (t : Int) = (i + j) / 2 - i := ⟨((i + j) / 2 - i).toNat, by omega⟩
    obtain ⟨M1, y, M2, rfl, hM1⟩ := cut M t (by omega)
    simp only [List.length_append, List.length_cons] at hn hj hf'
    have wm := midE i j (by omega) (by omega) (by omega) (by omega)
    have wm1 : wrap64 ((i + j) / 2 + 1) = (i + j) / 2 + 1 := wrapI _ (by omega) (by omega)
    have e1 : P ++ A ++ x :: Q = (P ++ A) ++ x :: Q := rfl
    have j1 : m = ((P ++ A).length : Int) := by simp; omega
    have e2 : P ++ A ++ x :: Q = (P ++ L ++ M1) ++ y :: (M2 ++ R ++ x :: Q) := by rw [hB]; simp
    have j2 : (i + j) / 2 = ((P ++ L ++ M1).length : Int) := by simp; omega
    obtain ⟨p1, p2⟩ := len_at e1 j1
    obtain ⟨q1, q2⟩ := len_at e2 j2
    have hu' := hu
    rw [hB, show L ++ (M1 ++ y :: M2) ++ R = (L ++ M1) ++ (y :: (M2 ++ R)) by simp, Up.append, Up.cons] at hu'
    by_cases c : x.f1 < y.f1
    · obtain ⟨B1, B2, h1, h2, h3, h4⟩ := ih L M1 (y :: (M2 ++ R)) i ((i + j) / 2) (by omega) (by rw [hB]; simp) hi (by omega) hL (by
        intro z hz
        rcases List.mem_cons.mp hz with rfl | hz
        · exact c
        · have := hu'.2.1.1 z hz
          omega)
      refine ⟨B1, B2, h1, h2, h3, fun r hr => ?_⟩
      refine Ev.step (fun k => by rw [api_Op_120.l2]) ?_
      simp only [wm, wm1, if_pos (show i < j by omega), if_pos p1, if_pos p2, if_pos q1, if_pos q2, rd_at e1 j1, rd_at e2 j2, cmpE, Option.bind_some, cmp_lt, if_pos c]
      exact h4 r hr
    · obtain ⟨B1, B2, h1, h2, h3, h4⟩ := ih (L ++ M1 ++ [y]) M2 R ((i + j) / 2 + 1) j (by omega) (by rw [hB]; simp) (by simp; omega) (by omega) (by
        intro z hz
        simp only [List.mem_append, List.mem_singleton] at hz
        rcases hz with (hz | hz) | rfl
        · exact hL z hz
        · have := hu'.2.2 z (by simp [hz]) y (by simp)
          omega
        · omega) hR
      refine ⟨B1, B2, h1, h2, h3, fun r hr => ?_⟩
      refine Ev.step (fun k => by rw [api_Op_120.l2]) ?_
      simp only [wm, wm1, if_pos (show i < j by omega), if_pos p1, if_pos p2, if_pos q1, if_pos q2, rd_at e1 j1, rd_at e2 j2, cmpE, Option.bind_some, cmp_lt, if_neg c]
      exact h4 r hr
end Srt
end Go.Proofs.Ytfocaefnmfkojaa.R
namespace Go.Proofs.Ytfocaefnmfkojaa.R
open Go.RowKit Go.Proofs.Ytfocaefnmfkojaa.Q Go.Proofs.YtfocaefnmfkojaaW.PrintWords Go.Proofs.YtfocaefnmfkojaaW.PrintLast
set_option linter.unusedVariables false
set_option linter.unusedSimpArgs false
namespace Srt
abbrev g (L : List O) (i : Int) : Int := (rd_T46 L i).f1
theorem mid_search (L : List O) (a1 a2 a3 a4 mid n lo hi : Int) (h0 : 0 ≤ lo) (h1 : hi ≤ a2) (h2 : hi ≤ n) (h3 : a2 ≤ n - hi) (h4 : n - lo ≤ L.length) (h5 : a2 ≤ L.length) (h6 : 0 ≤ a2) (hf : Few L) : ∀ (N : Nat) (s r : Int), (r - s).toNat ≤ N → lo ≤ s → s ≤ r → r ≤ hi →
    (s = lo ∨ g L (s - 1) ≤ g L (n - s)) → (r = hi ∨ g L (n - 1 - r) < g L r) → ∃ e, lo ≤ e ∧ e ≤ hi ∧ (e = lo ∨ g L (e - 1) ≤ g L (n - e)) ∧ (e = hi ∨ g L (n - 1 - e) < g L e) ∧
      ∀ R, Ev (fun k => api_Op_120.j6 k L a1 a2 a3 a4 mid e (n - e) (decide (e < a2 ∧ a2 < n - e))) R → Ev (fun k => api_Op_120.l4 k L a1 a2 a3 a4 mid n s r (n - 1)) R := by
  unfold Few at hf
  intro N
  induction N with
  | zero =>
    intro s r hN hs hsr hr i1 i2
    obtain rfl : s = r := by omega
    refine ⟨s, hs, hr, i1, i2, fun R hR => ?_⟩
    refine Ev.step (fun k => by rw [api_Op_120.l4]) ?_
    have w : wrap64 (n - s) = n - s := wrapI _ (by omega) (by omega)
    simp only [if_neg (show ¬ s < s by omega), w]
    by_cases c : s < a2
    · simp only [if_pos c]
      rw [show (decide (s < a2 ∧ a2 < n - s)) = decide (a2 < n - s) by simp [c]] at hR
      exact hR
    · simp only [if_neg c]
      rw [show (decide (s < a2 ∧ a2 < n - s)) = false by simp [c]] at hR
      exact hR
  | succ N ih =>
    intro s r hN hs hsr hr i1 i2
    by_cases hlt : s = r
    · exact ih s r (by omega) hs hsr hr i1 i2
    have wm := midE s r (by omega) (by omega) (by omega) (by omega)
    obtain ⟨c, hc⟩ : ∃ c, c = (s + r) / 2 := ⟨_, rfl⟩
    rw [← hc] at wm
    have w1 : wrap64 (c + 1) = c + 1 := wrapI _ (by omega) (by omega)
    have w2 : wrap64 (n - 1 - c) = n - 1 - c := wrapI _ (by omega) (by omega)
    have k1 : 0 ≤ n - 1 - c := by omega
    have k2 : n - 1 - c < (L.length : Int) := by omega
    have k3 : 0 ≤ c := by omega
    have k4 : c < (L.length : Int) := by omega
    by_cases t : g L (n - 1 - c) < g L c
    · obtain ⟨e, q1, q2, q3, q4, q5⟩ := ih s c (by omega) hs (by omega) (by omega) i1 (.inr t)
      refine ⟨e, q1, q2, q3, q4, fun R hR => ?_⟩
      refine Ev.step (fun k => by rw [api_Op_120.l4]) ?_
      simp only [wm, w1, w2, if_pos (show s < r by omega), if_pos k1, if_pos k2, if_pos k3, if_pos k4, cmpE, Option.bind_some, cmp_lt, if_pos t]
      exact q5 R hR
    · obtain ⟨e, q1, q2, q3, q4, q5⟩ := ih (c + 1) r (by omega) (by omega) (by omega) hr (.inr (by
        rw [show c + 1 - 1 = c by omega, show n - (c + 1) = n - 1 - c by omega]
        omega)) i2
      refine ⟨e, q1, q2, q3, q4, fun R hR => ?_⟩
      refine Ev.step (fun k => by rw [api_Op_120.l4]) ?_
      simp only [wm, w1, w2, if_pos (show s < r by omega), if_pos k1, if_pos k2, if_pos k3, if_pos k4, cmpE, Option.bind_some, cmp_lt, if_neg t]
      exact q5 R hR
theorem g_at {L P Q : List O} {x : O} {i : Int} (h : L = P ++ x :: Q) (hi : i = (P.length : Int)) : g L i = x.f1 := by
  unfold g
  rw [rd_at h hi]
theorem up_last {A : List O} {x : O} (h : Up (A ++ [x])) : ∀ y ∈ A ++ [x], y.f1 ≤ x.f1 := by
  intro y hy
  rcases List.mem_append.mp hy with hy | hy
  · exact (Up.append.mp h).2.2 y hy x (by simp)
  · simp at hy
    subst hy
    exact Int.le_refl _
theorem up_first {A : List O} {x : O} (h : Up (x :: A)) : ∀ y ∈ x :: A, x.f1 ≤ y.f1 := by
  intro y hy
  rcases List.mem_cons.mp hy with rfl | hy
  · exact Int.le_refl _
  · exact (Up.cons.mp h).1 y hy
theorem snoc {A : List O} (h : A ≠ []) : ∃ S y, A = S ++ [y] := ⟨A.dropLast, A.getLast h, (List.dropLast_concat_getLast h).symm⟩
theorem head {A : List O} (h : A ≠ []) : ∃ y S, A = y :: S := by
  cases A with
  | nil => exact absurd rfl h
  | cons y S => exact ⟨y, S, rfl⟩
def Merged (a4 : Int) (A B : List O) : Prop := ∀ P Q : List O, Few (P ++ A ++ B ++ Q) → ∃ S, S.Perm (A ++ B) ∧ Up S ∧ ((A = [] ∨ B = []) → S = A ++ B) ∧
  (A ≠ [] → B ≠ [] → Ev (fun k => api_Op_120.f k (P ++ A ++ B ++ Q) P.length (P.length + A.length) (P.length + A.length + B.length) a4) (P ++ S ++ Q))
set_option maxHeartbeats 2000000 in
theorem merged (a4 : Int) : ∀ (N : Nat) (A B : List O), A.length + B.length ≤ N → Up A → Up B → Merged a4 A B := by
  intro N
  induction N with
  | zero =>
    intro A B hN hA hB P Q hf
    obtain rfl : A = [] := List.length_eq_zero_iff.mp (by omega)
    exact ⟨B, by simp, hB, by simp, fun h => absurd rfl h⟩
  | succ N ih =>
    intro A B hN hA hB P Q hf
    by_cases eA : A = []
    · subst eA
      exact ⟨B, by simp, hB, by simp, fun h => absurd rfl h⟩
    by_cases eB : B = []
    · subst eB
      exact ⟨A, by simp, hA, by simp, fun _ h => absurd rfl h⟩
    have lA : 0 < A.length := List.length_pos_iff.mpr eA
    have lB : 0 < B.length := List.length_pos_iff.mpr eB
    have hf' := hf
    unfold Few at hf'
    simp only [List.length_append] at hf'
    obtain ⟨a, ha⟩ : ∃ a : Int, a = (P.length : Int) := ⟨_, rfl⟩
    obtain ⟨m, hm⟩ : ∃ m : Int, m = (P.length : Int) + A.length := ⟨_, rfl⟩
    obtain ⟨b, hb⟩ : ∃ b : Int, b = (P.length : Int) + A.length + B.length := ⟨_, rfl⟩
    rw [← hb, ← hm, ← ha]
    have w1 : wrap64 (m - a) = m - a := wrapI _ (by omega) (by omega)
    have w2 : wrap64 (b - m) = b - m := wrapI _ (by omega) (by omega)
    by_cases c1 : A.length = 1
    · obtain ⟨x, rfl⟩ : ∃ x, A = [x] := List.length_eq_one_iff.mp c1
      obtain ⟨B1, B2, rfl, h2, h3, h4⟩ := low_search P B Q x a ha hB (by simpa using hf) B.length [] B [] m b (Nat.le_refl _) (by simp) (by simp at hm ⊢; omega) (by omega) (by simp) (by simp)
      refine ⟨B1 ++ x :: B2, (List.perm_middle).trans (by simp), ?_, fun h => h.elim (fun h => absurd h (by simp)) (fun h => absurd h eB), fun _ _ => ?_⟩
      · rw [Up.append] at hB ⊢
        refine ⟨hB.1, Up.cons.mpr ⟨h3, hB.2.1⟩, fun z hz u hu => ?_⟩
        rcases List.mem_cons.mp hu with rfl | hu
        · have := h2 z hz
          omega
        · exact hB.2.2 z hz u hu
      · refine Ev.step (fun k => by rw [api_Op_120.f]) ?_
        simp only [w1, if_pos (show m - a = 1 by simp at hm; omega)]
        have h := up_loop (B2 ++ Q) x B1 P (a + 1 + B1.length) a ha (by omega) (by unfold Few; simp at hf' ⊢; omega)
        have h5 := h4 (P ++ B1 ++ x :: (B2 ++ Q)) (by
          rw [show P ++ x :: (B1 ++ B2) ++ Q = P ++ x :: B1 ++ (B2 ++ Q) by simp]
          exact h)
        rw [show P ++ [x] ++ (B1 ++ B2) ++ Q = P ++ x :: (B1 ++ B2) ++ Q by simp]
        refine evEq h5 (by simp)
    by_cases c2 : B.length = 1
    · obtain ⟨x, rfl⟩ : ∃ x, B = [x] := List.length_eq_one_iff.mp c2
      obtain ⟨A1, A2, rfl, h2, h3, h4⟩ := high_search P A Q x m hm hA (by simpa using hf) A.length [] A [] a m (Nat.le_refl _) (by simp) (by simpa using ha) (by omega) (by simp) (by simp)
      refine ⟨A1 ++ x :: A2, ?_, ?_, fun h => h.elim (fun h => absurd h eA) (fun h => absurd h (by simp)), fun _ _ => ?_⟩
      · refine List.perm_middle.trans ?_
        have := (List.perm_append_comm (l₁ := [x]) (l₂ := A1 ++ A2))
        simpa using this
      · rw [Up.append] at hA ⊢
        refine ⟨hA.1, Up.cons.mpr ⟨fun y hy => by have := h3 y hy; omega, hA.2.1⟩, fun z hz u hu => ?_⟩
        rcases List.mem_cons.mp hu with rfl | hu
        · exact h2 z hz
        · exact hA.2.2 z hz u hu
      · refine Ev.step (fun k => by rw [api_Op_120.f]) ?_
        simp only [w1, w2, if_neg (show ¬ m - a = 1 by omega), if_pos (show b - m = 1 by simp only [List.length_singleton] at hb; omega)]
        have h := down_loop (P ++ A1) x A2.length A2 Q (P.length + A1.length) m rfl (by simp) (by simp at hm ⊢; omega) (by unfold Few; simp at hf' ⊢; omega)
        have h5 := h4 (P ++ A1 ++ x :: A2 ++ Q) (by
          rw [show P ++ (A1 ++ A2) ++ x :: Q = P ++ A1 ++ A2 ++ x :: Q by simp]
          exact h)
        rw [show P ++ (A1 ++ A2) ++ [x] ++ Q = P ++ (A1 ++ A2) ++ x :: Q by simp]
        refine evEq h5 (by simp)
    -- the turn
    obtain ⟨mid, hmid⟩ : ∃ mid : Int, mid = (a + b) / 2 := ⟨_, rfl⟩
    obtain ⟨L, hL⟩ : ∃ L, L = P ++ A ++ B ++ Q := ⟨_, rfl⟩
    have lL : (L.length : Int) = b + Q.length := by rw [hL]; simp; omega
    have hfL : Few L := hL ▸ hf
    have wm := midE a b (by omega) (by omega) (by omega) (by omega)
    rw [← hmid] at wm
    have w3 : wrap64 (mid + m) = mid + m := wrapI _ (by omega) (by omega)
    have w4 : wrap64 (mid + m - b) = mid + m - b := wrapI _ (by omega) (by omega)
    have w5 : wrap64 (mid + m - 1) = mid + m - 1 := wrapI _ (by omega) (by omega)
    obtain ⟨lo, hi, hlo, hhi, hgo⟩ : ∃ lo hi : Int, ((lo = mid + m - b ∧ a ≤ lo) ∨ (lo = a ∧ lo ≤ m)) ∧ ((hi = mid ∧ mid < m ∧ lo = mid + m - b) ∨ (hi = m ∧ m ≤ mid ∧ lo = a)) ∧
        ∀ R, Ev (fun k => api_Op_120.l4 k L a m b a4 mid (mid + m) lo hi (mid + m - 1)) R → Ev (fun k => api_Op_120.f k L a m b a4) R := by
      by_cases c3 : m > mid
      · refine ⟨mid + m - b, mid, .inl ⟨rfl, by omega⟩, .inl ⟨rfl, by omega, rfl⟩, fun R hR => ?_⟩
        refine Ev.step (fun k => by rw [api_Op_120.f]) ?_
        simp only [w1, w2, wm, w3, w4, if_neg (show ¬ m - a = 1 by omega), if_neg (show ¬ b - m = 1 by omega), if_pos c3]
        refine Ev.step (fun k => by rw [api_Op_120.j4]) ?_
        simp only [w5]
        exact hR
      · refine ⟨a, m, .inr ⟨rfl, by omega⟩, .inr ⟨rfl, by omega, rfl⟩, fun R hR => ?_⟩
        refine Ev.step (fun k => by rw [api_Op_120.f]) ?_
        simp only [w1, w2, wm, w3, w4, if_neg (show ¬ m - a = 1 by omega), if_neg (show ¬ b - m = 1 by omega), if_neg c3]
        refine Ev.step (fun k => by rw [api_Op_120.j4]) ?_
        simp only [w5]
        exact hR
    have blo : a ≤ lo ∧ lo ≤ hi ∧ hi ≤ m ∧ hi ≤ mid := by omega
    obtain ⟨s, s1, s2, s3, s4, s5⟩ := mid_search L a m b a4 mid (mid + m) lo hi (by omega) (by omega) (by omega) (by omega) (by omega) (by omega) (by omega) hfL _ lo hi (Nat.le_refl _) (Int.le_refl _) blo.2.1 (Int.le_refl _) (.inl rfl) (.inl rfl)
    obtain ⟨A1, A2, rfl, hA1⟩ := cut2 A (s - a).toNat (by omega)
    obtain ⟨B1, B2, rfl, hB1⟩ := cut2 B (mid - s).toNat (by omega)
    simp only [List.length_append] at hm hb hf' hN lA lB c1 c2
    obtain ⟨hA1u, hA2u, hA12⟩ := Up.append.mp hA
    obtain ⟨hB1u, hB2u, hB12⟩ := Up.append.mp hB
    have x12 : ∀ x ∈ A1, ∀ y ∈ B2, x.f1 ≤ y.f1 := by
      by_cases q1 : A1 = []
      · subst q1; simp
      by_cases q2 : B2 = []
      · subst q2; simp
      obtain ⟨S, u, rfl⟩ := snoc q1
      obtain ⟨v, T, rfl⟩ := head q2
      simp only [List.length_append, List.length_cons, List.length_nil] at hA1 hm hb
      rcases s3 with s3 | s3
      · omega
      · rw [g_at (L := L) (P := P ++ S) (x := u) (Q := A2 ++ (B1 ++ v :: T) ++ Q) (by rw [hL]; simp) (by simp; omega), g_at (L := L) (P := P ++ (S ++ [u] ++ A2) ++ B1) (x := v) (Q := T ++ Q) (by rw [hL]; simp) (by simp; omega)] at s3
        intro x hx y hy
        have := up_last hA1u x hx
        have := up_first hB2u y hy
        omega
    have x21 : ∀ x ∈ B1, ∀ y ∈ A2, x.f1 ≤ y.f1 := by
      by_cases q1 : B1 = []
      · subst q1; simp
      by_cases q2 : A2 = []
      · subst q2; simp
      obtain ⟨S, u, rfl⟩ := snoc q1
      obtain ⟨v, T, rfl⟩ := head q2
      simp only [List.length_append, List.length_cons, List.length_nil] at hB1 hm hb
      rcases s4 with s4 | s4
      · omega
      · rw [g_at (L := L) (P := P ++ (A1 ++ v :: T) ++ S) (x := u) (Q := B2 ++ Q) (by rw [hL]; simp) (by simp; omega), g_at (L := L) (P := P ++ A1) (x := v) (Q := T ++ (S ++ [u] ++ B2) ++ Q) (by rw [hL]; simp) (by simp; omega)] at s4
        intro x hx y hy
        have := up_last hB1u x hx
        have := up_first hA2u y hy
        omega
    -- behind the turn
    have hf2 : Few (P ++ A1 ++ B1 ++ (A2 ++ B2 ++ Q)) := by unfold Few; simp; omega
    obtain ⟨S1, p1, u1, n1, v1⟩ := ih A1 B1 (by omega) hA1u hB1u P (A2 ++ B2 ++ Q) hf2
    have l1 : S1.length = A1.length + B1.length := by rw [p1.length_eq]; simp
    have hf3 : Few (P ++ S1 ++ A2 ++ B2 ++ Q) := by unfold Few; simp; omega
    obtain ⟨S2, p2, u2, n2, v2⟩ := ih A2 B2 (by omega) hA2u hB2u (P ++ S1) Q hf3
    refine ⟨S1 ++ S2, ?_, ?_, fun h => h.elim (fun h => absurd h eA) (fun h => absurd h eB), fun _ _ => ?_⟩
    · refine (p1.append p2).trans ?_
      rw [show A1 ++ B1 ++ (A2 ++ B2) = A1 ++ (B1 ++ A2) ++ B2 by simp, show A1 ++ A2 ++ (B1 ++ B2) = A1 ++ (A2 ++ B1) ++ B2 by simp]
      exact (List.Perm.append_left A1 List.perm_append_comm).append_right B2
    · rw [Up.append]
      refine ⟨u1, u2, fun x hx y hy => ?_⟩
      rcases List.mem_append.mp (p1.mem_iff.mp hx) with hx | hx <;> rcases List.mem_append.mp (p2.mem_iff.mp hy) with hy | hy
      · exact hA12 x hx y hy
      · exact x12 x hx y hy
      · exact x21 x hx y hy
      · exact hB12 x hx y hy
    rw [← hL]
    apply hgo
    apply s5
    -- the two halves, one behind the other
    have tail : ∀ W, W = P ++ A1 ++ B1 ++ (A2 ++ B2 ++ Q) → Ev (fun k => api_Op_120.j7 k W a b a4 mid s (mid + m - s)) (P ++ (S1 ++ S2) ++ Q) := by
      rintro W rfl
      have fin : ∀ W, W = P ++ S1 ++ A2 ++ B2 ++ Q → Ev (fun k => if mid < mid + m - s then (if mid + m - s < b then ((api_Op_120.f k W mid (mid + m - s) b a4).bind fun t => (some t)) else (some W)) else (some W)) (P ++ (S1 ++ S2) ++ Q) := by
        rintro W rfl
        by_cases d1 : mid < mid + m - s
        · by_cases d2 : mid + m - s < b
          · simp only [if_pos d1, if_pos d2]
            have q1 : A2 ≠ [] := by rintro rfl; simp at hm; omega
            have q2 : B2 ≠ [] := by rintro rfl; simp at hb hm; omega
            have h := v2 q1 q2
            rw [show (((P ++ S1).length : Nat) : Int) = mid by simp; omega, show mid + (A2.length : Int) = mid + m - s by omega, show mid + m - s + (B2.length : Int) = b by omega] at h
            refine evEq (Ev.bind h (Ev.now _)) (by simp)
          · simp only [if_pos d1, if_neg d2]
            have q2 : B2 = [] := List.length_eq_zero_iff.mp (by omega)
            refine evEq (Ev.now _) ?_
            rw [n2 (.inr q2)]
            simp
        · simp only [if_neg d1]
          have q2 : A2 = [] := List.length_eq_zero_iff.mp (by omega)
          refine evEq (Ev.now _) ?_
          rw [n2 (.inl q2)]
          simp
      refine Ev.step (fun k => by rw [api_Op_120.j7]) ?_
      by_cases d1 : a < s
      · simp only [if_pos d1]
        refine Ev.step (fun k => by rw [api_Op_120.j8]) ?_
        by_cases d2 : s < mid
        · simp only [decide_eq_true d2, if_true]
          have q1 : A1 ≠ [] := by rintro rfl; simp at hA1; omega
          have q2 : B1 ≠ [] := by rintro rfl; simp at hB1; omega
          have h := v1 q1 q2
          rw [← ha, show a + (A1.length : Int) = s by omega, show s + (B1.length : Int) = mid by omega] at h
          refine Ev.bind h ?_
          exact fin _ (by simp)
        · simp only [decide_eq_false d2, Bool.false_eq_true, if_false]
          have q2 : B1 = [] := List.length_eq_zero_iff.mp (by omega)
          refine fin _ ?_
          rw [n1 (.inr q2)]
          simp
      · simp only [if_neg d1]
        refine Ev.step (fun k => by rw [api_Op_120.j8]) ?_
        simp only [Bool.false_eq_true, if_false]
        have q2 : A1 = [] := List.length_eq_zero_iff.mp (by omega)
        refine fin _ ?_
        rw [n1 (.inl q2)]
        simp
    refine Ev.step (fun k => by rw [api_Op_120.j6]) ?_
    by_cases d : s < m ∧ m < mid + m - s
    · simp only [decide_eq_true d, if_true]
      have h := rot_ev A2 B1 (P ++ A1) (B2 ++ Q) s m (mid + m - s) a4 (by omega) (by omega) (by simp; omega) (by simp; omega) (by simp; omega) (by unfold Few; simp; omega)
      rw [show P ++ A1 ++ A2 ++ B1 ++ (B2 ++ Q) = L by rw [hL]; simp] at h
      refine Ev.bind h ?_
      exact tail _ (by simp)
    · simp only [decide_eq_false d, Bool.false_eq_true, if_false]
      refine tail _ ?_
      rw [hL]
      by_cases q : A2 = []
      · rw [q]; simp
      · have : B1 = [] := List.length_eq_zero_iff.mp (by have := List.length_pos_iff.mpr q; omega)
        rw [this]; simp
end Srt
end Go.Proofs.Ytfocaefnmfkojaa.R
namespace Go.Proofs.Ytfocaefnmfkojaa.R
open Go.RowKit Go.Proofs.Ytfocaefnmfkojaa.Q Go.Proofs.YtfocaefnmfkojaaW.PrintWords Go.Proofs.YtfocaefnmfkojaaW.PrintLast
set_option linter.unusedVariables false
set_option linter.unusedSimpArgs false
namespace Srt
def Bl (c : Nat) (L : List O) : Prop := ∀ q : Nat, Up ((L.drop (q * c)).take c)
theorem Bl.cons {c : Nat} {S T : List O} (hS : Up S) (hl : S.length = c) (hT : Bl c T) : Bl c (S ++ T) := by
  intro q
  cases q with
  | zero =>
    subst hl
    simpa using hS
  | succ q =>
    rw [show (q + 1) * c = S.length + q * c by rw [Nat.add_mul]; omega, ← List.drop_drop, List.drop_left]
    exact hT q
theorem Bl.one {c : Nat} {S : List O} (hS : Up S) (hl : S.length ≤ c) : Bl c S := by
  intro q
  cases q with
  | zero => simpa [List.take_of_length_le hl] using hS
  | succ q =>
    rw [List.drop_eq_nil_of_le (by rw [Nat.add_mul]; omega)]
    simpa using Up.nil
theorem Bl.next {c : Nat} {S T : List O} (hl : S.length = c) (h : Bl c (S ++ T)) : Up S ∧ Bl c T := by
  refine ⟨?_, fun q => ?_⟩
  · have := h 0
    subst hl
    simpa using this
  · have := h (q + 1)
    rw [show (q + 1) * c = S.length + q * c by rw [Nat.add_mul]; omega, ← List.drop_drop, List.drop_left] at this
    exact this
theorem Bl.all {c : Nat} {S : List O} (h : Bl c S) (hl : S.length ≤ c) : Up S := by
  have := h 0
  simpa [List.take_of_length_le hl] using this
theorem blocks (a2 : Int) : ∀ (N : Nat) (R P : List O) (n a b : Int), R.length ≤ N → a = P.length → b = P.length + 20 → n = P.length + R.length → Few (P ++ R) → ∃ R', R'.Perm R ∧ Bl 20 R' ∧
    ∀ r, Ev (fun k => api_Op_116.l1 k (P ++ R') n a2 20) r → Ev (fun k => api_Op_116.l0 k (P ++ R) n a2 20 a b) r := by
  intro N
  induction N with
  | zero =>
    intro R P n a b hN ha hb hn hf
    have hf' := hf
    unfold Few at hf'
    simp only [List.length_append] at hf'
    obtain ⟨S, p, u, v⟩ := ins_ev P R [] a n a2 ha hn (by simpa using hf)
    refine ⟨S, p, Bl.one u (by rw [p.length_eq]; omega), fun r hr => ?_⟩
    refine Ev.step (fun k => by rw [api_Op_116.l0]) ?_
    simp only [if_neg (show ¬ b ≤ n by omega)]
    simp only [List.append_nil] at v
    exact Ev.bind v hr
  | succ N ih =>
    intro R P n a b hN ha hb hn hf
    have hf' := hf
    unfold Few at hf'
    simp only [List.length_append] at hf'
    by_cases c : b ≤ n
    · obtain ⟨X, T, rfl, hX⟩ := cut2 R 20 (by omega)
      simp only [List.length_append] at hN hn hf'
      obtain ⟨S, p, u, v⟩ := ins_ev P X T a b a2 ha (by omega) (by simpa using hf)
      have lS : S.length = 20 := by rw [p.length_eq, hX]
      obtain ⟨R', p', u', v'⟩ := ih T (P ++ S) n b (b + 20) (by omega) (by simp; omega) (by simp; omega) (by simp; omega) (by unfold Few; simp; omega)
      refine ⟨S ++ R', p.append p', Bl.cons u lS u', fun r hr => ?_⟩
      refine Ev.step (fun k => by rw [api_Op_116.l0]) ?_
      simp only [if_pos c, wrapI (b + 20) (by omega) (by omega)]
      rw [show P ++ (X ++ T) = P ++ X ++ T by simp]
      refine Ev.bind v ?_
      refine v' r ?_
      rw [show P ++ S ++ R' = P ++ (S ++ R') by simp]
      exact hr
    · obtain ⟨S, p, u, v⟩ := ins_ev P R [] a n a2 ha hn (by simpa using hf)
      refine ⟨S, p, Bl.one u (by rw [p.length_eq]; omega), fun r hr => ?_⟩
      refine Ev.step (fun k => by rw [api_Op_116.l0]) ?_
      simp only [if_neg c]
      simp only [List.append_nil] at v
      exact Ev.bind v hr
theorem pass (a2 : Int) (c : Nat) (hc : 0 < c) (hc2 : c ≤ 1000000000000) : ∀ (N : Nat) (R P : List O) (n a b : Int), R.length ≤ N → Bl c R → a = P.length → b = P.length + 2 * c → n = P.length + R.length → Few (P ++ R) → ∃ R', R'.Perm R ∧ Bl (2 * c) R' ∧
    ∀ r, Ev (fun k => api_Op_116.l1 k (P ++ R') n a2 ((2 * c : Nat) : Int)) r → Ev (fun k => api_Op_116.l2 k (P ++ R) n a2 c a b) r := by
  have w1 : wrap64 (2 * (c : Int)) = 2 * c := wrapI _ (by omega) (by omega)
  have w2 : wrap64 ((c : Int) * 2) = ((2 * c : Nat) : Int) := by rw [wrapI _ (by omega) (by omega)]; omega
  intro N
  induction N with
  | zero =>
    intro R P n a b hN hR ha hb hn hf
    have hf' := hf
    unfold Few at hf'
    simp only [List.length_append] at hf'
    refine ⟨R, List.Perm.refl _, Bl.one (hR.all (by omega)) (by omega), fun r hr => ?_⟩
    refine Ev.step (fun k => by rw [api_Op_116.l2]) ?_
    simp only [if_neg (show ¬ b ≤ n by omega), wrapI (a + c) (by omega) (by omega), if_neg (show ¬ a + (c : Int) < n by omega), w2]
    exact hr
  | succ N ih =>
    intro R P n a b hN hR ha hb hn hf
    have hf' := hf
    unfold Few at hf'
    simp only [List.length_append] at hf'
    have w3 : wrap64 (a + c) = a + c := wrapI _ (by omega) (by omega)
    have w4 : wrap64 (b + 2 * c) = b + 2 * c := wrapI _ (by omega) (by omega)
    by_cases c1 : b ≤ n
    · obtain ⟨X, R1, rfl, hX⟩ := cut2 R c (by omega)
      simp only [List.length_append] at hN hn hf'
      obtain ⟨Y, T, rfl, hY⟩ := cut2 R1 c (by omega)
      simp only [List.length_append] at hN hn hf'
      obtain ⟨uX, h1⟩ := hR.next hX
      obtain ⟨uY, uT⟩ := h1.next hY
      obtain ⟨S, p, u, _, v⟩ := merged a2 _ X Y (Nat.le_refl _) uX uY P T (by unfold Few; simp; omega)
      have v := v (by rintro rfl; simp at hX; omega) (by rintro rfl; simp at hY; omega)
      rw [← ha, hX, hY, show a + (c : Int) + c = b by omega] at v
      have lS : S.length = 2 * c := by rw [p.length_eq]; simp; omega
      obtain ⟨R', p', u', v'⟩ := ih T (P ++ S) n b (b + 2 * c) (by omega) uT (by simp; omega) (by simp; omega) (by simp; omega) (by unfold Few; simp; omega)
      refine ⟨S ++ R', (p.append p').trans (by simp), Bl.cons u lS u', fun r hr => ?_⟩
      refine Ev.step (fun k => by rw [api_Op_116.l2]) ?_
      simp only [if_pos c1, w1, w3, w4]
      rw [show P ++ (X ++ (Y ++ T)) = P ++ X ++ Y ++ T by simp]
      refine Ev.bind v ?_
      refine v' r ?_
      rw [show P ++ S ++ R' = P ++ (S ++ R') by simp]
      exact hr
    · by_cases c2 : a + (c : Int) < n
      · obtain ⟨X, Y, rfl, hX⟩ := cut2 R c (by omega)
        simp only [List.length_append] at hN hn hf'
        obtain ⟨uX, h1⟩ := hR.next hX
        have uY := h1.all (by omega)
        obtain ⟨S, p, u, _, v⟩ := merged a2 _ X Y (Nat.le_refl _) uX uY P [] (by unfold Few; simp; omega)
        have v := v (by rintro rfl; simp at hX; omega) (by rintro rfl; simp at hn; omega)
        rw [← ha, hX, show a + (c : Int) + Y.length = n by omega] at v
        simp only [List.append_nil] at v
        refine ⟨S, p, Bl.one u (by rw [p.length_eq]; simp; omega), fun r hr => ?_⟩
        refine Ev.step (fun k => by rw [api_Op_116.l2]) ?_
        simp only [if_neg c1, w3, if_pos c2, w2]
        rw [show P ++ (X ++ Y) = P ++ X ++ Y by simp]
        exact Ev.bind v hr
      · refine ⟨R, List.Perm.refl _, Bl.one (hR.all (by omega)) (by omega), fun r hr => ?_⟩
        refine Ev.step (fun k => by rw [api_Op_116.l2]) ?_
        simp only [if_neg c1, w3, if_neg c2, w2]
        exact hr
theorem passes (a2 : Int) : ∀ (N : Nat) (L : List O) (c : Nat), L.length - c ≤ N → 0 < c → Bl c L → Few L → ∃ L', L'.Perm L ∧ Up L' ∧ Ev (fun k => api_Op_116.l1 k L L.length a2 c) L' := by
  intro N
  induction N with
  | zero =>
    intro L c hN hc hL hf
    refine ⟨L, List.Perm.refl _, hL.all (by omega), ?_⟩
    refine Ev.step (fun k => by rw [api_Op_116.l1]) ?_
    simp only [if_neg (show ¬ (c : Int) < L.length by omega)]
    exact Ev.now _
  | succ N ih =>
    intro L c hN hc hL hf
    by_cases c1 : (c : Int) < L.length
    · obtain ⟨R', p, u, v⟩ := pass a2 c hc (by unfold Few at hf; omega) _ L [] L.length 0 (2 * c) (Nat.le_refl _) hL (by simp) (by simp) (by simp) (by simpa using hf)
      obtain ⟨L', p', u', v'⟩ := ih R' (2 * c) (by rw [p.length_eq]; omega) (by omega) u (by unfold Few; rw [p.length_eq]; exact hf)
      refine ⟨L', p'.trans p, u', ?_⟩
      refine Ev.step (fun k => by rw [api_Op_116.l1]) ?_
      simp only [if_pos c1, wrapI (2 * (c : Int)) (by omega) (by unfold Few at hf; omega)]
      rw [p.length_eq] at v'
      exact v L' v'
    · refine ⟨L, List.Perm.refl _, hL.all (by omega), ?_⟩
      refine Ev.step (fun k => by rw [api_Op_116.l1]) ?_
      simp only [if_neg c1]
      exact Ev.now _
theorem stable_ev (L : List O) (a2 : Int) (hf : Few L) : ∃ L', L'.Perm L ∧ Up L' ∧ Ev (fun k => api_Op_116.f k L L.length a2) L' := by
  obtain ⟨R', p, u, v⟩ := blocks a2 _ L [] L.length 0 20 (Nat.le_refl _) (by simp) (by simp) (by simp) (by simpa using hf)
  obtain ⟨L', p', u', v'⟩ := passes a2 _ R' 20 (Nat.le_refl _) (by omega) u (by unfold Few; rw [p.length_eq]; exact hf)
  rw [p.length_eq] at v'
  exact ⟨L', p'.trans p, u', v L' v'⟩
theorem byKey_ev (L : List O) (hf : Few L) : ∃ L', L'.Perm L ∧ Up L' ∧ Ev (fun k => txn_byKey.f k L) L' := by
  obtain ⟨L', p, u, v⟩ := stable_ev L 0 hf
  exact ⟨L', p, u, Ev.bind (Ev.bind v (Ev.now _)) (Ev.now _)⟩
theorem up_unique {A B : List O} (p : A.Perm B) (hA : Up A) (hB : Up B) (h : A.Pairwise fun x y => x.f1 ≠ y.f1) : A = B := by
  have hA' : A.Pairwise fun x y => x.f1 < y.f1 := (List.pairwise_and_iff.mpr ⟨hA, h⟩).imp fun h => by omega
  have hBn : B.Pairwise fun x y => x.f1 ≠ y.f1 := (p.pairwise_iff (fun h => fun e => h e.symm)).mp h
  have hB' : B.Pairwise fun x y => x.f1 < y.f1 := (List.pairwise_and_iff.mpr ⟨hB, hBn⟩).imp fun h => by omega
  exact p.eq_of_pairwise (fun a b _ _ h1 h2 => by omega) hA' hB'
theorem byKey_is {L R : List O} (hf : Few L) (p : R.Perm L) (u : R.Pairwise fun x y => x.f1 < y.f1) : Ev (fun k => txn_byKey.f k L) R := by
  obtain ⟨L', p', u', v⟩ := byKey_ev L hf
  refine evEq v (up_unique (p'.trans p.symm) u' (u.imp fun h => by omega) ?_)
  exact ((p'.trans p.symm).pairwise_iff (fun h => fun e => h e.symm)).mpr (u.imp fun h => by omega)
end Srt
end Go.Proofs.Ytfocaefnmfkojaa.R
namespace Go.Proofs.Ytfocaefnmfkojaa.H
open Go.RowKit Go.Maps
set_option linter.unusedVariables false
set_option linter.unusedSimpArgs false
def RV (v : Value) : Option (DataW Value × List MemPlace) := some (.held v, [])
abbrev I64 (i : Int) : Prop := -9223372036854775808 ≤ i ∧ i ≤ 9223372036854775807
abbrev KL (i : Int) : Lit := .int .i64 i
theorem wf_I64 {i : Int} (h : I64 i) : (Lit.int .i64 i).wf = true := by
  simp only [Lit.wf, IntKind.min, IntKind.max, IntKind.bits, IntKind.signed, Bool.and_eq_true, decide_eq_true_eq]
  simp
  omega
theorem KL_inj {i j : Int} (h : KL i = KL j) : i = j := by injection h
def getL (l : List (Int × Value)) (i : Int) : Option Value := (l.find? fun p => p.1 == i).map (·.2)
def putL : List (Int × Value) → Int → Value → List (Int × Value)
  | [], i, v => [(i, v)]
  | p :: l, i, v => if p.1 = i then (i, v) :: l else p :: putL l i v
theorem getL_nil (i : Int) : getL [] i = none := rfl
theorem getL_cons (p : Int × Value) (l : List (Int × Value)) (i : Int) : getL (p :: l) i = if p.1 = i then some p.2 else getL l i := by
  unfold getL
  rw [List.find?_cons]
  by_cases h : p.1 = i
  · simp [h]
  · rw [show (p.1 == i) = false from beq_eq_false_iff_ne.mpr h, if_neg h]
theorem getL_put_same (l : List (Int × Value)) (i : Int) (v : Value) : getL (putL l i v) i = some v := by
  induction l with
  | nil => simp [putL, getL_cons]
  | cons p l ih =>
    unfold putL
    by_cases h : p.1 = i
    · rw [if_pos h, getL_cons, if_pos rfl]
    · rw [if_neg h, getL_cons, if_neg h, ih]
theorem getL_put_other (l : List (Int × Value)) (i j : Int) (v : Value) (hne : j ≠ i) : getL (putL l i v) j = getL l j := by
  induction l with
  | nil => rw [putL, getL_cons, if_neg (fun h : i = j => hne h.symm)]
  | cons p l ih =>
    unfold putL
    by_cases h : p.1 = i
    · rw [if_pos h, getL_cons, getL_cons, if_neg (fun h : i = j => hne h.symm), if_neg (fun h2 : p.1 = j => hne (h2.symm.trans h))]
    · rw [if_neg h, getL_cons, getL_cons, ih]
theorem putL_len (l : List (Int × Value)) (i : Int) (v : Value) : (putL l i v).length = if (getL l i).isSome then l.length else l.length + 1 := by
  induction l with
  | nil => simp [putL, getL_nil]
  | cons p l ih =>
    unfold putL
    rw [getL_cons]
    by_cases h : p.1 = i
    · simp [h]
    · rw [if_neg h, if_neg h, List.length_cons, ih]
      split <;> simp
theorem putL_keys (l : List (Int × Value)) (i : Int) (v : Value) : ∀ p ∈ putL l i v, p = (i, v) ∨ p ∈ l := by
  induction l with
  | nil => simp [putL]
  | cons q l ih =>
    intro p hp
    unfold putL at hp
    by_cases h : q.1 = i
    · rw [if_pos h] at hp
      rcases List.mem_cons.mp hp with rfl | hp
      · exact .inl rfl
      · exact .inr (List.mem_cons_of_mem _ hp)
    · rw [if_neg h] at hp
      rcases List.mem_cons.mp hp with rfl | hp
      · exact .inr (by simp)
      · rcases ih p hp with h | h
        · exact .inl h
        · exact .inr (List.mem_cons_of_mem _ h)
abbrev Apart (l : List (Int × Value)) : Prop := l.Pairwise fun p q => p.1 ≠ q.1
theorem Apart.put {l : List (Int × Value)} (h : Apart l) (i : Int) (v : Value) : Apart (putL l i v) := by
  induction l with
  | nil => simp [putL, Apart]
  | cons q l ih =>
    obtain ⟨h1, h2⟩ := List.pairwise_cons.mp h
    unfold putL
    by_cases hq : q.1 = i
    · rw [if_pos hq]
      exact List.pairwise_cons.mpr ⟨fun p hp => hq ▸ h1 p hp, h2⟩
    · rw [if_neg hq]
      refine List.pairwise_cons.mpr ⟨fun p hp => ?_, ih h2⟩
      rcases putL_keys l i v p hp with rfl | hp
      · exact hq
      · exact h1 p hp
def IM (P : Program) (k : TypeId) (w : World) (b : Nat) (l : List (Int × Value)) : Prop :=
  Apart l ∧ (∀ p ∈ l, I64 p.1) ∧ ∃ D : DataW Value, w.ownsMap P k RV b l.length D ∧ Maps.size D = l.length ∧ ∀ i, Maps.has D (KL i) = (getL l i).isSome ∧ ∀ z, D.atKey (KL i) z = match getL l i with | some v => .held v | none => z
section
variable {P : Program} {k e t : TypeId} {w w' : World} {b : Nat} {l : List (Int × Value)}
theorem IM.made (P : Program) (k : TypeId) (w : World) : IM P k (w.alloc (.map #[] 0)) w.heap.size [] :=
  ⟨List.Pairwise.nil, by simp, _, World.ownsMap_made w P k RV, rfl, fun i => ⟨rfl, fun z => rfl⟩⟩
theorem IM.lt (h : IM P k w b l) : b < w.heap.size := h.2.2.choose_spec.1.lt
theorem IM.kept {row : Option Nat} (h : IM P k w b l) (hg : w.grownBy w' row) (hne : some b ≠ row) : IM P k w' b l := by
  obtain ⟨h1, h2, D, h3, h4⟩ := h
  exact ⟨h1, h2, D, h3.kept hg hne, h4⟩
theorem IM.alloc (h : IM P k w b l) (o : Obj) : IM P k (w.alloc o) b l := by
  obtain ⟨h1, h2, D, h3, h4⟩ := h
  exact ⟨h1, h2, D, h3.alloc o, h4⟩
theorem IM.same (h : IM P k w b l) (e : w'.heap[b]? = w.heap[b]?) : IM P k w' b l := by
  obtain ⟨h1, h2, D, ⟨es, cl, h3, h4⟩, h5⟩ := h
  exact ⟨h1, h2, D, ⟨es, cl, e.trans h3, h4⟩, h5⟩
theorem IM.below {n : Nat} (h : IM P k w b l) (hB : Below n w w') (hb : b < n) : IM P k w' b l := h.same (hB.block b hb)
theorem IM.drew (h : IM P k w b l) : IM P k w.drew b l := h
theorem IM.setCell (h : IM P k w b l) {a : Addr} (ha : b ≠ a.block) (u : Value) : IM P k (w.setCell a u) b l := by
  obtain ⟨h1, h2, D, h3, h4⟩ := h
  exact ⟨h1, h2, D, h3.setCell ha u, h4⟩
theorem ownsMap_tight {n : Nat} {D : DataW Value} (h : w.ownsMap P k RV b n D) : w.ownsMap P k RV b (Maps.size D) D := by
  obtain ⟨es, clock, hb, F, hs, rfl⟩ := h
  refine ⟨es, clock, hb, F, ?_, rfl⟩
  simp [Maps.size, length_sorted]
theorem IM.look (h : IM P k w b l) (hk : P.underlying k = some (.int .i64)) (ht : P.underlying t = some (.map k e)) {z : Value} (hz : (zeroValue e).run P w = .ok z w) {i : Int} (hi : I64 i) :
    (Instr.lookup t (.map (some b)) (.int .i64 i) true).run P w = .ok (.tuple #[(getL l i).getD z, .bool (getL l i).isSome]) w ∧ (Instr.lookup t (.map (some b)) (.int .i64 i) false).run P w = .ok ((getL l i).getD z) w := by
  obtain ⟨h1, h2, D, h3, h4, h5⟩ := h
  obtain ⟨v, ps, hr, hv⟩ := h3.look_ok (int_keyed hk) ht hz (zd := .held z) (zp := []) rfl (keyOf_int_mk hk (wf_I64 hi))
  obtain ⟨v', ps', hr', hv'⟩ := h3.lookup (int_keyed hk) ht hz (zd := .held z) (zp := []) rfl (keyOf_int_mk hk (wf_I64 hi))
  have e1 := (h5 i).2 (.held z)
  rw [hr, hr', (h5 i).1]
  simp only [RV, Option.some.injEq, Prod.mk.injEq] at hv hv'
  rw [e1] at hv hv'
  cases hg : getL l i with
  | none =>
    rw [hg] at hv hv'
    simp only [DataW.held.injEq] at hv hv'
    simp [hv.1, hv'.1]
  | some u =>
    rw [hg] at hv hv'
    simp only [DataW.held.injEq] at hv hv'
    simp [hv.1, hv'.1]
theorem IM.store (h : IM P k w b l) (hk : P.underlying k = some (.int .i64)) (ht : P.underlying t = some (.map k e)) {i : Int} (hi : I64 i) (hl : l.length < maxLen) (v : Value) :
    ∃ w', (Instr.mapUpdate t (.map (some b)) (.int .i64 i) v).run P w = .ok () w' ∧ IM P k w' b (putL l i v) ∧ w.grownBy w' (some b) := by
  obtain ⟨h1, h2, D, h3, h4, h5⟩ := h
  obtain ⟨w', hr, ho, hg⟩ := h3.update (int_keyed hk) ht hl (val := v) (d := .held v) (ps := []) (keyOf_int_mk hk (wf_I64 hi)) rfl
  have ht' := h3.tidy (int_keyed hk)
  have hik : WideAt.IsKeyLit (KL i) := by first | trivial | exact ⟨_, _, rfl⟩ | simp [WideAt.IsKeyLit]
  have hsz : Maps.size (D.put (KL i) (.held v)) = (putL l i v).length := by
    rw [size_put ht', (h5 i).1, h4, putL_len]
  refine ⟨w', hr, ⟨h1.put i v, fun p hp => ?_, _, hsz ▸ ownsMap_tight ho, hsz, fun j => ?_⟩, hg⟩
  · rcases putL_keys l i v p hp with rfl | hp
    · exact hi
    · exact h2 p hp
  · by_cases hj : j = i
    · subst hj
      rw [getL_put_same]
      exact ⟨has_put_same ht'.isMap hik _, fun z => atKey_put_same ht'.isMap hik _ z⟩
    · rw [getL_put_other _ _ _ _ hj]
      have hne : KL j ≠ KL i := fun h => hj (KL_inj h)
      exact ⟨(has_put_other hne _).trans (h5 j).1, fun z => (atKey_put_other hne _ z).trans ((h5 j).2 z)⟩
theorem IM.len (h : IM P k w b l) (ht : P.underlying t = some (.map k e)) (ty : TypeId) : (Builtin.len_ #[t] ty #[.map (some b)]).run P w = .ok (.int .i64 l.length) w := by
  obtain ⟨h1, h2, D, h3, h4, h5⟩ := h
  rw [h3.len ht ty, h4]
end
section
variable {P : Program} (w : World) {ops : Array Oper} {rest : List Oper} {o : Oper} {a : Act} {Q : Exit → Act → World → Prop}
theorem wpList_im_make (hg : o.guard = none) (t k : TypeId) (hop : o.op = Op.makeMap t none) (hK : ∀ w' b, IM P k w' b [] → b = w.heap.size → Below w.heap.size w w' → wpList P ops Q rest (a.put o.dst (.map (some b))) w') : wpList P ops Q (o :: rest) a w := by
  refine wpList_plain hg fun K' hK' => ?_
  unfold Oper.wp
  simp [execOp, hop, run_makeMap, Result.andThen]
  exact hK' _ _ (hK _ _ (IM.made P k w) rfl ((Below.refl _ _).alloc (Nat.le_refl _) _))
theorem wpList_im_ok (hg : o.guard = none) (m x : Operand) (t : TypeId) (hop : o.op = Op.lookup t m x true) {k e : TypeId} (hk : P.underlying k = some (.int .i64)) (ht : P.underlying t = some (.map k e)) {z : Value} (hz : (zeroValue e).run P w = .ok z w) {b : Nat} {l : List (Int × Value)} (h : IM P k w b l) {i : Int} (hi : I64 i)
    {v : Value} {s : Bool} (hv : (getL l i).getD z = v) (hs : (getL l i).isSome = s)
    (hm : a.eval m = .map (some b)) (hx : a.eval x = .int .i64 i) (hK : wpList P ops Q rest (a.put o.dst (.tuple #[v, .bool s])) w) : wpList P ops Q (o :: rest) a w := by
  subst hv hs
  refine wpList_plain hg fun K' hK' => ?_
  unfold Oper.wp
  simp [execOp, hop, hm, hx, (h.look hk ht hz hi).1, Result.andThen]
  exact hK' _ _ hK
theorem wpList_im_store (hg : o.guard = none) (m x v : Operand) (t : TypeId) (hop : o.op = Op.mapUpdate t m x v) {k e : TypeId} (hk : P.underlying k = some (.int .i64)) (ht : P.underlying t = some (.map k e)) {b : Nat} {l : List (Int × Value)} (h : IM P k w b l) {i : Int} (hi : I64 i) (hl : l.length < maxLen) {u : Value}
    (hm : a.eval m = .map (some b)) (hx : a.eval x = .int .i64 i) (hv : a.eval v = u) (hK : ∀ w', IM P k w' b (putL l i u) → w.grownBy w' (some b) → wpList P ops Q rest (a.put o.dst undef) w') : wpList P ops Q (o :: rest) a w := by
  refine wpList_plain hg fun K' hK' => ?_
  obtain ⟨w', hrun, r1, r2⟩ := h.store hk ht hi hl u
  unfold Oper.wp
  simp [execOp, hop, hm, hx, hv, hrun, Result.andThen]
  exact hK' _ _ (hK w' r1 r2)
end
end Go.Proofs.Ytfocaefnmfkojaa.H
