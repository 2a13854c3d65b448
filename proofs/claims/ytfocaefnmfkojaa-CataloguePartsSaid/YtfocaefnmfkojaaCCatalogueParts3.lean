/- A part of the proof of catalogueParts_holds: words and contracts that its last text uses. -/
import Derived.Test.YtfocaefnmfkojaaCCatalogueParts2
namespace Go.Proofs.Ytfocaefnmfkojaa.Q
open Go.RowKit Go.Proofs.YtfocaefnmfkojaaW.PrintWords Go.Proofs.YtfocaefnmfkojaaW.PrintLast Go.Proofs.YtfocaefnmfkojaaW.PrintMore
attribute [local go_sem] max2_int min2_int max_two min_two max_three min_three max_four min_four   -- for this text's walks alone
set_option linter.unusedVariables false
set_option linter.unusedSimpArgs false
def ref05_Steady.l0 : Nat → List (S46) → Int → Option (Bool)
 | 0, _, _ => none
 | k + 1, x0, x3 => if x3 < (x0.length : Int) then (if 0 ≤ x3 then ((ref05_before.f k x0 x3 ((rd_T46 x0 x3).f1)).bind fun bt203 => (if bt203.2.2.2 = true then (if ((rd_T46 x0 x3).f0 = true) then (ref05_Steady.l0 k x0 (wrap64 (x3 + 1))) else (if bt203.2.2.1 = ((rd_T46 x0 x3).f2) then (ref05_Steady.l0 k x0 (wrap64 (x3 + 1))) else (some false))) else (ref05_Steady.l0 k x0 (wrap64 (x3 + 1))))) else (none)) else (some true)
def ref05_Steady.f (k : Nat) (l0 : List (S46)) : Option (Bool) := ref05_Steady.l0 k l0 0
theorem ref05_Steady.mono_l : ∀ k, (∀ y0 y1, LeO (ref05_Steady.l0 k y0 y1) (ref05_Steady.l0 (k + 1) y0 y1))
 | 0 => fun _ _ r h => by simp [ref05_Steady.l0] at h
 | k + 1 => by
  have ih0 := ref05_Steady.mono_l k
  ·intro y0 y1
   unfold ref05_Steady.l0
   repeat' first
   | (with_reducible exact ih0 _ _)
   | (with_reducible exact ref05_before.mono _ _ _ _)
   | (with_reducible exact LeO.refl _)
   | (with_reducible exact LeO.none _)
   | (with_reducible refine LeO.ite ?_ ?_)
   | (with_reducible refine LeO.bind ?_ (fun _ => ?_))
   | exact ih0 _ _
   | exact ref05_before.mono _ _ _ _
   | exact LeO.none _
   | refine LeO.ite ?_ ?_
   | refine LeO.bind ?_ (fun _ => ?_)
theorem ref05_Steady.mono : ∀ a0 k, LeO (ref05_Steady.f k a0) (ref05_Steady.f (k + 1) a0) := by
 intro a0 k
 have ih0 := ref05_Steady.mono_l k
 unfold ref05_Steady.f
 repeat' first
   | (with_reducible exact ih0 _ _)
   | (with_reducible exact ref05_before.mono _ _ _ _)
   | (with_reducible exact LeO.refl _)
   | (with_reducible exact LeO.none _)
   | (with_reducible refine LeO.ite ?_ ?_)
   | (with_reducible refine LeO.bind ?_ (fun _ => ?_))
   | exact ih0 _ _
   | exact ref05_before.mono _ _ _ _
   | exact LeO.none _
   | refine LeO.ite ?_ ?_
   | refine LeO.bind ?_ (fun _ => ?_)
set_option maxHeartbeats 8000000 in
set_option maxRecDepth 100000 in
theorem ref05_Steady.calls (k : Nat) (A0 : Option Addr) (c0 : Nat) (l0 : List (S46)) (r : Bool) (w : World) (hr0 : Kd.C k46 w A0 l0.length l0) (hc0 : l0.length ≤ c0) (h : ref05_Steady.f k l0 = some r) :
  Calls Try.prog 76 #[.slice A0 l0.length c0] w fun e w' => e = .returned (.bool r) ∧ Below w.heap.size w w' := by
 have hu46 := Try.underlying46
 have HR0 := Aside0.mk hr0
 have HC0 := Aside0.mk hc0
 clear hr0 hc0
 have HB := Aside0.mk (Below.refl w.heap.size w)
 have H : (ref05_Steady.l0 k l0 0) = some r := h
 clear h
 have H' := Aside0.mk H
 clear H
 go_enter Try.func76, Try.ntmps76
 go_wp2
 repeat (go_quiet (fail); try go_wp2)
 go_loopg [3] k (fun kq v3 w' => ∃ (x3_1 : Int), v3 = .int .i64 x3_1 ∧ Aside0 (ref05_Steady.l0 kq l0 x3_1 = some r) ∧ Aside0 (kq ≤ k) ∧ Aside0 (Below w.heap.size w w'))
 case atStart => exact ⟨(0), (by first | rfl | (simp; done) | (simp [*]; done)), H', ⟨Nat.le_refl _⟩, ⟨by repeat (first | (with_reducible first | exact HB.out | apply below_alloc | apply pw_below_drewN | apply below_drew1))⟩⟩
 case round =>
  clear H'
  obtain ⟨x3_1, rfl, HA, HK1, HB⟩ := hrel
  cases gk with
  | zero => exact absurd HA.out (by simp [ref05_Steady.l0])
  | succ k1 =>
   have H := HA.out
   clear HA
   simp only [ref05_Steady.l0] at H
   by_cases c2 : x3_1 < (l0.length : Int)
   ·rw [if_pos c2] at H
    have c2b0 : decide (x3_1 < (l0.length : Int)) = true := decide_eq_true c2
    clear c2
    by_cases c3 : 0 ≤ x3_1
    ·rw [if_pos c3] at H
     have c3b0 : decide (0 ≤ x3_1) = true := decide_eq_true c3
     clear c3
     replace H := Option.bind_eq_some_iff.mp H
     obtain ⟨⟨t203, t204, t205, t206⟩, A40, H⟩ := H
     replace H : (if t206 = true then (if ((rd_T46 l0 x3_1).f0 = true) then (ref05_Steady.l0 k1 l0 (wrap64 (x3_1 + 1))) else (if t205 = ((rd_T46 l0 x3_1).f2) then (ref05_Steady.l0 k1 l0 (wrap64 (x3_1 + 1))) else (some false))) else (ref05_Steady.l0 k1 l0 (wrap64 (x3_1 + 1)))) = some r := H
     have A4 := Aside0.mk A40
     clear A40
     by_cases c5 : t206 = true
     ·subst c5
      have H1 : (if ((rd_T46 l0 x3_1).f0 = true) then (ref05_Steady.l0 k1 l0 (wrap64 (x3_1 + 1))) else (if t205 = ((rd_T46 l0 x3_1).f2) then (ref05_Steady.l0 k1 l0 (wrap64 (x3_1 + 1))) else (some false))) = some r := by rw [if_pos rfl] at H; exact H
      clear H
      have H := H1
      clear H1
      obtain ⟨bq6, hbq6⟩ : ∃ b_ : Bool, b_ = ((rd_T46 l0 x3_1).f0) := ⟨_, rfl⟩
      replace H : (if (bq6 = true) then (ref05_Steady.l0 k1 l0 (wrap64 (x3_1 + 1))) else (if t205 = ((rd_T46 l0 x3_1).f2) then (ref05_Steady.l0 k1 l0 (wrap64 (x3_1 + 1))) else (some false))) = some r := by rw [← hbq6] at H; exact H
      have Nbq6 := Aside0.mk hbq6
      clear hbq6
      by_cases c7 : (bq6 = true)
      ·subst c7
       have H1 : (ref05_Steady.l0 k1 l0 (wrap64 (x3_1 + 1))) = some r := by rw [if_pos rfl] at H; exact H
       clear H
       have H := H1
       clear H1
       have H' := Aside0.mk H
       clear H
       have p202 : 0 ≤ (x3_1 : Int) := of_decide_eq_true (by assumption)
       have q202 : x3_1 < (l0.length : Int) := of_decide_eq_true (by assumption)
       obtain ⟨ad202, e202, hx202_0, hx202_1, hx202_2⟩ := at_T46 HR0.out x3_1 p202 q202
       (try rw [← Nbq6.out] at hx202_0)
       cases e202
       replace hx202_0 := (HB.out.cell (World.block_lt_of_cell? w _ hx202_0)).trans hx202_0
       replace hx202_1 := (HB.out.cell (World.block_lt_of_cell? w _ hx202_1)).trans hx202_1
       replace hx202_2 := (HB.out.cell (World.block_lt_of_cell? w _ hx202_2)).trans hx202_2
       replace p202 := eq_true p202
       replace q202 := eq_true q202
       go_wp2_with (first | (go_at_call 101; (with_reducible refine (ref05_before.calls k1 _ _ l0 x3_1 ((rd_T46 l0 x3_1).f1) t203 t204 t205 true _ ?side1 ?side2 A4.out).mono ?_); (case side1 => repeat (first | exact (Kd.C_below HR0.out HB.out) | (with_reducible refine Kd.C_alloc ?_ _) | (with_reducible refine Kd.C_drewN ?_ _) | (with_reducible refine Kd.C_drew ?_))); (case side2 => exact HC0.out); rintro e w8 ⟨rfl, hb⟩; have n0_ := Aside0.mk (below_step (by repeat (first | (with_reducible first | exact HB.out | apply below_alloc | apply pw_below_drewN | apply below_drew1))) hb); clear HB; have HB := n0_; clear n0_; (try clear hb); (try clear hb2); (try clear hk); (try clear hi)) | ((with_reducible refine gate_dst (N := 4) rfl ?_); refine box_event ?hg (N := 4) ?hd (cs := #[.bool false, .int .i64 0, .int .i64 0]) (t := 46) ?hr ?_; (case hd => rfl); (case hg => rfl); (case hr => first | (go_simp; done) | (go_simp; rfl)); intro gb207 hg w9 hbox hb; have n0_ := Aside0.mk (below_step (by repeat (first | (with_reducible first | exact HB.out | apply below_alloc | apply pw_below_drewN | apply below_drew1))) hb); have n1_ := Aside0.mk (hbox); have n2_ := Aside0.mk ((by rw [hg]; exact (below_size (by repeat (first | (with_reducible first | exact HB.out | apply below_alloc | apply pw_below_drewN | apply below_drew1)))) : w.heap.size ≤ gb207)); have n3_ := Aside0.mk ((by rw [hg]; exact (below_size (by repeat (first | (with_reducible first | exact HB.out | apply below_alloc | apply pw_below_drewN | apply below_drew1)))) : w.heap.size ≤ gb207)); clear HB; have HB := n0_; have BK207 := n1_; have GW207 := n2_; have GE207 := n3_; clear n0_ n1_ n2_ n3_; clear hb hbox hg; have hcz10_0 : w9.cell? ⟨gb207, 0, none⟩ = some (.bool false) := (blk_cell BK207.out 0).trans rfl; have hcz10_1 : w9.cell? ⟨gb207, 1, none⟩ = some (.int .i64 0) := (blk_cell BK207.out 1).trans rfl; have hcz10_2 : w9.cell? ⟨gb207, 2, none⟩ = some (.int .i64 0) := (blk_cell BK207.out 2).trans rfl; have hfz10_0 := blk_frozen BK207.out 0; have hfz10_1 := blk_frozen BK207.out 1; have hfz10_2 := blk_frozen BK207.out 2; have p208 : 0 ≤ (x3_1 : Int) := of_decide_eq_true (by assumption); have q208 : x3_1 < (l0.length : Int) := of_decide_eq_true (by assumption); obtain ⟨ad208, e208, hx208_0, hx208_1, hx208_2⟩ := at_T46 HR0.out x3_1 p208 q208; (try rw [← Nbq6.out] at hx208_0); obtain rfl : ad202 = ad208 := (by injection e208); have hn208_0 : ad202.block ≠ gb207 := Nat.ne_of_lt (Nat.lt_of_lt_of_le (by have := World.block_lt_of_cell? _ _ hx208_0; first | rwa [add_block] at this | exact this) GW207.out); have hn208_1 : ad202.block ≠ gb207 := Nat.ne_of_lt (Nat.lt_of_lt_of_le (by have := World.block_lt_of_cell? _ _ hx208_0; first | rwa [add_block] at this | exact this) GW207.out); have hn208_2 : ad202.block ≠ gb207 := Nat.ne_of_lt (Nat.lt_of_lt_of_le (by have := World.block_lt_of_cell? _ _ hx208_0; first | rwa [add_block] at this | exact this) GW207.out); replace hx208_0 := (HB.out.cell (World.block_lt_of_cell? w _ hx208_0)).trans hx208_0; replace hx208_1 := (HB.out.cell (World.block_lt_of_cell? w _ hx208_1)).trans hx208_1; replace hx208_2 := (HB.out.cell (World.block_lt_of_cell? w _ hx208_2)).trans hx208_2; replace hx208_0 := (cell_far (p := ⟨gb207, 0, none⟩) (by first | (rw [add_block]; exact hn208_0) | (show (Addr.add _ _).block ≠ _; rw [add_block]; exact hn208_0) | exact hn208_0) (.bool t203)).trans hx208_0; replace hx208_1 := (cell_far (p := ⟨gb207, 0, none⟩) (by first | (rw [add_block]; exact hn208_0) | (show (Addr.add _ _).block ≠ _; rw [add_block]; exact hn208_0) | exact hn208_0) (.bool t203)).trans hx208_1; replace hx208_2 := (cell_far (p := ⟨gb207, 0, none⟩) (by first | (rw [add_block]; exact hn208_0) | (show (Addr.add _ _).block ≠ _; rw [add_block]; exact hn208_0) | exact hn208_0) (.bool t203)).trans hx208_2; replace hx208_0 := (cell_far (p := ⟨gb207, 1, none⟩) (by first | (rw [add_block]; exact hn208_1) | (show (Addr.add _ _).block ≠ _; rw [add_block]; exact hn208_1) | exact hn208_1) (.int .i64 t204)).trans hx208_0; replace hx208_1 := (cell_far (p := ⟨gb207, 1, none⟩) (by first | (rw [add_block]; exact hn208_1) | (show (Addr.add _ _).block ≠ _; rw [add_block]; exact hn208_1) | exact hn208_1) (.int .i64 t204)).trans hx208_1; replace hx208_2 := (cell_far (p := ⟨gb207, 1, none⟩) (by first | (rw [add_block]; exact hn208_1) | (show (Addr.add _ _).block ≠ _; rw [add_block]; exact hn208_1) | exact hn208_1) (.int .i64 t204)).trans hx208_2; replace hx208_0 := (cell_far (p := ⟨gb207, 2, none⟩) (by first | (rw [add_block]; exact hn208_2) | (show (Addr.add _ _).block ≠ _; rw [add_block]; exact hn208_2) | exact hn208_2) (.int .i64 t205)).trans hx208_0; replace hx208_1 := (cell_far (p := ⟨gb207, 2, none⟩) (by first | (rw [add_block]; exact hn208_2) | (show (Addr.add _ _).block ≠ _; rw [add_block]; exact hn208_2) | exact hn208_2) (.int .i64 t205)).trans hx208_1; replace hx208_2 := (cell_far (p := ⟨gb207, 2, none⟩) (by first | (rw [add_block]; exact hn208_2) | (show (Addr.add _ _).block ≠ _; rw [add_block]; exact hn208_2) | exact hn208_2) (.int .i64 t205)).trans hx208_2; (try have hy208_0 := fun (n_ : Nat) => (show (((((w9.drewN n_).setCell ⟨gb207, 0, none⟩ (.bool t203)).setCell ⟨gb207, 1, none⟩ (.int .i64 t204)).setCell ⟨gb207, 2, none⟩ (.int .i64 t205))).cell? _ = some _ from hx208_0)); (try have hy208_1 := fun (n_ : Nat) => (show (((((w9.drewN n_).setCell ⟨gb207, 0, none⟩ (.bool t203)).setCell ⟨gb207, 1, none⟩ (.int .i64 t204)).setCell ⟨gb207, 2, none⟩ (.int .i64 t205))).cell? _ = some _ from hx208_1)); (try have hy208_2 := fun (n_ : Nat) => (show (((((w9.drewN n_).setCell ⟨gb207, 0, none⟩ (.bool t203)).setCell ⟨gb207, 1, none⟩ (.int .i64 t204)).setCell ⟨gb207, 2, none⟩ (.int .i64 t205))).cell? _ = some _ from hx208_2)); clear hn208_0; clear hn208_1; clear hn208_2; replace p208 := eq_true p208; replace q208 := eq_true q208))
       repeat (go_quiet (first | (go_at_call 101; (with_reducible refine (ref05_before.calls k1 _ _ l0 x3_1 ((rd_T46 l0 x3_1).f1) t203 t204 t205 true _ ?side1 ?side2 A4.out).mono ?_); (case side1 => repeat (first | exact (Kd.C_below HR0.out HB.out) | (with_reducible refine Kd.C_alloc ?_ _) | (with_reducible refine Kd.C_drewN ?_ _) | (with_reducible refine Kd.C_drew ?_))); (case side2 => exact HC0.out); rintro e w8 ⟨rfl, hb⟩; have n0_ := Aside0.mk (below_step (by repeat (first | (with_reducible first | exact HB.out | apply below_alloc | apply pw_below_drewN | apply below_drew1))) hb); clear HB; have HB := n0_; clear n0_; (try clear hb); (try clear hb2); (try clear hk); (try clear hi)) | ((with_reducible refine gate_dst (N := 4) rfl ?_); refine box_event ?hg (N := 4) ?hd (cs := #[.bool false, .int .i64 0, .int .i64 0]) (t := 46) ?hr ?_; (case hd => rfl); (case hg => rfl); (case hr => first | (go_simp; done) | (go_simp; rfl)); intro gb207 hg w9 hbox hb; have n0_ := Aside0.mk (below_step (by repeat (first | (with_reducible first | exact HB.out | apply below_alloc | apply pw_below_drewN | apply below_drew1))) hb); have n1_ := Aside0.mk (hbox); have n2_ := Aside0.mk ((by rw [hg]; exact (below_size (by repeat (first | (with_reducible first | exact HB.out | apply below_alloc | apply pw_below_drewN | apply below_drew1)))) : w.heap.size ≤ gb207)); have n3_ := Aside0.mk ((by rw [hg]; exact (below_size (by repeat (first | (with_reducible first | exact HB.out | apply below_alloc | apply pw_below_drewN | apply below_drew1)))) : w.heap.size ≤ gb207)); clear HB; have HB := n0_; have BK207 := n1_; have GW207 := n2_; have GE207 := n3_; clear n0_ n1_ n2_ n3_; clear hb hbox hg; have hcz10_0 : w9.cell? ⟨gb207, 0, none⟩ = some (.bool false) := (blk_cell BK207.out 0).trans rfl; have hcz10_1 : w9.cell? ⟨gb207, 1, none⟩ = some (.int .i64 0) := (blk_cell BK207.out 1).trans rfl; have hcz10_2 : w9.cell? ⟨gb207, 2, none⟩ = some (.int .i64 0) := (blk_cell BK207.out 2).trans rfl; have hfz10_0 := blk_frozen BK207.out 0; have hfz10_1 := blk_frozen BK207.out 1; have hfz10_2 := blk_frozen BK207.out 2; have p208 : 0 ≤ (x3_1 : Int) := of_decide_eq_true (by assumption); have q208 : x3_1 < (l0.length : Int) := of_decide_eq_true (by assumption); obtain ⟨ad208, e208, hx208_0, hx208_1, hx208_2⟩ := at_T46 HR0.out x3_1 p208 q208; (try rw [← Nbq6.out] at hx208_0); obtain rfl : ad202 = ad208 := (by injection e208); have hn208_0 : ad202.block ≠ gb207 := Nat.ne_of_lt (Nat.lt_of_lt_of_le (by have := World.block_lt_of_cell? _ _ hx208_0; first | rwa [add_block] at this | exact this) GW207.out); have hn208_1 : ad202.block ≠ gb207 := Nat.ne_of_lt (Nat.lt_of_lt_of_le (by have := World.block_lt_of_cell? _ _ hx208_0; first | rwa [add_block] at this | exact this) GW207.out); have hn208_2 : ad202.block ≠ gb207 := Nat.ne_of_lt (Nat.lt_of_lt_of_le (by have := World.block_lt_of_cell? _ _ hx208_0; first | rwa [add_block] at this | exact this) GW207.out); replace hx208_0 := (HB.out.cell (World.block_lt_of_cell? w _ hx208_0)).trans hx208_0; replace hx208_1 := (HB.out.cell (World.block_lt_of_cell? w _ hx208_1)).trans hx208_1; replace hx208_2 := (HB.out.cell (World.block_lt_of_cell? w _ hx208_2)).trans hx208_2; replace hx208_0 := (cell_far (p := ⟨gb207, 0, none⟩) (by first | (rw [add_block]; exact hn208_0) | (show (Addr.add _ _).block ≠ _; rw [add_block]; exact hn208_0) | exact hn208_0) (.bool t203)).trans hx208_0; replace hx208_1 := (cell_far (p := ⟨gb207, 0, none⟩) (by first | (rw [add_block]; exact hn208_0) | (show (Addr.add _ _).block ≠ _; rw [add_block]; exact hn208_0) | exact hn208_0) (.bool t203)).trans hx208_1; replace hx208_2 := (cell_far (p := ⟨gb207, 0, none⟩) (by first | (rw [add_block]; exact hn208_0) | (show (Addr.add _ _).block ≠ _; rw [add_block]; exact hn208_0) | exact hn208_0) (.bool t203)).trans hx208_2; replace hx208_0 := (cell_far (p := ⟨gb207, 1, none⟩) (by first | (rw [add_block]; exact hn208_1) | (show (Addr.add _ _).block ≠ _; rw [add_block]; exact hn208_1) | exact hn208_1) (.int .i64 t204)).trans hx208_0; replace hx208_1 := (cell_far (p := ⟨gb207, 1, none⟩) (by first | (rw [add_block]; exact hn208_1) | (show (Addr.add _ _).block ≠ _; rw [add_block]; exact hn208_1) | exact hn208_1) (.int .i64 t204)).trans hx208_1; replace hx208_2 := (cell_far (p := ⟨gb207, 1, none⟩) (by first | (rw [add_block]; exact hn208_1) | (show (Addr.add _ _).block ≠ _; rw [add_block]; exact hn208_1) | exact hn208_1) (.int .i64 t204)).trans hx208_2; replace hx208_0 := (cell_far (p := ⟨gb207, 2, none⟩) (by first | (rw [add_block]; exact hn208_2) | (show (Addr.add _ _).block ≠ _; rw [add_block]; exact hn208_2) | exact hn208_2) (.int .i64 t205)).trans hx208_0; replace hx208_1 := (cell_far (p := ⟨gb207, 2, none⟩) (by first | (rw [add_block]; exact hn208_2) | (show (Addr.add _ _).block ≠ _; rw [add_block]; exact hn208_2) | exact hn208_2) (.int .i64 t205)).trans hx208_1; replace hx208_2 := (cell_far (p := ⟨gb207, 2, none⟩) (by first | (rw [add_block]; exact hn208_2) | (show (Addr.add _ _).block ≠ _; rw [add_block]; exact hn208_2) | exact hn208_2) (.int .i64 t205)).trans hx208_2; (try have hy208_0 := fun (n_ : Nat) => (show (((((w9.drewN n_).setCell ⟨gb207, 0, none⟩ (.bool t203)).setCell ⟨gb207, 1, none⟩ (.int .i64 t204)).setCell ⟨gb207, 2, none⟩ (.int .i64 t205))).cell? _ = some _ from hx208_0)); (try have hy208_1 := fun (n_ : Nat) => (show (((((w9.drewN n_).setCell ⟨gb207, 0, none⟩ (.bool t203)).setCell ⟨gb207, 1, none⟩ (.int .i64 t204)).setCell ⟨gb207, 2, none⟩ (.int .i64 t205))).cell? _ = some _ from hx208_1)); (try have hy208_2 := fun (n_ : Nat) => (show (((((w9.drewN n_).setCell ⟨gb207, 0, none⟩ (.bool t203)).setCell ⟨gb207, 1, none⟩ (.int .i64 t204)).setCell ⟨gb207, 2, none⟩ (.int .i64 t205))).cell? _ = some _ from hx208_2)); clear hn208_0; clear hn208_1; clear hn208_2; replace p208 := eq_true p208; replace q208 := eq_true q208)); try go_wp2_with (first | (go_at_call 101; (with_reducible refine (ref05_before.calls k1 _ _ l0 x3_1 ((rd_T46 l0 x3_1).f1) t203 t204 t205 true _ ?side1 ?side2 A4.out).mono ?_); (case side1 => repeat (first | exact (Kd.C_below HR0.out HB.out) | (with_reducible refine Kd.C_alloc ?_ _) | (with_reducible refine Kd.C_drewN ?_ _) | (with_reducible refine Kd.C_drew ?_))); (case side2 => exact HC0.out); rintro e w8 ⟨rfl, hb⟩; have n0_ := Aside0.mk (below_step (by repeat (first | (with_reducible first | exact HB.out | apply below_alloc | apply pw_below_drewN | apply below_drew1))) hb); clear HB; have HB := n0_; clear n0_; (try clear hb); (try clear hb2); (try clear hk); (try clear hi)) | ((with_reducible refine gate_dst (N := 4) rfl ?_); refine box_event ?hg (N := 4) ?hd (cs := #[.bool false, .int .i64 0, .int .i64 0]) (t := 46) ?hr ?_; (case hd => rfl); (case hg => rfl); (case hr => first | (go_simp; done) | (go_simp; rfl)); intro gb207 hg w9 hbox hb; have n0_ := Aside0.mk (below_step (by repeat (first | (with_reducible first | exact HB.out | apply below_alloc | apply pw_below_drewN | apply below_drew1))) hb); have n1_ := Aside0.mk (hbox); have n2_ := Aside0.mk ((by rw [hg]; exact (below_size (by repeat (first | (with_reducible first | exact HB.out | apply below_alloc | apply pw_below_drewN | apply below_drew1)))) : w.heap.size ≤ gb207)); have n3_ := Aside0.mk ((by rw [hg]; exact (below_size (by repeat (first | (with_reducible first | exact HB.out | apply below_alloc | apply pw_below_drewN | apply below_drew1)))) : w.heap.size ≤ gb207)); clear HB; have HB := n0_; have BK207 := n1_; have GW207 := n2_; have GE207 := n3_; clear n0_ n1_ n2_ n3_; clear hb hbox hg; have hcz10_0 : w9.cell? ⟨gb207, 0, none⟩ = some (.bool false) := (blk_cell BK207.out 0).trans rfl; have hcz10_1 : w9.cell? ⟨gb207, 1, none⟩ = some (.int .i64 0) := (blk_cell BK207.out 1).trans rfl; have hcz10_2 : w9.cell? ⟨gb207, 2, none⟩ = some (.int .i64 0) := (blk_cell BK207.out 2).trans rfl; have hfz10_0 := blk_frozen BK207.out 0; have hfz10_1 := blk_frozen BK207.out 1; have hfz10_2 := blk_frozen BK207.out 2; have p208 : 0 ≤ (x3_1 : Int) := of_decide_eq_true (by assumption); have q208 : x3_1 < (l0.length : Int) := of_decide_eq_true (by assumption); obtain ⟨ad208, e208, hx208_0, hx208_1, hx208_2⟩ := at_T46 HR0.out x3_1 p208 q208; (try rw [← Nbq6.out] at hx208_0); obtain rfl : ad202 = ad208 := (by injection e208); have hn208_0 : ad202.block ≠ gb207 := Nat.ne_of_lt (Nat.lt_of_lt_of_le (by have := World.block_lt_of_cell? _ _ hx208_0; first | rwa [add_block] at this | exact this) GW207.out); have hn208_1 : ad202.block ≠ gb207 := Nat.ne_of_lt (Nat.lt_of_lt_of_le (by have := World.block_lt_of_cell? _ _ hx208_0; first | rwa [add_block] at this | exact this) GW207.out); have hn208_2 : ad202.block ≠ gb207 := Nat.ne_of_lt (Nat.lt_of_lt_of_le (by have := World.block_lt_of_cell? _ _ hx208_0; first | rwa [add_block] at this | exact this) GW207.out); replace hx208_0 := (HB.out.cell (World.block_lt_of_cell? w _ hx208_0)).trans hx208_0; replace hx208_1 := (HB.out.cell (World.block_lt_of_cell? w _ hx208_1)).trans hx208_1; replace hx208_2 := (HB.out.cell (World.block_lt_of_cell? w _ hx208_2)).trans hx208_2; replace hx208_0 := (cell_far (p := ⟨gb207, 0, none⟩) (by first | (rw [add_block]; exact hn208_0) | (show (Addr.add _ _).block ≠ _; rw [add_block]; exact hn208_0) | exact hn208_0) (.bool t203)).trans hx208_0; replace hx208_1 := (cell_far (p := ⟨gb207, 0, none⟩) (by first | (rw [add_block]; exact hn208_0) | (show (Addr.add _ _).block ≠ _; rw [add_block]; exact hn208_0) | exact hn208_0) (.bool t203)).trans hx208_1; replace hx208_2 := (cell_far (p := ⟨gb207, 0, none⟩) (by first | (rw [add_block]; exact hn208_0) | (show (Addr.add _ _).block ≠ _; rw [add_block]; exact hn208_0) | exact hn208_0) (.bool t203)).trans hx208_2; replace hx208_0 := (cell_far (p := ⟨gb207, 1, none⟩) (by first | (rw [add_block]; exact hn208_1) | (show (Addr.add _ _).block ≠ _; rw [add_block]; exact hn208_1) | exact hn208_1) (.int .i64 t204)).trans hx208_0; replace hx208_1 := (cell_far (p := ⟨gb207, 1, none⟩) (by first | (rw [add_block]; exact hn208_1) | (show (Addr.add _ _).block ≠ _; rw [add_block]; exact hn208_1) | exact hn208_1) (.int .i64 t204)).trans hx208_1; replace hx208_2 := (cell_far (p := ⟨gb207, 1, none⟩) (by first | (rw [add_block]; exact hn208_1) | (show (Addr.add _ _).block ≠ _; rw [add_block]; exact hn208_1) | exact hn208_1) (.int .i64 t204)).trans hx208_2; replace hx208_0 := (cell_far (p := ⟨gb207, 2, none⟩) (by first | (rw [add_block]; exact hn208_2) | (show (Addr.add _ _).block ≠ _; rw [add_block]; exact hn208_2) | exact hn208_2) (.int .i64 t205)).trans hx208_0; replace hx208_1 := (cell_far (p := ⟨gb207, 2, none⟩) (by first | (rw [add_block]; exact hn208_2) | (show (Addr.add _ _).block ≠ _; rw [add_block]; exact hn208_2) | exact hn208_2) (.int .i64 t205)).trans hx208_1; replace hx208_2 := (cell_far (p := ⟨gb207, 2, none⟩) (by first | (rw [add_block]; exact hn208_2) | (show (Addr.add _ _).block ≠ _; rw [add_block]; exact hn208_2) | exact hn208_2) (.int .i64 t205)).trans hx208_2; (try have hy208_0 := fun (n_ : Nat) => (show (((((w9.drewN n_).setCell ⟨gb207, 0, none⟩ (.bool t203)).setCell ⟨gb207, 1, none⟩ (.int .i64 t204)).setCell ⟨gb207, 2, none⟩ (.int .i64 t205))).cell? _ = some _ from hx208_0)); (try have hy208_1 := fun (n_ : Nat) => (show (((((w9.drewN n_).setCell ⟨gb207, 0, none⟩ (.bool t203)).setCell ⟨gb207, 1, none⟩ (.int .i64 t204)).setCell ⟨gb207, 2, none⟩ (.int .i64 t205))).cell? _ = some _ from hx208_1)); (try have hy208_2 := fun (n_ : Nat) => (show (((((w9.drewN n_).setCell ⟨gb207, 0, none⟩ (.bool t203)).setCell ⟨gb207, 1, none⟩ (.int .i64 t204)).setCell ⟨gb207, 2, none⟩ (.int .i64 t205))).cell? _ = some _ from hx208_2)); clear hn208_0; clear hn208_1; clear hn208_2; replace p208 := eq_true p208; replace q208 := eq_true q208)))
       go_roundg k1
       case measure => have := HK1.out; omega
       case rel => (try rw [← Nbq6.out]); exact ⟨(wrap64 (x3_1 + 1)), (by first | rfl | (simp; done) | (simp [*]; done)), H', ⟨by have := HK1.out; omega⟩, ⟨by repeat (first | (with_reducible first | exact HB.out | apply below_alloc | apply pw_below_drewN | apply below_drew1 | refine below_set ?_ GE207.out))⟩⟩
      ·replace c7 := Bool.eq_false_iff.mpr c7
       subst c7
       have H1 : (if t205 = ((rd_T46 l0 x3_1).f2) then (ref05_Steady.l0 k1 l0 (wrap64 (x3_1 + 1))) else (some false)) = some r := by rw [if_neg (show ¬ (false = true) by decide)] at H; exact H
       clear H
       have H := H1
       clear H1
       by_cases c11 : t205 = ((rd_T46 l0 x3_1).f2)
       ·rw [if_pos c11] at H
        have c11b0 : (t205 == ((rd_T46 l0 x3_1).f2)) = true := beq_iff_eq.mpr c11
        have c11b1 : (t205 != ((rd_T46 l0 x3_1).f2)) = false := bne_eq_false_iff_eq.mpr c11
        clear c11
        have H' := Aside0.mk H
        clear H
        have p202 : 0 ≤ (x3_1 : Int) := of_decide_eq_true (by assumption)
        have q202 : x3_1 < (l0.length : Int) := of_decide_eq_true (by assumption)
        obtain ⟨ad202, e202, hx202_0, hx202_1, hx202_2⟩ := at_T46 HR0.out x3_1 p202 q202
        (try rw [← Nbq6.out] at hx202_0)
        cases e202
        replace hx202_0 := (HB.out.cell (World.block_lt_of_cell? w _ hx202_0)).trans hx202_0
        replace hx202_1 := (HB.out.cell (World.block_lt_of_cell? w _ hx202_1)).trans hx202_1
        replace hx202_2 := (HB.out.cell (World.block_lt_of_cell? w _ hx202_2)).trans hx202_2
        replace p202 := eq_true p202
        replace q202 := eq_true q202
        go_wp2_with (first | (go_at_call 101; (with_reducible refine (ref05_before.calls k1 _ _ l0 x3_1 ((rd_T46 l0 x3_1).f1) t203 t204 t205 true _ ?side1 ?side2 A4.out).mono ?_); (case side1 => repeat (first | exact (Kd.C_below HR0.out HB.out) | (with_reducible refine Kd.C_alloc ?_ _) | (with_reducible refine Kd.C_drewN ?_ _) | (with_reducible refine Kd.C_drew ?_))); (case side2 => exact HC0.out); rintro e w12 ⟨rfl, hb⟩; have n0_ := Aside0.mk (below_step (by repeat (first | (with_reducible first | exact HB.out | apply below_alloc | apply pw_below_drewN | apply below_drew1))) hb); clear HB; have HB := n0_; clear n0_; (try clear hb); (try clear hb2); (try clear hk); (try clear hi)) | ((with_reducible refine gate_dst (N := 4) rfl ?_); refine box_event ?hg (N := 4) ?hd (cs := #[.bool false, .int .i64 0, .int .i64 0]) (t := 46) ?hr ?_; (case hd => rfl); (case hg => rfl); (case hr => first | (go_simp; done) | (go_simp; rfl)); intro gb207 hg w13 hbox hb; have n0_ := Aside0.mk (below_step (by repeat (first | (with_reducible first | exact HB.out | apply below_alloc | apply pw_below_drewN | apply below_drew1))) hb); have n1_ := Aside0.mk (hbox); have n2_ := Aside0.mk ((by rw [hg]; exact (below_size (by repeat (first | (with_reducible first | exact HB.out | apply below_alloc | apply pw_below_drewN | apply below_drew1)))) : w.heap.size ≤ gb207)); have n3_ := Aside0.mk ((by rw [hg]; exact (below_size (by repeat (first | (with_reducible first | exact HB.out | apply below_alloc | apply pw_below_drewN | apply below_drew1)))) : w.heap.size ≤ gb207)); clear HB; have HB := n0_; have BK207 := n1_; have GW207 := n2_; have GE207 := n3_; clear n0_ n1_ n2_ n3_; clear hb hbox hg; have hcz14_0 : w13.cell? ⟨gb207, 0, none⟩ = some (.bool false) := (blk_cell BK207.out 0).trans rfl; have hcz14_1 : w13.cell? ⟨gb207, 1, none⟩ = some (.int .i64 0) := (blk_cell BK207.out 1).trans rfl; have hcz14_2 : w13.cell? ⟨gb207, 2, none⟩ = some (.int .i64 0) := (blk_cell BK207.out 2).trans rfl; have hfz14_0 := blk_frozen BK207.out 0; have hfz14_1 := blk_frozen BK207.out 1; have hfz14_2 := blk_frozen BK207.out 2; have p208 : 0 ≤ (x3_1 : Int) := of_decide_eq_true (by assumption); have q208 : x3_1 < (l0.length : Int) := of_decide_eq_true (by assumption); obtain ⟨ad208, e208, hx208_0, hx208_1, hx208_2⟩ := at_T46 HR0.out x3_1 p208 q208; (try rw [← Nbq6.out] at hx208_0); obtain rfl : ad202 = ad208 := (by injection e208); have hn208_0 : ad202.block ≠ gb207 := Nat.ne_of_lt (Nat.lt_of_lt_of_le (by have := World.block_lt_of_cell? _ _ hx208_0; first | rwa [add_block] at this | exact this) GW207.out); have hn208_1 : ad202.block ≠ gb207 := Nat.ne_of_lt (Nat.lt_of_lt_of_le (by have := World.block_lt_of_cell? _ _ hx208_0; first | rwa [add_block] at this | exact this) GW207.out); have hn208_2 : ad202.block ≠ gb207 := Nat.ne_of_lt (Nat.lt_of_lt_of_le (by have := World.block_lt_of_cell? _ _ hx208_0; first | rwa [add_block] at this | exact this) GW207.out); replace hx208_0 := (HB.out.cell (World.block_lt_of_cell? w _ hx208_0)).trans hx208_0; replace hx208_1 := (HB.out.cell (World.block_lt_of_cell? w _ hx208_1)).trans hx208_1; replace hx208_2 := (HB.out.cell (World.block_lt_of_cell? w _ hx208_2)).trans hx208_2; replace hx208_0 := (cell_far (p := ⟨gb207, 0, none⟩) (by first | (rw [add_block]; exact hn208_0) | (show (Addr.add _ _).block ≠ _; rw [add_block]; exact hn208_0) | exact hn208_0) (.bool t203)).trans hx208_0; replace hx208_1 := (cell_far (p := ⟨gb207, 0, none⟩) (by first | (rw [add_block]; exact hn208_0) | (show (Addr.add _ _).block ≠ _; rw [add_block]; exact hn208_0) | exact hn208_0) (.bool t203)).trans hx208_1; replace hx208_2 := (cell_far (p := ⟨gb207, 0, none⟩) (by first | (rw [add_block]; exact hn208_0) | (show (Addr.add _ _).block ≠ _; rw [add_block]; exact hn208_0) | exact hn208_0) (.bool t203)).trans hx208_2; replace hx208_0 := (cell_far (p := ⟨gb207, 1, none⟩) (by first | (rw [add_block]; exact hn208_1) | (show (Addr.add _ _).block ≠ _; rw [add_block]; exact hn208_1) | exact hn208_1) (.int .i64 t204)).trans hx208_0; replace hx208_1 := (cell_far (p := ⟨gb207, 1, none⟩) (by first | (rw [add_block]; exact hn208_1) | (show (Addr.add _ _).block ≠ _; rw [add_block]; exact hn208_1) | exact hn208_1) (.int .i64 t204)).trans hx208_1; replace hx208_2 := (cell_far (p := ⟨gb207, 1, none⟩) (by first | (rw [add_block]; exact hn208_1) | (show (Addr.add _ _).block ≠ _; rw [add_block]; exact hn208_1) | exact hn208_1) (.int .i64 t204)).trans hx208_2; replace hx208_0 := (cell_far (p := ⟨gb207, 2, none⟩) (by first | (rw [add_block]; exact hn208_2) | (show (Addr.add _ _).block ≠ _; rw [add_block]; exact hn208_2) | exact hn208_2) (.int .i64 t205)).trans hx208_0; replace hx208_1 := (cell_far (p := ⟨gb207, 2, none⟩) (by first | (rw [add_block]; exact hn208_2) | (show (Addr.add _ _).block ≠ _; rw [add_block]; exact hn208_2) | exact hn208_2) (.int .i64 t205)).trans hx208_1; replace hx208_2 := (cell_far (p := ⟨gb207, 2, none⟩) (by first | (rw [add_block]; exact hn208_2) | (show (Addr.add _ _).block ≠ _; rw [add_block]; exact hn208_2) | exact hn208_2) (.int .i64 t205)).trans hx208_2; (try have hy208_0 := fun (n_ : Nat) => (show (((((w13.drewN n_).setCell ⟨gb207, 0, none⟩ (.bool t203)).setCell ⟨gb207, 1, none⟩ (.int .i64 t204)).setCell ⟨gb207, 2, none⟩ (.int .i64 t205))).cell? _ = some _ from hx208_0)); (try have hy208_1 := fun (n_ : Nat) => (show (((((w13.drewN n_).setCell ⟨gb207, 0, none⟩ (.bool t203)).setCell ⟨gb207, 1, none⟩ (.int .i64 t204)).setCell ⟨gb207, 2, none⟩ (.int .i64 t205))).cell? _ = some _ from hx208_1)); (try have hy208_2 := fun (n_ : Nat) => (show (((((w13.drewN n_).setCell ⟨gb207, 0, none⟩ (.bool t203)).setCell ⟨gb207, 1, none⟩ (.int .i64 t204)).setCell ⟨gb207, 2, none⟩ (.int .i64 t205))).cell? _ = some _ from hx208_2)); clear hn208_0; clear hn208_1; clear hn208_2; replace p208 := eq_true p208; replace q208 := eq_true q208; have p209 : 0 ≤ (x3_1 : Int) := of_decide_eq_true (by assumption); have q209 : x3_1 < (l0.length : Int) := of_decide_eq_true (by assumption); obtain ⟨ad209, e209, hx209_0, hx209_1, hx209_2⟩ := at_T46 HR0.out x3_1 p209 q209; (try rw [← Nbq6.out] at hx209_0); obtain rfl : ad202 = ad209 := (by injection e209); have hn209_0 : ad202.block ≠ gb207 := Nat.ne_of_lt (Nat.lt_of_lt_of_le (by have := World.block_lt_of_cell? _ _ hx209_0; first | rwa [add_block] at this | exact this) GW207.out); have hn209_1 : ad202.block ≠ gb207 := Nat.ne_of_lt (Nat.lt_of_lt_of_le (by have := World.block_lt_of_cell? _ _ hx209_0; first | rwa [add_block] at this | exact this) GW207.out); have hn209_2 : ad202.block ≠ gb207 := Nat.ne_of_lt (Nat.lt_of_lt_of_le (by have := World.block_lt_of_cell? _ _ hx209_0; first | rwa [add_block] at this | exact this) GW207.out); replace hx209_0 := (HB.out.cell (World.block_lt_of_cell? w _ hx209_0)).trans hx209_0; replace hx209_1 := (HB.out.cell (World.block_lt_of_cell? w _ hx209_1)).trans hx209_1; replace hx209_2 := (HB.out.cell (World.block_lt_of_cell? w _ hx209_2)).trans hx209_2; replace hx209_0 := (cell_far (p := ⟨gb207, 0, none⟩) (by first | (rw [add_block]; exact hn209_0) | (show (Addr.add _ _).block ≠ _; rw [add_block]; exact hn209_0) | exact hn209_0) (.bool t203)).trans hx209_0; replace hx209_1 := (cell_far (p := ⟨gb207, 0, none⟩) (by first | (rw [add_block]; exact hn209_0) | (show (Addr.add _ _).block ≠ _; rw [add_block]; exact hn209_0) | exact hn209_0) (.bool t203)).trans hx209_1; replace hx209_2 := (cell_far (p := ⟨gb207, 0, none⟩) (by first | (rw [add_block]; exact hn209_0) | (show (Addr.add _ _).block ≠ _; rw [add_block]; exact hn209_0) | exact hn209_0) (.bool t203)).trans hx209_2; replace hx209_0 := (cell_far (p := ⟨gb207, 1, none⟩) (by first | (rw [add_block]; exact hn209_1) | (show (Addr.add _ _).block ≠ _; rw [add_block]; exact hn209_1) | exact hn209_1) (.int .i64 t204)).trans hx209_0; replace hx209_1 := (cell_far (p := ⟨gb207, 1, none⟩) (by first | (rw [add_block]; exact hn209_1) | (show (Addr.add _ _).block ≠ _; rw [add_block]; exact hn209_1) | exact hn209_1) (.int .i64 t204)).trans hx209_1; replace hx209_2 := (cell_far (p := ⟨gb207, 1, none⟩) (by first | (rw [add_block]; exact hn209_1) | (show (Addr.add _ _).block ≠ _; rw [add_block]; exact hn209_1) | exact hn209_1) (.int .i64 t204)).trans hx209_2; replace hx209_0 := (cell_far (p := ⟨gb207, 2, none⟩) (by first | (rw [add_block]; exact hn209_2) | (show (Addr.add _ _).block ≠ _; rw [add_block]; exact hn209_2) | exact hn209_2) (.int .i64 t205)).trans hx209_0; replace hx209_1 := (cell_far (p := ⟨gb207, 2, none⟩) (by first | (rw [add_block]; exact hn209_2) | (show (Addr.add _ _).block ≠ _; rw [add_block]; exact hn209_2) | exact hn209_2) (.int .i64 t205)).trans hx209_1; replace hx209_2 := (cell_far (p := ⟨gb207, 2, none⟩) (by first | (rw [add_block]; exact hn209_2) | (show (Addr.add _ _).block ≠ _; rw [add_block]; exact hn209_2) | exact hn209_2) (.int .i64 t205)).trans hx209_2; (try have hy209_0 := fun (n_ : Nat) => (show (((((w13.drewN n_).setCell ⟨gb207, 0, none⟩ (.bool t203)).setCell ⟨gb207, 1, none⟩ (.int .i64 t204)).setCell ⟨gb207, 2, none⟩ (.int .i64 t205))).cell? _ = some _ from hx209_0)); (try have hy209_1 := fun (n_ : Nat) => (show (((((w13.drewN n_).setCell ⟨gb207, 0, none⟩ (.bool t203)).setCell ⟨gb207, 1, none⟩ (.int .i64 t204)).setCell ⟨gb207, 2, none⟩ (.int .i64 t205))).cell? _ = some _ from hx209_1)); (try have hy209_2 := fun (n_ : Nat) => (show (((((w13.drewN n_).setCell ⟨gb207, 0, none⟩ (.bool t203)).setCell ⟨gb207, 1, none⟩ (.int .i64 t204)).setCell ⟨gb207, 2, none⟩ (.int .i64 t205))).cell? _ = some _ from hx209_2)); clear hn209_0; clear hn209_1; clear hn209_2; replace p209 := eq_true p209; replace q209 := eq_true q209))
        repeat (go_quiet (first | (go_at_call 101; (with_reducible refine (ref05_before.calls k1 _ _ l0 x3_1 ((rd_T46 l0 x3_1).f1) t203 t204 t205 true _ ?side1 ?side2 A4.out).mono ?_); (case side1 => repeat (first | exact (Kd.C_below HR0.out HB.out) | (with_reducible refine Kd.C_alloc ?_ _) | (with_reducible refine Kd.C_drewN ?_ _) | (with_reducible refine Kd.C_drew ?_))); (case side2 => exact HC0.out); rintro e w12 ⟨rfl, hb⟩; have n0_ := Aside0.mk (below_step (by repeat (first | (with_reducible first | exact HB.out | apply below_alloc | apply pw_below_drewN | apply below_drew1))) hb); clear HB; have HB := n0_; clear n0_; (try clear hb); (try clear hb2); (try clear hk); (try clear hi)) | ((with_reducible refine gate_dst (N := 4) rfl ?_); refine box_event ?hg (N := 4) ?hd (cs := #[.bool false, .int .i64 0, .int .i64 0]) (t := 46) ?hr ?_; (case hd => rfl); (case hg => rfl); (case hr => first | (go_simp; done) | (go_simp; rfl)); intro gb207 hg w13 hbox hb; have n0_ := Aside0.mk (below_step (by repeat (first | (with_reducible first | exact HB.out | apply below_alloc | apply pw_below_drewN | apply below_drew1))) hb); have n1_ := Aside0.mk (hbox); have n2_ := Aside0.mk ((by rw [hg]; exact (below_size (by repeat (first | (with_reducible first | exact HB.out | apply below_alloc | apply pw_below_drewN | apply below_drew1)))) : w.heap.size ≤ gb207)); have n3_ := Aside0.mk ((by rw [hg]; exact (below_size (by repeat (first | (with_reducible first | exact HB.out | apply below_alloc | apply pw_below_drewN | apply below_drew1)))) : w.heap.size ≤ gb207)); clear HB; have HB := n0_; have BK207 := n1_; have GW207 := n2_; have GE207 := n3_; clear n0_ n1_ n2_ n3_; clear hb hbox hg; have hcz14_0 : w13.cell? ⟨gb207, 0, none⟩ = some (.bool false) := (blk_cell BK207.out 0).trans rfl; have hcz14_1 : w13.cell? ⟨gb207, 1, none⟩ = some (.int .i64 0) := (blk_cell BK207.out 1).trans rfl; have hcz14_2 : w13.cell? ⟨gb207, 2, none⟩ = some (.int .i64 0) := (blk_cell BK207.out 2).trans rfl; have hfz14_0 := blk_frozen BK207.out 0; have hfz14_1 := blk_frozen BK207.out 1; have hfz14_2 := blk_frozen BK207.out 2; have p208 : 0 ≤ (x3_1 : Int) := of_decide_eq_true (by assumption); have q208 : x3_1 < (l0.length : Int) := of_decide_eq_true (by assumption); obtain ⟨ad208, e208, hx208_0, hx208_1, hx208_2⟩ := at_T46 HR0.out x3_1 p208 q208; (try rw [← Nbq6.out] at hx208_0); obtain rfl : ad202 = ad208 := (by injection e208); have hn208_0 : ad202.block ≠ gb207 := Nat.ne_of_lt (Nat.lt_of_lt_of_le (by have := World.block_lt_of_cell? _ _ hx208_0; first | rwa [add_block] at this | exact this) GW207.out); have hn208_1 : ad202.block ≠ gb207 := Nat.ne_of_lt (Nat.lt_of_lt_of_le (by have := World.block_lt_of_cell? _ _ hx208_0; first | rwa [add_block] at this | exact this) GW207.out); have hn208_2 : ad202.block ≠ gb207 := Nat.ne_of_lt (Nat.lt_of_lt_of_le (by have := World.block_lt_of_cell? _ _ hx208_0; first | rwa [add_block] at this | exact this) GW207.out); replace hx208_0 := (HB.out.cell (World.block_lt_of_cell? w _ hx208_0)).trans hx208_0; replace hx208_1 := (HB.out.cell (World.block_lt_of_cell? w _ hx208_1)).trans hx208_1; replace hx208_2 := (HB.out.cell (World.block_lt_of_cell? w _ hx208_2)).trans hx208_2; replace hx208_0 := (cell_far (p := ⟨gb207, 0, none⟩) (by first | (rw [add_block]; exact hn208_0) | (show (Addr.add _ _).block ≠ _; rw [add_block]; exact hn208_0) | exact hn208_0) (.bool t203)).trans hx208_0; replace hx208_1 := (cell_far (p := ⟨gb207, 0, none⟩) (by first | (rw [add_block]; exact hn208_0) | (show (Addr.add _ _).block ≠ _; rw [add_block]; exact hn208_0) | exact hn208_0) (.bool t203)).trans hx208_1; replace hx208_2 := (cell_far (p := ⟨gb207, 0, none⟩) (by first | (rw [add_block]; exact hn208_0) | (show (Addr.add _ _).block ≠ _; rw [add_block]; exact hn208_0) | exact hn208_0) (.bool t203)).trans hx208_2; replace hx208_0 := (cell_far (p := ⟨gb207, 1, none⟩) (by first | (rw [add_block]; exact hn208_1) | (show (Addr.add _ _).block ≠ _; rw [add_block]; exact hn208_1) | exact hn208_1) (.int .i64 t204)).trans hx208_0; replace hx208_1 := (cell_far (p := ⟨gb207, 1, none⟩) (by first | (rw [add_block]; exact hn208_1) | (show (Addr.add _ _).block ≠ _; rw [add_block]; exact hn208_1) | exact hn208_1) (.int .i64 t204)).trans hx208_1; replace hx208_2 := (cell_far (p := ⟨gb207, 1, none⟩) (by first | (rw [add_block]; exact hn208_1) | (show (Addr.add _ _).block ≠ _; rw [add_block]; exact hn208_1) | exact hn208_1) (.int .i64 t204)).trans hx208_2; replace hx208_0 := (cell_far (p := ⟨gb207, 2, none⟩) (by first | (rw [add_block]; exact hn208_2) | (show (Addr.add _ _).block ≠ _; rw [add_block]; exact hn208_2) | exact hn208_2) (.int .i64 t205)).trans hx208_0; replace hx208_1 := (cell_far (p := ⟨gb207, 2, none⟩) (by first | (rw [add_block]; exact hn208_2) | (show (Addr.add _ _).block ≠ _; rw [add_block]; exact hn208_2) | exact hn208_2) (.int .i64 t205)).trans hx208_1; replace hx208_2 := (cell_far (p := ⟨gb207, 2, none⟩) (by first | (rw [add_block]; exact hn208_2) | (show (Addr.add _ _).block ≠ _; rw [add_block]; exact hn208_2) | exact hn208_2) (.int .i64 t205)).trans hx208_2; (try have hy208_0 := fun (n_ : Nat) => (show (((((w13.drewN n_).setCell ⟨gb207, 0, none⟩ (.bool t203)).setCell ⟨gb207, 1, none⟩ (.int .i64 t204)).setCell ⟨gb207, 2, none⟩ (.int .i64 t205))).cell? _ = some _ from hx208_0)); (try have hy208_1 := fun (n_ : Nat) => (show (((((w13.drewN n_).setCell ⟨gb207, 0, none⟩ (.bool t203)).setCell ⟨gb207, 1, none⟩ (.int .i64 t204)).setCell ⟨gb207, 2, none⟩ (.int .i64 t205))).cell? _ = some _ from hx208_1)); (try have hy208_2 := fun (n_ : Nat) => (show (((((w13.drewN n_).setCell ⟨gb207, 0, none⟩ (.bool t203)).setCell ⟨gb207, 1, none⟩ (.int .i64 t204)).setCell ⟨gb207, 2, none⟩ (.int .i64 t205))).cell? _ = some _ from hx208_2)); clear hn208_0; clear hn208_1; clear hn208_2; replace p208 := eq_true p208; replace q208 := eq_true q208; have p209 : 0 ≤ (x3_1 : Int) := of_decide_eq_true (by assumption); have q209 : x3_1 < (l0.length : Int) := of_decide_eq_true (by assumption); obtain ⟨ad209, e209, hx209_0, hx209_1, hx209_2⟩ := at_T46 HR0.out x3_1 p209 q209; (try rw [← Nbq6.out] at hx209_0); obtain rfl : ad202 = ad209 := (by injection e209); have hn209_0 : ad202.block ≠ gb207 := Nat.ne_of_lt (Nat.lt_of_lt_of_le (by have := World.block_lt_of_cell? _ _ hx209_0; first | rwa [add_block] at this | exact this) GW207.out); have hn209_1 : ad202.block ≠ gb207 := Nat.ne_of_lt (Nat.lt_of_lt_of_le (by have := World.block_lt_of_cell? _ _ hx209_0; first | rwa [add_block] at this | exact this) GW207.out); have hn209_2 : ad202.block ≠ gb207 := Nat.ne_of_lt (Nat.lt_of_lt_of_le (by have := World.block_lt_of_cell? _ _ hx209_0; first | rwa [add_block] at this | exact this) GW207.out); replace hx209_0 := (HB.out.cell (World.block_lt_of_cell? w _ hx209_0)).trans hx209_0; replace hx209_1 := (HB.out.cell (World.block_lt_of_cell? w _ hx209_1)).trans hx209_1; replace hx209_2 := (HB.out.cell (World.block_lt_of_cell? w _ hx209_2)).trans hx209_2; replace hx209_0 := (cell_far (p := ⟨gb207, 0, none⟩) (by first | (rw [add_block]; exact hn209_0) | (show (Addr.add _ _).block ≠ _; rw [add_block]; exact hn209_0) | exact hn209_0) (.bool t203)).trans hx209_0; replace hx209_1 := (cell_far (p := ⟨gb207, 0, none⟩) (by first | (rw [add_block]; exact hn209_0) | (show (Addr.add _ _).block ≠ _; rw [add_block]; exact hn209_0) | exact hn209_0) (.bool t203)).trans hx209_1; replace hx209_2 := (cell_far (p := ⟨gb207, 0, none⟩) (by first | (rw [add_block]; exact hn209_0) | (show (Addr.add _ _).block ≠ _; rw [add_block]; exact hn209_0) | exact hn209_0) (.bool t203)).trans hx209_2; replace hx209_0 := (cell_far (p := ⟨gb207, 1, none⟩) (by first | (rw [add_block]; exact hn209_1) | (show (Addr.add _ _).block ≠ _; rw [add_block]; exact hn209_1) | exact hn209_1) (.int .i64 t204)).trans hx209_0; replace hx209_1 := (cell_far (p := ⟨gb207, 1, none⟩) (by first | (rw [add_block]; exact hn209_1) | (show (Addr.add _ _).block ≠ _; rw [add_block]; exact hn209_1) | exact hn209_1) (.int .i64 t204)).trans hx209_1; replace hx209_2 := (cell_far (p := ⟨gb207, 1, none⟩) (by first | (rw [add_block]; exact hn209_1) | (show (Addr.add _ _).block ≠ _; rw [add_block]; exact hn209_1) | exact hn209_1) (.int .i64 t204)).trans hx209_2; replace hx209_0 := (cell_far (p := ⟨gb207, 2, none⟩) (by first | (rw [add_block]; exact hn209_2) | (show (Addr.add _ _).block ≠ _; rw [add_block]; exact hn209_2) | exact hn209_2) (.int .i64 t205)).trans hx209_0; replace hx209_1 := (cell_far (p := ⟨gb207, 2, none⟩) (by first | (rw [add_block]; exact hn209_2) | (show (Addr.add _ _).block ≠ _; rw [add_block]; exact hn209_2) | exact hn209_2) (.int .i64 t205)).trans hx209_1; replace hx209_2 := (cell_far (p := ⟨gb207, 2, none⟩) (by first | (rw [add_block]; exact hn209_2) | (show (Addr.add _ _).block ≠ _; rw [add_block]; exact hn209_2) | exact hn209_2) (.int .i64 t205)).trans hx209_2; (try have hy209_0 := fun (n_ : Nat) => (show (((((w13.drewN n_).setCell ⟨gb207, 0, none⟩ (.bool t203)).setCell ⟨gb207, 1, none⟩ (.int .i64 t204)).setCell ⟨gb207, 2, none⟩ (.int .i64 t205))).cell? _ = some _ from hx209_0)); (try have hy209_1 := fun (n_ : Nat) => (show (((((w13.drewN n_).setCell ⟨gb207, 0, none⟩ (.bool t203)).setCell ⟨gb207, 1, none⟩ (.int .i64 t204)).setCell ⟨gb207, 2, none⟩ (.int .i64 t205))).cell? _ = some _ from hx209_1)); (try have hy209_2 := fun (n_ : Nat) => (show (((((w13.drewN n_).setCell ⟨gb207, 0, none⟩ (.bool t203)).setCell ⟨gb207, 1, none⟩ (.int .i64 t204)).setCell ⟨gb207, 2, none⟩ (.int .i64 t205))).cell? _ = some _ from hx209_2)); clear hn209_0; clear hn209_1; clear hn209_2; replace p209 := eq_true p209; replace q209 := eq_true q209)); try go_wp2_with (first | (go_at_call 101; (with_reducible refine (ref05_before.calls k1 _ _ l0 x3_1 ((rd_T46 l0 x3_1).f1) t203 t204 t205 true _ ?side1 ?side2 A4.out).mono ?_); (case side1 => repeat (first | exact (Kd.C_below HR0.out HB.out) | (with_reducible refine Kd.C_alloc ?_ _) | (with_reducible refine Kd.C_drewN ?_ _) | (with_reducible refine Kd.C_drew ?_))); (case side2 => exact HC0.out); rintro e w12 ⟨rfl, hb⟩; have n0_ := Aside0.mk (below_step (by repeat (first | (with_reducible first | exact HB.out | apply below_alloc | apply pw_below_drewN | apply below_drew1))) hb); clear HB; have HB := n0_; clear n0_; (try clear hb); (try clear hb2); (try clear hk); (try clear hi)) | ((with_reducible refine gate_dst (N := 4) rfl ?_); refine box_event ?hg (N := 4) ?hd (cs := #[.bool false, .int .i64 0, .int .i64 0]) (t := 46) ?hr ?_; (case hd => rfl); (case hg => rfl); (case hr => first | (go_simp; done) | (go_simp; rfl)); intro gb207 hg w13 hbox hb; have n0_ := Aside0.mk (below_step (by repeat (first | (with_reducible first | exact HB.out | apply below_alloc | apply pw_below_drewN | apply below_drew1))) hb); have n1_ := Aside0.mk (hbox); have n2_ := Aside0.mk ((by rw [hg]; exact (below_size (by repeat (first | (with_reducible first | exact HB.out | apply below_alloc | apply pw_below_drewN | apply below_drew1)))) : w.heap.size ≤ gb207)); have n3_ := Aside0.mk ((by rw [hg]; exact (below_size (by repeat (first | (with_reducible first | exact HB.out | apply below_alloc | apply pw_below_drewN | apply below_drew1)))) : w.heap.size ≤ gb207)); clear HB; have HB := n0_; have BK207 := n1_; have GW207 := n2_; have GE207 := n3_; clear n0_ n1_ n2_ n3_; clear hb hbox hg; have hcz14_0 : w13.cell? ⟨gb207, 0, none⟩ = some (.bool false) := (blk_cell BK207.out 0).trans rfl; have hcz14_1 : w13.cell? ⟨gb207, 1, none⟩ = some (.int .i64 0) := (blk_cell BK207.out 1).trans rfl; have hcz14_2 : w13.cell? ⟨gb207, 2, none⟩ = some (.int .i64 0) := (blk_cell BK207.out 2).trans rfl; have hfz14_0 := blk_frozen BK207.out 0; have hfz14_1 := blk_frozen BK207.out 1; have hfz14_2 := blk_frozen BK207.out 2; have p208 : 0 ≤ (x3_1 : Int) := of_decide_eq_true (by assumption); have q208 : x3_1 < (l0.length : Int) := of_decide_eq_true (by assumption); obtain ⟨ad208, e208, hx208_0, hx208_1, hx208_2⟩ := at_T46 HR0.out x3_1 p208 q208; (try rw [← Nbq6.out] at hx208_0); obtain rfl : ad202 = ad208 := (by injection e208); have hn208_0 : ad202.block ≠ gb207 := Nat.ne_of_lt (Nat.lt_of_lt_of_le (by have := World.block_lt_of_cell? _ _ hx208_0; first | rwa [add_block] at this | exact this) GW207.out); have hn208_1 : ad202.block ≠ gb207 := Nat.ne_of_lt (Nat.lt_of_lt_of_le (by have := World.block_lt_of_cell? _ _ hx208_0; first | rwa [add_block] at this | exact this) GW207.out); have hn208_2 : ad202.block ≠ gb207 := Nat.ne_of_lt (Nat.lt_of_lt_of_le (by have := World.block_lt_of_cell? _ _ hx208_0; first | rwa [add_block] at this | exact this) GW207.out); replace hx208_0 := (HB.out.cell (World.block_lt_of_cell? w _ hx208_0)).trans hx208_0; replace hx208_1 := (HB.out.cell (World.block_lt_of_cell? w _ hx208_1)).trans hx208_1; replace hx208_2 := (HB.out.cell (World.block_lt_of_cell? w _ hx208_2)).trans hx208_2; replace hx208_0 := (cell_far (p := ⟨gb207, 0, none⟩) (by first | (rw [add_block]; exact hn208_0) | (show (Addr.add _ _).block ≠ _; rw [add_block]; exact hn208_0) | exact hn208_0) (.bool t203)).trans hx208_0; replace hx208_1 := (cell_far (p := ⟨gb207, 0, none⟩) (by first | (rw [add_block]; exact hn208_0) | (show (Addr.add _ _).block ≠ _; rw [add_block]; exact hn208_0) | exact hn208_0) (.bool t203)).trans hx208_1; replace hx208_2 := (cell_far (p := ⟨gb207, 0, none⟩) (by first | (rw [add_block]; exact hn208_0) | (show (Addr.add _ _).block ≠ _; rw [add_block]; exact hn208_0) | exact hn208_0) (.bool t203)).trans hx208_2; replace hx208_0 := (cell_far (p := ⟨gb207, 1, none⟩) (by first | (rw [add_block]; exact hn208_1) | (show (Addr.add _ _).block ≠ _; rw [add_block]; exact hn208_1) | exact hn208_1) (.int .i64 t204)).trans hx208_0; replace hx208_1 := (cell_far (p := ⟨gb207, 1, none⟩) (by first | (rw [add_block]; exact hn208_1) | (show (Addr.add _ _).block ≠ _; rw [add_block]; exact hn208_1) | exact hn208_1) (.int .i64 t204)).trans hx208_1; replace hx208_2 := (cell_far (p := ⟨gb207, 1, none⟩) (by first | (rw [add_block]; exact hn208_1) | (show (Addr.add _ _).block ≠ _; rw [add_block]; exact hn208_1) | exact hn208_1) (.int .i64 t204)).trans hx208_2; replace hx208_0 := (cell_far (p := ⟨gb207, 2, none⟩) (by first | (rw [add_block]; exact hn208_2) | (show (Addr.add _ _).block ≠ _; rw [add_block]; exact hn208_2) | exact hn208_2) (.int .i64 t205)).trans hx208_0; replace hx208_1 := (cell_far (p := ⟨gb207, 2, none⟩) (by first | (rw [add_block]; exact hn208_2) | (show (Addr.add _ _).block ≠ _; rw [add_block]; exact hn208_2) | exact hn208_2) (.int .i64 t205)).trans hx208_1; replace hx208_2 := (cell_far (p := ⟨gb207, 2, none⟩) (by first | (rw [add_block]; exact hn208_2) | (show (Addr.add _ _).block ≠ _; rw [add_block]; exact hn208_2) | exact hn208_2) (.int .i64 t205)).trans hx208_2; (try have hy208_0 := fun (n_ : Nat) => (show (((((w13.drewN n_).setCell ⟨gb207, 0, none⟩ (.bool t203)).setCell ⟨gb207, 1, none⟩ (.int .i64 t204)).setCell ⟨gb207, 2, none⟩ (.int .i64 t205))).cell? _ = some _ from hx208_0)); (try have hy208_1 := fun (n_ : Nat) => (show (((((w13.drewN n_).setCell ⟨gb207, 0, none⟩ (.bool t203)).setCell ⟨gb207, 1, none⟩ (.int .i64 t204)).setCell ⟨gb207, 2, none⟩ (.int .i64 t205))).cell? _ = some _ from hx208_1)); (try have hy208_2 := fun (n_ : Nat) => (show (((((w13.drewN n_).setCell ⟨gb207, 0, none⟩ (.bool t203)).setCell ⟨gb207, 1, none⟩ (.int .i64 t204)).setCell ⟨gb207, 2, none⟩ (.int .i64 t205))).cell? _ = some _ from hx208_2)); clear hn208_0; clear hn208_1; clear hn208_2; replace p208 := eq_true p208; replace q208 := eq_true q208; have p209 : 0 ≤ (x3_1 : Int) := of_decide_eq_true (by assumption); have q209 : x3_1 < (l0.length : Int) := of_decide_eq_true (by assumption); obtain ⟨ad209, e209, hx209_0, hx209_1, hx209_2⟩ := at_T46 HR0.out x3_1 p209 q209; (try rw [← Nbq6.out] at hx209_0); obtain rfl : ad202 = ad209 := (by injection e209); have hn209_0 : ad202.block ≠ gb207 := Nat.ne_of_lt (Nat.lt_of_lt_of_le (by have := World.block_lt_of_cell? _ _ hx209_0; first | rwa [add_block] at this | exact this) GW207.out); have hn209_1 : ad202.block ≠ gb207 := Nat.ne_of_lt (Nat.lt_of_lt_of_le (by have := World.block_lt_of_cell? _ _ hx209_0; first | rwa [add_block] at this | exact this) GW207.out); have hn209_2 : ad202.block ≠ gb207 := Nat.ne_of_lt (Nat.lt_of_lt_of_le (by have := World.block_lt_of_cell? _ _ hx209_0; first | rwa [add_block] at this | exact this) GW207.out); replace hx209_0 := (HB.out.cell (World.block_lt_of_cell? w _ hx209_0)).trans hx209_0; replace hx209_1 := (HB.out.cell (World.block_lt_of_cell? w _ hx209_1)).trans hx209_1; replace hx209_2 := (HB.out.cell (World.block_lt_of_cell? w _ hx209_2)).trans hx209_2; replace hx209_0 := (cell_far (p := ⟨gb207, 0, none⟩) (by first | (rw [add_block]; exact hn209_0) | (show (Addr.add _ _).block ≠ _; rw [add_block]; exact hn209_0) | exact hn209_0) (.bool t203)).trans hx209_0; replace hx209_1 := (cell_far (p := ⟨gb207, 0, none⟩) (by first | (rw [add_block]; exact hn209_0) | (show (Addr.add _ _).block ≠ _; rw [add_block]; exact hn209_0) | exact hn209_0) (.bool t203)).trans hx209_1; replace hx209_2 := (cell_far (p := ⟨gb207, 0, none⟩) (by first | (rw [add_block]; exact hn209_0) | (show (Addr.add _ _).block ≠ _; rw [add_block]; exact hn209_0) | exact hn209_0) (.bool t203)).trans hx209_2; replace hx209_0 := (cell_far (p := ⟨gb207, 1, none⟩) (by first | (rw [add_block]; exact hn209_1) | (show (Addr.add _ _).block ≠ _; rw [add_block]; exact hn209_1) | exact hn209_1) (.int .i64 t204)).trans hx209_0; replace hx209_1 := (cell_far (p := ⟨gb207, 1, none⟩) (by first | (rw [add_block]; exact hn209_1) | (show (Addr.add _ _).block ≠ _; rw [add_block]; exact hn209_1) | exact hn209_1) (.int .i64 t204)).trans hx209_1; replace hx209_2 := (cell_far (p := ⟨gb207, 1, none⟩) (by first | (rw [add_block]; exact hn209_1) | (show (Addr.add _ _).block ≠ _; rw [add_block]; exact hn209_1) | exact hn209_1) (.int .i64 t204)).trans hx209_2; replace hx209_0 := (cell_far (p := ⟨gb207, 2, none⟩) (by first | (rw [add_block]; exact hn209_2) | (show (Addr.add _ _).block ≠ _; rw [add_block]; exact hn209_2) | exact hn209_2) (.int .i64 t205)).trans hx209_0; replace hx209_1 := (cell_far (p := ⟨gb207, 2, none⟩) (by first | (rw [add_block]; exact hn209_2) | (show (Addr.add _ _).block ≠ _; rw [add_block]; exact hn209_2) | exact hn209_2) (.int .i64 t205)).trans hx209_1; replace hx209_2 := (cell_far (p := ⟨gb207, 2, none⟩) (by first | (rw [add_block]; exact hn209_2) | (show (Addr.add _ _).block ≠ _; rw [add_block]; exact hn209_2) | exact hn209_2) (.int .i64 t205)).trans hx209_2; (try have hy209_0 := fun (n_ : Nat) => (show (((((w13.drewN n_).setCell ⟨gb207, 0, none⟩ (.bool t203)).setCell ⟨gb207, 1, none⟩ (.int .i64 t204)).setCell ⟨gb207, 2, none⟩ (.int .i64 t205))).cell? _ = some _ from hx209_0)); (try have hy209_1 := fun (n_ : Nat) => (show (((((w13.drewN n_).setCell ⟨gb207, 0, none⟩ (.bool t203)).setCell ⟨gb207, 1, none⟩ (.int .i64 t204)).setCell ⟨gb207, 2, none⟩ (.int .i64 t205))).cell? _ = some _ from hx209_1)); (try have hy209_2 := fun (n_ : Nat) => (show (((((w13.drewN n_).setCell ⟨gb207, 0, none⟩ (.bool t203)).setCell ⟨gb207, 1, none⟩ (.int .i64 t204)).setCell ⟨gb207, 2, none⟩ (.int .i64 t205))).cell? _ = some _ from hx209_2)); clear hn209_0; clear hn209_1; clear hn209_2; replace p209 := eq_true p209; replace q209 := eq_true q209)))
        go_roundg k1
        case measure => have := HK1.out; omega
        case rel => (try rw [← Nbq6.out]); exact ⟨(wrap64 (x3_1 + 1)), (by first | rfl | (simp; done) | (simp [*]; done)), H', ⟨by have := HK1.out; omega⟩, ⟨by repeat (first | (with_reducible first | exact HB.out | apply below_alloc | apply pw_below_drewN | apply below_drew1 | refine below_set ?_ GE207.out))⟩⟩
       ·rw [if_neg c11] at H
        have c11b0 : (t205 == ((rd_T46 l0 x3_1).f2)) = false := beq_eq_false_iff_ne.mpr c11
        have c11b1 : (t205 != ((rd_T46 l0 x3_1).f2)) = true := bne_iff_ne.mpr c11
        obtain rfl := Option.some.inj H
        have p202 : 0 ≤ (x3_1 : Int) := of_decide_eq_true (by assumption)
        have q202 : x3_1 < (l0.length : Int) := of_decide_eq_true (by assumption)
        obtain ⟨ad202, e202, hx202_0, hx202_1, hx202_2⟩ := at_T46 HR0.out x3_1 p202 q202
        (try rw [← Nbq6.out] at hx202_0)
        cases e202
        replace hx202_0 := (HB.out.cell (World.block_lt_of_cell? w _ hx202_0)).trans hx202_0
        replace hx202_1 := (HB.out.cell (World.block_lt_of_cell? w _ hx202_1)).trans hx202_1
        replace hx202_2 := (HB.out.cell (World.block_lt_of_cell? w _ hx202_2)).trans hx202_2
        replace p202 := eq_true p202
        replace q202 := eq_true q202
        go_wp2_with (first | (go_at_call 101; (with_reducible refine (ref05_before.calls k1 _ _ l0 x3_1 ((rd_T46 l0 x3_1).f1) t203 t204 t205 true _ ?side1 ?side2 A4.out).mono ?_); (case side1 => repeat (first | exact (Kd.C_below HR0.out HB.out) | (with_reducible refine Kd.C_alloc ?_ _) | (with_reducible refine Kd.C_drewN ?_ _) | (with_reducible refine Kd.C_drew ?_))); (case side2 => exact HC0.out); rintro e w15 ⟨rfl, hb⟩; have n0_ := Aside0.mk (below_step (by repeat (first | (with_reducible first | exact HB.out | apply below_alloc | apply pw_below_drewN | apply below_drew1))) hb); clear HB; have HB := n0_; clear n0_; (try clear hb); (try clear hb2); (try clear hk); (try clear hi)) | ((with_reducible refine gate_dst (N := 4) rfl ?_); refine box_event ?hg (N := 4) ?hd (cs := #[.bool false, .int .i64 0, .int .i64 0]) (t := 46) ?hr ?_; (case hd => rfl); (case hg => rfl); (case hr => first | (go_simp; done) | (go_simp; rfl)); intro gb207 hg w16 hbox hb; have n0_ := Aside0.mk (below_step (by repeat (first | (with_reducible first | exact HB.out | apply below_alloc | apply pw_below_drewN | apply below_drew1))) hb); have n1_ := Aside0.mk (hbox); have n2_ := Aside0.mk ((by rw [hg]; exact (below_size (by repeat (first | (with_reducible first | exact HB.out | apply below_alloc | apply pw_below_drewN | apply below_drew1)))) : w.heap.size ≤ gb207)); have n3_ := Aside0.mk ((by rw [hg]; exact (below_size (by repeat (first | (with_reducible first | exact HB.out | apply below_alloc | apply pw_below_drewN | apply below_drew1)))) : w.heap.size ≤ gb207)); clear HB; have HB := n0_; have BK207 := n1_; have GW207 := n2_; have GE207 := n3_; clear n0_ n1_ n2_ n3_; clear hb hbox hg; have hcz17_0 : w16.cell? ⟨gb207, 0, none⟩ = some (.bool false) := (blk_cell BK207.out 0).trans rfl; have hcz17_1 : w16.cell? ⟨gb207, 1, none⟩ = some (.int .i64 0) := (blk_cell BK207.out 1).trans rfl; have hcz17_2 : w16.cell? ⟨gb207, 2, none⟩ = some (.int .i64 0) := (blk_cell BK207.out 2).trans rfl; have hfz17_0 := blk_frozen BK207.out 0; have hfz17_1 := blk_frozen BK207.out 1; have hfz17_2 := blk_frozen BK207.out 2; have p208 : 0 ≤ (x3_1 : Int) := of_decide_eq_true (by assumption); have q208 : x3_1 < (l0.length : Int) := of_decide_eq_true (by assumption); obtain ⟨ad208, e208, hx208_0, hx208_1, hx208_2⟩ := at_T46 HR0.out x3_1 p208 q208; (try rw [← Nbq6.out] at hx208_0); obtain rfl : ad202 = ad208 := (by injection e208); have hn208_0 : ad202.block ≠ gb207 := Nat.ne_of_lt (Nat.lt_of_lt_of_le (by have := World.block_lt_of_cell? _ _ hx208_0; first | rwa [add_block] at this | exact this) GW207.out); have hn208_1 : ad202.block ≠ gb207 := Nat.ne_of_lt (Nat.lt_of_lt_of_le (by have := World.block_lt_of_cell? _ _ hx208_0; first | rwa [add_block] at this | exact this) GW207.out); have hn208_2 : ad202.block ≠ gb207 := Nat.ne_of_lt (Nat.lt_of_lt_of_le (by have := World.block_lt_of_cell? _ _ hx208_0; first | rwa [add_block] at this | exact this) GW207.out); replace hx208_0 := (HB.out.cell (World.block_lt_of_cell? w _ hx208_0)).trans hx208_0; replace hx208_1 := (HB.out.cell (World.block_lt_of_cell? w _ hx208_1)).trans hx208_1; replace hx208_2 := (HB.out.cell (World.block_lt_of_cell? w _ hx208_2)).trans hx208_2; replace hx208_0 := (cell_far (p := ⟨gb207, 0, none⟩) (by first | (rw [add_block]; exact hn208_0) | (show (Addr.add _ _).block ≠ _; rw [add_block]; exact hn208_0) | exact hn208_0) (.bool t203)).trans hx208_0; replace hx208_1 := (cell_far (p := ⟨gb207, 0, none⟩) (by first | (rw [add_block]; exact hn208_0) | (show (Addr.add _ _).block ≠ _; rw [add_block]; exact hn208_0) | exact hn208_0) (.bool t203)).trans hx208_1; replace hx208_2 := (cell_far (p := ⟨gb207, 0, none⟩) (by first | (rw [add_block]; exact hn208_0) | (show (Addr.add _ _).block ≠ _; rw [add_block]; exact hn208_0) | exact hn208_0) (.bool t203)).trans hx208_2; replace hx208_0 := (cell_far (p := ⟨gb207, 1, none⟩) (by first | (rw [add_block]; exact hn208_1) | (show (Addr.add _ _).block ≠ _; rw [add_block]; exact hn208_1) | exact hn208_1) (.int .i64 t204)).trans hx208_0; replace hx208_1 := (cell_far (p := ⟨gb207, 1, none⟩) (by first | (rw [add_block]; exact hn208_1) | (show (Addr.add _ _).block ≠ _; rw [add_block]; exact hn208_1) | exact hn208_1) (.int .i64 t204)).trans hx208_1; replace hx208_2 := (cell_far (p := ⟨gb207, 1, none⟩) (by first | (rw [add_block]; exact hn208_1) | (show (Addr.add _ _).block ≠ _; rw [add_block]; exact hn208_1) | exact hn208_1) (.int .i64 t204)).trans hx208_2; replace hx208_0 := (cell_far (p := ⟨gb207, 2, none⟩) (by first | (rw [add_block]; exact hn208_2) | (show (Addr.add _ _).block ≠ _; rw [add_block]; exact hn208_2) | exact hn208_2) (.int .i64 t205)).trans hx208_0; replace hx208_1 := (cell_far (p := ⟨gb207, 2, none⟩) (by first | (rw [add_block]; exact hn208_2) | (show (Addr.add _ _).block ≠ _; rw [add_block]; exact hn208_2) | exact hn208_2) (.int .i64 t205)).trans hx208_1; replace hx208_2 := (cell_far (p := ⟨gb207, 2, none⟩) (by first | (rw [add_block]; exact hn208_2) | (show (Addr.add _ _).block ≠ _; rw [add_block]; exact hn208_2) | exact hn208_2) (.int .i64 t205)).trans hx208_2; (try have hy208_0 := fun (n_ : Nat) => (show (((((w16.drewN n_).setCell ⟨gb207, 0, none⟩ (.bool t203)).setCell ⟨gb207, 1, none⟩ (.int .i64 t204)).setCell ⟨gb207, 2, none⟩ (.int .i64 t205))).cell? _ = some _ from hx208_0)); (try have hy208_1 := fun (n_ : Nat) => (show (((((w16.drewN n_).setCell ⟨gb207, 0, none⟩ (.bool t203)).setCell ⟨gb207, 1, none⟩ (.int .i64 t204)).setCell ⟨gb207, 2, none⟩ (.int .i64 t205))).cell? _ = some _ from hx208_1)); (try have hy208_2 := fun (n_ : Nat) => (show (((((w16.drewN n_).setCell ⟨gb207, 0, none⟩ (.bool t203)).setCell ⟨gb207, 1, none⟩ (.int .i64 t204)).setCell ⟨gb207, 2, none⟩ (.int .i64 t205))).cell? _ = some _ from hx208_2)); clear hn208_0; clear hn208_1; clear hn208_2; replace p208 := eq_true p208; replace q208 := eq_true q208; have p209 : 0 ≤ (x3_1 : Int) := of_decide_eq_true (by assumption); have q209 : x3_1 < (l0.length : Int) := of_decide_eq_true (by assumption); obtain ⟨ad209, e209, hx209_0, hx209_1, hx209_2⟩ := at_T46 HR0.out x3_1 p209 q209; (try rw [← Nbq6.out] at hx209_0); obtain rfl : ad202 = ad209 := (by injection e209); have hn209_0 : ad202.block ≠ gb207 := Nat.ne_of_lt (Nat.lt_of_lt_of_le (by have := World.block_lt_of_cell? _ _ hx209_0; first | rwa [add_block] at this | exact this) GW207.out); have hn209_1 : ad202.block ≠ gb207 := Nat.ne_of_lt (Nat.lt_of_lt_of_le (by have := World.block_lt_of_cell? _ _ hx209_0; first | rwa [add_block] at this | exact this) GW207.out); have hn209_2 : ad202.block ≠ gb207 := Nat.ne_of_lt (Nat.lt_of_lt_of_le (by have := World.block_lt_of_cell? _ _ hx209_0; first | rwa [add_block] at this | exact this) GW207.out); replace hx209_0 := (HB.out.cell (World.block_lt_of_cell? w _ hx209_0)).trans hx209_0; replace hx209_1 := (HB.out.cell (World.block_lt_of_cell? w _ hx209_1)).trans hx209_1; replace hx209_2 := (HB.out.cell (World.block_lt_of_cell? w _ hx209_2)).trans hx209_2; replace hx209_0 := (cell_far (p := ⟨gb207, 0, none⟩) (by first | (rw [add_block]; exact hn209_0) | (show (Addr.add _ _).block ≠ _; rw [add_block]; exact hn209_0) | exact hn209_0) (.bool t203)).trans hx209_0; replace hx209_1 := (cell_far (p := ⟨gb207, 0, none⟩) (by first | (rw [add_block]; exact hn209_0) | (show (Addr.add _ _).block ≠ _; rw [add_block]; exact hn209_0) | exact hn209_0) (.bool t203)).trans hx209_1; replace hx209_2 := (cell_far (p := ⟨gb207, 0, none⟩) (by first | (rw [add_block]; exact hn209_0) | (show (Addr.add _ _).block ≠ _; rw [add_block]; exact hn209_0) | exact hn209_0) (.bool t203)).trans hx209_2; replace hx209_0 := (cell_far (p := ⟨gb207, 1, none⟩) (by first | (rw [add_block]; exact hn209_1) | (show (Addr.add _ _).block ≠ _; rw [add_block]; exact hn209_1) | exact hn209_1) (.int .i64 t204)).trans hx209_0; replace hx209_1 := (cell_far (p := ⟨gb207, 1, none⟩) (by first | (rw [add_block]; exact hn209_1) | (show (Addr.add _ _).block ≠ _; rw [add_block]; exact hn209_1) | exact hn209_1) (.int .i64 t204)).trans hx209_1; replace hx209_2 := (cell_far (p := ⟨gb207, 1, none⟩) (by first | (rw [add_block]; exact hn209_1) | (show (Addr.add _ _).block ≠ _; rw [add_block]; exact hn209_1) | exact hn209_1) (.int .i64 t204)).trans hx209_2; replace hx209_0 := (cell_far (p := ⟨gb207, 2, none⟩) (by first | (rw [add_block]; exact hn209_2) | (show (Addr.add _ _).block ≠ _; rw [add_block]; exact hn209_2) | exact hn209_2) (.int .i64 t205)).trans hx209_0; replace hx209_1 := (cell_far (p := ⟨gb207, 2, none⟩) (by first | (rw [add_block]; exact hn209_2) | (show (Addr.add _ _).block ≠ _; rw [add_block]; exact hn209_2) | exact hn209_2) (.int .i64 t205)).trans hx209_1; replace hx209_2 := (cell_far (p := ⟨gb207, 2, none⟩) (by first | (rw [add_block]; exact hn209_2) | (show (Addr.add _ _).block ≠ _; rw [add_block]; exact hn209_2) | exact hn209_2) (.int .i64 t205)).trans hx209_2; (try have hy209_0 := fun (n_ : Nat) => (show (((((w16.drewN n_).setCell ⟨gb207, 0, none⟩ (.bool t203)).setCell ⟨gb207, 1, none⟩ (.int .i64 t204)).setCell ⟨gb207, 2, none⟩ (.int .i64 t205))).cell? _ = some _ from hx209_0)); (try have hy209_1 := fun (n_ : Nat) => (show (((((w16.drewN n_).setCell ⟨gb207, 0, none⟩ (.bool t203)).setCell ⟨gb207, 1, none⟩ (.int .i64 t204)).setCell ⟨gb207, 2, none⟩ (.int .i64 t205))).cell? _ = some _ from hx209_1)); (try have hy209_2 := fun (n_ : Nat) => (show (((((w16.drewN n_).setCell ⟨gb207, 0, none⟩ (.bool t203)).setCell ⟨gb207, 1, none⟩ (.int .i64 t204)).setCell ⟨gb207, 2, none⟩ (.int .i64 t205))).cell? _ = some _ from hx209_2)); clear hn209_0; clear hn209_1; clear hn209_2; replace p209 := eq_true p209; replace q209 := eq_true q209))
        repeat (go_quiet (first | (go_at_call 101; (with_reducible refine (ref05_before.calls k1 _ _ l0 x3_1 ((rd_T46 l0 x3_1).f1) t203 t204 t205 true _ ?side1 ?side2 A4.out).mono ?_); (case side1 => repeat (first | exact (Kd.C_below HR0.out HB.out) | (with_reducible refine Kd.C_alloc ?_ _) | (with_reducible refine Kd.C_drewN ?_ _) | (with_reducible refine Kd.C_drew ?_))); (case side2 => exact HC0.out); rintro e w15 ⟨rfl, hb⟩; have n0_ := Aside0.mk (below_step (by repeat (first | (with_reducible first | exact HB.out | apply below_alloc | apply pw_below_drewN | apply below_drew1))) hb); clear HB; have HB := n0_; clear n0_; (try clear hb); (try clear hb2); (try clear hk); (try clear hi)) | ((with_reducible refine gate_dst (N := 4) rfl ?_); refine box_event ?hg (N := 4) ?hd (cs := #[.bool false, .int .i64 0, .int .i64 0]) (t := 46) ?hr ?_; (case hd => rfl); (case hg => rfl); (case hr => first | (go_simp; done) | (go_simp; rfl)); intro gb207 hg w16 hbox hb; have n0_ := Aside0.mk (below_step (by repeat (first | (with_reducible first | exact HB.out | apply below_alloc | apply pw_below_drewN | apply below_drew1))) hb); have n1_ := Aside0.mk (hbox); have n2_ := Aside0.mk ((by rw [hg]; exact (below_size (by repeat (first | (with_reducible first | exact HB.out | apply below_alloc | apply pw_below_drewN | apply below_drew1)))) : w.heap.size ≤ gb207)); have n3_ := Aside0.mk ((by rw [hg]; exact (below_size (by repeat (first | (with_reducible first | exact HB.out | apply below_alloc | apply pw_below_drewN | apply below_drew1)))) : w.heap.size ≤ gb207)); clear HB; have HB := n0_; have BK207 := n1_; have GW207 := n2_; have GE207 := n3_; clear n0_ n1_ n2_ n3_; clear hb hbox hg; have hcz17_0 : w16.cell? ⟨gb207, 0, none⟩ = some (.bool false) := (blk_cell BK207.out 0).trans rfl; have hcz17_1 : w16.cell? ⟨gb207, 1, none⟩ = some (.int .i64 0) := (blk_cell BK207.out 1).trans rfl; have hcz17_2 : w16.cell? ⟨gb207, 2, none⟩ = some (.int .i64 0) := (blk_cell BK207.out 2).trans rfl; have hfz17_0 := blk_frozen BK207.out 0; have hfz17_1 := blk_frozen BK207.out 1; have hfz17_2 := blk_frozen BK207.out 2; have p208 : 0 ≤ (x3_1 : Int) := of_decide_eq_true (by assumption); have q208 : x3_1 < (l0.length : Int) := of_decide_eq_true (by assumption); obtain ⟨ad208, e208, hx208_0, hx208_1, hx208_2⟩ := at_T46 HR0.out x3_1 p208 q208; (try rw [← Nbq6.out] at hx208_0); obtain rfl : ad202 = ad208 := (by injection e208); have hn208_0 : ad202.block ≠ gb207 := Nat.ne_of_lt (Nat.lt_of_lt_of_le (by have := World.block_lt_of_cell? _ _ hx208_0; first | rwa [add_block] at this | exact this) GW207.out); have hn208_1 : ad202.block ≠ gb207 := Nat.ne_of_lt (Nat.lt_of_lt_of_le (by have := World.block_lt_of_cell? _ _ hx208_0; first | rwa [add_block] at this | exact this) GW207.out); have hn208_2 : ad202.block ≠ gb207 := Nat.ne_of_lt (Nat.lt_of_lt_of_le (by have := World.block_lt_of_cell? _ _ hx208_0; first | rwa [add_block] at this | exact this) GW207.out); replace hx208_0 := (HB.out.cell (World.block_lt_of_cell? w _ hx208_0)).trans hx208_0; replace hx208_1 := (HB.out.cell (World.block_lt_of_cell? w _ hx208_1)).trans hx208_1; replace hx208_2 := (HB.out.cell (World.block_lt_of_cell? w _ hx208_2)).trans hx208_2; replace hx208_0 := (cell_far (p := ⟨gb207, 0, none⟩) (by first | (rw [add_block]; exact hn208_0) | (show (Addr.add _ _).block ≠ _; rw [add_block]; exact hn208_0) | exact hn208_0) (.bool t203)).trans hx208_0; replace hx208_1 := (cell_far (p := ⟨gb207, 0, none⟩) (by first | (rw [add_block]; exact hn208_0) | (show (Addr.add _ _).block ≠ _; rw [add_block]; exact hn208_0) | exact hn208_0) (.bool t203)).trans hx208_1; replace hx208_2 := (cell_far (p := ⟨gb207, 0, none⟩) (by first | (rw [add_block]; exact hn208_0) | (show (Addr.add _ _).block ≠ _; rw [add_block]; exact hn208_0) | exact hn208_0) (.bool t203)).trans hx208_2; replace hx208_0 := (cell_far (p := ⟨gb207, 1, none⟩) (by first | (rw [add_block]; exact hn208_1) | (show (Addr.add _ _).block ≠ _; rw [add_block]; exact hn208_1) | exact hn208_1) (.int .i64 t204)).trans hx208_0; replace hx208_1 := (cell_far (p := ⟨gb207, 1, none⟩) (by first | (rw [add_block]; exact hn208_1) | (show (Addr.add _ _).block ≠ _; rw [add_block]; exact hn208_1) | exact hn208_1) (.int .i64 t204)).trans hx208_1; replace hx208_2 := (cell_far (p := ⟨gb207, 1, none⟩) (by first | (rw [add_block]; exact hn208_1) | (show (Addr.add _ _).block ≠ _; rw [add_block]; exact hn208_1) | exact hn208_1) (.int .i64 t204)).trans hx208_2; replace hx208_0 := (cell_far (p := ⟨gb207, 2, none⟩) (by first | (rw [add_block]; exact hn208_2) | (show (Addr.add _ _).block ≠ _; rw [add_block]; exact hn208_2) | exact hn208_2) (.int .i64 t205)).trans hx208_0; replace hx208_1 := (cell_far (p := ⟨gb207, 2, none⟩) (by first | (rw [add_block]; exact hn208_2) | (show (Addr.add _ _).block ≠ _; rw [add_block]; exact hn208_2) | exact hn208_2) (.int .i64 t205)).trans hx208_1; replace hx208_2 := (cell_far (p := ⟨gb207, 2, none⟩) (by first | (rw [add_block]; exact hn208_2) | (show (Addr.add _ _).block ≠ _; rw [add_block]; exact hn208_2) | exact hn208_2) (.int .i64 t205)).trans hx208_2; (try have hy208_0 := fun (n_ : Nat) => (show (((((w16.drewN n_).setCell ⟨gb207, 0, none⟩ (.bool t203)).setCell ⟨gb207, 1, none⟩ (.int .i64 t204)).setCell ⟨gb207, 2, none⟩ (.int .i64 t205))).cell? _ = some _ from hx208_0)); (try have hy208_1 := fun (n_ : Nat) => (show (((((w16.drewN n_).setCell ⟨gb207, 0, none⟩ (.bool t203)).setCell ⟨gb207, 1, none⟩ (.int .i64 t204)).setCell ⟨gb207, 2, none⟩ (.int .i64 t205))).cell? _ = some _ from hx208_1)); (try have hy208_2 := fun (n_ : Nat) => (show (((((w16.drewN n_).setCell ⟨gb207, 0, none⟩ (.bool t203)).setCell ⟨gb207, 1, none⟩ (.int .i64 t204)).setCell ⟨gb207, 2, none⟩ (.int .i64 t205))).cell? _ = some _ from hx208_2)); clear hn208_0; clear hn208_1; clear hn208_2; replace p208 := eq_true p208; replace q208 := eq_true q208; have p209 : 0 ≤ (x3_1 : Int) := of_decide_eq_true (by assumption); have q209 : x3_1 < (l0.length : Int) := of_decide_eq_true (by assumption); obtain ⟨ad209, e209, hx209_0, hx209_1, hx209_2⟩ := at_T46 HR0.out x3_1 p209 q209; (try rw [← Nbq6.out] at hx209_0); obtain rfl : ad202 = ad209 := (by injection e209); have hn209_0 : ad202.block ≠ gb207 := Nat.ne_of_lt (Nat.lt_of_lt_of_le (by have := World.block_lt_of_cell? _ _ hx209_0; first | rwa [add_block] at this | exact this) GW207.out); have hn209_1 : ad202.block ≠ gb207 := Nat.ne_of_lt (Nat.lt_of_lt_of_le (by have := World.block_lt_of_cell? _ _ hx209_0; first | rwa [add_block] at this | exact this) GW207.out); have hn209_2 : ad202.block ≠ gb207 := Nat.ne_of_lt (Nat.lt_of_lt_of_le (by have := World.block_lt_of_cell? _ _ hx209_0; first | rwa [add_block] at this | exact this) GW207.out); replace hx209_0 := (HB.out.cell (World.block_lt_of_cell? w _ hx209_0)).trans hx209_0; replace hx209_1 := (HB.out.cell (World.block_lt_of_cell? w _ hx209_1)).trans hx209_1; replace hx209_2 := (HB.out.cell (World.block_lt_of_cell? w _ hx209_2)).trans hx209_2; replace hx209_0 := (cell_far (p := ⟨gb207, 0, none⟩) (by first | (rw [add_block]; exact hn209_0) | (show (Addr.add _ _).block ≠ _; rw [add_block]; exact hn209_0) | exact hn209_0) (.bool t203)).trans hx209_0; replace hx209_1 := (cell_far (p := ⟨gb207, 0, none⟩) (by first | (rw [add_block]; exact hn209_0) | (show (Addr.add _ _).block ≠ _; rw [add_block]; exact hn209_0) | exact hn209_0) (.bool t203)).trans hx209_1; replace hx209_2 := (cell_far (p := ⟨gb207, 0, none⟩) (by first | (rw [add_block]; exact hn209_0) | (show (Addr.add _ _).block ≠ _; rw [add_block]; exact hn209_0) | exact hn209_0) (.bool t203)).trans hx209_2; replace hx209_0 := (cell_far (p := ⟨gb207, 1, none⟩) (by first | (rw [add_block]; exact hn209_1) | (show (Addr.add _ _).block ≠ _; rw [add_block]; exact hn209_1) | exact hn209_1) (.int .i64 t204)).trans hx209_0; replace hx209_1 := (cell_far (p := ⟨gb207, 1, none⟩) (by first | (rw [add_block]; exact hn209_1) | (show (Addr.add _ _).block ≠ _; rw [add_block]; exact hn209_1) | exact hn209_1) (.int .i64 t204)).trans hx209_1; replace hx209_2 := (cell_far (p := ⟨gb207, 1, none⟩) (by first | (rw [add_block]; exact hn209_1) | (show (Addr.add _ _).block ≠ _; rw [add_block]; exact hn209_1) | exact hn209_1) (.int .i64 t204)).trans hx209_2; replace hx209_0 := (cell_far (p := ⟨gb207, 2, none⟩) (by first | (rw [add_block]; exact hn209_2) | (show (Addr.add _ _).block ≠ _; rw [add_block]; exact hn209_2) | exact hn209_2) (.int .i64 t205)).trans hx209_0; replace hx209_1 := (cell_far (p := ⟨gb207, 2, none⟩) (by first | (rw [add_block]; exact hn209_2) | (show (Addr.add _ _).block ≠ _; rw [add_block]; exact hn209_2) | exact hn209_2) (.int .i64 t205)).trans hx209_1; replace hx209_2 := (cell_far (p := ⟨gb207, 2, none⟩) (by first | (rw [add_block]; exact hn209_2) | (show (Addr.add _ _).block ≠ _; rw [add_block]; exact hn209_2) | exact hn209_2) (.int .i64 t205)).trans hx209_2; (try have hy209_0 := fun (n_ : Nat) => (show (((((w16.drewN n_).setCell ⟨gb207, 0, none⟩ (.bool t203)).setCell ⟨gb207, 1, none⟩ (.int .i64 t204)).setCell ⟨gb207, 2, none⟩ (.int .i64 t205))).cell? _ = some _ from hx209_0)); (try have hy209_1 := fun (n_ : Nat) => (show (((((w16.drewN n_).setCell ⟨gb207, 0, none⟩ (.bool t203)).setCell ⟨gb207, 1, none⟩ (.int .i64 t204)).setCell ⟨gb207, 2, none⟩ (.int .i64 t205))).cell? _ = some _ from hx209_1)); (try have hy209_2 := fun (n_ : Nat) => (show (((((w16.drewN n_).setCell ⟨gb207, 0, none⟩ (.bool t203)).setCell ⟨gb207, 1, none⟩ (.int .i64 t204)).setCell ⟨gb207, 2, none⟩ (.int .i64 t205))).cell? _ = some _ from hx209_2)); clear hn209_0; clear hn209_1; clear hn209_2; replace p209 := eq_true p209; replace q209 := eq_true q209)); try go_wp2_with (first | (go_at_call 101; (with_reducible refine (ref05_before.calls k1 _ _ l0 x3_1 ((rd_T46 l0 x3_1).f1) t203 t204 t205 true _ ?side1 ?side2 A4.out).mono ?_); (case side1 => repeat (first | exact (Kd.C_below HR0.out HB.out) | (with_reducible refine Kd.C_alloc ?_ _) | (with_reducible refine Kd.C_drewN ?_ _) | (with_reducible refine Kd.C_drew ?_))); (case side2 => exact HC0.out); rintro e w15 ⟨rfl, hb⟩; have n0_ := Aside0.mk (below_step (by repeat (first | (with_reducible first | exact HB.out | apply below_alloc | apply pw_below_drewN | apply below_drew1))) hb); clear HB; have HB := n0_; clear n0_; (try clear hb); (try clear hb2); (try clear hk); (try clear hi)) | ((with_reducible refine gate_dst (N := 4) rfl ?_); refine box_event ?hg (N := 4) ?hd (cs := #[.bool false, .int .i64 0, .int .i64 0]) (t := 46) ?hr ?_; (case hd => rfl); (case hg => rfl); (case hr => first | (go_simp; done) | (go_simp; rfl)); intro gb207 hg w16 hbox hb; have n0_ := Aside0.mk (below_step (by repeat (first | (with_reducible first | exact HB.out | apply below_alloc | apply pw_below_drewN | apply below_drew1))) hb); have n1_ := Aside0.mk (hbox); have n2_ := Aside0.mk ((by rw [hg]; exact (below_size (by repeat (first | (with_reducible first | exact HB.out | apply below_alloc | apply pw_below_drewN | apply below_drew1)))) : w.heap.size ≤ gb207)); have n3_ := Aside0.mk ((by rw [hg]; exact (below_size (by repeat (first | (with_reducible first | exact HB.out | apply below_alloc | apply pw_below_drewN | apply below_drew1)))) : w.heap.size ≤ gb207)); clear HB; have HB := n0_; have BK207 := n1_; have GW207 := n2_; have GE207 := n3_; clear n0_ n1_ n2_ n3_; clear hb hbox hg; have hcz17_0 : w16.cell? ⟨gb207, 0, none⟩ = some (.bool false) := (blk_cell BK207.out 0).trans rfl; have hcz17_1 : w16.cell? ⟨gb207, 1, none⟩ = some (.int .i64 0) := (blk_cell BK207.out 1).trans rfl; have hcz17_2 : w16.cell? ⟨gb207, 2, none⟩ = some (.int .i64 0) := (blk_cell BK207.out 2).trans rfl; have hfz17_0 := blk_frozen BK207.out 0; have hfz17_1 := blk_frozen BK207.out 1; have hfz17_2 := blk_frozen BK207.out 2; have p208 : 0 ≤ (x3_1 : Int) := of_decide_eq_true (by assumption); have q208 : x3_1 < (l0.length : Int) := of_decide_eq_true (by assumption); obtain ⟨ad208, e208, hx208_0, hx208_1, hx208_2⟩ := at_T46 HR0.out x3_1 p208 q208; (try rw [← Nbq6.out] at hx208_0); obtain rfl : ad202 = ad208 := (by injection e208); have hn208_0 : ad202.block ≠ gb207 := Nat.ne_of_lt (Nat.lt_of_lt_of_le (by have := World.block_lt_of_cell? _ _ hx208_0; first | rwa [add_block] at this | exact this) GW207.out); have hn208_1 : ad202.block ≠ gb207 := Nat.ne_of_lt (Nat.lt_of_lt_of_le (by have := World.block_lt_of_cell? _ _ hx208_0; first | rwa [add_block] at this | exact this) GW207.out); have hn208_2 : ad202.block ≠ gb207 := Nat.ne_of_lt (Nat.lt_of_lt_of_le (by have := World.block_lt_of_cell? _ _ hx208_0; first | rwa [add_block] at this | exact this) GW207.out); replace hx208_0 := (HB.out.cell (World.block_lt_of_cell? w _ hx208_0)).trans hx208_0; replace hx208_1 := (HB.out.cell (World.block_lt_of_cell? w _ hx208_1)).trans hx208_1; replace hx208_2 := (HB.out.cell (World.block_lt_of_cell? w _ hx208_2)).trans hx208_2; replace hx208_0 := (cell_far (p := ⟨gb207, 0, none⟩) (by first | (rw [add_block]; exact hn208_0) | (show (Addr.add _ _).block ≠ _; rw [add_block]; exact hn208_0) | exact hn208_0) (.bool t203)).trans hx208_0; replace hx208_1 := (cell_far (p := ⟨gb207, 0, none⟩) (by first | (rw [add_block]; exact hn208_0) | (show (Addr.add _ _).block ≠ _; rw [add_block]; exact hn208_0) | exact hn208_0) (.bool t203)).trans hx208_1; replace hx208_2 := (cell_far (p := ⟨gb207, 0, none⟩) (by first | (rw [add_block]; exact hn208_0) | (show (Addr.add _ _).block ≠ _; rw [add_block]; exact hn208_0) | exact hn208_0) (.bool t203)).trans hx208_2; replace hx208_0 := (cell_far (p := ⟨gb207, 1, none⟩) (by first | (rw [add_block]; exact hn208_1) | (show (Addr.add _ _).block ≠ _; rw [add_block]; exact hn208_1) | exact hn208_1) (.int .i64 t204)).trans hx208_0; replace hx208_1 := (cell_far (p := ⟨gb207, 1, none⟩) (by first | (rw [add_block]; exact hn208_1) | (show (Addr.add _ _).block ≠ _; rw [add_block]; exact hn208_1) | exact hn208_1) (.int .i64 t204)).trans hx208_1; replace hx208_2 := (cell_far (p := ⟨gb207, 1, none⟩) (by first | (rw [add_block]; exact hn208_1) | (show (Addr.add _ _).block ≠ _; rw [add_block]; exact hn208_1) | exact hn208_1) (.int .i64 t204)).trans hx208_2; replace hx208_0 := (cell_far (p := ⟨gb207, 2, none⟩) (by first | (rw [add_block]; exact hn208_2) | (show (Addr.add _ _).block ≠ _; rw [add_block]; exact hn208_2) | exact hn208_2) (.int .i64 t205)).trans hx208_0; replace hx208_1 := (cell_far (p := ⟨gb207, 2, none⟩) (by first | (rw [add_block]; exact hn208_2) | (show (Addr.add _ _).block ≠ _; rw [add_block]; exact hn208_2) | exact hn208_2) (.int .i64 t205)).trans hx208_1; replace hx208_2 := (cell_far (p := ⟨gb207, 2, none⟩) (by first | (rw [add_block]; exact hn208_2) | (show (Addr.add _ _).block ≠ _; rw [add_block]; exact hn208_2) | exact hn208_2) (.int .i64 t205)).trans hx208_2; (try have hy208_0 := fun (n_ : Nat) => (show (((((w16.drewN n_).setCell ⟨gb207, 0, none⟩ (.bool t203)).setCell ⟨gb207, 1, none⟩ (.int .i64 t204)).setCell ⟨gb207, 2, none⟩ (.int .i64 t205))).cell? _ = some _ from hx208_0)); (try have hy208_1 := fun (n_ : Nat) => (show (((((w16.drewN n_).setCell ⟨gb207, 0, none⟩ (.bool t203)).setCell ⟨gb207, 1, none⟩ (.int .i64 t204)).setCell ⟨gb207, 2, none⟩ (.int .i64 t205))).cell? _ = some _ from hx208_1)); (try have hy208_2 := fun (n_ : Nat) => (show (((((w16.drewN n_).setCell ⟨gb207, 0, none⟩ (.bool t203)).setCell ⟨gb207, 1, none⟩ (.int .i64 t204)).setCell ⟨gb207, 2, none⟩ (.int .i64 t205))).cell? _ = some _ from hx208_2)); clear hn208_0; clear hn208_1; clear hn208_2; replace p208 := eq_true p208; replace q208 := eq_true q208; have p209 : 0 ≤ (x3_1 : Int) := of_decide_eq_true (by assumption); have q209 : x3_1 < (l0.length : Int) := of_decide_eq_true (by assumption); obtain ⟨ad209, e209, hx209_0, hx209_1, hx209_2⟩ := at_T46 HR0.out x3_1 p209 q209; (try rw [← Nbq6.out] at hx209_0); obtain rfl : ad202 = ad209 := (by injection e209); have hn209_0 : ad202.block ≠ gb207 := Nat.ne_of_lt (Nat.lt_of_lt_of_le (by have := World.block_lt_of_cell? _ _ hx209_0; first | rwa [add_block] at this | exact this) GW207.out); have hn209_1 : ad202.block ≠ gb207 := Nat.ne_of_lt (Nat.lt_of_lt_of_le (by have := World.block_lt_of_cell? _ _ hx209_0; first | rwa [add_block] at this | exact this) GW207.out); have hn209_2 : ad202.block ≠ gb207 := Nat.ne_of_lt (Nat.lt_of_lt_of_le (by have := World.block_lt_of_cell? _ _ hx209_0; first | rwa [add_block] at this | exact this) GW207.out); replace hx209_0 := (HB.out.cell (World.block_lt_of_cell? w _ hx209_0)).trans hx209_0; replace hx209_1 := (HB.out.cell (World.block_lt_of_cell? w _ hx209_1)).trans hx209_1; replace hx209_2 := (HB.out.cell (World.block_lt_of_cell? w _ hx209_2)).trans hx209_2; replace hx209_0 := (cell_far (p := ⟨gb207, 0, none⟩) (by first | (rw [add_block]; exact hn209_0) | (show (Addr.add _ _).block ≠ _; rw [add_block]; exact hn209_0) | exact hn209_0) (.bool t203)).trans hx209_0; replace hx209_1 := (cell_far (p := ⟨gb207, 0, none⟩) (by first | (rw [add_block]; exact hn209_0) | (show (Addr.add _ _).block ≠ _; rw [add_block]; exact hn209_0) | exact hn209_0) (.bool t203)).trans hx209_1; replace hx209_2 := (cell_far (p := ⟨gb207, 0, none⟩) (by first | (rw [add_block]; exact hn209_0) | (show (Addr.add _ _).block ≠ _; rw [add_block]; exact hn209_0) | exact hn209_0) (.bool t203)).trans hx209_2; replace hx209_0 := (cell_far (p := ⟨gb207, 1, none⟩) (by first | (rw [add_block]; exact hn209_1) | (show (Addr.add _ _).block ≠ _; rw [add_block]; exact hn209_1) | exact hn209_1) (.int .i64 t204)).trans hx209_0; replace hx209_1 := (cell_far (p := ⟨gb207, 1, none⟩) (by first | (rw [add_block]; exact hn209_1) | (show (Addr.add _ _).block ≠ _; rw [add_block]; exact hn209_1) | exact hn209_1) (.int .i64 t204)).trans hx209_1; replace hx209_2 := (cell_far (p := ⟨gb207, 1, none⟩) (by first | (rw [add_block]; exact hn209_1) | (show (Addr.add _ _).block ≠ _; rw [add_block]; exact hn209_1) | exact hn209_1) (.int .i64 t204)).trans hx209_2; replace hx209_0 := (cell_far (p := ⟨gb207, 2, none⟩) (by first | (rw [add_block]; exact hn209_2) | (show (Addr.add _ _).block ≠ _; rw [add_block]; exact hn209_2) | exact hn209_2) (.int .i64 t205)).trans hx209_0; replace hx209_1 := (cell_far (p := ⟨gb207, 2, none⟩) (by first | (rw [add_block]; exact hn209_2) | (show (Addr.add _ _).block ≠ _; rw [add_block]; exact hn209_2) | exact hn209_2) (.int .i64 t205)).trans hx209_1; replace hx209_2 := (cell_far (p := ⟨gb207, 2, none⟩) (by first | (rw [add_block]; exact hn209_2) | (show (Addr.add _ _).block ≠ _; rw [add_block]; exact hn209_2) | exact hn209_2) (.int .i64 t205)).trans hx209_2; (try have hy209_0 := fun (n_ : Nat) => (show (((((w16.drewN n_).setCell ⟨gb207, 0, none⟩ (.bool t203)).setCell ⟨gb207, 1, none⟩ (.int .i64 t204)).setCell ⟨gb207, 2, none⟩ (.int .i64 t205))).cell? _ = some _ from hx209_0)); (try have hy209_1 := fun (n_ : Nat) => (show (((((w16.drewN n_).setCell ⟨gb207, 0, none⟩ (.bool t203)).setCell ⟨gb207, 1, none⟩ (.int .i64 t204)).setCell ⟨gb207, 2, none⟩ (.int .i64 t205))).cell? _ = some _ from hx209_1)); (try have hy209_2 := fun (n_ : Nat) => (show (((((w16.drewN n_).setCell ⟨gb207, 0, none⟩ (.bool t203)).setCell ⟨gb207, 1, none⟩ (.int .i64 t204)).setCell ⟨gb207, 2, none⟩ (.int .i64 t205))).cell? _ = some _ from hx209_2)); clear hn209_0; clear hn209_1; clear hn209_2; replace p209 := eq_true p209; replace q209 := eq_true q209)))
        go_ret
        exact ⟨by first | rfl | (simp <;> rfl) | (simp [*] <;> rfl), by repeat (first | (with_reducible first | exact HB.out | apply below_alloc | apply pw_below_drewN | apply below_drew1 | refine below_set ?_ GE207.out))⟩
     ·replace c5 := Bool.eq_false_iff.mpr c5
      subst c5
      have H1 : (ref05_Steady.l0 k1 l0 (wrap64 (x3_1 + 1))) = some r := by rw [if_neg (show ¬ (false = true) by decide)] at H; exact H
      clear H
      have H := H1
      clear H1
      have H' := Aside0.mk H
      clear H
      have p202 : 0 ≤ (x3_1 : Int) := of_decide_eq_true (by assumption)
      have q202 : x3_1 < (l0.length : Int) := of_decide_eq_true (by assumption)
      obtain ⟨ad202, e202, hx202_0, hx202_1, hx202_2⟩ := at_T46 HR0.out x3_1 p202 q202
      cases e202
      replace hx202_0 := (HB.out.cell (World.block_lt_of_cell? w _ hx202_0)).trans hx202_0
      replace hx202_1 := (HB.out.cell (World.block_lt_of_cell? w _ hx202_1)).trans hx202_1
      replace hx202_2 := (HB.out.cell (World.block_lt_of_cell? w _ hx202_2)).trans hx202_2
      replace p202 := eq_true p202
      replace q202 := eq_true q202
      go_wp2_with (first | (go_at_call 101; (with_reducible refine (ref05_before.calls k1 _ _ l0 x3_1 ((rd_T46 l0 x3_1).f1) t203 t204 t205 false _ ?side1 ?side2 A4.out).mono ?_); (case side1 => repeat (first | exact (Kd.C_below HR0.out HB.out) | (with_reducible refine Kd.C_alloc ?_ _) | (with_reducible refine Kd.C_drewN ?_ _) | (with_reducible refine Kd.C_drew ?_))); (case side2 => exact HC0.out); rintro e w18 ⟨rfl, hb⟩; have n0_ := Aside0.mk (below_step (by repeat (first | (with_reducible first | exact HB.out | apply below_alloc | apply pw_below_drewN | apply below_drew1))) hb); clear HB; have HB := n0_; clear n0_; (try clear hb); (try clear hb2); (try clear hk); (try clear hi)) | ((with_reducible refine gate_dst (N := 4) rfl ?_); refine box_event ?hg (N := 4) ?hd (cs := #[.bool false, .int .i64 0, .int .i64 0]) (t := 46) ?hr ?_; (case hd => rfl); (case hg => rfl); (case hr => first | (go_simp; done) | (go_simp; rfl)); intro gb207 hg w19 hbox hb; have n0_ := Aside0.mk (below_step (by repeat (first | (with_reducible first | exact HB.out | apply below_alloc | apply pw_below_drewN | apply below_drew1))) hb); have n1_ := Aside0.mk (hbox); have n2_ := Aside0.mk ((by rw [hg]; exact (below_size (by repeat (first | (with_reducible first | exact HB.out | apply below_alloc | apply pw_below_drewN | apply below_drew1)))) : w.heap.size ≤ gb207)); have n3_ := Aside0.mk ((by rw [hg]; exact (below_size (by repeat (first | (with_reducible first | exact HB.out | apply below_alloc | apply pw_below_drewN | apply below_drew1)))) : w.heap.size ≤ gb207)); clear HB; have HB := n0_; have BK207 := n1_; have GW207 := n2_; have GE207 := n3_; clear n0_ n1_ n2_ n3_; clear hb hbox hg; have hcz20_0 : w19.cell? ⟨gb207, 0, none⟩ = some (.bool false) := (blk_cell BK207.out 0).trans rfl; have hcz20_1 : w19.cell? ⟨gb207, 1, none⟩ = some (.int .i64 0) := (blk_cell BK207.out 1).trans rfl; have hcz20_2 : w19.cell? ⟨gb207, 2, none⟩ = some (.int .i64 0) := (blk_cell BK207.out 2).trans rfl; have hfz20_0 := blk_frozen BK207.out 0; have hfz20_1 := blk_frozen BK207.out 1; have hfz20_2 := blk_frozen BK207.out 2))
      repeat (go_quiet (first | (go_at_call 101; (with_reducible refine (ref05_before.calls k1 _ _ l0 x3_1 ((rd_T46 l0 x3_1).f1) t203 t204 t205 false _ ?side1 ?side2 A4.out).mono ?_); (case side1 => repeat (first | exact (Kd.C_below HR0.out HB.out) | (with_reducible refine Kd.C_alloc ?_ _) | (with_reducible refine Kd.C_drewN ?_ _) | (with_reducible refine Kd.C_drew ?_))); (case side2 => exact HC0.out); rintro e w18 ⟨rfl, hb⟩; have n0_ := Aside0.mk (below_step (by repeat (first | (with_reducible first | exact HB.out | apply below_alloc | apply pw_below_drewN | apply below_drew1))) hb); clear HB; have HB := n0_; clear n0_; (try clear hb); (try clear hb2); (try clear hk); (try clear hi)) | ((with_reducible refine gate_dst (N := 4) rfl ?_); refine box_event ?hg (N := 4) ?hd (cs := #[.bool false, .int .i64 0, .int .i64 0]) (t := 46) ?hr ?_; (case hd => rfl); (case hg => rfl); (case hr => first | (go_simp; done) | (go_simp; rfl)); intro gb207 hg w19 hbox hb; have n0_ := Aside0.mk (below_step (by repeat (first | (with_reducible first | exact HB.out | apply below_alloc | apply pw_below_drewN | apply below_drew1))) hb); have n1_ := Aside0.mk (hbox); have n2_ := Aside0.mk ((by rw [hg]; exact (below_size (by repeat (first | (with_reducible first | exact HB.out | apply below_alloc | apply pw_below_drewN | apply below_drew1)))) : w.heap.size ≤ gb207)); have n3_ := Aside0.mk ((by rw [hg]; exact (below_size (by repeat (first | (with_reducible first | exact HB.out | apply below_alloc | apply pw_below_drewN | apply below_drew1)))) : w.heap.size ≤ gb207)); clear HB; have HB := n0_; have BK207 := n1_; have GW207 := n2_; have GE207 := n3_; clear n0_ n1_ n2_ n3_; clear hb hbox hg; have hcz20_0 : w19.cell? ⟨gb207, 0, none⟩ = some (.bool false) := (blk_cell BK207.out 0).trans rfl; have hcz20_1 : w19.cell? ⟨gb207, 1, none⟩ = some (.int .i64 0) := (blk_cell BK207.out 1).trans rfl; have hcz20_2 : w19.cell? ⟨gb207, 2, none⟩ = some (.int .i64 0) := (blk_cell BK207.out 2).trans rfl; have hfz20_0 := blk_frozen BK207.out 0; have hfz20_1 := blk_frozen BK207.out 1; have hfz20_2 := blk_frozen BK207.out 2)); try go_wp2_with (first | (go_at_call 101; (with_reducible refine (ref05_before.calls k1 _ _ l0 x3_1 ((rd_T46 l0 x3_1).f1) t203 t204 t205 false _ ?side1 ?side2 A4.out).mono ?_); (case side1 => repeat (first | exact (Kd.C_below HR0.out HB.out) | (with_reducible refine Kd.C_alloc ?_ _) | (with_reducible refine Kd.C_drewN ?_ _) | (with_reducible refine Kd.C_drew ?_))); (case side2 => exact HC0.out); rintro e w18 ⟨rfl, hb⟩; have n0_ := Aside0.mk (below_step (by repeat (first | (with_reducible first | exact HB.out | apply below_alloc | apply pw_below_drewN | apply below_drew1))) hb); clear HB; have HB := n0_; clear n0_; (try clear hb); (try clear hb2); (try clear hk); (try clear hi)) | ((with_reducible refine gate_dst (N := 4) rfl ?_); refine box_event ?hg (N := 4) ?hd (cs := #[.bool false, .int .i64 0, .int .i64 0]) (t := 46) ?hr ?_; (case hd => rfl); (case hg => rfl); (case hr => first | (go_simp; done) | (go_simp; rfl)); intro gb207 hg w19 hbox hb; have n0_ := Aside0.mk (below_step (by repeat (first | (with_reducible first | exact HB.out | apply below_alloc | apply pw_below_drewN | apply below_drew1))) hb); have n1_ := Aside0.mk (hbox); have n2_ := Aside0.mk ((by rw [hg]; exact (below_size (by repeat (first | (with_reducible first | exact HB.out | apply below_alloc | apply pw_below_drewN | apply below_drew1)))) : w.heap.size ≤ gb207)); have n3_ := Aside0.mk ((by rw [hg]; exact (below_size (by repeat (first | (with_reducible first | exact HB.out | apply below_alloc | apply pw_below_drewN | apply below_drew1)))) : w.heap.size ≤ gb207)); clear HB; have HB := n0_; have BK207 := n1_; have GW207 := n2_; have GE207 := n3_; clear n0_ n1_ n2_ n3_; clear hb hbox hg; have hcz20_0 : w19.cell? ⟨gb207, 0, none⟩ = some (.bool false) := (blk_cell BK207.out 0).trans rfl; have hcz20_1 : w19.cell? ⟨gb207, 1, none⟩ = some (.int .i64 0) := (blk_cell BK207.out 1).trans rfl; have hcz20_2 : w19.cell? ⟨gb207, 2, none⟩ = some (.int .i64 0) := (blk_cell BK207.out 2).trans rfl; have hfz20_0 := blk_frozen BK207.out 0; have hfz20_1 := blk_frozen BK207.out 1; have hfz20_2 := blk_frozen BK207.out 2)))
      go_roundg k1
      case measure => have := HK1.out; omega
      case rel => exact ⟨(wrap64 (x3_1 + 1)), (by first | rfl | (simp; done) | (simp [*]; done)), H', ⟨by have := HK1.out; omega⟩, ⟨by repeat (first | (with_reducible first | exact HB.out | apply below_alloc | apply pw_below_drewN | apply below_drew1 | refine below_set ?_ GE207.out))⟩⟩
    ·rw [if_neg c3] at H
     exact absurd H (by simp)
   ·rw [if_neg c2] at H
    have c2b0 : decide (x3_1 < (l0.length : Int)) = false := decide_eq_false c2
    clear c2
    obtain rfl := Option.some.inj H
    go_wp2
    repeat (go_quiet (fail); try go_wp2)
    go_ret
    exact ⟨by first | rfl | (simp <;> rfl) | (simp [*] <;> rfl), by repeat (first | (with_reducible first | exact HB.out | apply below_alloc | apply pw_below_drewN | apply below_drew1))⟩
mutual
def ref05_Reads.l0 : Nat → List (S46) → List (S46) → Int → Option ((List (S46)))
 | 0, _, _, _ => none
 | k + 1, x0, x3, x4 => if x4 < 64 then (ref05_Reads.l1 k x0 x3 x4 0) else (some x3)
def ref05_Reads.l1 : Nat → List (S46) → List (S46) → Int → Int → Option ((List (S46)))
 | 0, _, _, _, _ => none
 | k + 1, x0, x3, x4, x5 => if x5 < (x0.length : Int) then ((ref05_before.f k x0 x5 x4).bind fun bt213 => (if 0 ≤ x5 then (if ((rd_T46 x0 x5).f1) = x4 then (if ((rd_T46 x0 x5).f0 = true) then (ref05_Reads.l1 k x0 x3 x4 (wrap64 (x5 + 1))) else (if bt213.2.2.2 = true then (ref05_Reads.l1 k x0 x3 x4 (wrap64 (x5 + 1))) else (if x3.length < 5864062014805 then (ref05_Reads.l1 k x0 (x3 ++ [(⟨(rd_T46 x0 x5).f0, (rd_T46 x0 x5).f1, (rd_T46 x0 x5).f2⟩ : S46)]) x4 (wrap64 (x5 + 1))) else (none)))) else (ref05_Reads.l1 k x0 x3 x4 (wrap64 (x5 + 1)))) else (none))) else (ref05_Reads.l0 k x0 x3 (wrap64 (x4 + 1)))
end
def ref05_Reads.f (k : Nat) (l0 : List (S46)) : Option ((List (S46))) := ref05_Reads.l0 k l0 (([] : List (S46))) 0
theorem ref05_Reads.mono_l : ∀ k, (∀ y0 y1 y2, LeO (ref05_Reads.l0 k y0 y1 y2) (ref05_Reads.l0 (k + 1) y0 y1 y2)) ∧ (∀ y0 y1 y2 y3, LeO (ref05_Reads.l1 k y0 y1 y2 y3) (ref05_Reads.l1 (k + 1) y0 y1 y2 y3))
 | 0 => ⟨fun _ _ _ r h => by simp [ref05_Reads.l0] at h, fun _ _ _ _ r h => by simp [ref05_Reads.l1] at h⟩
 | k + 1 => by
  obtain ⟨ih0, ih1⟩ := ref05_Reads.mono_l k
  refine ⟨?_, ?_⟩
  ·intro y0 y1 y2
   unfold ref05_Reads.l0
   repeat' first
   | (with_reducible exact ih0 _ _ _)
   | (with_reducible exact ih1 _ _ _ _)
   | (with_reducible exact ref05_before.mono _ _ _ _)
   | (with_reducible exact LeO.refl _)
   | (with_reducible exact LeO.none _)
   | (with_reducible refine LeO.ite ?_ ?_)
   | (with_reducible refine LeO.bind ?_ (fun _ => ?_))
   | exact ih0 _ _ _
   | exact ih1 _ _ _ _
   | exact ref05_before.mono _ _ _ _
   | exact LeO.none _
   | refine LeO.ite ?_ ?_
   | refine LeO.bind ?_ (fun _ => ?_)
  ·intro y0 y1 y2 y3
   unfold ref05_Reads.l1
   repeat' first
   | (with_reducible exact ih0 _ _ _)
   | (with_reducible exact ih1 _ _ _ _)
   | (with_reducible exact ref05_before.mono _ _ _ _)
   | (with_reducible exact LeO.refl _)
   | (with_reducible exact LeO.none _)
   | (with_reducible refine LeO.ite ?_ ?_)
   | (with_reducible refine LeO.bind ?_ (fun _ => ?_))
   | exact ih0 _ _ _
   | exact ih1 _ _ _ _
   | exact ref05_before.mono _ _ _ _
   | exact LeO.none _
   | refine LeO.ite ?_ ?_
   | refine LeO.bind ?_ (fun _ => ?_)
theorem ref05_Reads.mono : ∀ a0 k, LeO (ref05_Reads.f k a0) (ref05_Reads.f (k + 1) a0) := by
 intro a0 k
 obtain ⟨ih0, ih1⟩ := ref05_Reads.mono_l k
 unfold ref05_Reads.f
 repeat' first
   | (with_reducible exact ih0 _ _ _)
   | (with_reducible exact ih1 _ _ _ _)
   | (with_reducible exact ref05_before.mono _ _ _ _)
   | (with_reducible exact LeO.refl _)
   | (with_reducible exact LeO.none _)
   | (with_reducible refine LeO.ite ?_ ?_)
   | (with_reducible refine LeO.bind ?_ (fun _ => ?_))
   | exact ih0 _ _ _
   | exact ih1 _ _ _ _
   | exact ref05_before.mono _ _ _ _
   | exact LeO.none _
   | refine LeO.ite ?_ ?_
   | refine LeO.bind ?_ (fun _ => ?_)
set_option maxHeartbeats 8000000 in
set_option maxRecDepth 100000 in
theorem ref05_Reads.calls (k : Nat) (A0 : Option Addr) (c0 : Nat) (l0 : List (S46)) (r : List (S46)) (w : World) (hr0 : Kd.C k46 w A0 l0.length l0) (hc0 : l0.length ≤ c0) (h : ref05_Reads.f k l0 = some r) :
  Calls Try.prog 77 #[.slice A0 l0.length c0] w fun e w' => ∃ v0_ : Value, e = .returned (v0_) ∧ Kd.R k46 46 w' w.heap.size (fun _ => True) v0_ r ∧ Below w.heap.size w w' := by
 have hu46 := Try.underlying46
 have HR0 := Aside0.mk hr0
 have HC0 := Aside0.mk hc0
 clear hr0 hc0
 have HB := Aside0.mk (Below.refl w.heap.size w)
 have H : (ref05_Reads.l0 k l0 (([] : List (S46))) 0) = some r := h
 clear h
 obtain ⟨y210, hy210⟩ : ∃ y_ : List (S46), y_ = (([] : List (S46))) := ⟨_, rfl⟩
 replace H : (ref05_Reads.l0 k l0 y210 0) = some r := by first | (rw [hy210]; with_reducible exact H) | (have H2_ := (Option.bind_some _ _).symm.trans H; rw [hy210]; with_reducible exact H2_) | (have H2_ := (Option.bind_some _ _).symm.trans H; with_reducible exact H2_) | with_reducible exact H | (rw [hy210]; exact H) | exact H
 have Ny210 := Aside0.mk hy210
 clear hy210
 have H' := Aside0.mk H
 clear H
 go_enter Try.func77, Try.ntmps77
 go_wp2_with (first | ((with_reducible refine gate_dst (N := 8) rfl ?_); refine Kd.R_lit k46 _ 46 ?hg (N := 8) ?hd (xs := ([] : List (S46))) (inner := []) (ok := fun _ => True) (okp := fun _ => True) ?hr ?hp (fun _ hk => hk) trivial (Below.refl _ _) (Nat.le_refl _) (by simp) ?_; (case hd => rfl); (case hg => rfl); (case hr => first | (go_simp; done) | (go_simp; rfl)); (case hp => exact (Reps.none _ _)); intro v211 w2 ho3 hb hg_ hnew_; clear hg_ hnew_; (first | rw [← Ny210.out] at ho3 | (simp only [Int.reduceToNat] at ho3; rw [← Ny210.out] at ho3)); have n0_ := Aside0.mk (Kd.R_lower ho3 (below_size (by repeat (first | (with_reducible first | exact HB.out | apply below_alloc | apply pw_below_drewN | apply below_drew1))))); have n1_ := Aside0.mk (below_step (by repeat (first | (with_reducible first | exact HB.out | apply below_alloc | apply pw_below_drewN | apply below_drew1))) hb); clear HB; have HO212 := n0_; have HB := n1_; clear n0_ n1_; clear hb ho3))
 go_loopg [3, 4] k (fun kq v3 v4 w' => ∃ (x3_1 : List (S46)) (x4_1 : Int), v4 = .int .i64 x4_1 ∧ Aside0 (ref05_Reads.l0 kq l0 x3_1 x4_1 = some r) ∧ Aside0 (kq ≤ k) ∧ Aside0 (Kd.R k46 46 w' w.heap.size (fun _ => True) v3 x3_1) ∧ Aside0 (Below w.heap.size w w'))
 case atStart => exact ⟨(y210), (0), (by first | rfl | (simp; done) | (simp [*]; done)), H', ⟨Nat.le_refl _⟩, ⟨by (with_reducible repeat (first | apply Kd.R_alloc | apply Kd.R_drewN | apply Kd.R_drew)); exact HO212.out⟩, ⟨by repeat (first | (with_reducible first | exact HB.out | apply below_alloc | apply pw_below_drewN | apply below_drew1))⟩⟩
 case round =>
  clear H'
  try clear p2
  obtain ⟨x3_1, x4_1, rfl, HA, HK1, HO_3, HB⟩ := hrel
  cases gk with
  | zero => exact absurd HA.out (by simp [ref05_Reads.l0])
  | succ k1 =>
   have H := HA.out
   clear HA
   simp only [ref05_Reads.l0] at H
   by_cases c4 : x4_1 < 64
   ·rw [if_pos c4] at H
    have c4b0 : decide (x4_1 < 64) = true := decide_eq_true c4
    clear c4
    have H' := Aside0.mk H
    clear H
    go_wp2
    go_loopg [3, 5] k1 (fun kq v3 v5 w' => ∃ (x3_2 : List (S46)) (x5_2 : Int), v5 = .int .i64 x5_2 ∧ Aside0 (ref05_Reads.l1 kq l0 x3_2 x4_1 x5_2 = some r) ∧ Aside0 (kq ≤ k1) ∧ Aside0 (Kd.R k46 46 w' w.heap.size (fun _ => True) v3 x3_2) ∧ Aside0 (Below w.heap.size w w'))
    case atStart => exact ⟨(x3_1), (0), (by first | rfl | (simp; done) | (simp [*]; done)), H', ⟨Nat.le_refl _⟩, ⟨by (with_reducible repeat (first | apply Kd.R_alloc | apply Kd.R_drewN | apply Kd.R_drew)); exact HO_3.out⟩, ⟨by repeat (first | (with_reducible first | exact HB.out | apply below_alloc | apply pw_below_drewN | apply below_drew1))⟩⟩
    case round =>
     clear H'
     try clear p2
     try clear c4
     try clear c4b0
     try clear p2
     obtain ⟨x3_2, x5_2, rfl, HA, HK2, HO_3, HB⟩ := hrel
     cases gk with
     | zero => exact absurd HA.out (by simp [ref05_Reads.l1])
     | succ k2 =>
      have H := HA.out
      clear HA
      simp only [ref05_Reads.l1] at H
      by_cases c5 : x5_2 < (l0.length : Int)
      ·rw [if_pos c5] at H
       have c5b0 : decide (x5_2 < (l0.length : Int)) = true := decide_eq_true c5
       clear c5
       replace H := Option.bind_eq_some_iff.mp H
       obtain ⟨⟨t213, t214, t215, t216⟩, A60, H⟩ := H
       replace H : (if 0 ≤ x5_2 then (if ((rd_T46 l0 x5_2).f1) = x4_1 then (if ((rd_T46 l0 x5_2).f0 = true) then (ref05_Reads.l1 k2 l0 x3_2 x4_1 (wrap64 (x5_2 + 1))) else (if t216 = true then (ref05_Reads.l1 k2 l0 x3_2 x4_1 (wrap64 (x5_2 + 1))) else (if x3_2.length < 5864062014805 then (ref05_Reads.l1 k2 l0 (x3_2 ++ [(⟨(rd_T46 l0 x5_2).f0, (rd_T46 l0 x5_2).f1, (rd_T46 l0 x5_2).f2⟩ : S46)]) x4_1 (wrap64 (x5_2 + 1))) else (none)))) else (ref05_Reads.l1 k2 l0 x3_2 x4_1 (wrap64 (x5_2 + 1)))) else (none)) = some r := H
       have A6 := Aside0.mk A60
       clear A60
       by_cases c7 : 0 ≤ x5_2
       ·rw [if_pos c7] at H
        have c7b0 : decide (0 ≤ x5_2) = true := decide_eq_true c7
        clear c7
        by_cases c8 : ((rd_T46 l0 x5_2).f1) = x4_1
        ·rw [if_pos c8] at H
         have c8b0 : (((rd_T46 l0 x5_2).f1) == x4_1) = true := beq_iff_eq.mpr c8
         have c8b1 : (((rd_T46 l0 x5_2).f1) != x4_1) = false := bne_eq_false_iff_eq.mpr c8
         clear c8
         obtain ⟨bq9, hbq9⟩ : ∃ b_ : Bool, b_ = ((rd_T46 l0 x5_2).f0) := ⟨_, rfl⟩
         replace H : (if (bq9 = true) then (ref05_Reads.l1 k2 l0 x3_2 x4_1 (wrap64 (x5_2 + 1))) else (if t216 = true then (ref05_Reads.l1 k2 l0 x3_2 x4_1 (wrap64 (x5_2 + 1))) else (if x3_2.length < 5864062014805 then (ref05_Reads.l1 k2 l0 (x3_2 ++ [(⟨bq9, (rd_T46 l0 x5_2).f1, (rd_T46 l0 x5_2).f2⟩ : S46)]) x4_1 (wrap64 (x5_2 + 1))) else (none)))) = some r := by rw [← hbq9] at H; exact H
         have Nbq9 := Aside0.mk hbq9
         clear hbq9
         by_cases c10 : (bq9 = true)
         ·subst c10
          have H1 : (ref05_Reads.l1 k2 l0 x3_2 x4_1 (wrap64 (x5_2 + 1))) = some r := by rw [if_pos rfl] at H; exact H
          clear H
          have H := H1
          clear H1
          have H' := Aside0.mk H
          clear H
          go_wp2_with (first | ((with_reducible refine gate_callee (f := 101) rfl ?_); refine goesL_ (some 23) rfl rfl Try.func101 (by kernel_rfl) rfl #[.slice A0 l0.length c0, .int .i64 x5_2, .int .i64 x4_1] rfl (by (try simp only [List.map_toArray, List.map_cons, List.map_nil]); first | done | rfl | (simp only [List.length_drop, List.length_take]; rfl)) ?_; (with_reducible refine (ref05_before.calls k2 _ _ l0 x5_2 x4_1 t213 t214 t215 t216 _ ?side1 ?side2 A6.out).mono ?_); (case side1 => repeat (first | exact (Kd.C_below HR0.out HB.out) | (with_reducible refine Kd.C_alloc ?_ _) | (with_reducible refine Kd.C_drewN ?_ _) | (with_reducible refine Kd.C_drew ?_))); (case side2 => exact HC0.out); rintro e w11 ⟨rfl, hb⟩; refine ⟨_, rfl, ?_⟩; have n0_ := Aside0.mk (Kd.R_below (by (with_reducible repeat (first | apply Kd.R_alloc | apply Kd.R_drewN | apply Kd.R_drew)); exact HO_3.out) hb); have n1_ := Aside0.mk (below_step (by repeat (first | (with_reducible first | exact HB.out | apply below_alloc | apply pw_below_drewN | apply below_drew1))) hb); clear HO_3; clear HB; have HO_3 := n0_; have HB := n1_; clear n0_ n1_; (try clear hb); (try clear hb2); (try clear hk); (try clear hi)) | ((with_reducible refine gate_dst (N := 6) rfl ?_); refine box_event ?hg (N := 6) ?hd (cs := #[.bool false, .int .i64 0, .int .i64 0]) (t := 46) ?hr ?_; (case hd => rfl); (case hg => rfl); (case hr => first | (go_simp; done) | (go_simp; rfl)); intro gb217 hg w12 hbox hb; have n0_ := Aside0.mk (Kd.R_below (Kd.R_elderB (by (with_reducible repeat (first | apply Kd.R_alloc | apply Kd.R_drewN | apply Kd.R_drew)); exact HO_3.out) gb217 (Nat.le_of_eq hg.symm)) hb); have n1_ := Aside0.mk (below_step (by repeat (first | (with_reducible first | exact HB.out | apply below_alloc | apply pw_below_drewN | apply below_drew1))) hb); have n2_ := Aside0.mk (hbox); have n3_ := Aside0.mk ((by rw [hg]; exact (below_size (by repeat (first | (with_reducible first | exact HB.out | apply below_alloc | apply pw_below_drewN | apply below_drew1)))) : w.heap.size ≤ gb217)); have n4_ := Aside0.mk ((by rw [hg]; exact (below_size (by repeat (first | (with_reducible first | exact HB.out | apply below_alloc | apply pw_below_drewN | apply below_drew1)))) : w.heap.size ≤ gb217)); clear HO_3; clear HB; have HO_3 := n0_; have HB := n1_; have BK217 := n2_; have GW217 := n3_; have GE217 := n4_; clear n0_ n1_ n2_ n3_ n4_; clear hb hbox hg; have hcz13_0 : w12.cell? ⟨gb217, 0, none⟩ = some (.bool false) := (blk_cell BK217.out 0).trans rfl; have hcz13_1 : w12.cell? ⟨gb217, 1, none⟩ = some (.int .i64 0) := (blk_cell BK217.out 1).trans rfl; have hcz13_2 : w12.cell? ⟨gb217, 2, none⟩ = some (.int .i64 0) := (blk_cell BK217.out 2).trans rfl; have hfz13_0 := blk_frozen BK217.out 0; have hfz13_1 := blk_frozen BK217.out 1; have hfz13_2 := blk_frozen BK217.out 2; have p218 : 0 ≤ (x5_2 : Int) := of_decide_eq_true (by assumption); have q218 : x5_2 < (l0.length : Int) := of_decide_eq_true (by assumption); obtain ⟨ad218, e218, hx218_0, hx218_1, hx218_2⟩ := at_T46 HR0.out x5_2 p218 q218; (try rw [← Nbq9.out] at hx218_0); cases e218; have hn218_0 : ad218.block ≠ gb217 := Nat.ne_of_lt (Nat.lt_of_lt_of_le (by have := World.block_lt_of_cell? _ _ hx218_0; first | rwa [add_block] at this | exact this) GW217.out); have hn218_1 : ad218.block ≠ gb217 := Nat.ne_of_lt (Nat.lt_of_lt_of_le (by have := World.block_lt_of_cell? _ _ hx218_0; first | rwa [add_block] at this | exact this) GW217.out); have hn218_2 : ad218.block ≠ gb217 := Nat.ne_of_lt (Nat.lt_of_lt_of_le (by have := World.block_lt_of_cell? _ _ hx218_0; first | rwa [add_block] at this | exact this) GW217.out); replace hx218_0 := (HB.out.cell (World.block_lt_of_cell? w _ hx218_0)).trans hx218_0; replace hx218_1 := (HB.out.cell (World.block_lt_of_cell? w _ hx218_1)).trans hx218_1; replace hx218_2 := (HB.out.cell (World.block_lt_of_cell? w _ hx218_2)).trans hx218_2; replace hx218_0 := (cell_far (p := ⟨gb217, 0, none⟩) (by first | (rw [add_block]; exact hn218_0) | (show (Addr.add _ _).block ≠ _; rw [add_block]; exact hn218_0) | exact hn218_0) (.bool t213)).trans hx218_0; replace hx218_1 := (cell_far (p := ⟨gb217, 0, none⟩) (by first | (rw [add_block]; exact hn218_0) | (show (Addr.add _ _).block ≠ _; rw [add_block]; exact hn218_0) | exact hn218_0) (.bool t213)).trans hx218_1; replace hx218_2 := (cell_far (p := ⟨gb217, 0, none⟩) (by first | (rw [add_block]; exact hn218_0) | (show (Addr.add _ _).block ≠ _; rw [add_block]; exact hn218_0) | exact hn218_0) (.bool t213)).trans hx218_2; replace hx218_0 := (cell_far (p := ⟨gb217, 1, none⟩) (by first | (rw [add_block]; exact hn218_1) | (show (Addr.add _ _).block ≠ _; rw [add_block]; exact hn218_1) | exact hn218_1) (.int .i64 t214)).trans hx218_0; replace hx218_1 := (cell_far (p := ⟨gb217, 1, none⟩) (by first | (rw [add_block]; exact hn218_1) | (show (Addr.add _ _).block ≠ _; rw [add_block]; exact hn218_1) | exact hn218_1) (.int .i64 t214)).trans hx218_1; replace hx218_2 := (cell_far (p := ⟨gb217, 1, none⟩) (by first | (rw [add_block]; exact hn218_1) | (show (Addr.add _ _).block ≠ _; rw [add_block]; exact hn218_1) | exact hn218_1) (.int .i64 t214)).trans hx218_2; replace hx218_0 := (cell_far (p := ⟨gb217, 2, none⟩) (by first | (rw [add_block]; exact hn218_2) | (show (Addr.add _ _).block ≠ _; rw [add_block]; exact hn218_2) | exact hn218_2) (.int .i64 t215)).trans hx218_0; replace hx218_1 := (cell_far (p := ⟨gb217, 2, none⟩) (by first | (rw [add_block]; exact hn218_2) | (show (Addr.add _ _).block ≠ _; rw [add_block]; exact hn218_2) | exact hn218_2) (.int .i64 t215)).trans hx218_1; replace hx218_2 := (cell_far (p := ⟨gb217, 2, none⟩) (by first | (rw [add_block]; exact hn218_2) | (show (Addr.add _ _).block ≠ _; rw [add_block]; exact hn218_2) | exact hn218_2) (.int .i64 t215)).trans hx218_2; clear hn218_0; clear hn218_1; clear hn218_2; replace p218 := eq_true p218; replace q218 := eq_true q218; have p219 : 0 ≤ (x5_2 : Int) := of_decide_eq_true (by assumption); have q219 : x5_2 < (l0.length : Int) := of_decide_eq_true (by assumption); obtain ⟨ad219, e219, hx219_0, hx219_1, hx219_2⟩ := at_T46 HR0.out x5_2 p219 q219; (try rw [← Nbq9.out] at hx219_0); obtain rfl : ad218 = ad219 := (by injection e219); have hn219_0 : ad218.block ≠ gb217 := Nat.ne_of_lt (Nat.lt_of_lt_of_le (by have := World.block_lt_of_cell? _ _ hx219_0; first | rwa [add_block] at this | exact this) GW217.out); have hn219_1 : ad218.block ≠ gb217 := Nat.ne_of_lt (Nat.lt_of_lt_of_le (by have := World.block_lt_of_cell? _ _ hx219_0; first | rwa [add_block] at this | exact this) GW217.out); have hn219_2 : ad218.block ≠ gb217 := Nat.ne_of_lt (Nat.lt_of_lt_of_le (by have := World.block_lt_of_cell? _ _ hx219_0; first | rwa [add_block] at this | exact this) GW217.out); replace hx219_0 := (HB.out.cell (World.block_lt_of_cell? w _ hx219_0)).trans hx219_0; replace hx219_1 := (HB.out.cell (World.block_lt_of_cell? w _ hx219_1)).trans hx219_1; replace hx219_2 := (HB.out.cell (World.block_lt_of_cell? w _ hx219_2)).trans hx219_2; replace hx219_0 := (cell_far (p := ⟨gb217, 0, none⟩) (by first | (rw [add_block]; exact hn219_0) | (show (Addr.add _ _).block ≠ _; rw [add_block]; exact hn219_0) | exact hn219_0) (.bool t213)).trans hx219_0; replace hx219_1 := (cell_far (p := ⟨gb217, 0, none⟩) (by first | (rw [add_block]; exact hn219_0) | (show (Addr.add _ _).block ≠ _; rw [add_block]; exact hn219_0) | exact hn219_0) (.bool t213)).trans hx219_1; replace hx219_2 := (cell_far (p := ⟨gb217, 0, none⟩) (by first | (rw [add_block]; exact hn219_0) | (show (Addr.add _ _).block ≠ _; rw [add_block]; exact hn219_0) | exact hn219_0) (.bool t213)).trans hx219_2; replace hx219_0 := (cell_far (p := ⟨gb217, 1, none⟩) (by first | (rw [add_block]; exact hn219_1) | (show (Addr.add _ _).block ≠ _; rw [add_block]; exact hn219_1) | exact hn219_1) (.int .i64 t214)).trans hx219_0; replace hx219_1 := (cell_far (p := ⟨gb217, 1, none⟩) (by first | (rw [add_block]; exact hn219_1) | (show (Addr.add _ _).block ≠ _; rw [add_block]; exact hn219_1) | exact hn219_1) (.int .i64 t214)).trans hx219_1; replace hx219_2 := (cell_far (p := ⟨gb217, 1, none⟩) (by first | (rw [add_block]; exact hn219_1) | (show (Addr.add _ _).block ≠ _; rw [add_block]; exact hn219_1) | exact hn219_1) (.int .i64 t214)).trans hx219_2; replace hx219_0 := (cell_far (p := ⟨gb217, 2, none⟩) (by first | (rw [add_block]; exact hn219_2) | (show (Addr.add _ _).block ≠ _; rw [add_block]; exact hn219_2) | exact hn219_2) (.int .i64 t215)).trans hx219_0; replace hx219_1 := (cell_far (p := ⟨gb217, 2, none⟩) (by first | (rw [add_block]; exact hn219_2) | (show (Addr.add _ _).block ≠ _; rw [add_block]; exact hn219_2) | exact hn219_2) (.int .i64 t215)).trans hx219_1; replace hx219_2 := (cell_far (p := ⟨gb217, 2, none⟩) (by first | (rw [add_block]; exact hn219_2) | (show (Addr.add _ _).block ≠ _; rw [add_block]; exact hn219_2) | exact hn219_2) (.int .i64 t215)).trans hx219_2; clear hn219_0; clear hn219_1; clear hn219_2; replace p219 := eq_true p219; replace q219 := eq_true q219))
          go_roundg k2
          case measure => have := HK1.out; have := HK2.out; omega
          case rel => (try rw [← Nbq9.out]); exact ⟨(x3_2), (wrap64 (x5_2 + 1)), (by first | rfl | (simp; done) | (simp [*]; done)), H', ⟨by have := HK1.out; have := HK2.out; omega⟩, ⟨by (with_reducible repeat (first | apply Kd.R_alloc | apply Kd.R_drewN | apply Kd.R_drew)); exact Kd.R_mono (Kd.R_far (p := ⟨gb217, 2, none⟩) (Kd.R_far (p := ⟨gb217, 1, none⟩) (Kd.R_far (p := ⟨gb217, 0, none⟩) (Kd.R_mono HO_3.out (fun k_ hk => (⟨hk, hk.2⟩ : _ ∧ k_ ≠ gb217))) (fun _ hk => hk.2) (.bool t213)) (fun _ hk => hk.2) (.int .i64 t214)) (fun _ hk => hk.2) (.int .i64 t215)) (fun _ hk => trivial)⟩, ⟨by repeat (first | (with_reducible first | exact HB.out | apply below_alloc | apply pw_below_drewN | apply below_drew1 | refine below_set ?_ GE217.out))⟩⟩
         ·replace c10 := Bool.eq_false_iff.mpr c10
          subst c10
          have H1 : (if t216 = true then (ref05_Reads.l1 k2 l0 x3_2 x4_1 (wrap64 (x5_2 + 1))) else (if x3_2.length < 5864062014805 then (ref05_Reads.l1 k2 l0 (x3_2 ++ [(⟨false, (rd_T46 l0 x5_2).f1, (rd_T46 l0 x5_2).f2⟩ : S46)]) x4_1 (wrap64 (x5_2 + 1))) else (none))) = some r := by rw [if_neg (show ¬ (false = true) by decide)] at H; exact H
          clear H
          have H := H1
          clear H1
          by_cases c14 : t216 = true
          ·subst c14
           have H1 : (ref05_Reads.l1 k2 l0 x3_2 x4_1 (wrap64 (x5_2 + 1))) = some r := by rw [if_pos rfl] at H; exact H
           clear H
           have H := H1
           clear H1
           have H' := Aside0.mk H
           clear H
           go_wp2_with (first | ((with_reducible refine gate_callee (f := 101) rfl ?_); refine goesL_ (some 23) rfl rfl Try.func101 (by kernel_rfl) rfl #[.slice A0 l0.length c0, .int .i64 x5_2, .int .i64 x4_1] rfl (by (try simp only [List.map_toArray, List.map_cons, List.map_nil]); first | done | rfl | (simp only [List.length_drop, List.length_take]; rfl)) ?_; (with_reducible refine (ref05_before.calls k2 _ _ l0 x5_2 x4_1 t213 t214 t215 true _ ?side1 ?side2 A6.out).mono ?_); (case side1 => repeat (first | exact (Kd.C_below HR0.out HB.out) | (with_reducible refine Kd.C_alloc ?_ _) | (with_reducible refine Kd.C_drewN ?_ _) | (with_reducible refine Kd.C_drew ?_))); (case side2 => exact HC0.out); rintro e w15 ⟨rfl, hb⟩; refine ⟨_, rfl, ?_⟩; have n0_ := Aside0.mk (Kd.R_below (by (with_reducible repeat (first | apply Kd.R_alloc | apply Kd.R_drewN | apply Kd.R_drew)); exact HO_3.out) hb); have n1_ := Aside0.mk (below_step (by repeat (first | (with_reducible first | exact HB.out | apply below_alloc | apply pw_below_drewN | apply below_drew1))) hb); clear HO_3; clear HB; have HO_3 := n0_; have HB := n1_; clear n0_ n1_; (try clear hb); (try clear hb2); (try clear hk); (try clear hi)) | ((with_reducible refine gate_dst (N := 6) rfl ?_); refine box_event ?hg (N := 6) ?hd (cs := #[.bool false, .int .i64 0, .int .i64 0]) (t := 46) ?hr ?_; (case hd => rfl); (case hg => rfl); (case hr => first | (go_simp; done) | (go_simp; rfl)); intro gb217 hg w16 hbox hb; have n0_ := Aside0.mk (Kd.R_below (Kd.R_elderB (by (with_reducible repeat (first | apply Kd.R_alloc | apply Kd.R_drewN | apply Kd.R_drew)); exact HO_3.out) gb217 (Nat.le_of_eq hg.symm)) hb); have n1_ := Aside0.mk (below_step (by repeat (first | (with_reducible first | exact HB.out | apply below_alloc | apply pw_below_drewN | apply below_drew1))) hb); have n2_ := Aside0.mk (hbox); have n3_ := Aside0.mk ((by rw [hg]; exact (below_size (by repeat (first | (with_reducible first | exact HB.out | apply below_alloc | apply pw_below_drewN | apply below_drew1)))) : w.heap.size ≤ gb217)); have n4_ := Aside0.mk ((by rw [hg]; exact (below_size (by repeat (first | (with_reducible first | exact HB.out | apply below_alloc | apply pw_below_drewN | apply below_drew1)))) : w.heap.size ≤ gb217)); clear HO_3; clear HB; have HO_3 := n0_; have HB := n1_; have BK217 := n2_; have GW217 := n3_; have GE217 := n4_; clear n0_ n1_ n2_ n3_ n4_; clear hb hbox hg; have hcz17_0 : w16.cell? ⟨gb217, 0, none⟩ = some (.bool false) := (blk_cell BK217.out 0).trans rfl; have hcz17_1 : w16.cell? ⟨gb217, 1, none⟩ = some (.int .i64 0) := (blk_cell BK217.out 1).trans rfl; have hcz17_2 : w16.cell? ⟨gb217, 2, none⟩ = some (.int .i64 0) := (blk_cell BK217.out 2).trans rfl; have hfz17_0 := blk_frozen BK217.out 0; have hfz17_1 := blk_frozen BK217.out 1; have hfz17_2 := blk_frozen BK217.out 2; have p218 : 0 ≤ (x5_2 : Int) := of_decide_eq_true (by assumption); have q218 : x5_2 < (l0.length : Int) := of_decide_eq_true (by assumption); obtain ⟨ad218, e218, hx218_0, hx218_1, hx218_2⟩ := at_T46 HR0.out x5_2 p218 q218; (try rw [← Nbq9.out] at hx218_0); cases e218; have hn218_0 : ad218.block ≠ gb217 := Nat.ne_of_lt (Nat.lt_of_lt_of_le (by have := World.block_lt_of_cell? _ _ hx218_0; first | rwa [add_block] at this | exact this) GW217.out); have hn218_1 : ad218.block ≠ gb217 := Nat.ne_of_lt (Nat.lt_of_lt_of_le (by have := World.block_lt_of_cell? _ _ hx218_0; first | rwa [add_block] at this | exact this) GW217.out); have hn218_2 : ad218.block ≠ gb217 := Nat.ne_of_lt (Nat.lt_of_lt_of_le (by have := World.block_lt_of_cell? _ _ hx218_0; first | rwa [add_block] at this | exact this) GW217.out); replace hx218_0 := (HB.out.cell (World.block_lt_of_cell? w _ hx218_0)).trans hx218_0; replace hx218_1 := (HB.out.cell (World.block_lt_of_cell? w _ hx218_1)).trans hx218_1; replace hx218_2 := (HB.out.cell (World.block_lt_of_cell? w _ hx218_2)).trans hx218_2; replace hx218_0 := (cell_far (p := ⟨gb217, 0, none⟩) (by first | (rw [add_block]; exact hn218_0) | (show (Addr.add _ _).block ≠ _; rw [add_block]; exact hn218_0) | exact hn218_0) (.bool t213)).trans hx218_0; replace hx218_1 := (cell_far (p := ⟨gb217, 0, none⟩) (by first | (rw [add_block]; exact hn218_0) | (show (Addr.add _ _).block ≠ _; rw [add_block]; exact hn218_0) | exact hn218_0) (.bool t213)).trans hx218_1; replace hx218_2 := (cell_far (p := ⟨gb217, 0, none⟩) (by first | (rw [add_block]; exact hn218_0) | (show (Addr.add _ _).block ≠ _; rw [add_block]; exact hn218_0) | exact hn218_0) (.bool t213)).trans hx218_2; replace hx218_0 := (cell_far (p := ⟨gb217, 1, none⟩) (by first | (rw [add_block]; exact hn218_1) | (show (Addr.add _ _).block ≠ _; rw [add_block]; exact hn218_1) | exact hn218_1) (.int .i64 t214)).trans hx218_0; replace hx218_1 := (cell_far (p := ⟨gb217, 1, none⟩) (by first | (rw [add_block]; exact hn218_1) | (show (Addr.add _ _).block ≠ _; rw [add_block]; exact hn218_1) | exact hn218_1) (.int .i64 t214)).trans hx218_1; replace hx218_2 := (cell_far (p := ⟨gb217, 1, none⟩) (by first | (rw [add_block]; exact hn218_1) | (show (Addr.add _ _).block ≠ _; rw [add_block]; exact hn218_1) | exact hn218_1) (.int .i64 t214)).trans hx218_2; replace hx218_0 := (cell_far (p := ⟨gb217, 2, none⟩) (by first | (rw [add_block]; exact hn218_2) | (show (Addr.add _ _).block ≠ _; rw [add_block]; exact hn218_2) | exact hn218_2) (.int .i64 t215)).trans hx218_0; replace hx218_1 := (cell_far (p := ⟨gb217, 2, none⟩) (by first | (rw [add_block]; exact hn218_2) | (show (Addr.add _ _).block ≠ _; rw [add_block]; exact hn218_2) | exact hn218_2) (.int .i64 t215)).trans hx218_1; replace hx218_2 := (cell_far (p := ⟨gb217, 2, none⟩) (by first | (rw [add_block]; exact hn218_2) | (show (Addr.add _ _).block ≠ _; rw [add_block]; exact hn218_2) | exact hn218_2) (.int .i64 t215)).trans hx218_2; clear hn218_0; clear hn218_1; clear hn218_2; replace p218 := eq_true p218; replace q218 := eq_true q218; have p219 : 0 ≤ (x5_2 : Int) := of_decide_eq_true (by assumption); have q219 : x5_2 < (l0.length : Int) := of_decide_eq_true (by assumption); obtain ⟨ad219, e219, hx219_0, hx219_1, hx219_2⟩ := at_T46 HR0.out x5_2 p219 q219; (try rw [← Nbq9.out] at hx219_0); obtain rfl : ad218 = ad219 := (by injection e219); have hn219_0 : ad218.block ≠ gb217 := Nat.ne_of_lt (Nat.lt_of_lt_of_le (by have := World.block_lt_of_cell? _ _ hx219_0; first | rwa [add_block] at this | exact this) GW217.out); have hn219_1 : ad218.block ≠ gb217 := Nat.ne_of_lt (Nat.lt_of_lt_of_le (by have := World.block_lt_of_cell? _ _ hx219_0; first | rwa [add_block] at this | exact this) GW217.out); have hn219_2 : ad218.block ≠ gb217 := Nat.ne_of_lt (Nat.lt_of_lt_of_le (by have := World.block_lt_of_cell? _ _ hx219_0; first | rwa [add_block] at this | exact this) GW217.out); replace hx219_0 := (HB.out.cell (World.block_lt_of_cell? w _ hx219_0)).trans hx219_0; replace hx219_1 := (HB.out.cell (World.block_lt_of_cell? w _ hx219_1)).trans hx219_1; replace hx219_2 := (HB.out.cell (World.block_lt_of_cell? w _ hx219_2)).trans hx219_2; replace hx219_0 := (cell_far (p := ⟨gb217, 0, none⟩) (by first | (rw [add_block]; exact hn219_0) | (show (Addr.add _ _).block ≠ _; rw [add_block]; exact hn219_0) | exact hn219_0) (.bool t213)).trans hx219_0; replace hx219_1 := (cell_far (p := ⟨gb217, 0, none⟩) (by first | (rw [add_block]; exact hn219_0) | (show (Addr.add _ _).block ≠ _; rw [add_block]; exact hn219_0) | exact hn219_0) (.bool t213)).trans hx219_1; replace hx219_2 := (cell_far (p := ⟨gb217, 0, none⟩) (by first | (rw [add_block]; exact hn219_0) | (show (Addr.add _ _).block ≠ _; rw [add_block]; exact hn219_0) | exact hn219_0) (.bool t213)).trans hx219_2; replace hx219_0 := (cell_far (p := ⟨gb217, 1, none⟩) (by first | (rw [add_block]; exact hn219_1) | (show (Addr.add _ _).block ≠ _; rw [add_block]; exact hn219_1) | exact hn219_1) (.int .i64 t214)).trans hx219_0; replace hx219_1 := (cell_far (p := ⟨gb217, 1, none⟩) (by first | (rw [add_block]; exact hn219_1) | (show (Addr.add _ _).block ≠ _; rw [add_block]; exact hn219_1) | exact hn219_1) (.int .i64 t214)).trans hx219_1; replace hx219_2 := (cell_far (p := ⟨gb217, 1, none⟩) (by first | (rw [add_block]; exact hn219_1) | (show (Addr.add _ _).block ≠ _; rw [add_block]; exact hn219_1) | exact hn219_1) (.int .i64 t214)).trans hx219_2; replace hx219_0 := (cell_far (p := ⟨gb217, 2, none⟩) (by first | (rw [add_block]; exact hn219_2) | (show (Addr.add _ _).block ≠ _; rw [add_block]; exact hn219_2) | exact hn219_2) (.int .i64 t215)).trans hx219_0; replace hx219_1 := (cell_far (p := ⟨gb217, 2, none⟩) (by first | (rw [add_block]; exact hn219_2) | (show (Addr.add _ _).block ≠ _; rw [add_block]; exact hn219_2) | exact hn219_2) (.int .i64 t215)).trans hx219_1; replace hx219_2 := (cell_far (p := ⟨gb217, 2, none⟩) (by first | (rw [add_block]; exact hn219_2) | (show (Addr.add _ _).block ≠ _; rw [add_block]; exact hn219_2) | exact hn219_2) (.int .i64 t215)).trans hx219_2; clear hn219_0; clear hn219_1; clear hn219_2; replace p219 := eq_true p219; replace q219 := eq_true q219))
           go_roundg k2
           case measure => have := HK1.out; have := HK2.out; omega
           case rel => (try rw [← Nbq9.out]); exact ⟨(x3_2), (wrap64 (x5_2 + 1)), (by first | rfl | (simp; done) | (simp [*]; done)), H', ⟨by have := HK1.out; have := HK2.out; omega⟩, ⟨by (with_reducible repeat (first | apply Kd.R_alloc | apply Kd.R_drewN | apply Kd.R_drew)); exact Kd.R_mono (Kd.R_far (p := ⟨gb217, 2, none⟩) (Kd.R_far (p := ⟨gb217, 1, none⟩) (Kd.R_far (p := ⟨gb217, 0, none⟩) (Kd.R_mono HO_3.out (fun k_ hk => (⟨hk, hk.2⟩ : _ ∧ k_ ≠ gb217))) (fun _ hk => hk.2) (.bool t213)) (fun _ hk => hk.2) (.int .i64 t214)) (fun _ hk => hk.2) (.int .i64 t215)) (fun _ hk => trivial)⟩, ⟨by repeat (first | (with_reducible first | exact HB.out | apply below_alloc | apply pw_below_drewN | apply below_drew1 | refine below_set ?_ GE217.out))⟩⟩
          ·replace c14 := Bool.eq_false_iff.mpr c14
           subst c14
           have H1 : (if x3_2.length < 5864062014805 then (ref05_Reads.l1 k2 l0 (x3_2 ++ [(⟨false, (rd_T46 l0 x5_2).f1, (rd_T46 l0 x5_2).f2⟩ : S46)]) x4_1 (wrap64 (x5_2 + 1))) else (none)) = some r := by rw [if_neg (show ¬ (false = true) by decide)] at H; exact H
           clear H
           have H := H1
           clear H1
           by_cases c18 : x3_2.length < 5864062014805
           ·rw [if_pos c18] at H
            have LMc18 := Aside0.mk c18
            clear c18
            obtain ⟨y221, hy221⟩ : ∃ y_ : List (S46), y_ = (x3_2 ++ [(⟨false, (rd_T46 l0 x5_2).f1, (rd_T46 l0 x5_2).f2⟩ : S46)]) := ⟨_, rfl⟩
            replace H : (ref05_Reads.l1 k2 l0 y221 x4_1 (wrap64 (x5_2 + 1))) = some r := by first | (rw [hy221]; with_reducible exact H) | (have H2_ := (Option.bind_some _ _).symm.trans H; rw [hy221]; with_reducible exact H2_) | (have H2_ := (Option.bind_some _ _).symm.trans H; with_reducible exact H2_) | with_reducible exact H | (rw [hy221]; exact H) | exact H
            have Ny221 := Aside0.mk hy221
            clear hy221
            have H' := Aside0.mk H
            clear H
            go_wp2_with (first | ((with_reducible refine gate_callee (f := 101) rfl ?_); refine goesL_ (some 23) rfl rfl Try.func101 (by kernel_rfl) rfl #[.slice A0 l0.length c0, .int .i64 x5_2, .int .i64 x4_1] rfl (by (try simp only [List.map_toArray, List.map_cons, List.map_nil]); first | done | rfl | (simp only [List.length_drop, List.length_take]; rfl)) ?_; (with_reducible refine (ref05_before.calls k2 _ _ l0 x5_2 x4_1 t213 t214 t215 false _ ?side1 ?side2 A6.out).mono ?_); (case side1 => repeat (first | exact (Kd.C_below HR0.out HB.out) | (with_reducible refine Kd.C_alloc ?_ _) | (with_reducible refine Kd.C_drewN ?_ _) | (with_reducible refine Kd.C_drew ?_))); (case side2 => exact HC0.out); rintro e w19 ⟨rfl, hb⟩; refine ⟨_, rfl, ?_⟩; have n0_ := Aside0.mk (Kd.R_below (by (with_reducible repeat (first | apply Kd.R_alloc | apply Kd.R_drewN | apply Kd.R_drew)); exact HO_3.out) hb); have n1_ := Aside0.mk (below_step (by repeat (first | (with_reducible first | exact HB.out | apply below_alloc | apply pw_below_drewN | apply below_drew1))) hb); clear HO_3; clear HB; have HO_3 := n0_; have HB := n1_; clear n0_ n1_; (try clear hb); (try clear hb2); (try clear hk); (try clear hi)) | ((with_reducible refine gate_dst (N := 6) rfl ?_); refine box_event ?hg (N := 6) ?hd (cs := #[.bool false, .int .i64 0, .int .i64 0]) (t := 46) ?hr ?_; (case hd => rfl); (case hg => rfl); (case hr => first | (go_simp; done) | (go_simp; rfl)); intro gb217 hg w20 hbox hb; have n0_ := Aside0.mk (Kd.R_below (Kd.R_elderB (by (with_reducible repeat (first | apply Kd.R_alloc | apply Kd.R_drewN | apply Kd.R_drew)); exact HO_3.out) gb217 (Nat.le_of_eq hg.symm)) hb); have n1_ := Aside0.mk (below_step (by repeat (first | (with_reducible first | exact HB.out | apply below_alloc | apply pw_below_drewN | apply below_drew1))) hb); have n2_ := Aside0.mk (hbox); have n3_ := Aside0.mk ((by rw [hg]; exact (below_size (by repeat (first | (with_reducible first | exact HB.out | apply below_alloc | apply pw_below_drewN | apply below_drew1)))) : w.heap.size ≤ gb217)); have n4_ := Aside0.mk ((by rw [hg]; exact (below_size (by repeat (first | (with_reducible first | exact HB.out | apply below_alloc | apply pw_below_drewN | apply below_drew1)))) : w.heap.size ≤ gb217)); clear HO_3; clear HB; have HO_3 := n0_; have HB := n1_; have BK217 := n2_; have GW217 := n3_; have GE217 := n4_; clear n0_ n1_ n2_ n3_ n4_; clear hb hbox hg; have hcz21_0 : w20.cell? ⟨gb217, 0, none⟩ = some (.bool false) := (blk_cell BK217.out 0).trans rfl; have hcz21_1 : w20.cell? ⟨gb217, 1, none⟩ = some (.int .i64 0) := (blk_cell BK217.out 1).trans rfl; have hcz21_2 : w20.cell? ⟨gb217, 2, none⟩ = some (.int .i64 0) := (blk_cell BK217.out 2).trans rfl; have hfz21_0 := blk_frozen BK217.out 0; have hfz21_1 := blk_frozen BK217.out 1; have hfz21_2 := blk_frozen BK217.out 2; have p218 : 0 ≤ (x5_2 : Int) := of_decide_eq_true (by assumption); have q218 : x5_2 < (l0.length : Int) := of_decide_eq_true (by assumption); obtain ⟨ad218, e218, hx218_0, hx218_1, hx218_2⟩ := at_T46 HR0.out x5_2 p218 q218; (try rw [← Nbq9.out] at hx218_0); cases e218; have hn218_0 : ad218.block ≠ gb217 := Nat.ne_of_lt (Nat.lt_of_lt_of_le (by have := World.block_lt_of_cell? _ _ hx218_0; first | rwa [add_block] at this | exact this) GW217.out); have hn218_1 : ad218.block ≠ gb217 := Nat.ne_of_lt (Nat.lt_of_lt_of_le (by have := World.block_lt_of_cell? _ _ hx218_0; first | rwa [add_block] at this | exact this) GW217.out); have hn218_2 : ad218.block ≠ gb217 := Nat.ne_of_lt (Nat.lt_of_lt_of_le (by have := World.block_lt_of_cell? _ _ hx218_0; first | rwa [add_block] at this | exact this) GW217.out); replace hx218_0 := (HB.out.cell (World.block_lt_of_cell? w _ hx218_0)).trans hx218_0; replace hx218_1 := (HB.out.cell (World.block_lt_of_cell? w _ hx218_1)).trans hx218_1; replace hx218_2 := (HB.out.cell (World.block_lt_of_cell? w _ hx218_2)).trans hx218_2; replace hx218_0 := (cell_far (p := ⟨gb217, 0, none⟩) (by first | (rw [add_block]; exact hn218_0) | (show (Addr.add _ _).block ≠ _; rw [add_block]; exact hn218_0) | exact hn218_0) (.bool t213)).trans hx218_0; replace hx218_1 := (cell_far (p := ⟨gb217, 0, none⟩) (by first | (rw [add_block]; exact hn218_0) | (show (Addr.add _ _).block ≠ _; rw [add_block]; exact hn218_0) | exact hn218_0) (.bool t213)).trans hx218_1; replace hx218_2 := (cell_far (p := ⟨gb217, 0, none⟩) (by first | (rw [add_block]; exact hn218_0) | (show (Addr.add _ _).block ≠ _; rw [add_block]; exact hn218_0) | exact hn218_0) (.bool t213)).trans hx218_2; replace hx218_0 := (cell_far (p := ⟨gb217, 1, none⟩) (by first | (rw [add_block]; exact hn218_1) | (show (Addr.add _ _).block ≠ _; rw [add_block]; exact hn218_1) | exact hn218_1) (.int .i64 t214)).trans hx218_0; replace hx218_1 := (cell_far (p := ⟨gb217, 1, none⟩) (by first | (rw [add_block]; exact hn218_1) | (show (Addr.add _ _).block ≠ _; rw [add_block]; exact hn218_1) | exact hn218_1) (.int .i64 t214)).trans hx218_1; replace hx218_2 := (cell_far (p := ⟨gb217, 1, none⟩) (by first | (rw [add_block]; exact hn218_1) | (show (Addr.add _ _).block ≠ _; rw [add_block]; exact hn218_1) | exact hn218_1) (.int .i64 t214)).trans hx218_2; replace hx218_0 := (cell_far (p := ⟨gb217, 2, none⟩) (by first | (rw [add_block]; exact hn218_2) | (show (Addr.add _ _).block ≠ _; rw [add_block]; exact hn218_2) | exact hn218_2) (.int .i64 t215)).trans hx218_0; replace hx218_1 := (cell_far (p := ⟨gb217, 2, none⟩) (by first | (rw [add_block]; exact hn218_2) | (show (Addr.add _ _).block ≠ _; rw [add_block]; exact hn218_2) | exact hn218_2) (.int .i64 t215)).trans hx218_1; replace hx218_2 := (cell_far (p := ⟨gb217, 2, none⟩) (by first | (rw [add_block]; exact hn218_2) | (show (Addr.add _ _).block ≠ _; rw [add_block]; exact hn218_2) | exact hn218_2) (.int .i64 t215)).trans hx218_2; clear hn218_0; clear hn218_1; clear hn218_2; replace p218 := eq_true p218; replace q218 := eq_true q218; have p219 : 0 ≤ (x5_2 : Int) := of_decide_eq_true (by assumption); have q219 : x5_2 < (l0.length : Int) := of_decide_eq_true (by assumption); obtain ⟨ad219, e219, hx219_0, hx219_1, hx219_2⟩ := at_T46 HR0.out x5_2 p219 q219; (try rw [← Nbq9.out] at hx219_0); obtain rfl : ad218 = ad219 := (by injection e219); have hn219_0 : ad218.block ≠ gb217 := Nat.ne_of_lt (Nat.lt_of_lt_of_le (by have := World.block_lt_of_cell? _ _ hx219_0; first | rwa [add_block] at this | exact this) GW217.out); have hn219_1 : ad218.block ≠ gb217 := Nat.ne_of_lt (Nat.lt_of_lt_of_le (by have := World.block_lt_of_cell? _ _ hx219_0; first | rwa [add_block] at this | exact this) GW217.out); have hn219_2 : ad218.block ≠ gb217 := Nat.ne_of_lt (Nat.lt_of_lt_of_le (by have := World.block_lt_of_cell? _ _ hx219_0; first | rwa [add_block] at this | exact this) GW217.out); replace hx219_0 := (HB.out.cell (World.block_lt_of_cell? w _ hx219_0)).trans hx219_0; replace hx219_1 := (HB.out.cell (World.block_lt_of_cell? w _ hx219_1)).trans hx219_1; replace hx219_2 := (HB.out.cell (World.block_lt_of_cell? w _ hx219_2)).trans hx219_2; replace hx219_0 := (cell_far (p := ⟨gb217, 0, none⟩) (by first | (rw [add_block]; exact hn219_0) | (show (Addr.add _ _).block ≠ _; rw [add_block]; exact hn219_0) | exact hn219_0) (.bool t213)).trans hx219_0; replace hx219_1 := (cell_far (p := ⟨gb217, 0, none⟩) (by first | (rw [add_block]; exact hn219_0) | (show (Addr.add _ _).block ≠ _; rw [add_block]; exact hn219_0) | exact hn219_0) (.bool t213)).trans hx219_1; replace hx219_2 := (cell_far (p := ⟨gb217, 0, none⟩) (by first | (rw [add_block]; exact hn219_0) | (show (Addr.add _ _).block ≠ _; rw [add_block]; exact hn219_0) | exact hn219_0) (.bool t213)).trans hx219_2; replace hx219_0 := (cell_far (p := ⟨gb217, 1, none⟩) (by first | (rw [add_block]; exact hn219_1) | (show (Addr.add _ _).block ≠ _; rw [add_block]; exact hn219_1) | exact hn219_1) (.int .i64 t214)).trans hx219_0; replace hx219_1 := (cell_far (p := ⟨gb217, 1, none⟩) (by first | (rw [add_block]; exact hn219_1) | (show (Addr.add _ _).block ≠ _; rw [add_block]; exact hn219_1) | exact hn219_1) (.int .i64 t214)).trans hx219_1; replace hx219_2 := (cell_far (p := ⟨gb217, 1, none⟩) (by first | (rw [add_block]; exact hn219_1) | (show (Addr.add _ _).block ≠ _; rw [add_block]; exact hn219_1) | exact hn219_1) (.int .i64 t214)).trans hx219_2; replace hx219_0 := (cell_far (p := ⟨gb217, 2, none⟩) (by first | (rw [add_block]; exact hn219_2) | (show (Addr.add _ _).block ≠ _; rw [add_block]; exact hn219_2) | exact hn219_2) (.int .i64 t215)).trans hx219_0; replace hx219_1 := (cell_far (p := ⟨gb217, 2, none⟩) (by first | (rw [add_block]; exact hn219_2) | (show (Addr.add _ _).block ≠ _; rw [add_block]; exact hn219_2) | exact hn219_2) (.int .i64 t215)).trans hx219_1; replace hx219_2 := (cell_far (p := ⟨gb217, 2, none⟩) (by first | (rw [add_block]; exact hn219_2) | (show (Addr.add _ _).block ≠ _; rw [add_block]; exact hn219_2) | exact hn219_2) (.int .i64 t215)).trans hx219_2; clear hn219_0; clear hn219_1; clear hn219_2; replace p219 := eq_true p219; replace q219 := eq_true q219; have p220 : 0 ≤ (x5_2 : Int) := of_decide_eq_true (by assumption); have q220 : x5_2 < (l0.length : Int) := of_decide_eq_true (by assumption); obtain ⟨ad220, e220, hx220_0, hx220_1, hx220_2⟩ := at_T46 HR0.out x5_2 p220 q220; (try rw [← Nbq9.out] at hx220_0); obtain rfl : ad218 = ad220 := (by injection e220); have hn220_0 : ad218.block ≠ gb217 := Nat.ne_of_lt (Nat.lt_of_lt_of_le (by have := World.block_lt_of_cell? _ _ hx220_0; first | rwa [add_block] at this | exact this) GW217.out); have hn220_1 : ad218.block ≠ gb217 := Nat.ne_of_lt (Nat.lt_of_lt_of_le (by have := World.block_lt_of_cell? _ _ hx220_0; first | rwa [add_block] at this | exact this) GW217.out); have hn220_2 : ad218.block ≠ gb217 := Nat.ne_of_lt (Nat.lt_of_lt_of_le (by have := World.block_lt_of_cell? _ _ hx220_0; first | rwa [add_block] at this | exact this) GW217.out); replace hx220_0 := (HB.out.cell (World.block_lt_of_cell? w _ hx220_0)).trans hx220_0; replace hx220_1 := (HB.out.cell (World.block_lt_of_cell? w _ hx220_1)).trans hx220_1; replace hx220_2 := (HB.out.cell (World.block_lt_of_cell? w _ hx220_2)).trans hx220_2; replace hx220_0 := (cell_far (p := ⟨gb217, 0, none⟩) (by first | (rw [add_block]; exact hn220_0) | (show (Addr.add _ _).block ≠ _; rw [add_block]; exact hn220_0) | exact hn220_0) (.bool t213)).trans hx220_0; replace hx220_1 := (cell_far (p := ⟨gb217, 0, none⟩) (by first | (rw [add_block]; exact hn220_0) | (show (Addr.add _ _).block ≠ _; rw [add_block]; exact hn220_0) | exact hn220_0) (.bool t213)).trans hx220_1; replace hx220_2 := (cell_far (p := ⟨gb217, 0, none⟩) (by first | (rw [add_block]; exact hn220_0) | (show (Addr.add _ _).block ≠ _; rw [add_block]; exact hn220_0) | exact hn220_0) (.bool t213)).trans hx220_2; replace hx220_0 := (cell_far (p := ⟨gb217, 1, none⟩) (by first | (rw [add_block]; exact hn220_1) | (show (Addr.add _ _).block ≠ _; rw [add_block]; exact hn220_1) | exact hn220_1) (.int .i64 t214)).trans hx220_0; replace hx220_1 := (cell_far (p := ⟨gb217, 1, none⟩) (by first | (rw [add_block]; exact hn220_1) | (show (Addr.add _ _).block ≠ _; rw [add_block]; exact hn220_1) | exact hn220_1) (.int .i64 t214)).trans hx220_1; replace hx220_2 := (cell_far (p := ⟨gb217, 1, none⟩) (by first | (rw [add_block]; exact hn220_1) | (show (Addr.add _ _).block ≠ _; rw [add_block]; exact hn220_1) | exact hn220_1) (.int .i64 t214)).trans hx220_2; replace hx220_0 := (cell_far (p := ⟨gb217, 2, none⟩) (by first | (rw [add_block]; exact hn220_2) | (show (Addr.add _ _).block ≠ _; rw [add_block]; exact hn220_2) | exact hn220_2) (.int .i64 t215)).trans hx220_0; replace hx220_1 := (cell_far (p := ⟨gb217, 2, none⟩) (by first | (rw [add_block]; exact hn220_2) | (show (Addr.add _ _).block ≠ _; rw [add_block]; exact hn220_2) | exact hn220_2) (.int .i64 t215)).trans hx220_1; replace hx220_2 := (cell_far (p := ⟨gb217, 2, none⟩) (by first | (rw [add_block]; exact hn220_2) | (show (Addr.add _ _).block ≠ _; rw [add_block]; exact hn220_2) | exact hn220_2) (.int .i64 t215)).trans hx220_2; clear hn220_0; clear hn220_1; clear hn220_2; replace p220 := eq_true p220; replace q220 := eq_true q220) | ((with_reducible refine gate_builtin (b := .append) (xs := #[.tmp 45, .tmp 50]) rfl ?_); at_builtin; refine Kd.R_append k46 (w0 := w) w.heap.size rfl (.tmp 45) (.tmp 50) 42 46 (.agg #[(.bool false), (.int .i64 0), (.int .i64 0)]) 24 rfl Try.underlying42 info46 rfl (by decide) (by omega) u3 x3_2 (⟨false, (rd_T46 l0 x5_2).f1, (rd_T46 l0 x5_2).f2⟩ : S46) [.bool false, .int .i64 ((rd_T46 l0 x5_2).f1), .int .i64 ((rd_T46 l0 x5_2).f2)] (fun k_ => k_ ≠ gb217) (fun _ => False) rfl (by first | (go_simp; done) | (go_simp; rfl)) ?aP (fun _ hk => hk.elim) ?aF ?aO ?aB ?aS ?aL ?_; (case aP => exact k46_mkM _ _ _ (⟨false, (rd_T46 l0 x5_2).f1, (rd_T46 l0 x5_2).f2⟩ : S46)); (case aB => exact (by repeat (first | (with_reducible first | exact HB.out | apply below_alloc | apply pw_below_drewN | apply below_drew1 | refine below_set ?_ GE217.out)))); (case aF => exact (fun k_ hk => Kd.freshB (g := gb217) (o := .cells #[.bool t213, .int .i64 t214, .int .i64 t215] 46 (0, 0)) (by (with_reducible repeat (first | refine blk_drewN ?_ _ | refine blk_drew ?_ | refine blk_alloc ?_ _)); refine blk_put (cs := #[.bool t213, .int .i64 t214, .int .i64 0]) ?_ 2 _ rfl; (with_reducible repeat (first | refine blk_drewN ?_ _ | refine blk_drew ?_ | refine blk_alloc ?_ _)); refine blk_put (cs := #[.bool t213, .int .i64 0, .int .i64 0]) ?_ 1 _ rfl; (with_reducible repeat (first | refine blk_drewN ?_ _ | refine blk_drew ?_ | refine blk_alloc ?_ _)); refine blk_put (cs := #[.bool false, .int .i64 0, .int .i64 0]) ?_ 0 _ rfl; (with_reducible repeat (first | refine blk_drewN ?_ _ | refine blk_drew ?_ | refine blk_alloc ?_ _)); exact BK217.out) k_ hk)); (case aO => exact (by (with_reducible repeat (first | apply Kd.R_alloc | apply Kd.R_drewN | apply Kd.R_drew)); exact Kd.R_mono (Kd.R_far (p := ⟨gb217, 2, none⟩) (Kd.R_far (p := ⟨gb217, 1, none⟩) (Kd.R_far (p := ⟨gb217, 0, none⟩) (Kd.R_mono HO_3.out (fun k_ hk => (⟨hk, hk.2⟩ : _ ∧ k_ ≠ gb217))) (fun _ hk => hk.2) (.bool t213)) (fun _ hk => hk.2) (.int .i64 t214)) (fun _ hk => hk.2) (.int .i64 t215)) (fun _ hk => hk.1.2))); (case aS => exact (below_size (by repeat (first | (with_reducible first | exact HB.out | apply below_alloc | apply pw_below_drewN | apply below_drew1 | refine below_set ?_ GE217.out))))); (case aL => have := LMc18.out; omega); intro v222 w22 ho hb hg hat; rw [← Ny221.out] at ho; have n0_ := Aside0.mk (blk_grown (g := gb217) (o := .cells #[.bool t213, .int .i64 t214, .int .i64 t215] 46 (0, 0)) (by (with_reducible repeat (first | refine blk_drewN ?_ _ | refine blk_drew ?_ | refine blk_alloc ?_ _)); refine blk_put (cs := #[.bool t213, .int .i64 t214, .int .i64 0]) ?_ 2 _ rfl; (with_reducible repeat (first | refine blk_drewN ?_ _ | refine blk_drew ?_ | refine blk_alloc ?_ _)); refine blk_put (cs := #[.bool t213, .int .i64 0, .int .i64 0]) ?_ 1 _ rfl; (with_reducible repeat (first | refine blk_drewN ?_ _ | refine blk_drew ?_ | refine blk_alloc ?_ _)); refine blk_put (cs := #[.bool false, .int .i64 0, .int .i64 0]) ?_ 0 _ rfl; (with_reducible repeat (first | refine blk_drewN ?_ _ | refine blk_drew ?_ | refine blk_alloc ?_ _)); exact BK217.out) hg (Kd.R_away HO_3.out (fun _ hk => hk.2))); have n1_ := Aside0.mk (hb); have n2_ := Aside0.mk (ho); clear BK217; clear HB; clear HO_3; have BK217 := n0_; have HB := n1_; have HO223 := n2_; clear n0_ n1_ n2_; clear ho hb hg hat))
            go_roundg k2
            case measure => have := HK1.out; have := HK2.out; omega
            case rel => (try rw [← Nbq9.out]); exact ⟨(y221), (wrap64 (x5_2 + 1)), (by first | rfl | (simp; done) | (simp [*]; done)), H', ⟨by have := HK1.out; have := HK2.out; omega⟩, ⟨by (with_reducible repeat (first | apply Kd.R_alloc | apply Kd.R_drewN | apply Kd.R_drew)); exact Kd.R_mono HO223.out (fun _ hk => trivial)⟩, ⟨by repeat (first | (with_reducible first | exact HB.out | apply below_alloc | apply pw_below_drewN | apply below_drew1 | refine below_set ?_ GE217.out))⟩⟩
           ·rw [if_neg c18] at H
            exact absurd H (by simp)
        ·rw [if_neg c8] at H
         have c8b0 : (((rd_T46 l0 x5_2).f1) == x4_1) = false := beq_eq_false_iff_ne.mpr c8
         have c8b1 : (((rd_T46 l0 x5_2).f1) != x4_1) = true := bne_iff_ne.mpr c8
         have H' := Aside0.mk H
         clear H
         go_wp2_with (first | ((with_reducible refine gate_callee (f := 101) rfl ?_); refine goesL_ (some 23) rfl rfl Try.func101 (by kernel_rfl) rfl #[.slice A0 l0.length c0, .int .i64 x5_2, .int .i64 x4_1] rfl (by (try simp only [List.map_toArray, List.map_cons, List.map_nil]); first | done | rfl | (simp only [List.length_drop, List.length_take]; rfl)) ?_; (with_reducible refine (ref05_before.calls k2 _ _ l0 x5_2 x4_1 t213 t214 t215 t216 _ ?side1 ?side2 A6.out).mono ?_); (case side1 => repeat (first | exact (Kd.C_below HR0.out HB.out) | (with_reducible refine Kd.C_alloc ?_ _) | (with_reducible refine Kd.C_drewN ?_ _) | (with_reducible refine Kd.C_drew ?_))); (case side2 => exact HC0.out); rintro e w23 ⟨rfl, hb⟩; refine ⟨_, rfl, ?_⟩; have n0_ := Aside0.mk (Kd.R_below (by (with_reducible repeat (first | apply Kd.R_alloc | apply Kd.R_drewN | apply Kd.R_drew)); exact HO_3.out) hb); have n1_ := Aside0.mk (below_step (by repeat (first | (with_reducible first | exact HB.out | apply below_alloc | apply pw_below_drewN | apply below_drew1))) hb); clear HO_3; clear HB; have HO_3 := n0_; have HB := n1_; clear n0_ n1_; (try clear hb); (try clear hb2); (try clear hk); (try clear hi)) | ((with_reducible refine gate_dst (N := 6) rfl ?_); refine box_event ?hg (N := 6) ?hd (cs := #[.bool false, .int .i64 0, .int .i64 0]) (t := 46) ?hr ?_; (case hd => rfl); (case hg => rfl); (case hr => first | (go_simp; done) | (go_simp; rfl)); intro gb217 hg w24 hbox hb; have n0_ := Aside0.mk (Kd.R_below (Kd.R_elderB (by (with_reducible repeat (first | apply Kd.R_alloc | apply Kd.R_drewN | apply Kd.R_drew)); exact HO_3.out) gb217 (Nat.le_of_eq hg.symm)) hb); have n1_ := Aside0.mk (below_step (by repeat (first | (with_reducible first | exact HB.out | apply below_alloc | apply pw_below_drewN | apply below_drew1))) hb); have n2_ := Aside0.mk (hbox); have n3_ := Aside0.mk ((by rw [hg]; exact (below_size (by repeat (first | (with_reducible first | exact HB.out | apply below_alloc | apply pw_below_drewN | apply below_drew1)))) : w.heap.size ≤ gb217)); have n4_ := Aside0.mk ((by rw [hg]; exact (below_size (by repeat (first | (with_reducible first | exact HB.out | apply below_alloc | apply pw_below_drewN | apply below_drew1)))) : w.heap.size ≤ gb217)); clear HO_3; clear HB; have HO_3 := n0_; have HB := n1_; have BK217 := n2_; have GW217 := n3_; have GE217 := n4_; clear n0_ n1_ n2_ n3_ n4_; clear hb hbox hg; have hcz25_0 : w24.cell? ⟨gb217, 0, none⟩ = some (.bool false) := (blk_cell BK217.out 0).trans rfl; have hcz25_1 : w24.cell? ⟨gb217, 1, none⟩ = some (.int .i64 0) := (blk_cell BK217.out 1).trans rfl; have hcz25_2 : w24.cell? ⟨gb217, 2, none⟩ = some (.int .i64 0) := (blk_cell BK217.out 2).trans rfl; have hfz25_0 := blk_frozen BK217.out 0; have hfz25_1 := blk_frozen BK217.out 1; have hfz25_2 := blk_frozen BK217.out 2; have p218 : 0 ≤ (x5_2 : Int) := of_decide_eq_true (by assumption); have q218 : x5_2 < (l0.length : Int) := of_decide_eq_true (by assumption); obtain ⟨ad218, e218, hx218_0, hx218_1, hx218_2⟩ := at_T46 HR0.out x5_2 p218 q218; cases e218; have hn218_0 : ad218.block ≠ gb217 := Nat.ne_of_lt (Nat.lt_of_lt_of_le (by have := World.block_lt_of_cell? _ _ hx218_0; first | rwa [add_block] at this | exact this) GW217.out); have hn218_1 : ad218.block ≠ gb217 := Nat.ne_of_lt (Nat.lt_of_lt_of_le (by have := World.block_lt_of_cell? _ _ hx218_0; first | rwa [add_block] at this | exact this) GW217.out); have hn218_2 : ad218.block ≠ gb217 := Nat.ne_of_lt (Nat.lt_of_lt_of_le (by have := World.block_lt_of_cell? _ _ hx218_0; first | rwa [add_block] at this | exact this) GW217.out); replace hx218_0 := (HB.out.cell (World.block_lt_of_cell? w _ hx218_0)).trans hx218_0; replace hx218_1 := (HB.out.cell (World.block_lt_of_cell? w _ hx218_1)).trans hx218_1; replace hx218_2 := (HB.out.cell (World.block_lt_of_cell? w _ hx218_2)).trans hx218_2; replace hx218_0 := (cell_far (p := ⟨gb217, 0, none⟩) (by first | (rw [add_block]; exact hn218_0) | (show (Addr.add _ _).block ≠ _; rw [add_block]; exact hn218_0) | exact hn218_0) (.bool t213)).trans hx218_0; replace hx218_1 := (cell_far (p := ⟨gb217, 0, none⟩) (by first | (rw [add_block]; exact hn218_0) | (show (Addr.add _ _).block ≠ _; rw [add_block]; exact hn218_0) | exact hn218_0) (.bool t213)).trans hx218_1; replace hx218_2 := (cell_far (p := ⟨gb217, 0, none⟩) (by first | (rw [add_block]; exact hn218_0) | (show (Addr.add _ _).block ≠ _; rw [add_block]; exact hn218_0) | exact hn218_0) (.bool t213)).trans hx218_2; replace hx218_0 := (cell_far (p := ⟨gb217, 1, none⟩) (by first | (rw [add_block]; exact hn218_1) | (show (Addr.add _ _).block ≠ _; rw [add_block]; exact hn218_1) | exact hn218_1) (.int .i64 t214)).trans hx218_0; replace hx218_1 := (cell_far (p := ⟨gb217, 1, none⟩) (by first | (rw [add_block]; exact hn218_1) | (show (Addr.add _ _).block ≠ _; rw [add_block]; exact hn218_1) | exact hn218_1) (.int .i64 t214)).trans hx218_1; replace hx218_2 := (cell_far (p := ⟨gb217, 1, none⟩) (by first | (rw [add_block]; exact hn218_1) | (show (Addr.add _ _).block ≠ _; rw [add_block]; exact hn218_1) | exact hn218_1) (.int .i64 t214)).trans hx218_2; replace hx218_0 := (cell_far (p := ⟨gb217, 2, none⟩) (by first | (rw [add_block]; exact hn218_2) | (show (Addr.add _ _).block ≠ _; rw [add_block]; exact hn218_2) | exact hn218_2) (.int .i64 t215)).trans hx218_0; replace hx218_1 := (cell_far (p := ⟨gb217, 2, none⟩) (by first | (rw [add_block]; exact hn218_2) | (show (Addr.add _ _).block ≠ _; rw [add_block]; exact hn218_2) | exact hn218_2) (.int .i64 t215)).trans hx218_1; replace hx218_2 := (cell_far (p := ⟨gb217, 2, none⟩) (by first | (rw [add_block]; exact hn218_2) | (show (Addr.add _ _).block ≠ _; rw [add_block]; exact hn218_2) | exact hn218_2) (.int .i64 t215)).trans hx218_2; clear hn218_0; clear hn218_1; clear hn218_2; replace p218 := eq_true p218; replace q218 := eq_true q218))
         go_roundg k2
         case measure => have := HK1.out; have := HK2.out; omega
         case rel => exact ⟨(x3_2), (wrap64 (x5_2 + 1)), (by first | rfl | (simp; done) | (simp [*]; done)), H', ⟨by have := HK1.out; have := HK2.out; omega⟩, ⟨by (with_reducible repeat (first | apply Kd.R_alloc | apply Kd.R_drewN | apply Kd.R_drew)); exact Kd.R_mono (Kd.R_far (p := ⟨gb217, 2, none⟩) (Kd.R_far (p := ⟨gb217, 1, none⟩) (Kd.R_far (p := ⟨gb217, 0, none⟩) (Kd.R_mono HO_3.out (fun k_ hk => (⟨hk, hk.2⟩ : _ ∧ k_ ≠ gb217))) (fun _ hk => hk.2) (.bool t213)) (fun _ hk => hk.2) (.int .i64 t214)) (fun _ hk => hk.2) (.int .i64 t215)) (fun _ hk => trivial)⟩, ⟨by repeat (first | (with_reducible first | exact HB.out | apply below_alloc | apply pw_below_drewN | apply below_drew1 | refine below_set ?_ GE217.out))⟩⟩
       ·rw [if_neg c7] at H
        exact absurd H (by simp)
      ·rw [if_neg c5] at H
       have c5b0 : decide (x5_2 < (l0.length : Int)) = false := decide_eq_false c5
       clear c5
       have H' := Aside0.mk H
       clear H
       go_wp2
       go_roundg k2
       case measure => have := HK1.out; have := HK2.out; omega
       case rel => exact ⟨(x3_2), (wrap64 (x4_1 + 1)), (by first | rfl | (simp; done) | (simp [*]; done)), H', ⟨by have := HK1.out; have := HK2.out; omega⟩, ⟨by (with_reducible repeat (first | apply Kd.R_alloc | apply Kd.R_drewN | apply Kd.R_drew)); exact HO_3.out⟩, ⟨by repeat (first | (with_reducible first | exact HB.out | apply below_alloc | apply pw_below_drewN | apply below_drew1))⟩⟩
   ·rw [if_neg c4] at H
    have c4b0 : decide (x4_1 < 64) = false := decide_eq_false c4
    clear c4
    obtain rfl := Option.some.inj H
    go_wp2
    go_ret
    exact ⟨_, by first | rfl | (simp <;> rfl) | (simp [*] <;> rfl), by (with_reducible repeat (first | apply Kd.R_alloc | apply Kd.R_drewN | apply Kd.R_drew)); exact HO_3.out, by repeat (first | (with_reducible first | exact HB.out | apply below_alloc | apply pw_below_drewN | apply below_drew1))⟩
end Go.Proofs.Ytfocaefnmfkojaa.Q
namespace Go.Proofs.Ytfocaefnmfkojaa.Q
open Go.RowKit Go.Proofs.YtfocaefnmfkojaaW.PrintWords Go.Proofs.YtfocaefnmfkojaaW.PrintLast Go.Proofs.YtfocaefnmfkojaaW.PrintMore
attribute [local go_sem] max2_int min2_int max_two min_two max_three min_three max_four min_four   -- for this text's walks alone
set_option linter.unusedVariables false
set_option linter.unusedSimpArgs false
mutual
def ref08_Sound.l0 : Nat → List (S44) → Int → Option (Bool)
 | 0, _, _ => none
 | k + 1, x0, x3 => if x3 < (x0.length : Int) then (if 0 ≤ x3 then ((ref05_Steady.f k ((rd_T44 x0 x3).f3)).bind fun t225 => (if t225 = true then ((ref05_Reads.f k ((rd_T44 x0 x3).f3)).bind fun t227 => (ref08_Sound.l1 k x0 x3 t227 0)) else (some false))) else (none)) else (some true)
def ref08_Sound.l1 : Nat → List (S44) → Int → List (S46) → Int → Option (Bool)
 | 0, _, _, _, _ => none
 | k + 1, x0, x3, x4, x5 => if x5 < (x4.length : Int) then (if 0 ≤ x5 then (if ((rd_T46 x4 x5).f2) = 0 then (ref08_Sound.l1 k x0 x3 x4 (wrap64 (x5 + 1))) else ((ref06_Writer.f k x0 ((rd_T46 x4 x5).f1) ((rd_T46 x4 x5).f2)).bind fun t233 => (if t233 = x3 then (some false) else (if 0 ≤ t233 then (if t233 < (x0.length : Int) then ((ref06_Last.f k ((rd_T44 x0 t233).f0) ((rd_T44 x0 t233).f1) ((rd_T44 x0 t233).f2) ((rd_T44 x0 t233).f3) ((rd_T46 x4 x5).f1) ((rd_T46 x4 x5).f2)).bind fun t237 => (if t237 = true then (ref08_Sound.l1 k x0 x3 x4 (wrap64 (x5 + 1))) else (some false))) else (none)) else (none))))) else (none)) else (ref08_Sound.l0 k x0 (wrap64 (x3 + 1)))
end
def ref08_Sound.f (k : Nat) (l0 : List (S44)) : Option (Bool) := ref08_Sound.l0 k l0 0
theorem ref08_Sound.mono_l : ∀ k, (∀ y0 y1, LeO (ref08_Sound.l0 k y0 y1) (ref08_Sound.l0 (k + 1) y0 y1)) ∧ (∀ y0 y1 y2 y3, LeO (ref08_Sound.l1 k y0 y1 y2 y3) (ref08_Sound.l1 (k + 1) y0 y1 y2 y3))
 | 0 => ⟨fun _ _ r h => by simp [ref08_Sound.l0] at h, fun _ _ _ _ r h => by simp [ref08_Sound.l1] at h⟩
 | k + 1 => by
  obtain ⟨ih0, ih1⟩ := ref08_Sound.mono_l k
  refine ⟨?_, ?_⟩
  ·intro y0 y1
   unfold ref08_Sound.l0
   repeat' first
   | (with_reducible exact ih0 _ _)
   | (with_reducible exact ih1 _ _ _ _)
   | (with_reducible exact ref05_Reads.mono _ _)
   | (with_reducible exact ref05_Steady.mono _ _)
   | (with_reducible exact ref06_Last.mono _ _ _ _ _ _ _)
   | (with_reducible exact ref06_Writer.mono _ _ _ _)
   | (with_reducible exact LeO.refl _)
   | (with_reducible exact LeO.none _)
   | (with_reducible refine LeO.ite ?_ ?_)
   | (with_reducible refine LeO.bind ?_ (fun _ => ?_))
   | exact ih0 _ _
   | exact ih1 _ _ _ _
   | exact ref05_Reads.mono _ _
   | exact ref05_Steady.mono _ _
   | exact ref06_Last.mono _ _ _ _ _ _ _
   | exact ref06_Writer.mono _ _ _ _
   | exact LeO.none _
   | refine LeO.ite ?_ ?_
   | refine LeO.bind ?_ (fun _ => ?_)
  ·intro y0 y1 y2 y3
   unfold ref08_Sound.l1
   repeat' first
   | (with_reducible exact ih0 _ _)
   | (with_reducible exact ih1 _ _ _ _)
   | (with_reducible exact ref05_Reads.mono _ _)
   | (with_reducible exact ref05_Steady.mono _ _)
   | (with_reducible exact ref06_Last.mono _ _ _ _ _ _ _)
   | (with_reducible exact ref06_Writer.mono _ _ _ _)
   | (with_reducible exact LeO.refl _)
   | (with_reducible exact LeO.none _)
   | (with_reducible refine LeO.ite ?_ ?_)
   | (with_reducible refine LeO.bind ?_ (fun _ => ?_))
   | exact ih0 _ _
   | exact ih1 _ _ _ _
   | exact ref05_Reads.mono _ _
   | exact ref05_Steady.mono _ _
   | exact ref06_Last.mono _ _ _ _ _ _ _
   | exact ref06_Writer.mono _ _ _ _
   | exact LeO.none _
   | refine LeO.ite ?_ ?_
   | refine LeO.bind ?_ (fun _ => ?_)
theorem ref08_Sound.mono : ∀ a0 k, LeO (ref08_Sound.f k a0) (ref08_Sound.f (k + 1) a0) := by
 intro a0 k
 obtain ⟨ih0, ih1⟩ := ref08_Sound.mono_l k
 unfold ref08_Sound.f
 repeat' first
   | (with_reducible exact ih0 _ _)
   | (with_reducible exact ih1 _ _ _ _)
   | (with_reducible exact ref05_Reads.mono _ _)
   | (with_reducible exact ref05_Steady.mono _ _)
   | (with_reducible exact ref06_Last.mono _ _ _ _ _ _ _)
   | (with_reducible exact ref06_Writer.mono _ _ _ _)
   | (with_reducible exact LeO.refl _)
   | (with_reducible exact LeO.none _)
   | (with_reducible refine LeO.ite ?_ ?_)
   | (with_reducible refine LeO.bind ?_ (fun _ => ?_))
   | exact ih0 _ _
   | exact ih1 _ _ _ _
   | exact ref05_Reads.mono _ _
   | exact ref05_Steady.mono _ _
   | exact ref06_Last.mono _ _ _ _ _ _ _
   | exact ref06_Writer.mono _ _ _ _
   | exact LeO.none _
   | refine LeO.ite ?_ ?_
   | refine LeO.bind ?_ (fun _ => ?_)
def ref08_Sound.T11 : Bool × List (List Nat × List Nat) := (true, [([], []), ([], []), ([], []), ([1, 2], [1, 2]), ([3], [3]), ([4], [4]), ([], []), ([], []), ([6, 7], [6, 7]), ([8], [8]), ([9], [9]), ([0, 5, 10], [0, 5, 10]), ([11, 11, 0, 1, 2, 3, 4, 5, 6, 7, 8, 9, 10, 11], [11])])
def ref08_Sound.B11 : List Nat := [0, 0, 0, 6, 14, 30, 0, 0, 192, 448, 960, 2047, 4095]
theorem ref08_Sound.tab11 : rtab .any (opsOf Try.f42 11) = ref08_Sound.T11 := by kernel_rfl
theorem ref08_Sound.bits11 : waitsOk ref08_Sound.T11.2 ref08_Sound.B11 = true := by kernel_rfl
def ref08_Sound.T12 : Bool × List (List Nat × List Nat) := (true, [([], []), ([], []), ([0, 1], [0, 1]), ([2], [2]), ([3], [3]), ([3], [3]), ([4, 5, 3], [3, 4, 5]), ([6, 3], [3, 6]), ([3], [3]), ([3], [3]), ([8, 9, 3], [3, 8, 9]), ([10, 3], [3, 10]), ([11, 3], [3, 11]), ([3], [3]), ([3], [3]), ([13, 14, 3], [3, 13, 14]), ([15, 3], [3, 15]), ([16, 3], [3, 16]), ([7, 12, 17, 3, 3], [3, 7, 12, 17]), ([18, 3], [3, 18]), ([3, 19], [3, 19])])
def ref08_Sound.B12 : List Nat := [0, 0, 3, 7, 15, 15, 63, 127, 15, 15, 783, 1807, 3855, 15, 15, 24591, 57359, 122895, 262143, 524287, 1048575]
theorem ref08_Sound.tab12 : rtab .any (opsOf Try.f42 12) = ref08_Sound.T12 := by kernel_rfl
theorem ref08_Sound.bits12 : waitsOk ref08_Sound.T12.2 ref08_Sound.B12 = true := by kernel_rfl
set_option maxHeartbeats 8000000 in
set_option maxRecDepth 100000 in
theorem ref08_Sound.calls (k : Nat) (A0 : Option Addr) (c0 : Nat) (l0 : List (S44)) (r : Bool) (w : World) (hr0 : Kd.C k44 w A0 l0.length l0) (hc0 : l0.length ≤ c0) (h : ref08_Sound.f k l0 = some r) :
  Calls Try.prog 42 #[.slice A0 l0.length c0] w fun e w' => e = .returned (.bool r) ∧ Below w.heap.size w w' := by
 have hu44 := Try.underlying44
 have HR0 := Aside0.mk hr0
 have HC0 := Aside0.mk hc0
 clear hr0 hc0
 have HB := Aside0.mk (Below.refl w.heap.size w)
 have H : (ref08_Sound.l0 k l0 0) = some r := h
 clear h
 have H' := Aside0.mk H
 clear H
 go_enter Try.func42, Try.ntmps42
 go_wp2
 go_loopg [3] k (fun kq v3 w' => ∃ (x3_1 : Int), v3 = .int .i64 x3_1 ∧ Aside0 (ref08_Sound.l0 kq l0 x3_1 = some r) ∧ Aside0 (kq ≤ k) ∧ Aside0 (Below w.heap.size w w'))
 case atStart => exact ⟨(0), (by first | rfl | (simp; done) | (simp [*]; done)), H', ⟨Nat.le_refl _⟩, ⟨by repeat (first | (with_reducible first | exact HB.out | apply below_alloc | apply pw_below_drewN | apply below_drew1))⟩⟩
 case round =>
  clear H'
  obtain ⟨x3_1, rfl, HA, HK1, HB⟩ := hrel
  cases gk with
  | zero => exact absurd HA.out (by simp [ref08_Sound.l0])
  | succ k1 =>
   have H := HA.out
   clear HA
   simp only [ref08_Sound.l0] at H
   by_cases c2 : x3_1 < (l0.length : Int)
   ·rw [if_pos c2] at H
    have c2b0 : decide (x3_1 < (l0.length : Int)) = true := decide_eq_true c2
    clear c2
    by_cases c3 : 0 ≤ x3_1
    ·rw [if_pos c3] at H
     have c3b0 : decide (0 ≤ x3_1) = true := decide_eq_true c3
     clear c3
     replace H := Option.bind_eq_some_iff.mp H
     obtain ⟨t225, A40, H⟩ := H
     replace H : (if t225 = true then ((ref05_Reads.f k1 ((rd_T44 l0 x3_1).f3)).bind fun t227 => (ref08_Sound.l1 k1 l0 x3_1 t227 0)) else (some false)) = some r := H
     have A4 := Aside0.mk A40
     clear A40
     by_cases c5 : t225 = true
     ·subst c5
      have H1 : ((ref05_Reads.f k1 ((rd_T44 l0 x3_1).f3)).bind fun t227 => (ref08_Sound.l1 k1 l0 x3_1 t227 0)) = some r := by rw [if_pos rfl] at H; exact H
      clear H
      have H := H1
      clear H1
      replace H := Option.bind_eq_some_iff.mp H
      obtain ⟨t227, A60, H⟩ := H
      replace H : (ref08_Sound.l1 k1 l0 x3_1 t227 0) = some r := H
      have A6 := Aside0.mk A60
      clear A60
      have H' := Aside0.mk H
      clear H
      have p224 : 0 ≤ (x3_1 : Int) := of_decide_eq_true (by assumption)
      have q224 : x3_1 < (l0.length : Int) := of_decide_eq_true (by assumption)
      obtain ⟨ad224, A224_3, c224_3, e224, hx224_0, hx224_1, hx224_2, hx224_3, hl224_3, hi224_3⟩ := at_T44 HR0.out x3_1 p224 q224
      cases e224
      replace hx224_0 := (HB.out.cell (World.block_lt_of_cell? w _ hx224_0)).trans hx224_0
      replace hx224_1 := (HB.out.cell (World.block_lt_of_cell? w _ hx224_1)).trans hx224_1
      replace hx224_2 := (HB.out.cell (World.block_lt_of_cell? w _ hx224_2)).trans hx224_2
      replace hx224_3 := (HB.out.cell (World.block_lt_of_cell? w _ hx224_3)).trans hx224_3
      have HR224_3 := Aside0.mk hi224_3
      have HC224_3 := Aside0.mk hl224_3
      clear hi224_3 hl224_3
      replace p224 := eq_true p224
      replace q224 := eq_true q224
      go_wp2_with (first | ((with_reducible refine gate_callee (f := 76) rfl ?_); refine goesL_ (some 18) rfl rfl Try.func76 (by kernel_rfl) rfl #[.slice A224_3 ((rd_T44 l0 x3_1).f3).length c224_3] rfl (by (try simp only [List.map_toArray, List.map_cons, List.map_nil]); first | done | rfl | (simp only [List.length_drop, List.length_take]; rfl)) ?_; (with_reducible refine (ref05_Steady.calls k1 _ _ ((rd_T44 l0 x3_1).f3) true _ ?side1 ?side2 A4.out).mono ?_); (case side1 => repeat (first | exact (Kd.C_below HR224_3.out HB.out) | (with_reducible refine Kd.C_alloc ?_ _) | (with_reducible refine Kd.C_drewN ?_ _) | (with_reducible refine Kd.C_drew ?_))); (case side2 => exact HC224_3.out); rintro e w7 ⟨rfl, hb⟩; refine ⟨_, rfl, ?_⟩; have n0_ := Aside0.mk (below_step (by repeat (first | (with_reducible first | exact HB.out | apply below_alloc | apply pw_below_drewN | apply below_drew1))) hb); clear HB; have HB := n0_; clear n0_; (try clear hb); (try clear hb2); (try clear hk); (try clear hi); have p226 : 0 ≤ (x3_1 : Int) := of_decide_eq_true (by assumption); have q226 : x3_1 < (l0.length : Int) := of_decide_eq_true (by assumption); obtain ⟨ad226, A226_3, c226_3, e226, hx226_0, hx226_1, hx226_2, hx226_3, hl226_3, hi226_3⟩ := at_T44 HR0.out x3_1 p226 q226; obtain rfl : ad224 = ad226 := (by injection e226); replace hx226_0 := (HB.out.cell (World.block_lt_of_cell? w _ hx226_0)).trans hx226_0; replace hx226_1 := (HB.out.cell (World.block_lt_of_cell? w _ hx226_1)).trans hx226_1; replace hx226_2 := (HB.out.cell (World.block_lt_of_cell? w _ hx226_2)).trans hx226_2; replace hx226_3 := (HB.out.cell (World.block_lt_of_cell? w _ hx226_3)).trans hx226_3; have HR226_3 := Aside0.mk hi226_3; have HC226_3 := Aside0.mk hl226_3; clear hi226_3 hl226_3; replace p226 := eq_true p226; replace q226 := eq_true q226) | ((with_reducible refine gate_callee (f := 77) rfl ?_); refine goesL_ (some 25) rfl rfl Try.func77 (by kernel_rfl) rfl #[.slice A226_3 ((rd_T44 l0 x3_1).f3).length c226_3] rfl (by (try simp only [List.map_toArray, List.map_cons, List.map_nil]); first | done | rfl | (simp only [List.length_drop, List.length_take]; rfl)) ?_; (with_reducible refine (ref05_Reads.calls k1 _ _ ((rd_T44 l0 x3_1).f3) t227 _ ?side1 ?side2 A6.out).mono ?_); (case side1 => repeat (first | exact (Kd.C_below HR226_3.out HB.out) | (with_reducible refine Kd.C_alloc ?_ _) | (with_reducible refine Kd.C_drewN ?_ _) | (with_reducible refine Kd.C_drew ?_))); (case side2 => exact HC226_3.out); rintro e w8 ⟨v228, rfl, ho0, hb⟩; refine ⟨_, rfl, ?_⟩; have n0_ := Aside0.mk (Kd.R_lower ho0 (below_size (by repeat (first | (with_reducible first | exact HB.out | apply below_alloc | apply pw_below_drewN | apply below_drew1))))); have n1_ := Aside0.mk (below_step (by repeat (first | (with_reducible first | exact HB.out | apply below_alloc | apply pw_below_drewN | apply below_drew1))) hb); clear HB; have HO229 := n0_; have HB := n1_; clear n0_ n1_; (try clear hb); (try clear hb2); (try clear hk); (try clear hi); (try clear ho0)))
      go_loopg [5] k1 (fun kq v5 w' => ∃ (x5_2 : Int), v5 = .int .i64 x5_2 ∧ Aside0 (ref08_Sound.l1 kq l0 x3_1 t227 x5_2 = some r) ∧ Aside0 (kq ≤ k1) ∧ Aside0 (Kd.R k46 46 w' w.heap.size (fun _ => True) v228 t227) ∧ Aside0 (Below w.heap.size w w'))
      case atStart => exact ⟨(0), (by first | rfl | (simp; done) | (simp [*]; done)), H', ⟨Nat.le_refl _⟩, ⟨by (with_reducible repeat (first | apply Kd.R_alloc | apply Kd.R_drewN | apply Kd.R_drew)); exact HO229.out⟩, ⟨by repeat (first | (with_reducible first | exact HB.out | apply below_alloc | apply pw_below_drewN | apply below_drew1))⟩⟩
      case round =>
       clear H'
       try clear c2
       try clear c2b0
       try clear p2
       try clear q2
       try clear hx2
       try clear c3
       try clear c3b0
       try clear c4
       try clear c5
       try clear c7
       try clear hx224_0
       try clear hx224_1
       try clear hx224_2
       try clear hx224_3
       try clear hx226_0
       try clear hx226_1
       try clear hx226_2
       try clear hx226_3
       try clear p224
       try clear p226
       try clear q224
       try clear q226
       obtain ⟨x5_2, rfl, HA, HK2, HO_4, HB⟩ := hrel
       cases gk with
       | zero => exact absurd HA.out (by simp [ref08_Sound.l1])
       | succ k2 =>
        have H := HA.out
        clear HA
        simp only [ref08_Sound.l1] at H
        by_cases c9 : x5_2 < (t227.length : Int)
        ·rw [if_pos c9] at H
         have c9b0 : decide (x5_2 < (t227.length : Int)) = true := decide_eq_true c9
         clear c9
         by_cases c10 : 0 ≤ x5_2
         ·rw [if_pos c10] at H
          have c10b0 : decide (0 ≤ x5_2) = true := decide_eq_true c10
          clear c10
          by_cases c11 : ((rd_T46 t227 x5_2).f2) = 0
          ·rw [if_pos c11] at H
           have c11b0 : (((rd_T46 t227 x5_2).f2) == 0) = true := beq_iff_eq.mpr c11
           have c11b1 : (((rd_T46 t227 x5_2).f2) != 0) = false := bne_eq_false_iff_eq.mpr c11
           clear c11
           have H' := Aside0.mk H
           clear H
           obtain ⟨Ao12, co12, eo12⟩ := Kd.R_slice HO_4.out
           subst eo12
           have p230 : 0 ≤ (x5_2 : Int) := of_decide_eq_true (by assumption)
           have q230 : x5_2 < (t227.length : Int) := of_decide_eq_true (by assumption)
           obtain ⟨ad230, e230, hx230_0, hx230_1, hx230_2⟩ := at_T46 (Kd.R_reads' HO_4.out).2.2 x5_2 p230 q230
           cases e230
           replace p230 := eq_true p230
           replace q230 := eq_true q230
           go_wp2
           go_roundg k2
           case measure => have := HK1.out; have := HK2.out; omega
           case rel => exact ⟨(wrap64 (x5_2 + 1)), (by first | rfl | (simp; done) | (simp [*]; done)), H', ⟨by have := HK1.out; have := HK2.out; omega⟩, ⟨by (with_reducible repeat (first | apply Kd.R_alloc | apply Kd.R_drewN | apply Kd.R_drew)); exact HO_4.out⟩, ⟨by repeat (first | (with_reducible first | exact HB.out | apply below_alloc | apply pw_below_drewN | apply below_drew1))⟩⟩
          ·rw [if_neg c11] at H
           have c11b0 : (((rd_T46 t227 x5_2).f2) == 0) = false := beq_eq_false_iff_ne.mpr c11
           have c11b1 : (((rd_T46 t227 x5_2).f2) != 0) = true := bne_iff_ne.mpr c11
           replace H := Option.bind_eq_some_iff.mp H
           obtain ⟨t233, A130, H⟩ := H
           replace H : (if t233 = x3_1 then (some false) else (if 0 ≤ t233 then (if t233 < (l0.length : Int) then ((ref06_Last.f k2 ((rd_T44 l0 t233).f0) ((rd_T44 l0 t233).f1) ((rd_T44 l0 t233).f2) ((rd_T44 l0 t233).f3) ((rd_T46 t227 x5_2).f1) ((rd_T46 t227 x5_2).f2)).bind fun t237 => (if t237 = true then (ref08_Sound.l1 k2 l0 x3_1 t227 (wrap64 (x5_2 + 1))) else (some false))) else (none)) else (none))) = some r := H
           have A13 := Aside0.mk A130
           clear A130
           by_cases c14 : t233 = x3_1
           ·rw [if_pos c14] at H
            have c14b0 : (t233 == x3_1) = true := beq_iff_eq.mpr c14
            have c14b1 : (t233 != x3_1) = false := bne_eq_false_iff_eq.mpr c14
            clear c14
            obtain rfl := Option.some.inj H
            obtain ⟨Ao15, co15, eo15⟩ := Kd.R_slice HO_4.out
            subst eo15
            have p230 : 0 ≤ (x5_2 : Int) := of_decide_eq_true (by assumption)
            have q230 : x5_2 < (t227.length : Int) := of_decide_eq_true (by assumption)
            obtain ⟨ad230, e230, hx230_0, hx230_1, hx230_2⟩ := at_T46 (Kd.R_reads' HO_4.out).2.2 x5_2 p230 q230
            cases e230
            replace p230 := eq_true p230
            replace q230 := eq_true q230
            try go_wp2
            have n0_ := Aside0.mk (Kd.R_drew HO_4.out)
            have n1_ := Aside0.mk (below_drew1 HB.out)
            clear HO_4
            clear HB
            have HO_4 := n0_
            have HB := n1_
            clear n0_ n1_
            have p231 : 0 ≤ (x5_2 : Int) := of_decide_eq_true (by assumption)
            have q231 : x5_2 < (t227.length : Int) := of_decide_eq_true (by assumption)
            obtain ⟨ad231, e231, hx231_0, hx231_1, hx231_2⟩ := at_T46 (Kd.R_reads' HO_4.out).2.2 x5_2 p231 q231
            obtain rfl : ad230 = ad231 := (by injection e231)
            replace p231 := eq_true p231
            replace q231 := eq_true q231
            have p232 : 0 ≤ (x5_2 : Int) := of_decide_eq_true (by assumption)
            have q232 : x5_2 < (t227.length : Int) := of_decide_eq_true (by assumption)
            obtain ⟨ad232, e232, hx232_0, hx232_1, hx232_2⟩ := at_T46 (Kd.R_reads' HO_4.out).2.2 x5_2 p232 q232
            obtain rfl : ad230 = ad232 := (by injection e232)
            replace p232 := eq_true p232
            replace q232 := eq_true q232
            refine start_ (n := 13) (S := fun w' => w'.cell? (ad230.add ((x5_2).toNat * 3)) = some (.bool ((rd_T46 t227 x5_2).f0)) ∧ w'.cell? ⟨(ad230.add ((x5_2).toNat * 3)).block, (ad230.add ((x5_2).toNat * 3)).off + 1, none⟩ = some (.int .i64 ((rd_T46 t227 x5_2).f1)) ∧ w'.cell? ⟨(ad230.add ((x5_2).toNat * 3)).block, (ad230.add ((x5_2).toNat * 3)).off + 2, none⟩ = some (.int .i64 ((rd_T46 t227 x5_2).f2)) ∧ w'.cell? (ad230.add ((x5_2).toNat * 3)) = some (.bool ((rd_T46 t227 x5_2).f0)) ∧ w'.cell? ⟨(ad230.add ((x5_2).toNat * 3)).block, (ad230.add ((x5_2).toNat * 3)).off + 1, none⟩ = some (.int .i64 ((rd_T46 t227 x5_2).f1)) ∧ w'.cell? ⟨(ad230.add ((x5_2).toNat * 3)).block, (ad230.add ((x5_2).toNat * 3)).off + 2, none⟩ = some (.int .i64 ((rd_T46 t227 x5_2).f2))) (ds := []) #[false, false, false, false, false, false, false, false, false, false, false, false, false] (by kernel_rfl) rfl rfl ⟨hx231_0, hx231_1, hx231_2, hx232_0, hx232_1, hx232_2⟩ (fun hHeld => ?_); refine with_tabW ref08_Sound.tab11 ref08_Sound.bits11 (fun HT_ HW_ => ?_)
            generalize wr.drew = w16 at HO_4 HB hx231_0 hx231_1 hx231_2 hx232_0 hx232_1 hx232_2 hHeld ⊢
            refine pure_ (i := 0) (N := some 38) (v := ?_) (a' := ?_) #[true, false, false, false, false, false, false, false, false, false, false, false, false] rfl rfl (any_of HT_.out (by kernel_rfl)) (fun _ _ _ h => h) (Or.inl ⟨by rfl, ?_⟩) ?_ ?_
            rotate_left
            ·intro w'
             go_simp
             with_reducible rfl
            rotate_left
            ·simp only [Act.put, List.setIfInBounds_toArray, List.set_cons_zero, List.set_cons_succ, i64_w, i32_w]
             rfl
            refine pure_ (i := 1) (N := some 39) (v := ?_) (a' := ?_) #[true, true, false, false, false, false, false, false, false, false, false, false, false] rfl rfl (any_of HT_.out (by kernel_rfl)) (fun _ _ _ h => h) (Or.inl ⟨by rfl, ?_⟩) ?_ ?_
            rotate_left
            ·intro w'
             go_simp
             with_reducible rfl
            rotate_left
            ·simp only [Act.put, List.setIfInBounds_toArray, List.set_cons_zero, List.set_cons_succ, i64_w, i32_w]
             rfl
            refine pure_ (i := 2) (N := some 40) (v := ?_) (a' := ?_) #[true, true, true, false, false, false, false, false, false, false, false, false, false] rfl rfl (any_of HT_.out (by kernel_rfl)) (fun _ _ _ h => h) (Or.inl ⟨by rfl, ?_⟩) ?_ ?_
            rotate_left
            ·intro w'
             go_simp
             with_reducible rfl
            rotate_left
            ·simp only [Act.put, List.setIfInBounds_toArray, List.set_cons_zero, List.set_cons_succ, i64_w, i32_w]
             rfl
            refine pure_ (i := 3) (N := some 41) (v := ?_) (a' := ?_) #[true, true, true, true, false, false, false, false, false, false, false, false, false] rfl rfl (any_of HT_.out (by kernel_rfl)) (fun _ _ _ h => h) (Or.inl ⟨by rfl, ?_⟩) ?_ ?_
            rotate_left
            ·intro w'
             go_simp
             with_reducible rfl
            rotate_left
            ·simp only [Act.put, List.setIfInBounds_toArray, List.set_cons_zero, List.set_cons_succ, i64_w, i32_w]
             rfl
            refine pure_ (i := 4) (N := some 42) (v := ?_) (a' := ?_) #[true, true, true, true, true, false, false, false, false, false, false, false, false] rfl rfl (any_of HT_.out (by kernel_rfl)) (fun _ _ _ h => h) (Or.inl ⟨by rfl, ?_⟩) ?_ ?_
            rotate_left
            ·intro w'
             go_simp
             with_reducible rfl
            rotate_left
            ·simp only [Act.put, List.setIfInBounds_toArray, List.set_cons_zero, List.set_cons_succ, i64_w, i32_w]
             rfl
            refine pure_ (i := 6) (N := some 44) (v := ?_) (a' := ?_) #[true, true, true, true, true, false, true, false, false, false, false, false, false] rfl rfl (any_of HT_.out (by kernel_rfl)) (fun _ _ _ h => h) (Or.inl ⟨by rfl, ?_⟩) ?_ ?_
            rotate_left
            ·intro w'
             go_simp
             with_reducible rfl
            rotate_left
            ·simp only [Act.put, List.setIfInBounds_toArray, List.set_cons_zero, List.set_cons_succ, i64_w, i32_w]
             rfl
            refine pure_ (i := 7) (N := some 45) (v := ?_) (a' := ?_) #[true, true, true, true, true, false, true, true, false, false, false, false, false] rfl rfl (any_of HT_.out (by kernel_rfl)) (fun _ _ _ h => h) (Or.inl ⟨by rfl, ?_⟩) ?_ ?_
            rotate_left
            ·intro w'
             go_simp
             with_reducible rfl
            rotate_left
            ·simp only [Act.put, List.setIfInBounds_toArray, List.set_cons_zero, List.set_cons_succ, i64_w, i32_w]
             rfl
            refine pure_ (i := 8) (N := some 46) (v := ?_) (a' := ?_) #[true, true, true, true, true, false, true, true, true, false, false, false, false] rfl rfl (any_of HT_.out (by kernel_rfl)) (fun _ _ _ h => h) (Or.inl ⟨by rfl, ?_⟩) ?_ ?_
            rotate_left
            ·intro w'
             go_simp
             with_reducible rfl
            rotate_left
            ·simp only [Act.put, List.setIfInBounds_toArray, List.set_cons_zero, List.set_cons_succ, i64_w, i32_w]
             rfl
            refine pure_ (i := 9) (N := some 47) (v := ?_) (a' := ?_) #[true, true, true, true, true, false, true, true, true, true, false, false, false] rfl rfl (any_of HT_.out (by kernel_rfl)) (fun _ _ _ h => h) (Or.inl ⟨by rfl, ?_⟩) ?_ ?_
            rotate_left
            ·intro w'
             go_simp
             with_reducible rfl
            rotate_left
            ·simp only [Act.put, List.setIfInBounds_toArray, List.set_cons_zero, List.set_cons_succ, i64_w, i32_w]
             rfl
            refine take_ (i := 5) (N := some 43) (v := ?_) (a' := ?_) #[true, true, true, true, true, true, true, true, true, true, false, false, false] rfl rfl (take_ofW HT_.out HW_.out (by kernel_rfl)) (fun _ _ _ h => h) (Or.inl ⟨by rfl, ?_⟩) hHeld ?_ ?_
            rotate_left
            ·rintro w' ⟨s0, s1, s2, s3, s4, s5⟩
             go_simp
             with_reducible rfl
            rotate_left
            ·simp only [Act.put, List.setIfInBounds_toArray, List.set_cons_zero, List.set_cons_succ, i64_w, i32_w]
             rfl
            refine take_ (i := 10) (N := some 48) (v := ?_) (a' := ?_) #[true, true, true, true, true, true, true, true, true, true, true, false, false] rfl rfl (take_ofW HT_.out HW_.out (by kernel_rfl)) (fun _ _ _ h => h) (Or.inl ⟨by rfl, ?_⟩) hHeld ?_ ?_
            rotate_left
            ·rintro w' ⟨s0, s1, s2, s3, s4, s5⟩
             go_simp
             with_reducible rfl
            rotate_left
            ·simp only [Act.put, List.setIfInBounds_toArray, List.set_cons_zero, List.set_cons_succ, i64_w, i32_w]
             rfl
            refine one_ (i := 11) (N := some 49) #[true, true, true, true, true, true, true, true, true, true, true, true, false] rfl rfl (one_of HT_.out (by kernel_rfl)) (by decide) (fun K hK => ?_)
            refine goes_ Try.func78 (by kernel_rfl) rfl #[.slice (some ad224) l0.length c0, .int .i64 ((rd_T46 t227 x5_2).f1), .int .i64 ((rd_T46 t227 x5_2).f2)] (by rfl) rfl rfl (by (try simp only [List.map_toArray, List.map_cons, List.map_nil]); first | done | rfl | (simp only [List.length_drop, List.length_take]; rfl)) ?_
            with_reducible refine (ref06_Writer.calls k2 _ _ l0 ((rd_T46 t227 x5_2).f1) ((rd_T46 t227 x5_2).f2) t233 _ ?side1 ?side2 A13.out).mono ?_
            (case side1 => repeat (first | exact (Kd.C_below HR0.out HB.out) | (with_reducible refine Kd.C_alloc ?_ _) | (with_reducible refine Kd.C_drewN ?_ _) | (with_reducible refine Kd.C_drew ?_)))
            (case side2 => exact HC0.out)
            rintro e w17 ⟨rfl, hb⟩
            have HS0_ := (hb.cell (World.block_lt_of_cell? _ _ (hHeld.1))).trans (hHeld.1)
            have HS1_ := (hb.cell (World.block_lt_of_cell? _ _ (hHeld.2.1))).trans (hHeld.2.1)
            have HS2_ := (hb.cell (World.block_lt_of_cell? _ _ (hHeld.2.2.1))).trans (hHeld.2.2.1)
            have HS3_ := (hb.cell (World.block_lt_of_cell? _ _ (hHeld.2.2.2.1))).trans (hHeld.2.2.2.1)
            have HS4_ := (hb.cell (World.block_lt_of_cell? _ _ (hHeld.2.2.2.2.1))).trans (hHeld.2.2.2.2.1)
            have HS5_ := (hb.cell (World.block_lt_of_cell? _ _ (hHeld.2.2.2.2.2))).trans (hHeld.2.2.2.2.2)
            refine ⟨_, rfl, ?_⟩
            have n0_ := Aside0.mk (Kd.R_below (by (with_reducible repeat (first | apply Kd.R_alloc | apply Kd.R_drewN | apply Kd.R_drew)); exact HO_4.out) hb)
            have n1_ := Aside0.mk (below_step (by repeat (first | (with_reducible first | exact HB.out | apply below_alloc | apply pw_below_drewN | apply below_drew1))) hb)
            clear HO_4
            clear HB
            have HO_4 := n0_
            have HB := n1_
            clear n0_ n1_
            (try clear hb)
            (try clear hb2)
            (try clear hk)
            (try clear hi)
            refine hK.out _ _ ⟨HS0_, HS1_, HS2_, HS3_, HS4_, HS5_⟩ (fun hHeld => ?_)
            clear hK K
            refine norm_ (a' := ?_) ?_ ?_
            rotate_left
            ·show Act.put _ (some 49) _ = _
             simp only [Act.put, List.setIfInBounds_toArray, List.set_cons_zero, List.set_cons_succ, i64_w, i32_w]
             rfl
            refine pure_ (i := 12) (N := some 6) (v := ?_) (a' := ?_) #[true, true, true, true, true, true, true, true, true, true, true, true, true] rfl rfl (any_of HT_.out (by kernel_rfl)) (fun _ _ _ h => h) (Or.inl ⟨by rfl, ?_⟩) ?_ ?_
            rotate_left
            ·intro w'
             go_simp
             with_reducible rfl
            rotate_left
            ·simp only [Act.put, List.setIfInBounds_toArray, List.set_cons_zero, List.set_cons_succ, i64_w, i32_w]
             rfl
            refine done_ (done_of HT_.out (by kernel_rfl)) ?_
            try go_wp2
            have n0_ := Aside0.mk (Kd.R_drew HO_4.out)
            have n1_ := Aside0.mk (below_drew1 HB.out)
            clear HO_4
            clear HB
            have HO_4 := n0_
            have HB := n1_
            clear n0_ n1_
            refine start_ (n := 21) (S := fun w' => True) (ds := []) #[false, false, false, false, false, false, false, false, false, false, false, false, false, false, false, false, false, false, false, false, false] (by kernel_rfl) rfl rfl trivial (fun hHeld => ?_); refine with_tabW ref08_Sound.tab12 ref08_Sound.bits12 (fun HT_ HW_ => ?_)
            generalize w17.drew = w18 at HO_4 HB hHeld ⊢
            refine pure_ (i := 0) (N := some 50) (v := ?_) (a' := ?_) #[true, false, false, false, false, false, false, false, false, false, false, false, false, false, false, false, false, false, false, false, false] rfl rfl (any_of HT_.out (by kernel_rfl)) (fun _ _ _ h => h) (Or.inl ⟨by rfl, ?_⟩) ?_ ?_
            rotate_left
            ·intro w'
             go_simp
             with_reducible rfl
            rotate_left
            ·simp only [Act.put, List.setIfInBounds_toArray, List.set_cons_zero, List.set_cons_succ, i64_w, i32_w]
             rfl
            refine pure_ (i := 1) (N := some 51) (v := ?_) (a' := ?_) #[true, true, false, false, false, false, false, false, false, false, false, false, false, false, false, false, false, false, false, false, false] rfl rfl (any_of HT_.out (by kernel_rfl)) (fun _ _ _ h => h) (Or.inl ⟨by rfl, ?_⟩) ?_ ?_
            rotate_left
            ·intro w'
             go_simp
             with_reducible rfl
            rotate_left
            ·simp only [Act.put, List.setIfInBounds_toArray, List.set_cons_zero, List.set_cons_succ, i64_w, i32_w]
             rfl
            refine pure_ (i := 2) (N := some 52) (v := ?_) (a' := ?_) #[true, true, true, false, false, false, false, false, false, false, false, false, false, false, false, false, false, false, false, false, false] rfl rfl (any_of HT_.out (by kernel_rfl)) (fun _ _ _ h => h) (Or.inl ⟨by rfl, ?_⟩) ?_ ?_
            rotate_left
            ·intro w'
             go_simp
             with_reducible rfl
            rotate_left
            ·simp only [Act.put, List.setIfInBounds_toArray, List.set_cons_zero, List.set_cons_succ, i64_w, i32_w]
             rfl
            refine pure_ (i := 3) (N := some 53) (v := ?_) (a' := ?_) #[true, true, true, true, false, false, false, false, false, false, false, false, false, false, false, false, false, false, false, false, false] rfl rfl (any_of HT_.out (by kernel_rfl)) (fun _ _ _ h => h) (Or.inl ⟨by rfl, ?_⟩) ?_ ?_
            rotate_left
            ·intro w'
             go_simp
             with_reducible rfl
            rotate_left
            ·simp only [Act.put, List.setIfInBounds_toArray, List.set_cons_zero, List.set_cons_succ, i64_w, i32_w]
             rfl
            refine pure_ (i := 4) (N := some 54) (v := undef) (a' := ?_) #[true, true, true, true, true, false, false, false, false, false, false, false, false, false, false, false, false, false, false, false, false] rfl rfl (any_of HT_.out (by kernel_rfl)) (fun _ _ _ h => h) (Or.inr ⟨by rfl, rfl⟩) ?_ ?_
            rotate_left
            ·simp only [Act.put, List.setIfInBounds_toArray, List.set_cons_zero, List.set_cons_succ, i64_w, i32_w]
             rfl
            refine pure_ (i := 5) (N := some 55) (v := undef) (a' := ?_) #[true, true, true, true, true, true, false, false, false, false, false, false, false, false, false, false, false, false, false, false, false] rfl rfl (any_of HT_.out (by kernel_rfl)) (fun _ _ _ h => h) (Or.inr ⟨by rfl, rfl⟩) ?_ ?_
            rotate_left
            ·simp only [Act.put, List.setIfInBounds_toArray, List.set_cons_zero, List.set_cons_succ, i64_w, i32_w]
             rfl
            refine pure_ (i := 6) (N := some 56) (v := undef) (a' := ?_) #[true, true, true, true, true, true, true, false, false, false, false, false, false, false, false, false, false, false, false, false, false] rfl rfl (any_of HT_.out (by kernel_rfl)) (fun _ _ _ h => h) (Or.inr ⟨by rfl, rfl⟩) ?_ ?_
            rotate_left
            ·simp only [Act.put, List.setIfInBounds_toArray, List.set_cons_zero, List.set_cons_succ, i64_w, i32_w]
             rfl
            refine pure_ (i := 7) (N := some 57) (v := undef) (a' := ?_) #[true, true, true, true, true, true, true, true, false, false, false, false, false, false, false, false, false, false, false, false, false] rfl rfl (any_of HT_.out (by kernel_rfl)) (fun _ _ _ h => h) (Or.inr ⟨by rfl, rfl⟩) ?_ ?_
            rotate_left
            ·simp only [Act.put, List.setIfInBounds_toArray, List.set_cons_zero, List.set_cons_succ, i64_w, i32_w]
             rfl
            refine pure_ (i := 8) (N := some 58) (v := undef) (a' := ?_) #[true, true, true, true, true, true, true, true, true, false, false, false, false, false, false, false, false, false, false, false, false] rfl rfl (any_of HT_.out (by kernel_rfl)) (fun _ _ _ h => h) (Or.inr ⟨by rfl, rfl⟩) ?_ ?_
            rotate_left
            ·simp only [Act.put, List.setIfInBounds_toArray, List.set_cons_zero, List.set_cons_succ, i64_w, i32_w]
             rfl
            refine pure_ (i := 9) (N := some 59) (v := undef) (a' := ?_) #[true, true, true, true, true, true, true, true, true, true, false, false, false, false, false, false, false, false, false, false, false] rfl rfl (any_of HT_.out (by kernel_rfl)) (fun _ _ _ h => h) (Or.inr ⟨by rfl, rfl⟩) ?_ ?_
            rotate_left
            ·simp only [Act.put, List.setIfInBounds_toArray, List.set_cons_zero, List.set_cons_succ, i64_w, i32_w]
             rfl
            refine pure_ (i := 10) (N := some 60) (v := undef) (a' := ?_) #[true, true, true, true, true, true, true, true, true, true, true, false, false, false, false, false, false, false, false, false, false] rfl rfl (any_of HT_.out (by kernel_rfl)) (fun _ _ _ h => h) (Or.inr ⟨by rfl, rfl⟩) ?_ ?_
            rotate_left
            ·simp only [Act.put, List.setIfInBounds_toArray, List.set_cons_zero, List.set_cons_succ, i64_w, i32_w]
             rfl
            refine pure_ (i := 11) (N := some 61) (v := undef) (a' := ?_) #[true, true, true, true, true, true, true, true, true, true, true, true, false, false, false, false, false, false, false, false, false] rfl rfl (any_of HT_.out (by kernel_rfl)) (fun _ _ _ h => h) (Or.inr ⟨by rfl, rfl⟩) ?_ ?_
            rotate_left
            ·simp only [Act.put, List.setIfInBounds_toArray, List.set_cons_zero, List.set_cons_succ, i64_w, i32_w]
             rfl
            refine pure_ (i := 12) (N := some 62) (v := undef) (a' := ?_) #[true, true, true, true, true, true, true, true, true, true, true, true, true, false, false, false, false, false, false, false, false] rfl rfl (any_of HT_.out (by kernel_rfl)) (fun _ _ _ h => h) (Or.inr ⟨by rfl, rfl⟩) ?_ ?_
            rotate_left
            ·simp only [Act.put, List.setIfInBounds_toArray, List.set_cons_zero, List.set_cons_succ, i64_w, i32_w]
             rfl
            refine pure_ (i := 13) (N := some 63) (v := undef) (a' := ?_) #[true, true, true, true, true, true, true, true, true, true, true, true, true, true, false, false, false, false, false, false, false] rfl rfl (any_of HT_.out (by kernel_rfl)) (fun _ _ _ h => h) (Or.inr ⟨by rfl, rfl⟩) ?_ ?_
            rotate_left
            ·simp only [Act.put, List.setIfInBounds_toArray, List.set_cons_zero, List.set_cons_succ, i64_w, i32_w]
             rfl
            refine pure_ (i := 14) (N := some 64) (v := undef) (a' := ?_) #[true, true, true, true, true, true, true, true, true, true, true, true, true, true, true, false, false, false, false, false, false] rfl rfl (any_of HT_.out (by kernel_rfl)) (fun _ _ _ h => h) (Or.inr ⟨by rfl, rfl⟩) ?_ ?_
            rotate_left
            ·simp only [Act.put, List.setIfInBounds_toArray, List.set_cons_zero, List.set_cons_succ, i64_w, i32_w]
             rfl
            refine pure_ (i := 15) (N := some 65) (v := undef) (a' := ?_) #[true, true, true, true, true, true, true, true, true, true, true, true, true, true, true, true, false, false, false, false, false] rfl rfl (any_of HT_.out (by kernel_rfl)) (fun _ _ _ h => h) (Or.inr ⟨by rfl, rfl⟩) ?_ ?_
            rotate_left
            ·simp only [Act.put, List.setIfInBounds_toArray, List.set_cons_zero, List.set_cons_succ, i64_w, i32_w]
             rfl
            refine pure_ (i := 16) (N := some 66) (v := undef) (a' := ?_) #[true, true, true, true, true, true, true, true, true, true, true, true, true, true, true, true, true, false, false, false, false] rfl rfl (any_of HT_.out (by kernel_rfl)) (fun _ _ _ h => h) (Or.inr ⟨by rfl, rfl⟩) ?_ ?_
            rotate_left
            ·simp only [Act.put, List.setIfInBounds_toArray, List.set_cons_zero, List.set_cons_succ, i64_w, i32_w]
             rfl
            refine pure_ (i := 17) (N := some 67) (v := undef) (a' := ?_) #[true, true, true, true, true, true, true, true, true, true, true, true, true, true, true, true, true, true, false, false, false] rfl rfl (any_of HT_.out (by kernel_rfl)) (fun _ _ _ h => h) (Or.inr ⟨by rfl, rfl⟩) ?_ ?_
            rotate_left
            ·simp only [Act.put, List.setIfInBounds_toArray, List.set_cons_zero, List.set_cons_succ, i64_w, i32_w]
             rfl
            refine pure_ (i := 18) (N := some 68) (v := undef) (a' := ?_) #[true, true, true, true, true, true, true, true, true, true, true, true, true, true, true, true, true, true, true, false, false] rfl rfl (any_of HT_.out (by kernel_rfl)) (fun _ _ _ h => h) (Or.inr ⟨by rfl, rfl⟩) ?_ ?_
            rotate_left
            ·simp only [Act.put, List.setIfInBounds_toArray, List.set_cons_zero, List.set_cons_succ, i64_w, i32_w]
             rfl
            refine pure_ (i := 19) (N := some 69) (v := undef) (a' := ?_) #[true, true, true, true, true, true, true, true, true, true, true, true, true, true, true, true, true, true, true, true, false] rfl rfl (any_of HT_.out (by kernel_rfl)) (fun _ _ _ h => h) (Or.inr ⟨by rfl, rfl⟩) ?_ ?_
            rotate_left
            ·simp only [Act.put, List.setIfInBounds_toArray, List.set_cons_zero, List.set_cons_succ, i64_w, i32_w]
             rfl
            refine pure_ (i := 20) (N := some 70) (v := ?_) (a' := ?_) #[true, true, true, true, true, true, true, true, true, true, true, true, true, true, true, true, true, true, true, true, true] rfl rfl (any_of HT_.out (by kernel_rfl)) (fun _ _ _ h => h) (Or.inl ⟨by rfl, ?_⟩) ?_ ?_
            rotate_left
            ·intro w'
             go_simp
             with_reducible rfl
            rotate_left
            ·simp only [Act.put, List.setIfInBounds_toArray, List.set_cons_zero, List.set_cons_succ, i64_w, i32_w]
             rfl
            refine done_ (done_of HT_.out (by kernel_rfl)) ?_
            try go_wp2
            go_ret
            exact ⟨by first | rfl | (simp <;> rfl) | (simp [*] <;> rfl), by repeat (first | (with_reducible first | exact HB.out | apply below_alloc | apply pw_below_drewN | apply below_drew1))⟩
           ·rw [if_neg c14] at H
            have c14b0 : (t233 == x3_1) = false := beq_eq_false_iff_ne.mpr c14
            have c14b1 : (t233 != x3_1) = true := bne_iff_ne.mpr c14
            by_cases c19 : 0 ≤ t233
            ·rw [if_pos c19] at H
             have c19b0 : decide (0 ≤ t233) = true := decide_eq_true c19
             clear c19
             by_cases c20 : t233 < (l0.length : Int)
             ·rw [if_pos c20] at H
              have c20b0 : decide (t233 < (l0.length : Int)) = true := decide_eq_true c20
              clear c20
              replace H := Option.bind_eq_some_iff.mp H
              obtain ⟨t237, A210, H⟩ := H
              replace H : (if t237 = true then (ref08_Sound.l1 k2 l0 x3_1 t227 (wrap64 (x5_2 + 1))) else (some false)) = some r := H
              have A21 := Aside0.mk A210
              clear A210
              by_cases c22 : t237 = true
              ·subst c22
               have H1 : (ref08_Sound.l1 k2 l0 x3_1 t227 (wrap64 (x5_2 + 1))) = some r := by rw [if_pos rfl] at H; exact H
               clear H
               have H := H1
               clear H1
               have H' := Aside0.mk H
               clear H
               obtain ⟨Ao23, co23, eo23⟩ := Kd.R_slice HO_4.out
               subst eo23
               have p230 : 0 ≤ (x5_2 : Int) := of_decide_eq_true (by assumption)
               have q230 : x5_2 < (t227.length : Int) := of_decide_eq_true (by assumption)
               obtain ⟨ad230, e230, hx230_0, hx230_1, hx230_2⟩ := at_T46 (Kd.R_reads' HO_4.out).2.2 x5_2 p230 q230
               cases e230
               replace p230 := eq_true p230
               replace q230 := eq_true q230
               try go_wp2
               have n0_ := Aside0.mk (Kd.R_drew HO_4.out)
               have n1_ := Aside0.mk (below_drew1 HB.out)
               clear HO_4
               clear HB
               have HO_4 := n0_
               have HB := n1_
               clear n0_ n1_
               have p231 : 0 ≤ (x5_2 : Int) := of_decide_eq_true (by assumption)
               have q231 : x5_2 < (t227.length : Int) := of_decide_eq_true (by assumption)
               obtain ⟨ad231, e231, hx231_0, hx231_1, hx231_2⟩ := at_T46 (Kd.R_reads' HO_4.out).2.2 x5_2 p231 q231
               obtain rfl : ad230 = ad231 := (by injection e231)
               replace p231 := eq_true p231
               replace q231 := eq_true q231
               have p232 : 0 ≤ (x5_2 : Int) := of_decide_eq_true (by assumption)
               have q232 : x5_2 < (t227.length : Int) := of_decide_eq_true (by assumption)
               obtain ⟨ad232, e232, hx232_0, hx232_1, hx232_2⟩ := at_T46 (Kd.R_reads' HO_4.out).2.2 x5_2 p232 q232
               obtain rfl : ad230 = ad232 := (by injection e232)
               replace p232 := eq_true p232
               replace q232 := eq_true q232
               refine start_ (n := 13) (S := fun w' => w'.cell? (ad230.add ((x5_2).toNat * 3)) = some (.bool ((rd_T46 t227 x5_2).f0)) ∧ w'.cell? ⟨(ad230.add ((x5_2).toNat * 3)).block, (ad230.add ((x5_2).toNat * 3)).off + 1, none⟩ = some (.int .i64 ((rd_T46 t227 x5_2).f1)) ∧ w'.cell? ⟨(ad230.add ((x5_2).toNat * 3)).block, (ad230.add ((x5_2).toNat * 3)).off + 2, none⟩ = some (.int .i64 ((rd_T46 t227 x5_2).f2)) ∧ w'.cell? (ad230.add ((x5_2).toNat * 3)) = some (.bool ((rd_T46 t227 x5_2).f0)) ∧ w'.cell? ⟨(ad230.add ((x5_2).toNat * 3)).block, (ad230.add ((x5_2).toNat * 3)).off + 1, none⟩ = some (.int .i64 ((rd_T46 t227 x5_2).f1)) ∧ w'.cell? ⟨(ad230.add ((x5_2).toNat * 3)).block, (ad230.add ((x5_2).toNat * 3)).off + 2, none⟩ = some (.int .i64 ((rd_T46 t227 x5_2).f2))) (ds := []) #[false, false, false, false, false, false, false, false, false, false, false, false, false] (by kernel_rfl) rfl rfl ⟨hx231_0, hx231_1, hx231_2, hx232_0, hx232_1, hx232_2⟩ (fun hHeld => ?_); refine with_tabW ref08_Sound.tab11 ref08_Sound.bits11 (fun HT_ HW_ => ?_)
               generalize wr.drew = w24 at HO_4 HB hx231_0 hx231_1 hx231_2 hx232_0 hx232_1 hx232_2 hHeld ⊢
               refine pure_ (i := 0) (N := some 38) (v := ?_) (a' := ?_) #[true, false, false, false, false, false, false, false, false, false, false, false, false] rfl rfl (any_of HT_.out (by kernel_rfl)) (fun _ _ _ h => h) (Or.inl ⟨by rfl, ?_⟩) ?_ ?_
               rotate_left
               ·intro w'
                go_simp
                with_reducible rfl
               rotate_left
               ·simp only [Act.put, List.setIfInBounds_toArray, List.set_cons_zero, List.set_cons_succ, i64_w, i32_w]
                rfl
               refine pure_ (i := 1) (N := some 39) (v := ?_) (a' := ?_) #[true, true, false, false, false, false, false, false, false, false, false, false, false] rfl rfl (any_of HT_.out (by kernel_rfl)) (fun _ _ _ h => h) (Or.inl ⟨by rfl, ?_⟩) ?_ ?_
               rotate_left
               ·intro w'
                go_simp
                with_reducible rfl
               rotate_left
               ·simp only [Act.put, List.setIfInBounds_toArray, List.set_cons_zero, List.set_cons_succ, i64_w, i32_w]
                rfl
               refine pure_ (i := 2) (N := some 40) (v := ?_) (a' := ?_) #[true, true, true, false, false, false, false, false, false, false, false, false, false] rfl rfl (any_of HT_.out (by kernel_rfl)) (fun _ _ _ h => h) (Or.inl ⟨by rfl, ?_⟩) ?_ ?_
               rotate_left
               ·intro w'
                go_simp
                with_reducible rfl
               rotate_left
               ·simp only [Act.put, List.setIfInBounds_toArray, List.set_cons_zero, List.set_cons_succ, i64_w, i32_w]
                rfl
               refine pure_ (i := 3) (N := some 41) (v := ?_) (a' := ?_) #[true, true, true, true, false, false, false, false, false, false, false, false, false] rfl rfl (any_of HT_.out (by kernel_rfl)) (fun _ _ _ h => h) (Or.inl ⟨by rfl, ?_⟩) ?_ ?_
               rotate_left
               ·intro w'
                go_simp
                with_reducible rfl
               rotate_left
               ·simp only [Act.put, List.setIfInBounds_toArray, List.set_cons_zero, List.set_cons_succ, i64_w, i32_w]
                rfl
               refine pure_ (i := 4) (N := some 42) (v := ?_) (a' := ?_) #[true, true, true, true, true, false, false, false, false, false, false, false, false] rfl rfl (any_of HT_.out (by kernel_rfl)) (fun _ _ _ h => h) (Or.inl ⟨by rfl, ?_⟩) ?_ ?_
               rotate_left
               ·intro w'
                go_simp
                with_reducible rfl
               rotate_left
               ·simp only [Act.put, List.setIfInBounds_toArray, List.set_cons_zero, List.set_cons_succ, i64_w, i32_w]
                rfl
               refine pure_ (i := 6) (N := some 44) (v := ?_) (a' := ?_) #[true, true, true, true, true, false, true, false, false, false, false, false, false] rfl rfl (any_of HT_.out (by kernel_rfl)) (fun _ _ _ h => h) (Or.inl ⟨by rfl, ?_⟩) ?_ ?_
               rotate_left
               ·intro w'
                go_simp
                with_reducible rfl
               rotate_left
               ·simp only [Act.put, List.setIfInBounds_toArray, List.set_cons_zero, List.set_cons_succ, i64_w, i32_w]
                rfl
               refine pure_ (i := 7) (N := some 45) (v := ?_) (a' := ?_) #[true, true, true, true, true, false, true, true, false, false, false, false, false] rfl rfl (any_of HT_.out (by kernel_rfl)) (fun _ _ _ h => h) (Or.inl ⟨by rfl, ?_⟩) ?_ ?_
               rotate_left
               ·intro w'
                go_simp
                with_reducible rfl
               rotate_left
               ·simp only [Act.put, List.setIfInBounds_toArray, List.set_cons_zero, List.set_cons_succ, i64_w, i32_w]
                rfl
               refine pure_ (i := 8) (N := some 46) (v := ?_) (a' := ?_) #[true, true, true, true, true, false, true, true, true, false, false, false, false] rfl rfl (any_of HT_.out (by kernel_rfl)) (fun _ _ _ h => h) (Or.inl ⟨by rfl, ?_⟩) ?_ ?_
               rotate_left
               ·intro w'
                go_simp
                with_reducible rfl
               rotate_left
               ·simp only [Act.put, List.setIfInBounds_toArray, List.set_cons_zero, List.set_cons_succ, i64_w, i32_w]
                rfl
               refine pure_ (i := 9) (N := some 47) (v := ?_) (a' := ?_) #[true, true, true, true, true, false, true, true, true, true, false, false, false] rfl rfl (any_of HT_.out (by kernel_rfl)) (fun _ _ _ h => h) (Or.inl ⟨by rfl, ?_⟩) ?_ ?_
               rotate_left
               ·intro w'
                go_simp
                with_reducible rfl
               rotate_left
               ·simp only [Act.put, List.setIfInBounds_toArray, List.set_cons_zero, List.set_cons_succ, i64_w, i32_w]
                rfl
               refine take_ (i := 5) (N := some 43) (v := ?_) (a' := ?_) #[true, true, true, true, true, true, true, true, true, true, false, false, false] rfl rfl (take_ofW HT_.out HW_.out (by kernel_rfl)) (fun _ _ _ h => h) (Or.inl ⟨by rfl, ?_⟩) hHeld ?_ ?_
               rotate_left
               ·rintro w' ⟨s0, s1, s2, s3, s4, s5⟩
                go_simp
                with_reducible rfl
               rotate_left
               ·simp only [Act.put, List.setIfInBounds_toArray, List.set_cons_zero, List.set_cons_succ, i64_w, i32_w]
                rfl
               refine take_ (i := 10) (N := some 48) (v := ?_) (a' := ?_) #[true, true, true, true, true, true, true, true, true, true, true, false, false] rfl rfl (take_ofW HT_.out HW_.out (by kernel_rfl)) (fun _ _ _ h => h) (Or.inl ⟨by rfl, ?_⟩) hHeld ?_ ?_
               rotate_left
               ·rintro w' ⟨s0, s1, s2, s3, s4, s5⟩
                go_simp
                with_reducible rfl
               rotate_left
               ·simp only [Act.put, List.setIfInBounds_toArray, List.set_cons_zero, List.set_cons_succ, i64_w, i32_w]
                rfl
               refine one_ (i := 11) (N := some 49) #[true, true, true, true, true, true, true, true, true, true, true, true, false] rfl rfl (one_of HT_.out (by kernel_rfl)) (by decide) (fun K hK => ?_)
               refine goes_ Try.func78 (by kernel_rfl) rfl #[.slice (some ad224) l0.length c0, .int .i64 ((rd_T46 t227 x5_2).f1), .int .i64 ((rd_T46 t227 x5_2).f2)] (by rfl) rfl rfl (by (try simp only [List.map_toArray, List.map_cons, List.map_nil]); first | done | rfl | (simp only [List.length_drop, List.length_take]; rfl)) ?_
               with_reducible refine (ref06_Writer.calls k2 _ _ l0 ((rd_T46 t227 x5_2).f1) ((rd_T46 t227 x5_2).f2) t233 _ ?side1 ?side2 A13.out).mono ?_
               (case side1 => repeat (first | exact (Kd.C_below HR0.out HB.out) | (with_reducible refine Kd.C_alloc ?_ _) | (with_reducible refine Kd.C_drewN ?_ _) | (with_reducible refine Kd.C_drew ?_)))
               (case side2 => exact HC0.out)
               rintro e w25 ⟨rfl, hb⟩
               have HS0_ := (hb.cell (World.block_lt_of_cell? _ _ (hHeld.1))).trans (hHeld.1)
               have HS1_ := (hb.cell (World.block_lt_of_cell? _ _ (hHeld.2.1))).trans (hHeld.2.1)
               have HS2_ := (hb.cell (World.block_lt_of_cell? _ _ (hHeld.2.2.1))).trans (hHeld.2.2.1)
               have HS3_ := (hb.cell (World.block_lt_of_cell? _ _ (hHeld.2.2.2.1))).trans (hHeld.2.2.2.1)
               have HS4_ := (hb.cell (World.block_lt_of_cell? _ _ (hHeld.2.2.2.2.1))).trans (hHeld.2.2.2.2.1)
               have HS5_ := (hb.cell (World.block_lt_of_cell? _ _ (hHeld.2.2.2.2.2))).trans (hHeld.2.2.2.2.2)
               refine ⟨_, rfl, ?_⟩
               have n0_ := Aside0.mk (Kd.R_below (by (with_reducible repeat (first | apply Kd.R_alloc | apply Kd.R_drewN | apply Kd.R_drew)); exact HO_4.out) hb)
               have n1_ := Aside0.mk (below_step (by repeat (first | (with_reducible first | exact HB.out | apply below_alloc | apply pw_below_drewN | apply below_drew1))) hb)
               clear HO_4
               clear HB
               have HO_4 := n0_
               have HB := n1_
               clear n0_ n1_
               (try clear hb)
               (try clear hb2)
               (try clear hk)
               (try clear hi)
               refine hK.out _ _ ⟨HS0_, HS1_, HS2_, HS3_, HS4_, HS5_⟩ (fun hHeld => ?_)
               clear hK K
               refine norm_ (a' := ?_) ?_ ?_
               rotate_left
               ·show Act.put _ (some 49) _ = _
                simp only [Act.put, List.setIfInBounds_toArray, List.set_cons_zero, List.set_cons_succ, i64_w, i32_w]
                rfl
               refine pure_ (i := 12) (N := some 6) (v := ?_) (a' := ?_) #[true, true, true, true, true, true, true, true, true, true, true, true, true] rfl rfl (any_of HT_.out (by kernel_rfl)) (fun _ _ _ h => h) (Or.inl ⟨by rfl, ?_⟩) ?_ ?_
               rotate_left
               ·intro w'
                go_simp
                with_reducible rfl
               rotate_left
               ·simp only [Act.put, List.setIfInBounds_toArray, List.set_cons_zero, List.set_cons_succ, i64_w, i32_w]
                rfl
               refine done_ (done_of HT_.out (by kernel_rfl)) ?_
               try go_wp2
               have n0_ := Aside0.mk (Kd.R_drew HO_4.out)
               have n1_ := Aside0.mk (below_drew1 HB.out)
               clear HO_4
               clear HB
               have HO_4 := n0_
               have HB := n1_
               clear n0_ n1_
               have p234 : 0 ≤ (t233 : Int) := of_decide_eq_true (by assumption)
               have q234 : t233 < (l0.length : Int) := of_decide_eq_true (by assumption)
               obtain ⟨ad234, A234_3, c234_3, e234, hx234_0, hx234_1, hx234_2, hx234_3, hl234_3, hi234_3⟩ := at_T44 HR0.out t233 p234 q234
               have hw234_3 := hx234_3
               have hw234_2 := hx234_2
               have hw234_1 := hx234_1
               have hw234_0 := hx234_0
               obtain rfl : ad224 = ad234 := (by injection e234)
               replace hx234_0 := (HB.out.cell (World.block_lt_of_cell? w _ hx234_0)).trans hx234_0
               replace hx234_1 := (HB.out.cell (World.block_lt_of_cell? w _ hx234_1)).trans hx234_1
               replace hx234_2 := (HB.out.cell (World.block_lt_of_cell? w _ hx234_2)).trans hx234_2
               replace hx234_3 := (HB.out.cell (World.block_lt_of_cell? w _ hx234_3)).trans hx234_3
               have HR234_3 := Aside0.mk hi234_3
               have HC234_3 := Aside0.mk hl234_3
               clear hi234_3 hl234_3
               replace p234 := eq_true p234
               replace q234 := eq_true q234
               have p235 : 0 ≤ (x5_2 : Int) := of_decide_eq_true (by assumption)
               have q235 : x5_2 < (t227.length : Int) := of_decide_eq_true (by assumption)
               obtain ⟨ad235, e235, hx235_0, hx235_1, hx235_2⟩ := at_T46 (Kd.R_reads' HO_4.out).2.2 x5_2 p235 q235
               obtain rfl : ad230 = ad235 := (by injection e235)
               replace p235 := eq_true p235
               replace q235 := eq_true q235
               have p236 : 0 ≤ (x5_2 : Int) := of_decide_eq_true (by assumption)
               have q236 : x5_2 < (t227.length : Int) := of_decide_eq_true (by assumption)
               obtain ⟨ad236, e236, hx236_0, hx236_1, hx236_2⟩ := at_T46 (Kd.R_reads' HO_4.out).2.2 x5_2 p236 q236
               obtain rfl : ad230 = ad236 := (by injection e236)
               replace p236 := eq_true p236
               replace q236 := eq_true q236
               refine start_ (n := 21) (S := fun w' => w'.cell? (ad224.add ((t233).toNat * 4)) = some (.int .i64 ((rd_T44 l0 t233).f0)) ∧ w'.cell? ⟨(ad224.add ((t233).toNat * 4)).block, (ad224.add ((t233).toNat * 4)).off + 1, none⟩ = some (.int .i64 ((rd_T44 l0 t233).f1)) ∧ w'.cell? ⟨(ad224.add ((t233).toNat * 4)).block, (ad224.add ((t233).toNat * 4)).off + 2, none⟩ = some (.int .i64 ((rd_T44 l0 t233).f2)) ∧ w'.cell? ⟨(ad224.add ((t233).toNat * 4)).block, (ad224.add ((t233).toNat * 4)).off + 3, none⟩ = some (.slice A234_3 ((rd_T44 l0 t233).f3).length c234_3) ∧ w'.cell? (ad230.add ((x5_2).toNat * 3)) = some (.bool ((rd_T46 t227 x5_2).f0)) ∧ w'.cell? ⟨(ad230.add ((x5_2).toNat * 3)).block, (ad230.add ((x5_2).toNat * 3)).off + 1, none⟩ = some (.int .i64 ((rd_T46 t227 x5_2).f1)) ∧ w'.cell? ⟨(ad230.add ((x5_2).toNat * 3)).block, (ad230.add ((x5_2).toNat * 3)).off + 2, none⟩ = some (.int .i64 ((rd_T46 t227 x5_2).f2)) ∧ w'.cell? (ad230.add ((x5_2).toNat * 3)) = some (.bool ((rd_T46 t227 x5_2).f0)) ∧ w'.cell? ⟨(ad230.add ((x5_2).toNat * 3)).block, (ad230.add ((x5_2).toNat * 3)).off + 1, none⟩ = some (.int .i64 ((rd_T46 t227 x5_2).f1)) ∧ w'.cell? ⟨(ad230.add ((x5_2).toNat * 3)).block, (ad230.add ((x5_2).toNat * 3)).off + 2, none⟩ = some (.int .i64 ((rd_T46 t227 x5_2).f2))) (ds := []) #[false, false, false, false, false, false, false, false, false, false, false, false, false, false, false, false, false, false, false, false, false] (by kernel_rfl) rfl rfl ⟨((HB.out.cell (World.block_lt_of_cell? w _ hw234_0)).trans hw234_0), ((HB.out.cell (World.block_lt_of_cell? w _ hw234_1)).trans hw234_1), ((HB.out.cell (World.block_lt_of_cell? w _ hw234_2)).trans hw234_2), ((HB.out.cell (World.block_lt_of_cell? w _ hw234_3)).trans hw234_3), hx235_0, hx235_1, hx235_2, hx236_0, hx236_1, hx236_2⟩ (fun hHeld => ?_); refine with_tabW ref08_Sound.tab12 ref08_Sound.bits12 (fun HT_ HW_ => ?_)
               generalize w25.drew = w26 at HO_4 HB HR234_3 hx234_0 hx234_1 hx234_2 hx234_3 hx235_0 hx235_1 hx235_2 hx236_0 hx236_1 hx236_2 hHeld ⊢
               refine pure_ (i := 0) (N := some 50) (v := ?_) (a' := ?_) #[true, false, false, false, false, false, false, false, false, false, false, false, false, false, false, false, false, false, false, false, false] rfl rfl (any_of HT_.out (by kernel_rfl)) (fun _ _ _ h => h) (Or.inl ⟨by rfl, ?_⟩) ?_ ?_
               rotate_left
               ·intro w'
                go_simp
                with_reducible rfl
               rotate_left
               ·simp only [Act.put, List.setIfInBounds_toArray, List.set_cons_zero, List.set_cons_succ, i64_w, i32_w]
                rfl
               refine pure_ (i := 1) (N := some 51) (v := ?_) (a' := ?_) #[true, true, false, false, false, false, false, false, false, false, false, false, false, false, false, false, false, false, false, false, false] rfl rfl (any_of HT_.out (by kernel_rfl)) (fun _ _ _ h => h) (Or.inl ⟨by rfl, ?_⟩) ?_ ?_
               rotate_left
               ·intro w'
                go_simp
                with_reducible rfl
               rotate_left
               ·simp only [Act.put, List.setIfInBounds_toArray, List.set_cons_zero, List.set_cons_succ, i64_w, i32_w]
                rfl
               refine pure_ (i := 2) (N := some 52) (v := ?_) (a' := ?_) #[true, true, true, false, false, false, false, false, false, false, false, false, false, false, false, false, false, false, false, false, false] rfl rfl (any_of HT_.out (by kernel_rfl)) (fun _ _ _ h => h) (Or.inl ⟨by rfl, ?_⟩) ?_ ?_
               rotate_left
               ·intro w'
                go_simp
                with_reducible rfl
               rotate_left
               ·simp only [Act.put, List.setIfInBounds_toArray, List.set_cons_zero, List.set_cons_succ, i64_w, i32_w]
                rfl
               refine pure_ (i := 3) (N := some 53) (v := ?_) (a' := ?_) #[true, true, true, true, false, false, false, false, false, false, false, false, false, false, false, false, false, false, false, false, false] rfl rfl (any_of HT_.out (by kernel_rfl)) (fun _ _ _ h => h) (Or.inl ⟨by rfl, ?_⟩) ?_ ?_
               rotate_left
               ·intro w'
                go_simp
                with_reducible rfl
               rotate_left
               ·simp only [Act.put, List.setIfInBounds_toArray, List.set_cons_zero, List.set_cons_succ, i64_w, i32_w]
                rfl
               refine pure_ (i := 4) (N := some 54) (v := ?_) (a' := ?_) #[true, true, true, true, true, false, false, false, false, false, false, false, false, false, false, false, false, false, false, false, false] rfl rfl (any_of HT_.out (by kernel_rfl)) (fun _ _ _ h => h) (Or.inl ⟨by rfl, ?_⟩) ?_ ?_
               rotate_left
               ·intro w'
                go_simp
                with_reducible rfl
               rotate_left
               ·simp only [Act.put, List.setIfInBounds_toArray, List.set_cons_zero, List.set_cons_succ, i64_w, i32_w]
                rfl
               refine pure_ (i := 5) (N := some 55) (v := ?_) (a' := ?_) #[true, true, true, true, true, true, false, false, false, false, false, false, false, false, false, false, false, false, false, false, false] rfl rfl (any_of HT_.out (by kernel_rfl)) (fun _ _ _ h => h) (Or.inl ⟨by rfl, ?_⟩) ?_ ?_
               rotate_left
               ·intro w'
                go_simp
                with_reducible rfl
               rotate_left
               ·simp only [Act.put, List.setIfInBounds_toArray, List.set_cons_zero, List.set_cons_succ, i64_w, i32_w]
                rfl
               refine pure_ (i := 6) (N := some 56) (v := ?_) (a' := ?_) #[true, true, true, true, true, true, true, false, false, false, false, false, false, false, false, false, false, false, false, false, false] rfl rfl (any_of HT_.out (by kernel_rfl)) (fun _ _ _ h => h) (Or.inl ⟨by rfl, ?_⟩) ?_ ?_
               rotate_left
               ·intro w'
                go_simp
                with_reducible rfl
               rotate_left
               ·simp only [Act.put, List.setIfInBounds_toArray, List.set_cons_zero, List.set_cons_succ, i64_w, i32_w]
                rfl
               refine pure_ (i := 8) (N := some 58) (v := ?_) (a' := ?_) #[true, true, true, true, true, true, true, false, true, false, false, false, false, false, false, false, false, false, false, false, false] rfl rfl (any_of HT_.out (by kernel_rfl)) (fun _ _ _ h => h) (Or.inl ⟨by rfl, ?_⟩) ?_ ?_
               rotate_left
               ·intro w'
                go_simp
                with_reducible rfl
               rotate_left
               ·simp only [Act.put, List.setIfInBounds_toArray, List.set_cons_zero, List.set_cons_succ, i64_w, i32_w]
                rfl
               refine pure_ (i := 9) (N := some 59) (v := ?_) (a' := ?_) #[true, true, true, true, true, true, true, false, true, true, false, false, false, false, false, false, false, false, false, false, false] rfl rfl (any_of HT_.out (by kernel_rfl)) (fun _ _ _ h => h) (Or.inl ⟨by rfl, ?_⟩) ?_ ?_
               rotate_left
               ·intro w'
                go_simp
                with_reducible rfl
               rotate_left
               ·simp only [Act.put, List.setIfInBounds_toArray, List.set_cons_zero, List.set_cons_succ, i64_w, i32_w]
                rfl
               refine pure_ (i := 10) (N := some 60) (v := ?_) (a' := ?_) #[true, true, true, true, true, true, true, false, true, true, true, false, false, false, false, false, false, false, false, false, false] rfl rfl (any_of HT_.out (by kernel_rfl)) (fun _ _ _ h => h) (Or.inl ⟨by rfl, ?_⟩) ?_ ?_
               rotate_left
               ·intro w'
                go_simp
                with_reducible rfl
               rotate_left
               ·simp only [Act.put, List.setIfInBounds_toArray, List.set_cons_zero, List.set_cons_succ, i64_w, i32_w]
                rfl
               refine pure_ (i := 11) (N := some 61) (v := ?_) (a' := ?_) #[true, true, true, true, true, true, true, false, true, true, true, true, false, false, false, false, false, false, false, false, false] rfl rfl (any_of HT_.out (by kernel_rfl)) (fun _ _ _ h => h) (Or.inl ⟨by rfl, ?_⟩) ?_ ?_
               rotate_left
               ·intro w'
                go_simp
                with_reducible rfl
               rotate_left
               ·simp only [Act.put, List.setIfInBounds_toArray, List.set_cons_zero, List.set_cons_succ, i64_w, i32_w]
                rfl
               refine pure_ (i := 13) (N := some 63) (v := ?_) (a' := ?_) #[true, true, true, true, true, true, true, false, true, true, true, true, false, true, false, false, false, false, false, false, false] rfl rfl (any_of HT_.out (by kernel_rfl)) (fun _ _ _ h => h) (Or.inl ⟨by rfl, ?_⟩) ?_ ?_
               rotate_left
               ·intro w'
                go_simp
                with_reducible rfl
               rotate_left
               ·simp only [Act.put, List.setIfInBounds_toArray, List.set_cons_zero, List.set_cons_succ, i64_w, i32_w]
                rfl
               refine pure_ (i := 14) (N := some 64) (v := ?_) (a' := ?_) #[true, true, true, true, true, true, true, false, true, true, true, true, false, true, true, false, false, false, false, false, false] rfl rfl (any_of HT_.out (by kernel_rfl)) (fun _ _ _ h => h) (Or.inl ⟨by rfl, ?_⟩) ?_ ?_
               rotate_left
               ·intro w'
                go_simp
                with_reducible rfl
               rotate_left
               ·simp only [Act.put, List.setIfInBounds_toArray, List.set_cons_zero, List.set_cons_succ, i64_w, i32_w]
                rfl
               refine pure_ (i := 15) (N := some 65) (v := ?_) (a' := ?_) #[true, true, true, true, true, true, true, false, true, true, true, true, false, true, true, true, false, false, false, false, false] rfl rfl (any_of HT_.out (by kernel_rfl)) (fun _ _ _ h => h) (Or.inl ⟨by rfl, ?_⟩) ?_ ?_
               rotate_left
               ·intro w'
                go_simp
                with_reducible rfl
               rotate_left
               ·simp only [Act.put, List.setIfInBounds_toArray, List.set_cons_zero, List.set_cons_succ, i64_w, i32_w]
                rfl
               refine pure_ (i := 16) (N := some 66) (v := ?_) (a' := ?_) #[true, true, true, true, true, true, true, false, true, true, true, true, false, true, true, true, true, false, false, false, false] rfl rfl (any_of HT_.out (by kernel_rfl)) (fun _ _ _ h => h) (Or.inl ⟨by rfl, ?_⟩) ?_ ?_
               rotate_left
               ·intro w'
                go_simp
                with_reducible rfl
               rotate_left
               ·simp only [Act.put, List.setIfInBounds_toArray, List.set_cons_zero, List.set_cons_succ, i64_w, i32_w]
                rfl
               refine take_ (i := 7) (N := some 57) (v := ?_) (a' := ?_) #[true, true, true, true, true, true, true, true, true, true, true, true, false, true, true, true, true, false, false, false, false] rfl rfl (take_ofW HT_.out HW_.out (by kernel_rfl)) (fun _ _ _ h => h) (Or.inl ⟨by rfl, ?_⟩) hHeld ?_ ?_
               rotate_left
               ·rintro w' ⟨s0, s1, s2, s3, s4, s5, s6, s7, s8, s9⟩
                go_simp
                with_reducible rfl
               rotate_left
               ·simp only [Act.put, List.setIfInBounds_toArray, List.set_cons_zero, List.set_cons_succ, i64_w, i32_w]
                rfl
               refine take_ (i := 12) (N := some 62) (v := ?_) (a' := ?_) #[true, true, true, true, true, true, true, true, true, true, true, true, true, true, true, true, true, false, false, false, false] rfl rfl (take_ofW HT_.out HW_.out (by kernel_rfl)) (fun _ _ _ h => h) (Or.inl ⟨by rfl, ?_⟩) hHeld ?_ ?_
               rotate_left
               ·rintro w' ⟨s0, s1, s2, s3, s4, s5, s6, s7, s8, s9⟩
                go_simp
                with_reducible rfl
               rotate_left
               ·simp only [Act.put, List.setIfInBounds_toArray, List.set_cons_zero, List.set_cons_succ, i64_w, i32_w]
                rfl
               refine take_ (i := 17) (N := some 67) (v := ?_) (a' := ?_) #[true, true, true, true, true, true, true, true, true, true, true, true, true, true, true, true, true, true, false, false, false] rfl rfl (take_ofW HT_.out HW_.out (by kernel_rfl)) (fun _ _ _ h => h) (Or.inl ⟨by rfl, ?_⟩) hHeld ?_ ?_
               rotate_left
               ·rintro w' ⟨s0, s1, s2, s3, s4, s5, s6, s7, s8, s9⟩
                go_simp
                with_reducible rfl
               rotate_left
               ·simp only [Act.put, List.setIfInBounds_toArray, List.set_cons_zero, List.set_cons_succ, i64_w, i32_w]
                rfl
               refine one_ (i := 18) (N := some 68) #[true, true, true, true, true, true, true, true, true, true, true, true, true, true, true, true, true, true, true, false, false] rfl rfl (one_of HT_.out (by kernel_rfl)) (by decide) (fun K hK => ?_)
               refine goes_ Try.func29 (by kernel_rfl) rfl #[.agg #[.int .i64 ((rd_T44 l0 t233).f0), .int .i64 ((rd_T44 l0 t233).f1), .int .i64 ((rd_T44 l0 t233).f2), .slice A234_3 ((rd_T44 l0 t233).f3).length c234_3], .int .i64 ((rd_T46 t227 x5_2).f1), .int .i64 ((rd_T46 t227 x5_2).f2)] (by rfl) rfl rfl (by (try simp only [List.map_toArray, List.map_cons, List.map_nil]); first | done | rfl | (simp only [List.length_drop, List.length_take]; rfl)) ?_
               with_reducible refine (ref06_Last.calls k2 ((rd_T44 l0 t233).f0) ((rd_T44 l0 t233).f1) ((rd_T44 l0 t233).f2) _ _ ((rd_T44 l0 t233).f3) ((rd_T46 t227 x5_2).f1) ((rd_T46 t227 x5_2).f2) true _ ?side1 ?side2 A21.out).mono ?_
               (case side1 => repeat (first | exact (Kd.C_below HR234_3.out HB.out) | (with_reducible refine Kd.C_alloc ?_ _) | (with_reducible refine Kd.C_drewN ?_ _) | (with_reducible refine Kd.C_drew ?_)))
               (case side2 => exact HC234_3.out)
               rintro e w27 ⟨rfl, hb⟩
               have HS4_ := (hb.cell (World.block_lt_of_cell? _ _ (hHeld.2.2.2.2.1))).trans (hHeld.2.2.2.2.1)
               have HS5_ := (hb.cell (World.block_lt_of_cell? _ _ (hHeld.2.2.2.2.2.1))).trans (hHeld.2.2.2.2.2.1)
               have HS6_ := (hb.cell (World.block_lt_of_cell? _ _ (hHeld.2.2.2.2.2.2.1))).trans (hHeld.2.2.2.2.2.2.1)
               have HS7_ := (hb.cell (World.block_lt_of_cell? _ _ (hHeld.2.2.2.2.2.2.2.1))).trans (hHeld.2.2.2.2.2.2.2.1)
               have HS8_ := (hb.cell (World.block_lt_of_cell? _ _ (hHeld.2.2.2.2.2.2.2.2.1))).trans (hHeld.2.2.2.2.2.2.2.2.1)
               have HS9_ := (hb.cell (World.block_lt_of_cell? _ _ (hHeld.2.2.2.2.2.2.2.2.2))).trans (hHeld.2.2.2.2.2.2.2.2.2)
               refine ⟨_, rfl, ?_⟩
               have n0_ := Aside0.mk (Kd.R_below (by (with_reducible repeat (first | apply Kd.R_alloc | apply Kd.R_drewN | apply Kd.R_drew)); exact HO_4.out) hb)
               have n1_ := Aside0.mk (below_step (by repeat (first | (with_reducible first | exact HB.out | apply below_alloc | apply pw_below_drewN | apply below_drew1))) hb)
               clear HO_4
               clear HB
               have HO_4 := n0_
               have HB := n1_
               clear n0_ n1_
               (try clear hb)
               (try clear hb2)
               (try clear hk)
               (try clear hi)
               refine hK.out _ _ ⟨((HB.out.cell (World.block_lt_of_cell? w _ hw234_0)).trans hw234_0), ((HB.out.cell (World.block_lt_of_cell? w _ hw234_1)).trans hw234_1), ((HB.out.cell (World.block_lt_of_cell? w _ hw234_2)).trans hw234_2), ((HB.out.cell (World.block_lt_of_cell? w _ hw234_3)).trans hw234_3), HS4_, HS5_, HS6_, HS7_, HS8_, HS9_⟩ (fun hHeld => ?_)
               clear hK K
               refine norm_ (a' := ?_) ?_ ?_
               rotate_left
               ·show Act.put _ (some 68) _ = _
                simp only [Act.put, List.setIfInBounds_toArray, List.set_cons_zero, List.set_cons_succ, i64_w, i32_w]
                rfl
               refine pure_ (i := 19) (N := some 69) (v := ?_) (a' := ?_) #[true, true, true, true, true, true, true, true, true, true, true, true, true, true, true, true, true, true, true, true, false] rfl rfl (any_of HT_.out (by kernel_rfl)) (fun _ _ _ h => h) (Or.inl ⟨by rfl, ?_⟩) ?_ ?_
               rotate_left
               ·intro w'
                go_simp
                with_reducible rfl
               rotate_left
               ·simp only [Act.put, List.setIfInBounds_toArray, List.set_cons_zero, List.set_cons_succ, i64_w, i32_w]
                rfl
               refine pure_ (i := 20) (N := some 70) (v := ?_) (a' := ?_) #[true, true, true, true, true, true, true, true, true, true, true, true, true, true, true, true, true, true, true, true, true] rfl rfl (any_of HT_.out (by kernel_rfl)) (fun _ _ _ h => h) (Or.inl ⟨by rfl, ?_⟩) ?_ ?_
               rotate_left
               ·intro w'
                go_simp
                with_reducible rfl
               rotate_left
               ·simp only [Act.put, List.setIfInBounds_toArray, List.set_cons_zero, List.set_cons_succ, i64_w, i32_w]
                rfl
               refine done_ (done_of HT_.out (by kernel_rfl)) ?_
               try go_wp2
               go_roundg k2
               case measure => have := HK1.out; have := HK2.out; omega
               case rel => exact ⟨(wrap64 (x5_2 + 1)), (by first | rfl | (simp; done) | (simp [*]; done)), H', ⟨by have := HK1.out; have := HK2.out; omega⟩, ⟨by (with_reducible repeat (first | apply Kd.R_alloc | apply Kd.R_drewN | apply Kd.R_drew)); exact HO_4.out⟩, ⟨by repeat (first | (with_reducible first | exact HB.out | apply below_alloc | apply pw_below_drewN | apply below_drew1))⟩⟩
              ·replace c22 := Bool.eq_false_iff.mpr c22
               subst c22
               have H1 : (some false) = some r := by rw [if_neg (show ¬ (false = true) by decide)] at H; exact H
               clear H
               have H := H1
               clear H1
               obtain rfl := Option.some.inj H
               obtain ⟨Ao28, co28, eo28⟩ := Kd.R_slice HO_4.out
               subst eo28
               have p230 : 0 ≤ (x5_2 : Int) := of_decide_eq_true (by assumption)
               have q230 : x5_2 < (t227.length : Int) := of_decide_eq_true (by assumption)
               obtain ⟨ad230, e230, hx230_0, hx230_1, hx230_2⟩ := at_T46 (Kd.R_reads' HO_4.out).2.2 x5_2 p230 q230
               cases e230
               replace p230 := eq_true p230
               replace q230 := eq_true q230
               try go_wp2
               have n0_ := Aside0.mk (Kd.R_drew HO_4.out)
               have n1_ := Aside0.mk (below_drew1 HB.out)
               clear HO_4
               clear HB
               have HO_4 := n0_
               have HB := n1_
               clear n0_ n1_
               have p231 : 0 ≤ (x5_2 : Int) := of_decide_eq_true (by assumption)
               have q231 : x5_2 < (t227.length : Int) := of_decide_eq_true (by assumption)
               obtain ⟨ad231, e231, hx231_0, hx231_1, hx231_2⟩ := at_T46 (Kd.R_reads' HO_4.out).2.2 x5_2 p231 q231
               obtain rfl : ad230 = ad231 := (by injection e231)
               replace p231 := eq_true p231
               replace q231 := eq_true q231
               have p232 : 0 ≤ (x5_2 : Int) := of_decide_eq_true (by assumption)
               have q232 : x5_2 < (t227.length : Int) := of_decide_eq_true (by assumption)
               obtain ⟨ad232, e232, hx232_0, hx232_1, hx232_2⟩ := at_T46 (Kd.R_reads' HO_4.out).2.2 x5_2 p232 q232
               obtain rfl : ad230 = ad232 := (by injection e232)
               replace p232 := eq_true p232
               replace q232 := eq_true q232
               refine start_ (n := 13) (S := fun w' => w'.cell? (ad230.add ((x5_2).toNat * 3)) = some (.bool ((rd_T46 t227 x5_2).f0)) ∧ w'.cell? ⟨(ad230.add ((x5_2).toNat * 3)).block, (ad230.add ((x5_2).toNat * 3)).off + 1, none⟩ = some (.int .i64 ((rd_T46 t227 x5_2).f1)) ∧ w'.cell? ⟨(ad230.add ((x5_2).toNat * 3)).block, (ad230.add ((x5_2).toNat * 3)).off + 2, none⟩ = some (.int .i64 ((rd_T46 t227 x5_2).f2)) ∧ w'.cell? (ad230.add ((x5_2).toNat * 3)) = some (.bool ((rd_T46 t227 x5_2).f0)) ∧ w'.cell? ⟨(ad230.add ((x5_2).toNat * 3)).block, (ad230.add ((x5_2).toNat * 3)).off + 1, none⟩ = some (.int .i64 ((rd_T46 t227 x5_2).f1)) ∧ w'.cell? ⟨(ad230.add ((x5_2).toNat * 3)).block, (ad230.add ((x5_2).toNat * 3)).off + 2, none⟩ = some (.int .i64 ((rd_T46 t227 x5_2).f2))) (ds := []) #[false, false, false, false, false, false, false, false, false, false, false, false, false] (by kernel_rfl) rfl rfl ⟨hx231_0, hx231_1, hx231_2, hx232_0, hx232_1, hx232_2⟩ (fun hHeld => ?_); refine with_tabW ref08_Sound.tab11 ref08_Sound.bits11 (fun HT_ HW_ => ?_)
               generalize wr.drew = w29 at HO_4 HB hx231_0 hx231_1 hx231_2 hx232_0 hx232_1 hx232_2 hHeld ⊢
               refine pure_ (i := 0) (N := some 38) (v := ?_) (a' := ?_) #[true, false, false, false, false, false, false, false, false, false, false, false, false] rfl rfl (any_of HT_.out (by kernel_rfl)) (fun _ _ _ h => h) (Or.inl ⟨by rfl, ?_⟩) ?_ ?_
               rotate_left
               ·intro w'
                go_simp
                with_reducible rfl
               rotate_left
               ·simp only [Act.put, List.setIfInBounds_toArray, List.set_cons_zero, List.set_cons_succ, i64_w, i32_w]
                rfl
               refine pure_ (i := 1) (N := some 39) (v := ?_) (a' := ?_) #[true, true, false, false, false, false, false, false, false, false, false, false, false] rfl rfl (any_of HT_.out (by kernel_rfl)) (fun _ _ _ h => h) (Or.inl ⟨by rfl, ?_⟩) ?_ ?_
               rotate_left
               ·intro w'
                go_simp
                with_reducible rfl
               rotate_left
               ·simp only [Act.put, List.setIfInBounds_toArray, List.set_cons_zero, List.set_cons_succ, i64_w, i32_w]
                rfl
               refine pure_ (i := 2) (N := some 40) (v := ?_) (a' := ?_) #[true, true, true, false, false, false, false, false, false, false, false, false, false] rfl rfl (any_of HT_.out (by kernel_rfl)) (fun _ _ _ h => h) (Or.inl ⟨by rfl, ?_⟩) ?_ ?_
               rotate_left
               ·intro w'
                go_simp
                with_reducible rfl
               rotate_left
               ·simp only [Act.put, List.setIfInBounds_toArray, List.set_cons_zero, List.set_cons_succ, i64_w, i32_w]
                rfl
               refine pure_ (i := 3) (N := some 41) (v := ?_) (a' := ?_) #[true, true, true, true, false, false, false, false, false, false, false, false, false] rfl rfl (any_of HT_.out (by kernel_rfl)) (fun _ _ _ h => h) (Or.inl ⟨by rfl, ?_⟩) ?_ ?_
               rotate_left
               ·intro w'
                go_simp
                with_reducible rfl
               rotate_left
               ·simp only [Act.put, List.setIfInBounds_toArray, List.set_cons_zero, List.set_cons_succ, i64_w, i32_w]
                rfl
               refine pure_ (i := 4) (N := some 42) (v := ?_) (a' := ?_) #[true, true, true, true, true, false, false, false, false, false, false, false, false] rfl rfl (any_of HT_.out (by kernel_rfl)) (fun _ _ _ h => h) (Or.inl ⟨by rfl, ?_⟩) ?_ ?_
               rotate_left
               ·intro w'
                go_simp
                with_reducible rfl
               rotate_left
               ·simp only [Act.put, List.setIfInBounds_toArray, List.set_cons_zero, List.set_cons_succ, i64_w, i32_w]
                rfl
               refine pure_ (i := 6) (N := some 44) (v := ?_) (a' := ?_) #[true, true, true, true, true, false, true, false, false, false, false, false, false] rfl rfl (any_of HT_.out (by kernel_rfl)) (fun _ _ _ h => h) (Or.inl ⟨by rfl, ?_⟩) ?_ ?_
               rotate_left
               ·intro w'
                go_simp
                with_reducible rfl
               rotate_left
               ·simp only [Act.put, List.setIfInBounds_toArray, List.set_cons_zero, List.set_cons_succ, i64_w, i32_w]
                rfl
               refine pure_ (i := 7) (N := some 45) (v := ?_) (a' := ?_) #[true, true, true, true, true, false, true, true, false, false, false, false, false] rfl rfl (any_of HT_.out (by kernel_rfl)) (fun _ _ _ h => h) (Or.inl ⟨by rfl, ?_⟩) ?_ ?_
               rotate_left
               ·intro w'
                go_simp
                with_reducible rfl
               rotate_left
               ·simp only [Act.put, List.setIfInBounds_toArray, List.set_cons_zero, List.set_cons_succ, i64_w, i32_w]
                rfl
               refine pure_ (i := 8) (N := some 46) (v := ?_) (a' := ?_) #[true, true, true, true, true, false, true, true, true, false, false, false, false] rfl rfl (any_of HT_.out (by kernel_rfl)) (fun _ _ _ h => h) (Or.inl ⟨by rfl, ?_⟩) ?_ ?_
               rotate_left
               ·intro w'
                go_simp
                with_reducible rfl
               rotate_left
               ·simp only [Act.put, List.setIfInBounds_toArray, List.set_cons_zero, List.set_cons_succ, i64_w, i32_w]
                rfl
               refine pure_ (i := 9) (N := some 47) (v := ?_) (a' := ?_) #[true, true, true, true, true, false, true, true, true, true, false, false, false] rfl rfl (any_of HT_.out (by kernel_rfl)) (fun _ _ _ h => h) (Or.inl ⟨by rfl, ?_⟩) ?_ ?_
               rotate_left
               ·intro w'
                go_simp
                with_reducible rfl
               rotate_left
               ·simp only [Act.put, List.setIfInBounds_toArray, List.set_cons_zero, List.set_cons_succ, i64_w, i32_w]
                rfl
               refine take_ (i := 5) (N := some 43) (v := ?_) (a' := ?_) #[true, true, true, true, true, true, true, true, true, true, false, false, false] rfl rfl (take_ofW HT_.out HW_.out (by kernel_rfl)) (fun _ _ _ h => h) (Or.inl ⟨by rfl, ?_⟩) hHeld ?_ ?_
               rotate_left
               ·rintro w' ⟨s0, s1, s2, s3, s4, s5⟩
                go_simp
                with_reducible rfl
               rotate_left
               ·simp only [Act.put, List.setIfInBounds_toArray, List.set_cons_zero, List.set_cons_succ, i64_w, i32_w]
                rfl
               refine take_ (i := 10) (N := some 48) (v := ?_) (a' := ?_) #[true, true, true, true, true, true, true, true, true, true, true, false, false] rfl rfl (take_ofW HT_.out HW_.out (by kernel_rfl)) (fun _ _ _ h => h) (Or.inl ⟨by rfl, ?_⟩) hHeld ?_ ?_
               rotate_left
               ·rintro w' ⟨s0, s1, s2, s3, s4, s5⟩
                go_simp
                with_reducible rfl
               rotate_left
               ·simp only [Act.put, List.setIfInBounds_toArray, List.set_cons_zero, List.set_cons_succ, i64_w, i32_w]
                rfl
               refine one_ (i := 11) (N := some 49) #[true, true, true, true, true, true, true, true, true, true, true, true, false] rfl rfl (one_of HT_.out (by kernel_rfl)) (by decide) (fun K hK => ?_)
               refine goes_ Try.func78 (by kernel_rfl) rfl #[.slice (some ad224) l0.length c0, .int .i64 ((rd_T46 t227 x5_2).f1), .int .i64 ((rd_T46 t227 x5_2).f2)] (by rfl) rfl rfl (by (try simp only [List.map_toArray, List.map_cons, List.map_nil]); first | done | rfl | (simp only [List.length_drop, List.length_take]; rfl)) ?_
               with_reducible refine (ref06_Writer.calls k2 _ _ l0 ((rd_T46 t227 x5_2).f1) ((rd_T46 t227 x5_2).f2) t233 _ ?side1 ?side2 A13.out).mono ?_
               (case side1 => repeat (first | exact (Kd.C_below HR0.out HB.out) | (with_reducible refine Kd.C_alloc ?_ _) | (with_reducible refine Kd.C_drewN ?_ _) | (with_reducible refine Kd.C_drew ?_)))
               (case side2 => exact HC0.out)
               rintro e w30 ⟨rfl, hb⟩
               have HS0_ := (hb.cell (World.block_lt_of_cell? _ _ (hHeld.1))).trans (hHeld.1)
               have HS1_ := (hb.cell (World.block_lt_of_cell? _ _ (hHeld.2.1))).trans (hHeld.2.1)
               have HS2_ := (hb.cell (World.block_lt_of_cell? _ _ (hHeld.2.2.1))).trans (hHeld.2.2.1)
               have HS3_ := (hb.cell (World.block_lt_of_cell? _ _ (hHeld.2.2.2.1))).trans (hHeld.2.2.2.1)
               have HS4_ := (hb.cell (World.block_lt_of_cell? _ _ (hHeld.2.2.2.2.1))).trans (hHeld.2.2.2.2.1)
               have HS5_ := (hb.cell (World.block_lt_of_cell? _ _ (hHeld.2.2.2.2.2))).trans (hHeld.2.2.2.2.2)
               refine ⟨_, rfl, ?_⟩
               have n0_ := Aside0.mk (Kd.R_below (by (with_reducible repeat (first | apply Kd.R_alloc | apply Kd.R_drewN | apply Kd.R_drew)); exact HO_4.out) hb)
               have n1_ := Aside0.mk (below_step (by repeat (first | (with_reducible first | exact HB.out | apply below_alloc | apply pw_below_drewN | apply below_drew1))) hb)
               clear HO_4
               clear HB
               have HO_4 := n0_
               have HB := n1_
               clear n0_ n1_
               (try clear hb)
               (try clear hb2)
               (try clear hk)
               (try clear hi)
               refine hK.out _ _ ⟨HS0_, HS1_, HS2_, HS3_, HS4_, HS5_⟩ (fun hHeld => ?_)
               clear hK K
               refine norm_ (a' := ?_) ?_ ?_
               rotate_left
               ·show Act.put _ (some 49) _ = _
                simp only [Act.put, List.setIfInBounds_toArray, List.set_cons_zero, List.set_cons_succ, i64_w, i32_w]
                rfl
               refine pure_ (i := 12) (N := some 6) (v := ?_) (a' := ?_) #[true, true, true, true, true, true, true, true, true, true, true, true, true] rfl rfl (any_of HT_.out (by kernel_rfl)) (fun _ _ _ h => h) (Or.inl ⟨by rfl, ?_⟩) ?_ ?_
               rotate_left
               ·intro w'
                go_simp
                with_reducible rfl
               rotate_left
               ·simp only [Act.put, List.setIfInBounds_toArray, List.set_cons_zero, List.set_cons_succ, i64_w, i32_w]
                rfl
               refine done_ (done_of HT_.out (by kernel_rfl)) ?_
               try go_wp2
               have n0_ := Aside0.mk (Kd.R_drew HO_4.out)
               have n1_ := Aside0.mk (below_drew1 HB.out)
               clear HO_4
               clear HB
               have HO_4 := n0_
               have HB := n1_
               clear n0_ n1_
               have p234 : 0 ≤ (t233 : Int) := of_decide_eq_true (by assumption)
               have q234 : t233 < (l0.length : Int) := of_decide_eq_true (by assumption)
               obtain ⟨ad234, A234_3, c234_3, e234, hx234_0, hx234_1, hx234_2, hx234_3, hl234_3, hi234_3⟩ := at_T44 HR0.out t233 p234 q234
               have hw234_3 := hx234_3
               have hw234_2 := hx234_2
               have hw234_1 := hx234_1
               have hw234_0 := hx234_0
               obtain rfl : ad224 = ad234 := (by injection e234)
               replace hx234_0 := (HB.out.cell (World.block_lt_of_cell? w _ hx234_0)).trans hx234_0
               replace hx234_1 := (HB.out.cell (World.block_lt_of_cell? w _ hx234_1)).trans hx234_1
               replace hx234_2 := (HB.out.cell (World.block_lt_of_cell? w _ hx234_2)).trans hx234_2
               replace hx234_3 := (HB.out.cell (World.block_lt_of_cell? w _ hx234_3)).trans hx234_3
               have HR234_3 := Aside0.mk hi234_3
               have HC234_3 := Aside0.mk hl234_3
               clear hi234_3 hl234_3
               replace p234 := eq_true p234
               replace q234 := eq_true q234
               have p235 : 0 ≤ (x5_2 : Int) := of_decide_eq_true (by assumption)
               have q235 : x5_2 < (t227.length : Int) := of_decide_eq_true (by assumption)
               obtain ⟨ad235, e235, hx235_0, hx235_1, hx235_2⟩ := at_T46 (Kd.R_reads' HO_4.out).2.2 x5_2 p235 q235
               obtain rfl : ad230 = ad235 := (by injection e235)
               replace p235 := eq_true p235
               replace q235 := eq_true q235
               have p236 : 0 ≤ (x5_2 : Int) := of_decide_eq_true (by assumption)
               have q236 : x5_2 < (t227.length : Int) := of_decide_eq_true (by assumption)
               obtain ⟨ad236, e236, hx236_0, hx236_1, hx236_2⟩ := at_T46 (Kd.R_reads' HO_4.out).2.2 x5_2 p236 q236
               obtain rfl : ad230 = ad236 := (by injection e236)
               replace p236 := eq_true p236
               replace q236 := eq_true q236
               refine start_ (n := 21) (S := fun w' => w'.cell? (ad224.add ((t233).toNat * 4)) = some (.int .i64 ((rd_T44 l0 t233).f0)) ∧ w'.cell? ⟨(ad224.add ((t233).toNat * 4)).block, (ad224.add ((t233).toNat * 4)).off + 1, none⟩ = some (.int .i64 ((rd_T44 l0 t233).f1)) ∧ w'.cell? ⟨(ad224.add ((t233).toNat * 4)).block, (ad224.add ((t233).toNat * 4)).off + 2, none⟩ = some (.int .i64 ((rd_T44 l0 t233).f2)) ∧ w'.cell? ⟨(ad224.add ((t233).toNat * 4)).block, (ad224.add ((t233).toNat * 4)).off + 3, none⟩ = some (.slice A234_3 ((rd_T44 l0 t233).f3).length c234_3) ∧ w'.cell? (ad230.add ((x5_2).toNat * 3)) = some (.bool ((rd_T46 t227 x5_2).f0)) ∧ w'.cell? ⟨(ad230.add ((x5_2).toNat * 3)).block, (ad230.add ((x5_2).toNat * 3)).off + 1, none⟩ = some (.int .i64 ((rd_T46 t227 x5_2).f1)) ∧ w'.cell? ⟨(ad230.add ((x5_2).toNat * 3)).block, (ad230.add ((x5_2).toNat * 3)).off + 2, none⟩ = some (.int .i64 ((rd_T46 t227 x5_2).f2)) ∧ w'.cell? (ad230.add ((x5_2).toNat * 3)) = some (.bool ((rd_T46 t227 x5_2).f0)) ∧ w'.cell? ⟨(ad230.add ((x5_2).toNat * 3)).block, (ad230.add ((x5_2).toNat * 3)).off + 1, none⟩ = some (.int .i64 ((rd_T46 t227 x5_2).f1)) ∧ w'.cell? ⟨(ad230.add ((x5_2).toNat * 3)).block, (ad230.add ((x5_2).toNat * 3)).off + 2, none⟩ = some (.int .i64 ((rd_T46 t227 x5_2).f2))) (ds := []) #[false, false, false, false, false, false, false, false, false, false, false, false, false, false, false, false, false, false, false, false, false] (by kernel_rfl) rfl rfl ⟨((HB.out.cell (World.block_lt_of_cell? w _ hw234_0)).trans hw234_0), ((HB.out.cell (World.block_lt_of_cell? w _ hw234_1)).trans hw234_1), ((HB.out.cell (World.block_lt_of_cell? w _ hw234_2)).trans hw234_2), ((HB.out.cell (World.block_lt_of_cell? w _ hw234_3)).trans hw234_3), hx235_0, hx235_1, hx235_2, hx236_0, hx236_1, hx236_2⟩ (fun hHeld => ?_); refine with_tabW ref08_Sound.tab12 ref08_Sound.bits12 (fun HT_ HW_ => ?_)
               generalize w30.drew = w31 at HO_4 HB HR234_3 hx234_0 hx234_1 hx234_2 hx234_3 hx235_0 hx235_1 hx235_2 hx236_0 hx236_1 hx236_2 hHeld ⊢
               refine pure_ (i := 0) (N := some 50) (v := ?_) (a' := ?_) #[true, false, false, false, false, false, false, false, false, false, false, false, false, false, false, false, false, false, false, false, false] rfl rfl (any_of HT_.out (by kernel_rfl)) (fun _ _ _ h => h) (Or.inl ⟨by rfl, ?_⟩) ?_ ?_
               rotate_left
               ·intro w'
                go_simp
                with_reducible rfl
               rotate_left
               ·simp only [Act.put, List.setIfInBounds_toArray, List.set_cons_zero, List.set_cons_succ, i64_w, i32_w]
                rfl
               refine pure_ (i := 1) (N := some 51) (v := ?_) (a' := ?_) #[true, true, false, false, false, false, false, false, false, false, false, false, false, false, false, false, false, false, false, false, false] rfl rfl (any_of HT_.out (by kernel_rfl)) (fun _ _ _ h => h) (Or.inl ⟨by rfl, ?_⟩) ?_ ?_
               rotate_left
               ·intro w'
                go_simp
                with_reducible rfl
               rotate_left
               ·simp only [Act.put, List.setIfInBounds_toArray, List.set_cons_zero, List.set_cons_succ, i64_w, i32_w]
                rfl
               refine pure_ (i := 2) (N := some 52) (v := ?_) (a' := ?_) #[true, true, true, false, false, false, false, false, false, false, false, false, false, false, false, false, false, false, false, false, false] rfl rfl (any_of HT_.out (by kernel_rfl)) (fun _ _ _ h => h) (Or.inl ⟨by rfl, ?_⟩) ?_ ?_
               rotate_left
               ·intro w'
                go_simp
                with_reducible rfl
               rotate_left
               ·simp only [Act.put, List.setIfInBounds_toArray, List.set_cons_zero, List.set_cons_succ, i64_w, i32_w]
                rfl
               refine pure_ (i := 3) (N := some 53) (v := ?_) (a' := ?_) #[true, true, true, true, false, false, false, false, false, false, false, false, false, false, false, false, false, false, false, false, false] rfl rfl (any_of HT_.out (by kernel_rfl)) (fun _ _ _ h => h) (Or.inl ⟨by rfl, ?_⟩) ?_ ?_
               rotate_left
               ·intro w'
                go_simp
                with_reducible rfl
               rotate_left
               ·simp only [Act.put, List.setIfInBounds_toArray, List.set_cons_zero, List.set_cons_succ, i64_w, i32_w]
                rfl
               refine pure_ (i := 4) (N := some 54) (v := ?_) (a' := ?_) #[true, true, true, true, true, false, false, false, false, false, false, false, false, false, false, false, false, false, false, false, false] rfl rfl (any_of HT_.out (by kernel_rfl)) (fun _ _ _ h => h) (Or.inl ⟨by rfl, ?_⟩) ?_ ?_
               rotate_left
               ·intro w'
                go_simp
                with_reducible rfl
               rotate_left
               ·simp only [Act.put, List.setIfInBounds_toArray, List.set_cons_zero, List.set_cons_succ, i64_w, i32_w]
                rfl
               refine pure_ (i := 5) (N := some 55) (v := ?_) (a' := ?_) #[true, true, true, true, true, true, false, false, false, false, false, false, false, false, false, false, false, false, false, false, false] rfl rfl (any_of HT_.out (by kernel_rfl)) (fun _ _ _ h => h) (Or.inl ⟨by rfl, ?_⟩) ?_ ?_
               rotate_left
               ·intro w'
                go_simp
                with_reducible rfl
               rotate_left
               ·simp only [Act.put, List.setIfInBounds_toArray, List.set_cons_zero, List.set_cons_succ, i64_w, i32_w]
                rfl
               refine pure_ (i := 6) (N := some 56) (v := ?_) (a' := ?_) #[true, true, true, true, true, true, true, false, false, false, false, false, false, false, false, false, false, false, false, false, false] rfl rfl (any_of HT_.out (by kernel_rfl)) (fun _ _ _ h => h) (Or.inl ⟨by rfl, ?_⟩) ?_ ?_
               rotate_left
               ·intro w'
                go_simp
                with_reducible rfl
               rotate_left
               ·simp only [Act.put, List.setIfInBounds_toArray, List.set_cons_zero, List.set_cons_succ, i64_w, i32_w]
                rfl
               refine pure_ (i := 8) (N := some 58) (v := ?_) (a' := ?_) #[true, true, true, true, true, true, true, false, true, false, false, false, false, false, false, false, false, false, false, false, false] rfl rfl (any_of HT_.out (by kernel_rfl)) (fun _ _ _ h => h) (Or.inl ⟨by rfl, ?_⟩) ?_ ?_
               rotate_left
               ·intro w'
                go_simp
                with_reducible rfl
               rotate_left
               ·simp only [Act.put, List.setIfInBounds_toArray, List.set_cons_zero, List.set_cons_succ, i64_w, i32_w]
                rfl
               refine pure_ (i := 9) (N := some 59) (v := ?_) (a' := ?_) #[true, true, true, true, true, true, true, false, true, true, false, false, false, false, false, false, false, false, false, false, false] rfl rfl (any_of HT_.out (by kernel_rfl)) (fun _ _ _ h => h) (Or.inl ⟨by rfl, ?_⟩) ?_ ?_
               rotate_left
               ·intro w'
                go_simp
                with_reducible rfl
               rotate_left
               ·simp only [Act.put, List.setIfInBounds_toArray, List.set_cons_zero, List.set_cons_succ, i64_w, i32_w]
                rfl
               refine pure_ (i := 10) (N := some 60) (v := ?_) (a' := ?_) #[true, true, true, true, true, true, true, false, true, true, true, false, false, false, false, false, false, false, false, false, false] rfl rfl (any_of HT_.out (by kernel_rfl)) (fun _ _ _ h => h) (Or.inl ⟨by rfl, ?_⟩) ?_ ?_
               rotate_left
               ·intro w'
                go_simp
                with_reducible rfl
               rotate_left
               ·simp only [Act.put, List.setIfInBounds_toArray, List.set_cons_zero, List.set_cons_succ, i64_w, i32_w]
                rfl
               refine pure_ (i := 11) (N := some 61) (v := ?_) (a' := ?_) #[true, true, true, true, true, true, true, false, true, true, true, true, false, false, false, false, false, false, false, false, false] rfl rfl (any_of HT_.out (by kernel_rfl)) (fun _ _ _ h => h) (Or.inl ⟨by rfl, ?_⟩) ?_ ?_
               rotate_left
               ·intro w'
                go_simp
                with_reducible rfl
               rotate_left
               ·simp only [Act.put, List.setIfInBounds_toArray, List.set_cons_zero, List.set_cons_succ, i64_w, i32_w]
                rfl
               refine pure_ (i := 13) (N := some 63) (v := ?_) (a' := ?_) #[true, true, true, true, true, true, true, false, true, true, true, true, false, true, false, false, false, false, false, false, false] rfl rfl (any_of HT_.out (by kernel_rfl)) (fun _ _ _ h => h) (Or.inl ⟨by rfl, ?_⟩) ?_ ?_
               rotate_left
               ·intro w'
                go_simp
                with_reducible rfl
               rotate_left
               ·simp only [Act.put, List.setIfInBounds_toArray, List.set_cons_zero, List.set_cons_succ, i64_w, i32_w]
                rfl
               refine pure_ (i := 14) (N := some 64) (v := ?_) (a' := ?_) #[true, true, true, true, true, true, true, false, true, true, true, true, false, true, true, false, false, false, false, false, false] rfl rfl (any_of HT_.out (by kernel_rfl)) (fun _ _ _ h => h) (Or.inl ⟨by rfl, ?_⟩) ?_ ?_
               rotate_left
               ·intro w'
                go_simp
                with_reducible rfl
               rotate_left
               ·simp only [Act.put, List.setIfInBounds_toArray, List.set_cons_zero, List.set_cons_succ, i64_w, i32_w]
                rfl
               refine pure_ (i := 15) (N := some 65) (v := ?_) (a' := ?_) #[true, true, true, true, true, true, true, false, true, true, true, true, false, true, true, true, false, false, false, false, false] rfl rfl (any_of HT_.out (by kernel_rfl)) (fun _ _ _ h => h) (Or.inl ⟨by rfl, ?_⟩) ?_ ?_
               rotate_left
               ·intro w'
                go_simp
                with_reducible rfl
               rotate_left
               ·simp only [Act.put, List.setIfInBounds_toArray, List.set_cons_zero, List.set_cons_succ, i64_w, i32_w]
                rfl
               refine pure_ (i := 16) (N := some 66) (v := ?_) (a' := ?_) #[true, true, true, true, true, true, true, false, true, true, true, true, false, true, true, true, true, false, false, false, false] rfl rfl (any_of HT_.out (by kernel_rfl)) (fun _ _ _ h => h) (Or.inl ⟨by rfl, ?_⟩) ?_ ?_
               rotate_left
               ·intro w'
                go_simp
                with_reducible rfl
               rotate_left
               ·simp only [Act.put, List.setIfInBounds_toArray, List.set_cons_zero, List.set_cons_succ, i64_w, i32_w]
                rfl
               refine take_ (i := 7) (N := some 57) (v := ?_) (a' := ?_) #[true, true, true, true, true, true, true, true, true, true, true, true, false, true, true, true, true, false, false, false, false] rfl rfl (take_ofW HT_.out HW_.out (by kernel_rfl)) (fun _ _ _ h => h) (Or.inl ⟨by rfl, ?_⟩) hHeld ?_ ?_
               rotate_left
               ·rintro w' ⟨s0, s1, s2, s3, s4, s5, s6, s7, s8, s9⟩
                go_simp
                with_reducible rfl
               rotate_left
               ·simp only [Act.put, List.setIfInBounds_toArray, List.set_cons_zero, List.set_cons_succ, i64_w, i32_w]
                rfl
               refine take_ (i := 12) (N := some 62) (v := ?_) (a' := ?_) #[true, true, true, true, true, true, true, true, true, true, true, true, true, true, true, true, true, false, false, false, false] rfl rfl (take_ofW HT_.out HW_.out (by kernel_rfl)) (fun _ _ _ h => h) (Or.inl ⟨by rfl, ?_⟩) hHeld ?_ ?_
               rotate_left
               ·rintro w' ⟨s0, s1, s2, s3, s4, s5, s6, s7, s8, s9⟩
                go_simp
                with_reducible rfl
               rotate_left
               ·simp only [Act.put, List.setIfInBounds_toArray, List.set_cons_zero, List.set_cons_succ, i64_w, i32_w]
                rfl
               refine take_ (i := 17) (N := some 67) (v := ?_) (a' := ?_) #[true, true, true, true, true, true, true, true, true, true, true, true, true, true, true, true, true, true, false, false, false] rfl rfl (take_ofW HT_.out HW_.out (by kernel_rfl)) (fun _ _ _ h => h) (Or.inl ⟨by rfl, ?_⟩) hHeld ?_ ?_
               rotate_left
               ·rintro w' ⟨s0, s1, s2, s3, s4, s5, s6, s7, s8, s9⟩
                go_simp
                with_reducible rfl
               rotate_left
               ·simp only [Act.put, List.setIfInBounds_toArray, List.set_cons_zero, List.set_cons_succ, i64_w, i32_w]
                rfl
               refine one_ (i := 18) (N := some 68) #[true, true, true, true, true, true, true, true, true, true, true, true, true, true, true, true, true, true, true, false, false] rfl rfl (one_of HT_.out (by kernel_rfl)) (by decide) (fun K hK => ?_)
               refine goes_ Try.func29 (by kernel_rfl) rfl #[.agg #[.int .i64 ((rd_T44 l0 t233).f0), .int .i64 ((rd_T44 l0 t233).f1), .int .i64 ((rd_T44 l0 t233).f2), .slice A234_3 ((rd_T44 l0 t233).f3).length c234_3], .int .i64 ((rd_T46 t227 x5_2).f1), .int .i64 ((rd_T46 t227 x5_2).f2)] (by rfl) rfl rfl (by (try simp only [List.map_toArray, List.map_cons, List.map_nil]); first | done | rfl | (simp only [List.length_drop, List.length_take]; rfl)) ?_
               with_reducible refine (ref06_Last.calls k2 ((rd_T44 l0 t233).f0) ((rd_T44 l0 t233).f1) ((rd_T44 l0 t233).f2) _ _ ((rd_T44 l0 t233).f3) ((rd_T46 t227 x5_2).f1) ((rd_T46 t227 x5_2).f2) false _ ?side1 ?side2 A21.out).mono ?_
               (case side1 => repeat (first | exact (Kd.C_below HR234_3.out HB.out) | (with_reducible refine Kd.C_alloc ?_ _) | (with_reducible refine Kd.C_drewN ?_ _) | (with_reducible refine Kd.C_drew ?_)))
               (case side2 => exact HC234_3.out)
               rintro e w32 ⟨rfl, hb⟩
               have HS4_ := (hb.cell (World.block_lt_of_cell? _ _ (hHeld.2.2.2.2.1))).trans (hHeld.2.2.2.2.1)
               have HS5_ := (hb.cell (World.block_lt_of_cell? _ _ (hHeld.2.2.2.2.2.1))).trans (hHeld.2.2.2.2.2.1)
               have HS6_ := (hb.cell (World.block_lt_of_cell? _ _ (hHeld.2.2.2.2.2.2.1))).trans (hHeld.2.2.2.2.2.2.1)
               have HS7_ := (hb.cell (World.block_lt_of_cell? _ _ (hHeld.2.2.2.2.2.2.2.1))).trans (hHeld.2.2.2.2.2.2.2.1)
               have HS8_ := (hb.cell (World.block_lt_of_cell? _ _ (hHeld.2.2.2.2.2.2.2.2.1))).trans (hHeld.2.2.2.2.2.2.2.2.1)
               have HS9_ := (hb.cell (World.block_lt_of_cell? _ _ (hHeld.2.2.2.2.2.2.2.2.2))).trans (hHeld.2.2.2.2.2.2.2.2.2)
               refine ⟨_, rfl, ?_⟩
               have n0_ := Aside0.mk (Kd.R_below (by (with_reducible repeat (first | apply Kd.R_alloc | apply Kd.R_drewN | apply Kd.R_drew)); exact HO_4.out) hb)
               have n1_ := Aside0.mk (below_step (by repeat (first | (with_reducible first | exact HB.out | apply below_alloc | apply pw_below_drewN | apply below_drew1))) hb)
               clear HO_4
               clear HB
               have HO_4 := n0_
               have HB := n1_
               clear n0_ n1_
               (try clear hb)
               (try clear hb2)
               (try clear hk)
               (try clear hi)
               refine hK.out _ _ ⟨((HB.out.cell (World.block_lt_of_cell? w _ hw234_0)).trans hw234_0), ((HB.out.cell (World.block_lt_of_cell? w _ hw234_1)).trans hw234_1), ((HB.out.cell (World.block_lt_of_cell? w _ hw234_2)).trans hw234_2), ((HB.out.cell (World.block_lt_of_cell? w _ hw234_3)).trans hw234_3), HS4_, HS5_, HS6_, HS7_, HS8_, HS9_⟩ (fun hHeld => ?_)
               clear hK K
               refine norm_ (a' := ?_) ?_ ?_
               rotate_left
               ·show Act.put _ (some 68) _ = _
                simp only [Act.put, List.setIfInBounds_toArray, List.set_cons_zero, List.set_cons_succ, i64_w, i32_w]
                rfl
               refine pure_ (i := 19) (N := some 69) (v := ?_) (a' := ?_) #[true, true, true, true, true, true, true, true, true, true, true, true, true, true, true, true, true, true, true, true, false] rfl rfl (any_of HT_.out (by kernel_rfl)) (fun _ _ _ h => h) (Or.inl ⟨by rfl, ?_⟩) ?_ ?_
               rotate_left
               ·intro w'
                go_simp
                with_reducible rfl
               rotate_left
               ·simp only [Act.put, List.setIfInBounds_toArray, List.set_cons_zero, List.set_cons_succ, i64_w, i32_w]
                rfl
               refine pure_ (i := 20) (N := some 70) (v := ?_) (a' := ?_) #[true, true, true, true, true, true, true, true, true, true, true, true, true, true, true, true, true, true, true, true, true] rfl rfl (any_of HT_.out (by kernel_rfl)) (fun _ _ _ h => h) (Or.inl ⟨by rfl, ?_⟩) ?_ ?_
               rotate_left
               ·intro w'
                go_simp
                with_reducible rfl
               rotate_left
               ·simp only [Act.put, List.setIfInBounds_toArray, List.set_cons_zero, List.set_cons_succ, i64_w, i32_w]
                rfl
               refine done_ (done_of HT_.out (by kernel_rfl)) ?_
               try go_wp2
               go_ret
               exact ⟨by first | rfl | (simp <;> rfl) | (simp [*] <;> rfl), by repeat (first | (with_reducible first | exact HB.out | apply below_alloc | apply pw_below_drewN | apply below_drew1))⟩
             ·rw [if_neg c20] at H
              exact absurd H (by simp)
            ·rw [if_neg c19] at H
             exact absurd H (by simp)
         ·rw [if_neg c10] at H
          exact absurd H (by simp)
        ·rw [if_neg c9] at H
         have c9b0 : decide (x5_2 < (t227.length : Int)) = false := decide_eq_false c9
         clear c9
         have H' := Aside0.mk H
         clear H
         obtain ⟨Ao33, co33, eo33⟩ := Kd.R_slice HO_4.out
         subst eo33
         go_wp2
         go_roundg k2
         case measure => have := HK1.out; have := HK2.out; omega
         case rel => exact ⟨(wrap64 (x3_1 + 1)), (by first | rfl | (simp; done) | (simp [*]; done)), H', ⟨by have := HK1.out; have := HK2.out; omega⟩, ⟨by repeat (first | (with_reducible first | exact HB.out | apply below_alloc | apply pw_below_drewN | apply below_drew1))⟩⟩
     ·replace c5 := Bool.eq_false_iff.mpr c5
      subst c5
      have H1 : (some false) = some r := by rw [if_neg (show ¬ (false = true) by decide)] at H; exact H
      clear H
      have H := H1
      clear H1
      obtain rfl := Option.some.inj H
      have p224 : 0 ≤ (x3_1 : Int) := of_decide_eq_true (by assumption)
      have q224 : x3_1 < (l0.length : Int) := of_decide_eq_true (by assumption)
      obtain ⟨ad224, A224_3, c224_3, e224, hx224_0, hx224_1, hx224_2, hx224_3, hl224_3, hi224_3⟩ := at_T44 HR0.out x3_1 p224 q224
      cases e224
      replace hx224_0 := (HB.out.cell (World.block_lt_of_cell? w _ hx224_0)).trans hx224_0
      replace hx224_1 := (HB.out.cell (World.block_lt_of_cell? w _ hx224_1)).trans hx224_1
      replace hx224_2 := (HB.out.cell (World.block_lt_of_cell? w _ hx224_2)).trans hx224_2
      replace hx224_3 := (HB.out.cell (World.block_lt_of_cell? w _ hx224_3)).trans hx224_3
      have HR224_3 := Aside0.mk hi224_3
      have HC224_3 := Aside0.mk hl224_3
      clear hi224_3 hl224_3
      replace p224 := eq_true p224
      replace q224 := eq_true q224
      go_wp2_with (first | ((with_reducible refine gate_callee (f := 76) rfl ?_); refine goesL_ (some 18) rfl rfl Try.func76 (by kernel_rfl) rfl #[.slice A224_3 ((rd_T44 l0 x3_1).f3).length c224_3] rfl (by (try simp only [List.map_toArray, List.map_cons, List.map_nil]); first | done | rfl | (simp only [List.length_drop, List.length_take]; rfl)) ?_; (with_reducible refine (ref05_Steady.calls k1 _ _ ((rd_T44 l0 x3_1).f3) false _ ?side1 ?side2 A4.out).mono ?_); (case side1 => repeat (first | exact (Kd.C_below HR224_3.out HB.out) | (with_reducible refine Kd.C_alloc ?_ _) | (with_reducible refine Kd.C_drewN ?_ _) | (with_reducible refine Kd.C_drew ?_))); (case side2 => exact HC224_3.out); rintro e w34 ⟨rfl, hb⟩; refine ⟨_, rfl, ?_⟩; have n0_ := Aside0.mk (below_step (by repeat (first | (with_reducible first | exact HB.out | apply below_alloc | apply pw_below_drewN | apply below_drew1))) hb); clear HB; have HB := n0_; clear n0_; (try clear hb); (try clear hb2); (try clear hk); (try clear hi)))
      go_ret
      exact ⟨by first | rfl | (simp <;> rfl) | (simp [*] <;> rfl), by repeat (first | (with_reducible first | exact HB.out | apply below_alloc | apply pw_below_drewN | apply below_drew1))⟩
    ·rw [if_neg c3] at H
     exact absurd H (by simp)
   ·rw [if_neg c2] at H
    have c2b0 : decide (x3_1 < (l0.length : Int)) = false := decide_eq_false c2
    clear c2
    obtain rfl := Option.some.inj H
    go_wp2
    go_ret
    exact ⟨by first | rfl | (simp <;> rfl) | (simp [*] <;> rfl), by repeat (first | (with_reducible first | exact HB.out | apply below_alloc | apply pw_below_drewN | apply below_drew1))⟩
end Go.Proofs.Ytfocaefnmfkojaa.Q
