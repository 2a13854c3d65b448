/- A part of the proof of catalogueSound_holds: words and contracts that its last text uses. -/
import Derived.Test.YtfocaefnmfkojaaCCatalogueSound4
namespace Go.Proofs.Ytfocaefnmfkojaa.Q
open Go.RowKit Go.Proofs.YtfocaefnmfkojaaW.PrintWords Go.Proofs.YtfocaefnmfkojaaW.PrintLast Go.Proofs.YtfocaefnmfkojaaW.PrintMore
attribute [local go_sem] max2_int min2_int max_two min_two max_three min_three max_four min_four   -- for this text's walks alone
set_option linter.unusedVariables false
set_option linter.unusedSimpArgs false
def ref13_without.f (l0 : List Int) (a1 : Int) : Option (List Int) := (some (([] : List Int) : List Int)).bind fun y101 => (if 0 ≤ a1 then (if a1 ≤ (l0.length : Int) then (if y101.length + (l0.take (a1 : Int).toNat).length < 17592186044416 then ((some (y101 ++ (l0.take (a1 : Int).toNat) : List Int)).bind fun y105 => (if 0 ≤ (wrap64 (a1 + 1)) then (if (wrap64 (a1 + 1)) ≤ (l0.length : Int) then (if y105.length + (l0.drop ((wrap64 (a1 + 1)) : Int).toNat).length < 17592186044416 then (some (y105 ++ (l0.drop ((wrap64 (a1 + 1)) : Int).toNat))) else (none)) else (none)) else (none))) else (none)) else (none)) else (none))
def ref13_without.T1 : Bool × List (List Nat × List Nat) := (true, [([], []), ([], []), ([], []), ([1, 2], [1, 2]), ([0, 3], [0, 3]), ([], []), ([], []), ([6], [6]), ([5, 7], [5, 7]), ([4, 8, 4], [4, 8]), ([9, 9, 0, 1, 2, 3, 4, 5, 6, 7, 8, 9], [9])])
def ref13_without.B1 : List Nat := [0, 0, 0, 6, 15, 0, 0, 64, 224, 511, 1023]
theorem ref13_without.tab1 : rtab .any (opsOf Try.f93 1) = ref13_without.T1 := by kernel_rfl
theorem ref13_without.bits1 : waitsOk ref13_without.T1.2 ref13_without.B1 = true := by kernel_rfl
set_option maxHeartbeats 8000000 in
set_option maxRecDepth 100000 in
theorem ref13_without.calls (A0 : Option Addr) (c0 : Nat) (l0 : List Int) (a1 : Int) (r : List Int) (w : World) (hr0 : Kd.C (Kd.int .i64) w A0 l0.length l0) (hc0 : l0.length ≤ c0) (h : ref13_without.f l0 a1 = some r) :
  Calls Try.prog 93 #[.slice A0 l0.length c0, .int .i64 a1] w fun e w' => ∃ v0_ : Value, e = .returned (v0_) ∧ Kd.R (Kd.int .i64) 3 w' w.heap.size (fun _ => True) v0_ r ∧ Below w.heap.size w w' := by
 have HR0 := Aside0.mk hr0
 have HC0 := Aside0.mk hc0
 clear hr0 hc0
 have HB := Aside0.mk (Below.refl w.heap.size w)
 have H : ((some (([] : List Int) : List Int)).bind fun y101 => (if 0 ≤ a1 then (if a1 ≤ (l0.length : Int) then (if y101.length + (l0.take (a1 : Int).toNat).length < 17592186044416 then ((some (y101 ++ (l0.take (a1 : Int).toNat) : List Int)).bind fun y105 => (if 0 ≤ (wrap64 (a1 + 1)) then (if (wrap64 (a1 + 1)) ≤ (l0.length : Int) then (if y105.length + (l0.drop ((wrap64 (a1 + 1)) : Int).toNat).length < 17592186044416 then (some (y105 ++ (l0.drop ((wrap64 (a1 + 1)) : Int).toNat))) else (none)) else (none)) else (none))) else (none)) else (none)) else (none))) = some r := h
 clear h
 obtain ⟨y101, hy101⟩ : ∃ y_ : List Int, y_ = (([] : List Int)) := ⟨_, rfl⟩
 replace H : (if 0 ≤ a1 then (if a1 ≤ (l0.length : Int) then (if y101.length + (l0.take (a1 : Int).toNat).length < 17592186044416 then ((some (y101 ++ (l0.take (a1 : Int).toNat) : List Int)).bind fun y105 => (if 0 ≤ (wrap64 (a1 + 1)) then (if (wrap64 (a1 + 1)) ≤ (l0.length : Int) then (if y105.length + (l0.drop ((wrap64 (a1 + 1)) : Int).toNat).length < 17592186044416 then (some (y105 ++ (l0.drop ((wrap64 (a1 + 1)) : Int).toNat))) else (none)) else (none)) else (none))) else (none)) else (none)) else (none)) = some r := by first | (rw [hy101]; with_reducible exact H) | (have H2_ := (Option.bind_some _ _).symm.trans H; rw [hy101]; with_reducible exact H2_) | (have H2_ := (Option.bind_some _ _).symm.trans H; with_reducible exact H2_) | with_reducible exact H | (rw [hy101]; exact H) | exact H
 have Ny101 := Aside0.mk hy101
 clear hy101
 by_cases c3 : 0 ≤ a1
 ·rw [if_pos c3] at H
  have c3b0 := eq_true c3
  have c3b1 : decide (0 ≤ a1) = true := decide_eq_true c3
  clear c3
  by_cases c4 : a1 ≤ (l0.length : Int)
  ·rw [if_pos c4] at H
   have c4b0 := eq_true c4
   have c4b1 : decide (a1 ≤ (l0.length : Int)) = true := decide_eq_true c4
   clear c4
   by_cases c5 : y101.length + (l0.take (a1 : Int).toNat).length < 17592186044416
   ·rw [if_pos c5] at H
    have LMc5 := Aside0.mk c5
    clear c5
    obtain ⟨y105, hy105⟩ : ∃ y_ : List Int, y_ = (y101 ++ (l0.take (a1 : Int).toNat)) := ⟨_, rfl⟩
    replace H : (if 0 ≤ (wrap64 (a1 + 1)) then (if (wrap64 (a1 + 1)) ≤ (l0.length : Int) then (if y105.length + (l0.drop ((wrap64 (a1 + 1)) : Int).toNat).length < 17592186044416 then (some (y105 ++ (l0.drop ((wrap64 (a1 + 1)) : Int).toNat))) else (none)) else (none)) else (none)) = some r := by first | (rw [hy105]; with_reducible exact H) | (have H2_ := (Option.bind_some _ _).symm.trans H; rw [hy105]; with_reducible exact H2_) | (have H2_ := (Option.bind_some _ _).symm.trans H; with_reducible exact H2_) | with_reducible exact H | (rw [hy105]; exact H) | exact H
    have Ny105 := Aside0.mk hy105
    clear hy105
    obtain ⟨ji6, hji6⟩ : ∃ j_ : Int, (wrap64 (a1 + 1)) = j_ := ⟨_, rfl⟩
    replace H : (if 0 ≤ (ji6) then (if (ji6) ≤ (l0.length : Int) then (if y105.length + (l0.drop ((ji6) : Int).toNat).length < 17592186044416 then (some (y105 ++ (l0.drop ((ji6) : Int).toNat))) else (none)) else (none)) else (none)) = some r := by first | (rw [hji6] at H; exact H) | (simp only [hji6] at H ⊢; exact H)
    have hji6w : (IntKind.i64.wrap (a1 + 1)) = ji6 := (i64_w _).trans hji6
    by_cases c7 : 0 ≤ (ji6)
    ·rw [if_pos c7] at H
     have c7b0 := eq_true c7
     have c7b1 : decide (0 ≤ (ji6)) = true := decide_eq_true c7
     clear c7
     by_cases c8 : (ji6) ≤ (l0.length : Int)
     ·rw [if_pos c8] at H
      have c8b0 := eq_true c8
      have c8b1 : decide ((ji6) ≤ (l0.length : Int)) = true := decide_eq_true c8
      clear c8
      by_cases c9 : y105.length + (l0.drop ((ji6) : Int).toNat).length < 17592186044416
      ·rw [if_pos c9] at H
       have LMc9 := Aside0.mk c9
       clear c9
       obtain ⟨y109, hy109⟩ : ∃ y_ : List Int, y_ = (y105 ++ (l0.drop ((ji6) : Int).toNat)) := ⟨_, rfl⟩
       replace H : (some y109) = some r := by first | (rw [hy109]; with_reducible exact H) | (have H2_ := (Option.bind_some _ _).symm.trans H; rw [hy109]; with_reducible exact H2_) | (have H2_ := (Option.bind_some _ _).symm.trans H; with_reducible exact H2_) | with_reducible exact H | (rw [hy109]; exact H) | exact H
       have Ny109 := Aside0.mk hy109
       clear hy109
       obtain rfl := Option.some.inj H
       go_enter Try.func93, Try.ntmps93
       try go_wp2
       have n0_ := Aside0.mk (below_drew1 HB.out)
       clear HB
       have HB := n0_
       clear n0_
       obtain ⟨i011, hi011, _, hsz11, _⟩ := info_parts info3
       obtain ⟨hcut11, hA11, hC11⟩ := print_take_of (P := Try.prog) (Value.int .i64) 0 69 3 .i64 Try.underlying69 hi011 hsz11 A0 c0 l0 a1 (of_decide_eq_true (by assumption)) (of_decide_eq_true (by assumption)) HC0.out
       have HR104 := Aside0.mk (Kd.C_of_reads (h1 := fun _ => rfl) (hA11 _ (Kd.reads_of_C HR0.out)))
       have HC104 := Aside0.mk hC11
       clear hA11 hC11 hi011 hsz11
       obtain ⟨i012, hi012, _, hsz12, _⟩ := info_parts info3
       obtain ⟨A12, hcut12, hA12, hC12⟩ := print_drop_of (P := Try.prog) (Value.int .i64) 0 69 3 .i64 Try.underlying69 hi012 hsz12 A0 c0 l0 (ji6) (of_decide_eq_true (by assumption)) (of_decide_eq_true (by assumption)) HC0.out
       have HR108 := Aside0.mk (Kd.C_of_reads (h1 := fun _ => rfl) (hA12 _ (Kd.reads_of_C HR0.out)))
       have HC108 := Aside0.mk hC12
       clear hA12 hC12 hi012 hsz12
       refine start_ (n := 11) (S := fun w' => True) (ds := []) #[false, false, false, false, false, false, false, false, false, false, false] (by kernel_rfl) rfl rfl trivial (fun hHeld => ?_); refine with_tabW ref13_without.tab1 ref13_without.bits1 (fun HT_ HW_ => ?_)
       generalize w.drew = w10 at HB HR104 HR108 hHeld ⊢
       refine pure_ (i := 1) (N := some 6) (v := ?_) (a' := ?_) #[false, true, false, false, false, false, false, false, false, false, false] rfl rfl (any_of HT_.out (by kernel_rfl)) (fun _ _ _ h => h) (Or.inl ⟨by rfl, ?_⟩) ?_ ?_
       rotate_left
       ·intro w'
        go_simp
        with_reducible rfl
       rotate_left
       ·simp only [Act.put, List.setIfInBounds_toArray, List.set_cons_zero, List.set_cons_succ, i64_w, i32_w]
        rfl
       refine pure_ (i := 2) (N := some 7) (v := ?_) (a' := ?_) #[false, true, true, false, false, false, false, false, false, false, false] rfl rfl (any_of HT_.out (by kernel_rfl)) (fun _ _ _ h => h) (Or.inl ⟨by rfl, ?_⟩) ?_ ?_
       rotate_left
       ·intro w'
        go_simp
        with_reducible rfl
       rotate_left
       ·simp only [Act.put, List.setIfInBounds_toArray, List.set_cons_zero, List.set_cons_succ, i64_w, i32_w]
        rfl
       refine pure_ (i := 3) (N := some 8) (v := ?_) (a' := ?_) #[false, true, true, true, false, false, false, false, false, false, false] rfl rfl (any_of HT_.out (by kernel_rfl)) (fun _ _ _ h => h) (Or.inl ⟨by rfl, ?_⟩) ?_ ?_
       rotate_left
       ·intro w'
        go_simp
        with_reducible rfl
       rotate_left
       ·simp only [Act.put, List.setIfInBounds_toArray, List.set_cons_zero, List.set_cons_succ, i64_w, i32_w]
        rfl
       refine pure_ (i := 5) (N := some 10) (v := ?_) (a' := ?_) #[false, true, true, true, false, true, false, false, false, false, false] rfl rfl (any_of HT_.out (by kernel_rfl)) (fun _ _ _ h => h) (Or.inl ⟨by rfl, ?_⟩) ?_ ?_
       rotate_left
       ·intro w'
        go_simp
        with_reducible rfl
       rotate_left
       ·simp only [Act.put, List.setIfInBounds_toArray, List.set_cons_zero, List.set_cons_succ, i64_w, i32_w]
        rfl
       refine pure_ (i := 6) (N := some 11) (v := ?_) (a' := ?_) #[false, true, true, true, false, true, true, false, false, false, false] rfl rfl (any_of HT_.out (by kernel_rfl)) (fun _ _ _ h => h) (Or.inl ⟨by rfl, ?_⟩) ?_ ?_
       rotate_left
       ·intro w'
        go_simp
        with_reducible rfl
       rotate_left
       ·simp only [Act.put, List.setIfInBounds_toArray, List.set_cons_zero, List.set_cons_succ, i64_w, i32_w]
        rfl
       refine pure_ (i := 7) (N := some 12) (v := ?_) (a' := ?_) #[false, true, true, true, false, true, true, true, false, false, false] rfl rfl (any_of HT_.out (by kernel_rfl)) (fun _ _ _ h => h) (Or.inl ⟨by rfl, ?_⟩) ?_ ?_
       rotate_left
       ·intro w'
        go_simp
        with_reducible rfl
       rotate_left
       ·simp only [Act.put, List.setIfInBounds_toArray, List.set_cons_zero, List.set_cons_succ, i64_w, i32_w]
        rfl
       refine pure_ (i := 8) (N := some 13) (v := ?_) (a' := ?_) #[false, true, true, true, false, true, true, true, true, false, false] rfl rfl (any_of HT_.out (by kernel_rfl)) (fun _ _ _ h => h) (Or.inl ⟨by rfl, ?_⟩) ?_ ?_
       rotate_left
       ·intro w'
        go_simp
        with_reducible rfl
       rotate_left
       ·simp only [Act.put, List.setIfInBounds_toArray, List.set_cons_zero, List.set_cons_succ, i64_w, i32_w]
        rfl
       refine one_ (i := 0) (N := some 5) #[true, true, true, true, false, true, true, true, true, false, false] rfl rfl (one_of HT_.out (by kernel_rfl)) (by decide) (fun K hK => ?_)
       refine Kd.R_lit_step (Kd.int .i64) _ 3 ?hg (N := 5) ?hd (xs := ([] : List Int)) (inner := []) (ok := fun _ => True) (okp := fun _ => True) ?hr ?hp (fun _ hk => hk) trivial (Below.refl _ _) (Nat.le_refl _) (by simp) ?_; (case hd => rfl); (case hg => rfl); (case hr => first | (go_simp; done) | (go_simp; rfl)); (case hp => exact (Reps.none _ _))
       intro v102 w13 ho14 hb hg_ hnew_
       clear hg_ hnew_
       (first | rw [← Ny101.out] at ho14 | (simp only [Int.reduceToNat] at ho14; rw [← Ny101.out] at ho14))
       have n0_ := Aside0.mk (Kd.R_lower ho14 (below_size (by repeat (first | (with_reducible first | exact HB.out | apply below_alloc | apply pw_below_drewN | apply below_drew1)))))
       have n1_ := Aside0.mk (below_step (by repeat (first | (with_reducible first | exact HB.out | apply below_alloc | apply pw_below_drewN | apply below_drew1))) hb)
       clear HB
       have HO103 := n0_
       have HB := n1_
       clear n0_ n1_
       clear hb ho14
       refine hK.out _ _ trivial (fun hHeld => ?_)
       clear hK K
       refine norm_ (a' := ?_) ?_ ?_
       rotate_left
       ·show Act.put _ (some 5) _ = _
        simp only [Act.put, List.setIfInBounds_toArray, List.set_cons_zero, List.set_cons_succ, i64_w, i32_w]
        rfl
       refine one_ (i := 4) (N := some 9) #[true, true, true, true, true, true, true, true, true, false, false] rfl rfl (one_of HT_.out (by kernel_rfl)) (by decide) (fun K hK => ?_)
       refine Kd.R_append_rows_step (Kd.int .i64) (w0 := w) w.heap.size (by rfl) (.tmp 5) (.tmp 8) 69 3 (.int .i64 0) 8 rfl Try.underlying69 info3 rfl (by decide) (by omega) v102 y101 (l0.take (a1 : Int).toNat) _ _ _ (fun _ => True) (fun _ => False) rfl rfl ?aO ?aR (fun _ _ h => h) (fun _ h => h.elim) ?aF ?aB ?aS ?aL ?_
       (case aR => first | (have hq_ : (l0.take (a1 : Int).toNat).length = a1.toNat := (by rw [List.length_take]; have h_ : (a1 : Int) ≤ (l0.length : Int) := of_decide_eq_true (by assumption); omega); have hz_ := Kd.C_below HR104.out HB.out; rw [hq_] at hz_; exact hz_) | (rw [← show (l0.take (a1 : Int).toNat).length = a1.toNat from (by rw [List.length_take]; have h_ : (a1 : Int) ≤ (l0.length : Int) := of_decide_eq_true (by assumption); omega)]; repeat (first | exact (Kd.C_below HR104.out HB.out) | (with_reducible refine Kd.C_alloc ?_ _) | (with_reducible refine Kd.C_drewN ?_ _) | (with_reducible refine Kd.C_drew ?_))) | (repeat (first | exact (Kd.C_below HR104.out HB.out) | (with_reducible refine Kd.C_alloc ?_ _) | (with_reducible refine Kd.C_drewN ?_ _) | (with_reducible refine Kd.C_drew ?_))))
       (case aB => exact (by repeat (first | (with_reducible first | exact HB.out | apply below_alloc | apply pw_below_drewN | apply below_drew1))))
       (case aF => exact (fun _ _ => trivial))
       (case aO => exact (by (with_reducible repeat (first | apply Kd.R_alloc | apply Kd.R_drewN | apply Kd.R_drew)); exact HO103.out))
       (case aS => exact (below_size (by repeat (first | (with_reducible first | exact HB.out | apply below_alloc | apply pw_below_drewN | apply below_drew1)))))
       (case aL => have := LMc5.out; have hlx_ := (show (l0.take (a1 : Int).toNat).length = a1.toNat from (by rw [List.length_take]; have h_ : (a1 : Int) ≤ (l0.length : Int) := of_decide_eq_true (by assumption); omega)); omega)
       intro v106 w15 ho hb hg hat
       rw [← Ny105.out] at ho
       have n0_ := Aside0.mk (hb)
       have n1_ := Aside0.mk (ho)
       clear HB
       clear HO103
       have HB := n0_
       have HO107 := n1_
       clear n0_ n1_
       clear ho hb hg hat
       refine hK.out _ _ trivial (fun hHeld => ?_)
       clear hK K
       refine norm_ (a' := ?_) ?_ ?_
       rotate_left
       ·show Act.put _ (some 9) _ = _
        simp only [Act.put, List.setIfInBounds_toArray, List.set_cons_zero, List.set_cons_succ, i64_w, i32_w]
        rfl
       refine one_ (i := 9) (N := some 14) #[true, true, true, true, true, true, true, true, true, true, false] rfl rfl (one_of HT_.out (by kernel_rfl)) (by decide) (fun K hK => ?_)
       refine Kd.R_append_rows_step (Kd.int .i64) (w0 := w) w.heap.size (by rfl) (.tmp 9) (.tmp 13) 69 3 (.int .i64 0) 8 rfl Try.underlying69 info3 rfl (by decide) (by omega) v106 y105 (l0.drop ((ji6) : Int).toNat) _ _ _ (fun _ => True) (fun _ => False) rfl rfl ?aO ?aR (fun _ _ h => h) (fun _ h => h.elim) ?aF ?aB ?aS ?aL ?_
       (case aR => first | (have hq_ : (l0.drop ((ji6) : Int).toNat).length = (l0.length - (ji6).toNat) := List.length_drop; have hz_ := Kd.C_below HR108.out HB.out; rw [hq_] at hz_; exact hz_) | (rw [← show (l0.drop ((ji6) : Int).toNat).length = (l0.length - (ji6).toNat) from List.length_drop]; repeat (first | exact (Kd.C_below HR108.out HB.out) | (with_reducible refine Kd.C_alloc ?_ _) | (with_reducible refine Kd.C_drewN ?_ _) | (with_reducible refine Kd.C_drew ?_))) | (repeat (first | exact (Kd.C_below HR108.out HB.out) | (with_reducible refine Kd.C_alloc ?_ _) | (with_reducible refine Kd.C_drewN ?_ _) | (with_reducible refine Kd.C_drew ?_))))
       (case aB => exact (by repeat (first | (with_reducible first | exact HB.out | apply below_alloc | apply pw_below_drewN | apply below_drew1))))
       (case aF => exact (fun _ _ => trivial))
       (case aO => exact (by (with_reducible repeat (first | apply Kd.R_alloc | apply Kd.R_drewN | apply Kd.R_drew)); exact HO107.out))
       (case aS => exact (below_size (by repeat (first | (with_reducible first | exact HB.out | apply below_alloc | apply pw_below_drewN | apply below_drew1)))))
       (case aL => have := LMc9.out; have hlx_ := (show (l0.drop ((ji6) : Int).toNat).length = (l0.length - (ji6).toNat) from List.length_drop); omega)
       intro v110 w16 ho hb hg hat
       rw [← Ny109.out] at ho
       have n0_ := Aside0.mk (hb)
       have n1_ := Aside0.mk (ho)
       clear HB
       clear HO107
       have HB := n0_
       have HO111 := n1_
       clear n0_ n1_
       clear ho hb hg hat
       refine hK.out _ _ trivial (fun hHeld => ?_)
       clear hK K
       refine norm_ (a' := ?_) ?_ ?_
       rotate_left
       ·show Act.put _ (some 14) _ = _
        simp only [Act.put, List.setIfInBounds_toArray, List.set_cons_zero, List.set_cons_succ, i64_w, i32_w]
        rfl
       refine pure_ (i := 10) (N := some 4) (v := ?_) (a' := ?_) #[true, true, true, true, true, true, true, true, true, true, true] rfl rfl (any_of HT_.out (by kernel_rfl)) (fun _ _ _ h => h) (Or.inl ⟨by rfl, ?_⟩) ?_ ?_
       rotate_left
       ·intro w'
        go_simp
        with_reducible rfl
       rotate_left
       ·simp only [Act.put, List.setIfInBounds_toArray, List.set_cons_zero, List.set_cons_succ, i64_w, i32_w]
        rfl
       refine done_ (done_of HT_.out (by kernel_rfl)) ?_
       try go_wp2
       go_ret
       exact ⟨_, by first | rfl | (simp [errW_none, errW_some] <;> rfl) | (simp only [← hji6]; first | rfl | (simp [errW_none, errW_some] <;> rfl)) | (simp [*, errW_none, errW_some] <;> rfl), by (with_reducible repeat (first | apply Kd.R_alloc | apply Kd.R_drewN | apply Kd.R_drew)); exact HO111.out, by repeat (first | (with_reducible first | exact HB.out | apply below_alloc | apply pw_below_drewN | apply below_drew1))⟩
      ·rw [if_neg c9] at H
       exact absurd H (by simp)
     ·rw [if_neg c8] at H
      exact absurd H (by simp)
    ·rw [if_neg c7] at H
     exact absurd H (by simp)
   ·rw [if_neg c5] at H
    exact absurd H (by simp)
  ·rw [if_neg c4] at H
   exact absurd H (by simp)
 ·rw [if_neg c3] at H
  exact absurd H (by simp)
end Go.Proofs.Ytfocaefnmfkojaa.Q
namespace Go.Proofs.Ytfocaefnmfkojaa.Q
open Go.RowKit Go.Proofs.YtfocaefnmfkojaaW.PrintWords Go.Proofs.YtfocaefnmfkojaaW.PrintLast Go.Proofs.YtfocaefnmfkojaaW.PrintMore
attribute [local go_sem] max2_int min2_int max_two min_two max_three min_three max_four min_four   -- for this text's walks alone
set_option linter.unusedVariables false
set_option linter.unusedSimpArgs false
mutual
def ref13_count.l0 : Nat → List (S44) → Int → List Int → List Int → Bool → Int → Int → Option (Int)
 | 0, _, _, _, _, _, _, _ => none
 | k + 1, x0, x1, x2, x3, x4, x13, x14 => if x14 < (x3.length : Int) then (if x4 = true then (ref13_count.j1 k x0 x1 x2 x3 x4 x13 x14 (!(decide (x13 > 0)))) else (ref13_count.j1 k x0 x1 x2 x3 x4 x13 x14 (!false))) else (ref13_count.j1 k x0 x1 x2 x3 x4 x13 x14 false)
def ref13_count.j1 : Nat → List (S44) → Int → List Int → List Int → Bool → Int → Int → Bool → Option (Int)
 | 0, _, _, _, _, _, _, _, _ => none
 | k + 1, x0, x1, x2, x3, x4, x13, x14, x37 => if x37 = true then ((some (([] : List Int) : List Int)).bind fun y105 => (if y105.length + x2.length < 17592186044416 then ((some (y105 ++ x2 : List Int)).bind fun y108 => (if 0 ≤ x14 then (if x14 < (x3.length : Int) then ((some (([rd x3 x14] : List Int) : List Int)).bind fun y112 => (if y108.length + y112.length < 17592186044416 then ((ref13_without.f x3 x14).bind fun t118 => ((ref13_count.f k x0 x1 (y108 ++ y112) t118 x4).bind fun t121 => (ref13_count.l0 k x0 x1 x2 x3 x4 (wrap64 (x13 + t121)) (wrap64 (x14 + 1))))) else (none))) else (none)) else (none))) else (none))) else (some x13)
def ref13_count.f : Nat → List (S44) → Int → List Int → List Int → Bool → Option (Int)
 | 0, _, _, _, _, _ => none
 | k + 1, l0, a1, l2, l3, a4 => if (l3.length : Int) = 0 then ((ref13_In.f k l0 a1 l2).bind fun bt101 => (if bt101.2 = true then (some 1) else (some 0))) else (ref13_count.l0 k l0 a1 l2 l3 a4 0 0)
end
def ref13_count.T10 : Bool × List (List Nat × List Nat) := (true, [([], []), ([], []), ([], []), ([], []), ([], []), ([3, 4], [3, 4]), ([], []), ([], []), ([6, 7], [6, 7]), ([8], [8]), ([9], [9]), ([5, 10, 5], [5, 10]), ([], []), ([], []), ([12, 13, 11], [12, 13]), ([], []), ([1, 2, 11, 14, 15, 14], [1, 2, 11, 14, 15]), ([0, 16], [0, 16]), ([17, 16, 0, 1, 2, 3, 4, 5, 6, 7, 8, 9, 10, 11, 12, 13, 14, 15, 16, 17], [0, 17])])
def ref13_count.B10 : List Nat := [0, 0, 0, 0, 0, 24, 0, 0, 192, 448, 960, 2040, 0, 0, 16376, 0, 65534, 131071, 262143]
theorem ref13_count.tab10 : rtab .any (opsOf Try.f58 10) = ref13_count.T10 := by kernel_rfl
theorem ref13_count.bits10 : waitsOk ref13_count.T10.2 ref13_count.B10 = true := by kernel_rfl
set_option maxHeartbeats 8000000 in
set_option maxRecDepth 100000 in
theorem ref13_count.calls (k : Nat) : ∀ (A0 : Option Addr) (c0 : Nat) (l0 : List (S44)) (a1 : Int) (A2 : Option Addr) (c2 : Nat) (l2 : List Int) (A3 : Option Addr) (c3 : Nat) (l3 : List Int) (a4 : Bool) (r : Int) (w : World) (hr0 : Kd.C k44 w A0 l0.length l0) (hc0 : l0.length ≤ c0) (hr2 : Kd.C (Kd.int .i64) w A2 l2.length l2) (hc2 : l2.length ≤ c2) (hr3 : Kd.C (Kd.int .i64) w A3 l3.length l3) (hc3 : l3.length ≤ c3) (h : ref13_count.f k l0 a1 l2 l3 a4 = some r),
  Calls Try.prog 58 #[.slice A0 l0.length c0, .int .i64 a1, .slice A2 l2.length c2, .slice A3 l3.length c3, .bool a4] w fun e w' => e = .returned (.int .i64 r) ∧ Below w.heap.size w w' := by
 induction k using Nat.strongRecOn with
 | _ k ih =>
 intro A0 c0 l0 a1 A2 c2 l2 A3 c3 l3 a4 r w hr0 hc0 hr2 hc2 hr3 hc3 h
 cases k with
 | zero => exact absurd h (by simp [ref13_count.f])
 | succ k =>
 simp only [ref13_count.f] at h
 have HR0 := Aside0.mk hr0
 have HC0 := Aside0.mk hc0
 clear hr0 hc0
 have HR2 := Aside0.mk hr2
 have HC2 := Aside0.mk hc2
 clear hr2 hc2
 have HR3 := Aside0.mk hr3
 have HC3 := Aside0.mk hc3
 clear hr3 hc3
 have HB := Aside0.mk (Below.refl w.heap.size w)
 have H : (if (l3.length : Int) = 0 then ((ref13_In.f k l0 a1 l2).bind fun bt101 => (if bt101.2 = true then (some 1) else (some 0))) else (ref13_count.l0 k l0 a1 l2 l3 a4 0 0)) = some r := h
 clear h
 by_cases c6 : (l3.length : Int) = 0
 ·rw [if_pos c6] at H
  have c6b0 : ((l3.length : Int) == 0) = true := beq_iff_eq.mpr c6
  have c6b1 : ((l3.length : Int) != 0) = false := bne_eq_false_iff_eq.mpr c6
  clear c6
  replace H := Option.bind_eq_some_iff.mp H
  obtain ⟨⟨t101, t102⟩, A70, H⟩ := H
  replace H : (if t102 = true then (some 1) else (some 0)) = some r := H
  have A7 := Aside0.mk A70
  clear A70
  by_cases c8 : t102 = true
  ·subst c8
   have H1 : (some 1) = some r := by rw [if_pos rfl] at H; exact H
   clear H
   have H := H1
   clear H1
   obtain rfl := Option.some.inj H
   go_enter Try.func58, Try.ntmps58
   go_wp2_with (first | ((with_reducible refine gate_callee (f := 92) rfl ?_); refine goesL_ (some 22) rfl rfl Try.func92 (by kernel_rfl) rfl #[.slice A0 l0.length c0, .int .i64 a1, .slice A2 l2.length c2] rfl (by (try simp only [List.map_toArray, List.map_cons, List.map_nil]); first | done | rfl | (simp only [List.length_drop, List.length_take]; rfl)) ?_; (with_reducible refine (ref13_In.calls k _ _ l0 a1 _ _ l2 t101 true _ ?side1 ?side2 ?side3 ?side4 A7.out).mono ?_); (case side1 => repeat (first | exact HR0.out | (with_reducible refine Kd.C_alloc ?_ _) | (with_reducible refine Kd.C_drewN ?_ _) | (with_reducible refine Kd.C_drew ?_))); (case side2 => exact HC0.out); (case side3 => repeat (first | exact HR2.out | (with_reducible refine Kd.C_alloc ?_ _) | (with_reducible refine Kd.C_drewN ?_ _) | (with_reducible refine Kd.C_drew ?_))); (case side4 => exact HC2.out); rintro e w9 ⟨v103, rfl, ho0, hb⟩; refine ⟨_, rfl, ?_⟩; have n0_ := Aside0.mk (Kd.R_lower ho0 (below_size (by repeat (first | (with_reducible first | exact HB.out | apply below_alloc | apply pw_below_drewN | apply below_drew1))))); have n1_ := Aside0.mk (below_step (by repeat (first | (with_reducible first | exact HB.out | apply below_alloc | apply pw_below_drewN | apply below_drew1))) hb); clear HB; have HO104 := n0_; have HB := n1_; clear n0_ n1_; (try clear hb); (try clear hb2); (try clear hk); (try clear hi); (try clear ho0)))
   go_ret
   exact ⟨by first | rfl | (simp <;> rfl) | (simp [*] <;> rfl), by repeat (first | (with_reducible first | exact HB.out | apply below_alloc | apply pw_below_drewN | apply below_drew1))⟩
  ·replace c8 := Bool.eq_false_iff.mpr c8
   subst c8
   have H1 : (some 0) = some r := by rw [if_neg (show ¬ (false = true) by decide)] at H; exact H
   clear H
   have H := H1
   clear H1
   obtain rfl := Option.some.inj H
   go_enter Try.func58, Try.ntmps58
   go_wp2_with (first | ((with_reducible refine gate_callee (f := 92) rfl ?_); refine goesL_ (some 22) rfl rfl Try.func92 (by kernel_rfl) rfl #[.slice A0 l0.length c0, .int .i64 a1, .slice A2 l2.length c2] rfl (by (try simp only [List.map_toArray, List.map_cons, List.map_nil]); first | done | rfl | (simp only [List.length_drop, List.length_take]; rfl)) ?_; (with_reducible refine (ref13_In.calls k _ _ l0 a1 _ _ l2 t101 false _ ?side1 ?side2 ?side3 ?side4 A7.out).mono ?_); (case side1 => repeat (first | exact HR0.out | (with_reducible refine Kd.C_alloc ?_ _) | (with_reducible refine Kd.C_drewN ?_ _) | (with_reducible refine Kd.C_drew ?_))); (case side2 => exact HC0.out); (case side3 => repeat (first | exact HR2.out | (with_reducible refine Kd.C_alloc ?_ _) | (with_reducible refine Kd.C_drewN ?_ _) | (with_reducible refine Kd.C_drew ?_))); (case side4 => exact HC2.out); rintro e w10 ⟨v103, rfl, ho0, hb⟩; refine ⟨_, rfl, ?_⟩; have n0_ := Aside0.mk (Kd.R_lower ho0 (below_size (by repeat (first | (with_reducible first | exact HB.out | apply below_alloc | apply pw_below_drewN | apply below_drew1))))); have n1_ := Aside0.mk (below_step (by repeat (first | (with_reducible first | exact HB.out | apply below_alloc | apply pw_below_drewN | apply below_drew1))) hb); clear HB; have HO104 := n0_; have HB := n1_; clear n0_ n1_; (try clear hb); (try clear hb2); (try clear hk); (try clear hi); (try clear ho0)))
   go_ret
   exact ⟨by first | rfl | (simp <;> rfl) | (simp [*] <;> rfl), by repeat (first | (with_reducible first | exact HB.out | apply below_alloc | apply pw_below_drewN | apply below_drew1))⟩
 ·rw [if_neg c6] at H
  have c6b0 : ((l3.length : Int) == 0) = false := beq_eq_false_iff_ne.mpr c6
  have c6b1 : ((l3.length : Int) != 0) = true := bne_iff_ne.mpr c6
  have c6b2 : ¬ (l3 = []) := fun h_ => c6 (by rw [h_]; rfl)
  have H' := Aside0.mk H
  clear H
  go_enter Try.func58, Try.ntmps58
  go_wp2
  go_loopg [13, 14] k (fun kq v13 v14 w' => ∃ (x13_1 : Int) (x14_1 : Int), v13 = .int .i64 x13_1 ∧ v14 = .int .i64 x14_1 ∧ Aside0 (ref13_count.l0 kq l0 a1 l2 l3 a4 x13_1 x14_1 = some r) ∧ Aside0 (kq ≤ k) ∧ Aside0 (Below w.heap.size w w'))
  case atStart => exact ⟨(0), (0), (by first | rfl | (simp; done) | (simp [*]; done)), (by first | rfl | (simp; done) | (simp [*]; done)), H', ⟨Nat.le_refl _⟩, ⟨by repeat (first | (with_reducible first | exact HB.out | apply below_alloc | apply pw_below_drewN | apply below_drew1))⟩⟩
  case round =>
   clear H'
   try clear c2
   try clear p2
   try clear c3
   try clear c5
   try clear c6
   try clear c6b0
   try clear c6b1
   try clear c6b2
   try clear c8
   try clear c9
   obtain ⟨x13_1, x14_1, rfl, rfl, HA, HK1, HB⟩ := hrel
   cases gk with
   | zero => exact absurd HA.out (by simp [ref13_count.l0])
   | succ k1 =>
    have H := HA.out
    clear HA
    simp only [ref13_count.l0] at H
    have HC11 := Aside0.mk H
    clear H
    go_upto_region 8 with (fail)
    go_cut [37] (fun v37 wc => ∃ (kq : Nat) (x37_10 : Bool), v37 = .bool x37_10 ∧ Aside0 (ref13_count.j1 kq l0 a1 l2 l3 a4 x13_1 x14_1 x37_10 = some r) ∧ Aside0 (kq ≤ k1) ∧ Aside0 (Below w.heap.size w wc))
    case first =>
     have H := HC11.out
     clear HC11
     by_cases c12 : x14_1 < (l3.length : Int)
     ·rw [if_pos c12] at H
      have c12b0 : decide (x14_1 < (l3.length : Int)) = true := decide_eq_true c12
      clear c12
      (first | rw [c12b0] | (simp only [i64_w, i32_w]; rw [c12b0]) | skip)
      by_cases c13 : a4 = true
      ·subst c13
       have H1 : (ref13_count.j1 k1 l0 a1 l2 l3 true x13_1 x14_1 (!(decide (x13_1 > 0)))) = some r := by rw [if_pos rfl] at H; exact H
       clear H
       have H := H1
       clear H1
       have H' := Aside0.mk H
       clear H
       go_wp2
       go_meet
       case rel => exact ⟨_, (!(decide (x13_1 > 0))), (by first | rfl | (simp; done) | (simp [*]; done)), H', ⟨by have := HK1.out; first | omega | exact Nat.le_refl _⟩, ⟨by repeat (first | (with_reducible first | exact HB.out | apply below_alloc | apply pw_below_drewN | apply below_drew1))⟩⟩
      ·replace c13 := Bool.eq_false_iff.mpr c13
       subst c13
       have H1 : (ref13_count.j1 k1 l0 a1 l2 l3 false x13_1 x14_1 (!false)) = some r := by rw [if_neg (show ¬ (false = true) by decide)] at H; exact H
       clear H
       have H := H1
       clear H1
       have H' := Aside0.mk H
       clear H
       go_wp2
       go_meet
       case rel => exact ⟨_, (!false), (by first | rfl | (simp; done) | (simp [*]; done)), H', ⟨by have := HK1.out; first | omega | exact Nat.le_refl _⟩, ⟨by repeat (first | (with_reducible first | exact HB.out | apply below_alloc | apply pw_below_drewN | apply below_drew1))⟩⟩
     ·rw [if_neg c12] at H
      have c12b0 : decide (x14_1 < (l3.length : Int)) = false := decide_eq_false c12
      clear c12
      (first | rw [c12b0] | (simp only [i64_w, i32_w]; rw [c12b0]) | skip)
      have H' := Aside0.mk H
      clear H
      go_wp2
      go_meet
      case rel => exact ⟨_, (false), (by first | rfl | (simp; done) | (simp [*]; done)), H', ⟨by have := HK1.out; first | omega | exact Nat.le_refl _⟩, ⟨by repeat (first | (with_reducible first | exact HB.out | apply below_alloc | apply pw_below_drewN | apply below_drew1))⟩⟩
    case rest =>
     clear HC11
     try clear c1
     try clear c2
     try clear p2
     try clear c3
     try clear c5
     try clear c6
     try clear c6b0
     try clear c6b1
     try clear c6b2
     try clear c8
     try clear c9
     try clear c12
     try clear c12b0
     try clear c13
     try clear p2
     obtain ⟨kq, x37_10, rfl, HA, HJ10, HB⟩ := hcut
     cases kq with
     | zero => exact absurd HA.out (by simp [ref13_count.j1])
     | succ kj10 =>
      have H := HA.out
      clear HA
      simp only [ref13_count.j1] at H
      by_cases c14 : x37_10 = true
      ·subst c14
       have H1 : ((some (([] : List Int) : List Int)).bind fun y105 => (if y105.length + l2.length < 17592186044416 then ((some (y105 ++ l2 : List Int)).bind fun y108 => (if 0 ≤ x14_1 then (if x14_1 < (l3.length : Int) then ((some (([rd l3 x14_1] : List Int) : List Int)).bind fun y112 => (if y108.length + y112.length < 17592186044416 then ((ref13_without.f l3 x14_1).bind fun t118 => ((ref13_count.f kj10 l0 a1 (y108 ++ y112) t118 a4).bind fun t121 => (ref13_count.l0 kj10 l0 a1 l2 l3 a4 (wrap64 (x13_1 + t121)) (wrap64 (x14_1 + 1))))) else (none))) else (none)) else (none))) else (none))) = some r := by rw [if_pos rfl] at H; exact H
       clear H
       have H := H1
       clear H1
       obtain ⟨y105, hy105⟩ : ∃ y_ : List Int, y_ = (([] : List Int)) := ⟨_, rfl⟩
       replace H : (if y105.length + l2.length < 17592186044416 then ((some (y105 ++ l2 : List Int)).bind fun y108 => (if 0 ≤ x14_1 then (if x14_1 < (l3.length : Int) then ((some (([rd l3 x14_1] : List Int) : List Int)).bind fun y112 => (if y108.length + y112.length < 17592186044416 then ((ref13_without.f l3 x14_1).bind fun t118 => ((ref13_count.f kj10 l0 a1 (y108 ++ y112) t118 a4).bind fun t121 => (ref13_count.l0 kj10 l0 a1 l2 l3 a4 (wrap64 (x13_1 + t121)) (wrap64 (x14_1 + 1))))) else (none))) else (none)) else (none))) else (none)) = some r := by first | (rw [hy105]; with_reducible exact H) | (have H2_ := (Option.bind_some _ _).symm.trans H; rw [hy105]; with_reducible exact H2_) | (have H2_ := (Option.bind_some _ _).symm.trans H; with_reducible exact H2_) | with_reducible exact H | (rw [hy105]; exact H) | exact H
       have Ny105 := Aside0.mk hy105
       clear hy105
       by_cases c15 : y105.length + l2.length < 17592186044416
       ·rw [if_pos c15] at H
        have LMc15 := Aside0.mk c15
        clear c15
        obtain ⟨y108, hy108⟩ : ∃ y_ : List Int, y_ = (y105 ++ l2) := ⟨_, rfl⟩
        replace H : (if 0 ≤ x14_1 then (if x14_1 < (l3.length : Int) then ((some (([rd l3 x14_1] : List Int) : List Int)).bind fun y112 => (if y108.length + y112.length < 17592186044416 then ((ref13_without.f l3 x14_1).bind fun t118 => ((ref13_count.f kj10 l0 a1 (y108 ++ y112) t118 a4).bind fun t121 => (ref13_count.l0 kj10 l0 a1 l2 l3 a4 (wrap64 (x13_1 + t121)) (wrap64 (x14_1 + 1))))) else (none))) else (none)) else (none)) = some r := by first | (rw [hy108]; with_reducible exact H) | (have H2_ := (Option.bind_some _ _).symm.trans H; rw [hy108]; with_reducible exact H2_) | (have H2_ := (Option.bind_some _ _).symm.trans H; with_reducible exact H2_) | with_reducible exact H | (rw [hy108]; exact H) | exact H
        have Ny108 := Aside0.mk hy108
        clear hy108
        by_cases c16 : 0 ≤ x14_1
        ·rw [if_pos c16] at H
         have c16b0 : decide (0 ≤ x14_1) = true := decide_eq_true c16
         clear c16
         by_cases c17 : x14_1 < (l3.length : Int)
         ·rw [if_pos c17] at H
          have c17b0 : decide (x14_1 < (l3.length : Int)) = true := decide_eq_true c17
          clear c17
          obtain ⟨y112, hy112⟩ : ∃ y_ : List Int, y_ = (([rd l3 x14_1] : List Int)) := ⟨_, rfl⟩
          replace H : (if y108.length + y112.length < 17592186044416 then ((ref13_without.f l3 x14_1).bind fun t118 => ((ref13_count.f kj10 l0 a1 (y108 ++ y112) t118 a4).bind fun t121 => (ref13_count.l0 kj10 l0 a1 l2 l3 a4 (wrap64 (x13_1 + t121)) (wrap64 (x14_1 + 1))))) else (none)) = some r := by first | (rw [hy112]; with_reducible exact H) | (have H2_ := (Option.bind_some _ _).symm.trans H; rw [hy112]; with_reducible exact H2_) | (have H2_ := (Option.bind_some _ _).symm.trans H; with_reducible exact H2_) | with_reducible exact H | (rw [hy112]; exact H) | exact H
          have Ny112 := Aside0.mk hy112
          clear hy112
          by_cases c18 : y108.length + y112.length < 17592186044416
          ·rw [if_pos c18] at H
           have LMc18 := Aside0.mk c18
           clear c18
           obtain ⟨y115, hy115⟩ : ∃ y_ : List Int, y_ = (y108 ++ y112) := ⟨_, rfl⟩
           replace H : ((ref13_without.f l3 x14_1).bind fun t118 => ((ref13_count.f kj10 l0 a1 y115 t118 a4).bind fun t121 => (ref13_count.l0 kj10 l0 a1 l2 l3 a4 (wrap64 (x13_1 + t121)) (wrap64 (x14_1 + 1))))) = some r := by first | (rw [hy115]; with_reducible exact H) | (have H2_ := (Option.bind_some _ _).symm.trans H; rw [hy115]; with_reducible exact H2_) | (have H2_ := (Option.bind_some _ _).symm.trans H; with_reducible exact H2_) | with_reducible exact H | (rw [hy115]; exact H) | exact H
           have Ny115 := Aside0.mk hy115
           clear hy115
           replace H := Option.bind_eq_some_iff.mp H
           obtain ⟨t118, A190, H⟩ := H
           replace H : ((ref13_count.f kj10 l0 a1 y115 t118 a4).bind fun t121 => (ref13_count.l0 kj10 l0 a1 l2 l3 a4 (wrap64 (x13_1 + t121)) (wrap64 (x14_1 + 1)))) = some r := H
           have A19 := Aside0.mk A190
           clear A190
           replace H := Option.bind_eq_some_iff.mp H
           obtain ⟨t121, A200, H⟩ := H
           replace H : (ref13_count.l0 kj10 l0 a1 l2 l3 a4 (wrap64 (x13_1 + t121)) (wrap64 (x14_1 + 1))) = some r := H
           have A20 := Aside0.mk A200
           clear A200
           have H' := Aside0.mk H
           clear H
           try go_wp2
           have n0_ := Aside0.mk (below_drew1 HB.out)
           clear HB
           have HB := n0_
           clear n0_
           have p111 : 0 ≤ (x14_1 : Int) := of_decide_eq_true (by assumption)
           have q111 : x14_1 < (l3.length : Int) := of_decide_eq_true (by assumption)
           obtain ⟨ad111, e111, hx111_0⟩ := Kd.at_int HR3.out x14_1 p111 q111
           have hw111_0 := hx111_0
           cases e111
           replace hx111_0 := (HB.out.cell (World.block_lt_of_cell? w _ hx111_0)).trans hx111_0
           replace p111 := eq_true p111
           replace q111 := eq_true q111
           refine start_ (n := 19) (S := fun w' => w'.cell? (ad111.add (x14_1).toNat) = some (.int .i64 (rd l3 x14_1))) (ds := []) #[false, false, false, false, false, false, false, false, false, false, false, false, false, false, false, false, false, false, false] (by kernel_rfl) rfl rfl (((HB.out.cell (World.block_lt_of_cell? w _ hw111_0)).trans hw111_0)) (fun hHeld => ?_); refine with_tabW ref13_count.tab10 ref13_count.bits10 (fun HT_ HW_ => ?_)
           generalize wc.drew = w21 at HB hx111_0 hHeld ⊢
           refine pure_ (i := 0) (N := some 40) (v := ?_) (a' := ?_) #[true, false, false, false, false, false, false, false, false, false, false, false, false, false, false, false, false, false, false] rfl rfl (any_of HT_.out (by kernel_rfl)) (fun _ _ _ h => h) (Or.inl ⟨by rfl, ?_⟩) ?_ ?_
           rotate_left
           ·intro w'
            go_simp
            with_reducible rfl
           rotate_left
           ·simp only [Act.put, List.setIfInBounds_toArray, List.set_cons_zero, List.set_cons_succ, i64_w, i32_w]
            rfl
           refine pure_ (i := 1) (N := some 41) (v := ?_) (a' := ?_) #[true, true, false, false, false, false, false, false, false, false, false, false, false, false, false, false, false, false, false] rfl rfl (any_of HT_.out (by kernel_rfl)) (fun _ _ _ h => h) (Or.inl ⟨by rfl, ?_⟩) ?_ ?_
           rotate_left
           ·intro w'
            go_simp
            with_reducible rfl
           rotate_left
           ·simp only [Act.put, List.setIfInBounds_toArray, List.set_cons_zero, List.set_cons_succ, i64_w, i32_w]
            rfl
           refine pure_ (i := 2) (N := some 42) (v := ?_) (a' := ?_) #[true, true, true, false, false, false, false, false, false, false, false, false, false, false, false, false, false, false, false] rfl rfl (any_of HT_.out (by kernel_rfl)) (fun _ _ _ h => h) (Or.inl ⟨by rfl, ?_⟩) ?_ ?_
           rotate_left
           ·intro w'
            go_simp
            with_reducible rfl
           rotate_left
           ·simp only [Act.put, List.setIfInBounds_toArray, List.set_cons_zero, List.set_cons_succ, i64_w, i32_w]
            rfl
           refine pure_ (i := 4) (N := some 44) (v := ?_) (a' := ?_) #[true, true, true, false, true, false, false, false, false, false, false, false, false, false, false, false, false, false, false] rfl rfl (any_of HT_.out (by kernel_rfl)) (fun _ _ _ h => h) (Or.inl ⟨by rfl, ?_⟩) ?_ ?_
           rotate_left
           ·intro w'
            go_simp
            with_reducible rfl
           rotate_left
           ·simp only [Act.put, List.setIfInBounds_toArray, List.set_cons_zero, List.set_cons_succ, i64_w, i32_w]
            rfl
           refine pure_ (i := 6) (N := some 46) (v := ?_) (a' := ?_) #[true, true, true, false, true, false, true, false, false, false, false, false, false, false, false, false, false, false, false] rfl rfl (any_of HT_.out (by kernel_rfl)) (fun _ _ _ h => h) (Or.inl ⟨by rfl, ?_⟩) ?_ ?_
           rotate_left
           ·intro w'
            go_simp
            with_reducible rfl
           rotate_left
           ·simp only [Act.put, List.setIfInBounds_toArray, List.set_cons_zero, List.set_cons_succ, i64_w, i32_w]
            rfl
           refine pure_ (i := 7) (N := some 47) (v := ?_) (a' := ?_) #[true, true, true, false, true, false, true, true, false, false, false, false, false, false, false, false, false, false, false] rfl rfl (any_of HT_.out (by kernel_rfl)) (fun _ _ _ h => h) (Or.inl ⟨by rfl, ?_⟩) ?_ ?_
           rotate_left
           ·intro w'
            go_simp
            with_reducible rfl
           rotate_left
           ·simp only [Act.put, List.setIfInBounds_toArray, List.set_cons_zero, List.set_cons_succ, i64_w, i32_w]
            rfl
           refine pure_ (i := 8) (N := some 48) (v := ?_) (a' := ?_) #[true, true, true, false, true, false, true, true, true, false, false, false, false, false, false, false, false, false, false] rfl rfl (any_of HT_.out (by kernel_rfl)) (fun _ _ _ h => h) (Or.inl ⟨by rfl, ?_⟩) ?_ ?_
           rotate_left
           ·intro w'
            go_simp
            with_reducible rfl
           rotate_left
           ·simp only [Act.put, List.setIfInBounds_toArray, List.set_cons_zero, List.set_cons_succ, i64_w, i32_w]
            rfl
           refine pure_ (i := 12) (N := some 52) (v := ?_) (a' := ?_) #[true, true, true, false, true, false, true, true, true, false, false, false, true, false, false, false, false, false, false] rfl rfl (any_of HT_.out (by kernel_rfl)) (fun _ _ _ h => h) (Or.inl ⟨by rfl, ?_⟩) ?_ ?_
           rotate_left
           ·intro w'
            go_simp
            with_reducible rfl
           rotate_left
           ·simp only [Act.put, List.setIfInBounds_toArray, List.set_cons_zero, List.set_cons_succ, i64_w, i32_w]
            rfl
           refine pure_ (i := 13) (N := some 53) (v := ?_) (a' := ?_) #[true, true, true, false, true, false, true, true, true, false, false, false, true, true, false, false, false, false, false] rfl rfl (any_of HT_.out (by kernel_rfl)) (fun _ _ _ h => h) (Or.inl ⟨by rfl, ?_⟩) ?_ ?_
           rotate_left
           ·intro w'
            go_simp
            with_reducible rfl
           rotate_left
           ·simp only [Act.put, List.setIfInBounds_toArray, List.set_cons_zero, List.set_cons_succ, i64_w, i32_w]
            rfl
           refine pure_ (i := 15) (N := some 55) (v := ?_) (a' := ?_) #[true, true, true, false, true, false, true, true, true, false, false, false, true, true, false, true, false, false, false] rfl rfl (any_of HT_.out (by kernel_rfl)) (fun _ _ _ h => h) (Or.inl ⟨by rfl, ?_⟩) ?_ ?_
           rotate_left
           ·intro w'
            go_simp
            with_reducible rfl
           rotate_left
           ·simp only [Act.put, List.setIfInBounds_toArray, List.set_cons_zero, List.set_cons_succ, i64_w, i32_w]
            rfl
           refine take_ (i := 9) (N := some 49) (v := ?_) (a' := ?_) #[true, true, true, false, true, false, true, true, true, true, false, false, true, true, false, true, false, false, false] rfl rfl (take_ofW HT_.out HW_.out (by kernel_rfl)) (fun _ _ _ h => h) (Or.inl ⟨by rfl, ?_⟩) hHeld ?_ ?_
           rotate_left
           ·intro w' s0
            go_simp
            with_reducible rfl
           rotate_left
           ·simp only [Act.put, List.setIfInBounds_toArray, List.set_cons_zero, List.set_cons_succ, i64_w, i32_w]
            rfl
           refine join_ (σ := Value × Value × Value) 5 #[true, true, true, true, true, true, true, true, true, true, true, false, true, true, false, true, false, false, false] (fun s_ => [(43, s_.1), (45, s_.2.1), (50, s_.2.2)]) (fun s_ w' => (w'.cell? (ad111.add (x14_1).toNat) = some (.int .i64 (rd l3 x14_1))) ∧ (Kd.R (Kd.int .i64) 3 w' w.heap.size (fun k_ => some k_ ≠ (s_.2.2 : Value).ownBlock) s_.2.1 y108) ∧ (Kd.R (Kd.int .i64) 3 w' w.heap.size (fun k_ => some k_ ≠ (s_.2.1 : Value).ownBlock) s_.2.2 y112) ∧ (Below w.heap.size w w')) ?_ ?_
           rotate_left
           ·intro hCont
            refine two_ (i := 3) (j := 10) (Ni := some 43) (Nj := some 50) #[true, true, true, true, true, false, true, true, true, true, false, false, true, true, false, true, false, false, false] #[true, true, true, false, true, false, true, true, true, true, true, false, true, true, false, true, false, false, false] rfl rfl rfl rfl (two_of HT_.out (by kernel_rfl)) (by decide) (by decide) (fun K hK => ?_) (fun K hK => ?_)
            ·skip
             refine Kd.R_lit_step (Kd.int .i64) _ 3 ?hg (N := 43) ?hd (xs := ([] : List Int)) (inner := []) (ok := fun _ => True) (okp := fun _ => True) ?hr ?hp (fun _ hk => hk) trivial (Below.refl _ _) (Nat.le_refl _) (by simp) ?_; (case hd => rfl); (case hg => rfl); (case hr => first | (go_simp; done) | (go_simp; rfl)); (case hp => exact (Reps.none _ _))
             intro v106 w22 ho23 hb hg_ hnew_
             clear hg_ hnew_
             (first | rw [← Ny105.out] at ho23 | (simp only [Int.reduceToNat] at ho23; rw [← Ny105.out] at ho23))
             have n0_ := Aside0.mk (Kd.R_lower ho23 (below_size (by repeat (first | (with_reducible first | exact HB.out | apply below_alloc | apply pw_below_drewN | apply below_drew1)))))
             have n1_ := Aside0.mk (below_step (by repeat (first | (with_reducible first | exact HB.out | apply below_alloc | apply pw_below_drewN | apply below_drew1))) hb)
             clear HB
             have HO107 := n0_
             have HB := n1_
             clear n0_ n1_
             clear hb ho23
             refine hK.out _ _ (((HB.out.cell (World.block_lt_of_cell? w _ hw111_0)).trans hw111_0)) (fun hHeld => ?_)
             clear hK K
             refine norm_ (a' := ?_) ?_ ?_
             rotate_left
             ·show Act.put _ (some 43) _ = _
              simp only [Act.put, List.setIfInBounds_toArray, List.set_cons_zero, List.set_cons_succ, i64_w, i32_w]
              rfl
             refine two_ (i := 5) (j := 10) (Ni := some 45) (Nj := some 50) #[true, true, true, true, true, true, true, true, true, true, false, false, true, true, false, true, false, false, false] #[true, true, true, true, true, false, true, true, true, true, true, false, true, true, false, true, false, false, false] rfl rfl rfl rfl (two_of HT_.out (by kernel_rfl)) (by decide) (by decide) (fun K hK => ?_) (fun K hK => ?_)
             ·skip
              refine Kd.R_append_rows_step (Kd.int .i64) (w0 := w) w.heap.size (by rfl) (.tmp 43) (.tmp 44) 69 3 (.int .i64 0) 8 rfl Try.underlying69 info3 rfl (by decide) (by omega) v106 y105 l2 _ _ _ (fun _ => True) (fun _ => False) rfl rfl ?aO ?aR (fun _ _ h => h) (fun _ h => h.elim) ?aF ?aB ?aS ?aL ?_
              (case aR => repeat (first | exact (Kd.C_below HR2.out HB.out) | (with_reducible refine Kd.C_alloc ?_ _) | (with_reducible refine Kd.C_drewN ?_ _) | (with_reducible refine Kd.C_drew ?_)))
              (case aB => exact (by repeat (first | (with_reducible first | exact HB.out | apply below_alloc | apply pw_below_drewN | apply below_drew1))))
              (case aF => exact (fun _ _ => trivial))
              (case aO => exact (by (with_reducible repeat (first | apply Kd.R_alloc | apply Kd.R_drewN | apply Kd.R_drew)); exact HO107.out))
              (case aS => exact (below_size (by repeat (first | (with_reducible first | exact HB.out | apply below_alloc | apply pw_below_drewN | apply below_drew1)))))
              (case aL => have := LMc15.out; omega)
              intro v109 w24 ho hb hg hat
              rw [← Ny108.out] at ho
              have n0_ := Aside0.mk (hb)
              have n1_ := Aside0.mk (ho)
              clear HB
              clear HO107
              have HB := n0_
              have HO110 := n1_
              clear n0_ n1_
              clear ho hb hg hat
              refine hK.out _ _ (((HB.out.cell (World.block_lt_of_cell? w _ hw111_0)).trans hw111_0)) (fun hHeld => ?_)
              clear hK K
              refine norm_ (a' := ?_) ?_ ?_
              rotate_left
              ·show Act.put _ (some 45) _ = _
               simp only [Act.put, List.setIfInBounds_toArray, List.set_cons_zero, List.set_cons_succ, i64_w, i32_w]
               rfl
              refine one_ (i := 10) (N := some 50) #[true, true, true, true, true, true, true, true, true, true, true, false, true, true, false, true, false, false, false] rfl rfl (one_of HT_.out (by kernel_rfl)) (by decide) (fun K hK => ?_)
              refine Kd.R_lit_step (Kd.int .i64) _ 3 ?hg (N := 50) ?hd (xs := ([rd l3 x14_1] : List Int)) (inner := [.int .i64 (rd l3 x14_1)]) (ok := fun _ => True) (okp := fun _ => True) ?hr ?hp (fun _ hk => hk) trivial (Below.refl _ _) (Nat.le_refl _) (by simp) ?_; (case hd => rfl); (case hg => rfl); (case hr => first | (go_simp; done) | (go_simp; rfl)); (case hp => exact (Reps.one (show Kd.M (Kd.int .i64) _ _ _ (rd l3 x14_1) [.int .i64 (rd l3 x14_1)] from rfl) (Reps.none _ _)))
              intro v113 w25 ho26 hb hg_ hnew_
              clear hg_ hnew_
              (first | rw [← Ny112.out] at ho26 | (simp only [Int.reduceToNat] at ho26; rw [← Ny112.out] at ho26))
              have n0_ := Aside0.mk (Kd.R_elder' (by (with_reducible repeat (first | apply Kd.R_alloc | apply Kd.R_drewN | apply Kd.R_drew)); exact HO110.out) (Kd.R_base ho26) hb)
              have n1_ := Aside0.mk (Kd.R_lower (Kd.R_new' ho26 (Kd.R_lt (by (with_reducible repeat (first | apply Kd.R_alloc | apply Kd.R_drewN | apply Kd.R_drew)); exact HO110.out))) (below_size (by repeat (first | (with_reducible first | exact HB.out | apply below_alloc | apply pw_below_drewN | apply below_drew1)))))
              have n2_ := Aside0.mk (below_step (by repeat (first | (with_reducible first | exact HB.out | apply below_alloc | apply pw_below_drewN | apply below_drew1))) hb)
              clear HO110
              clear HB
              have HO110 := n0_
              have HO114 := n1_
              have HB := n2_
              clear n0_ n1_ n2_
              clear hb ho26
              refine hK.out _ _ (((HB.out.cell (World.block_lt_of_cell? w _ hw111_0)).trans hw111_0)) (fun hHeld => ?_)
              clear hK K
              refine norm_ (a' := ?_) ?_ ?_
              rotate_left
              ·show Act.put _ (some 50) _ = _
               simp only [Act.put, List.setIfInBounds_toArray, List.set_cons_zero, List.set_cons_succ, i64_w, i32_w]
               rfl
              exact norm_ (by simp only [putAll, Act.put, List.setIfInBounds_toArray, List.set_cons_zero, List.set_cons_succ]) (hCont (v106, v109, v113) _ ⟨hHeld, (by (with_reducible repeat (first | apply Kd.R_alloc | apply Kd.R_drewN | apply Kd.R_drew)); exact Kd.R_mono HO110.out (fun _ hk => hk.2)), (by (with_reducible repeat (first | apply Kd.R_alloc | apply Kd.R_drewN | apply Kd.R_drew)); exact Kd.R_mono HO114.out (fun _ hk => hk.2)), (by repeat (first | (with_reducible first | exact HB.out | apply below_alloc | apply pw_below_drewN | apply below_drew1)))⟩)
             ·skip
              refine Kd.R_lit_step (Kd.int .i64) _ 3 ?hg (N := 50) ?hd (xs := ([rd l3 x14_1] : List Int)) (inner := [.int .i64 (rd l3 x14_1)]) (ok := fun _ => True) (okp := fun _ => True) ?hr ?hp (fun _ hk => hk) trivial (Below.refl _ _) (Nat.le_refl _) (by simp) ?_; (case hd => rfl); (case hg => rfl); (case hr => first | (go_simp; done) | (go_simp; rfl)); (case hp => exact (Reps.one (show Kd.M (Kd.int .i64) _ _ _ (rd l3 x14_1) [.int .i64 (rd l3 x14_1)] from rfl) (Reps.none _ _)))
              intro v113 w24 ho25 hb hg_ hnew_
              clear hg_ hnew_
              (first | rw [← Ny112.out] at ho25 | (simp only [Int.reduceToNat] at ho25; rw [← Ny112.out] at ho25))
              have n0_ := Aside0.mk (Kd.R_elder' (by (with_reducible repeat (first | apply Kd.R_alloc | apply Kd.R_drewN | apply Kd.R_drew)); exact HO107.out) (Kd.R_base ho25) hb)
              have n1_ := Aside0.mk (Kd.R_lower (Kd.R_new' ho25 (Kd.R_lt (by (with_reducible repeat (first | apply Kd.R_alloc | apply Kd.R_drewN | apply Kd.R_drew)); exact HO107.out))) (below_size (by repeat (first | (with_reducible first | exact HB.out | apply below_alloc | apply pw_below_drewN | apply below_drew1)))))
              have n2_ := Aside0.mk (below_step (by repeat (first | (with_reducible first | exact HB.out | apply below_alloc | apply pw_below_drewN | apply below_drew1))) hb)
              clear HO107
              clear HB
              have HO107 := n0_
              have HO114 := n1_
              have HB := n2_
              clear n0_ n1_ n2_
              clear hb ho25
              refine hK.out _ _ (((HB.out.cell (World.block_lt_of_cell? w _ hw111_0)).trans hw111_0)) (fun hHeld => ?_)
              clear hK K
              refine norm_ (a' := ?_) ?_ ?_
              rotate_left
              ·show Act.put _ (some 50) _ = _
               simp only [Act.put, List.setIfInBounds_toArray, List.set_cons_zero, List.set_cons_succ, i64_w, i32_w]
               rfl
              refine one_ (i := 5) (N := some 45) #[true, true, true, true, true, true, true, true, true, true, true, false, true, true, false, true, false, false, false] rfl rfl (one_of HT_.out (by kernel_rfl)) (by decide) (fun K hK => ?_)
              refine Kd.R_append_rows_step (Kd.int .i64) (w0 := w) w.heap.size (by rfl) (.tmp 43) (.tmp 44) 69 3 (.int .i64 0) 8 rfl Try.underlying69 info3 rfl (by decide) (by omega) v106 y105 l2 _ _ _ (fun k_ => some k_ ≠ (v113 : Value).ownBlock) (fun _ => False) rfl rfl ?aO ?aR (fun _ _ h => h) (fun _ h => h.elim) ?aF ?aB ?aS ?aL ?_
              (case aR => repeat (first | exact (Kd.C_below HR2.out HB.out) | (with_reducible refine Kd.C_alloc ?_ _) | (with_reducible refine Kd.C_drewN ?_ _) | (with_reducible refine Kd.C_drew ?_)))
              (case aB => exact (by repeat (first | (with_reducible first | exact HB.out | apply below_alloc | apply pw_below_drewN | apply below_drew1))))
              (case aF => exact (fun k_ hk => Kd.fresh' (Kd.R_lt (by (with_reducible repeat (first | apply Kd.R_alloc | apply Kd.R_drewN | apply Kd.R_drew)); exact HO114.out)) k_ hk))
              (case aO => exact (by (with_reducible repeat (first | apply Kd.R_alloc | apply Kd.R_drewN | apply Kd.R_drew)); exact Kd.R_mono HO107.out (fun _ hk => hk.2)))
              (case aS => exact (below_size (by repeat (first | (with_reducible first | exact HB.out | apply below_alloc | apply pw_below_drewN | apply below_drew1)))))
              (case aL => have := LMc15.out; omega)
              intro v109 w26 ho hb hg hat
              rw [← Ny108.out] at ho
              have n0_ := Aside0.mk (Kd.R_after (ok := (fun _ => True)) (by (with_reducible repeat (first | apply Kd.R_alloc | apply Kd.R_drewN | apply Kd.R_drew)); exact HO114.out) hg hat)
              have n1_ := Aside0.mk (hb)
              have n2_ := Aside0.mk (ho)
              clear HO114
              clear HB
              clear HO107
              have HO114 := n0_
              have HB := n1_
              have HO110 := n2_
              clear n0_ n1_ n2_
              clear ho hb hg hat
              refine hK.out _ _ (((HB.out.cell (World.block_lt_of_cell? w _ hw111_0)).trans hw111_0)) (fun hHeld => ?_)
              clear hK K
              refine norm_ (a' := ?_) ?_ ?_
              rotate_left
              ·show Act.put _ (some 45) _ = _
               simp only [Act.put, List.setIfInBounds_toArray, List.set_cons_zero, List.set_cons_succ, i64_w, i32_w]
               rfl
              exact norm_ (by simp only [putAll, Act.put, List.setIfInBounds_toArray, List.set_cons_zero, List.set_cons_succ]) (hCont (v106, v109, v113) _ ⟨hHeld, (by (with_reducible repeat (first | apply Kd.R_alloc | apply Kd.R_drewN | apply Kd.R_drew)); exact HO110.out), (by (with_reducible repeat (first | apply Kd.R_alloc | apply Kd.R_drewN | apply Kd.R_drew)); exact Kd.R_mono HO114.out (fun _ hk => hk.2)), (by repeat (first | (with_reducible first | exact HB.out | apply below_alloc | apply pw_below_drewN | apply below_drew1)))⟩)
            ·skip
             refine Kd.R_lit_step (Kd.int .i64) _ 3 ?hg (N := 50) ?hd (xs := ([rd l3 x14_1] : List Int)) (inner := [.int .i64 (rd l3 x14_1)]) (ok := fun _ => True) (okp := fun _ => True) ?hr ?hp (fun _ hk => hk) trivial (Below.refl _ _) (Nat.le_refl _) (by simp) ?_; (case hd => rfl); (case hg => rfl); (case hr => first | (go_simp; done) | (go_simp; rfl)); (case hp => exact (Reps.one (show Kd.M (Kd.int .i64) _ _ _ (rd l3 x14_1) [.int .i64 (rd l3 x14_1)] from rfl) (Reps.none _ _)))
             intro v113 w22 ho23 hb hg_ hnew_
             clear hg_ hnew_
             (first | rw [← Ny112.out] at ho23 | (simp only [Int.reduceToNat] at ho23; rw [← Ny112.out] at ho23))
             have n0_ := Aside0.mk (Kd.R_lower ho23 (below_size (by repeat (first | (with_reducible first | exact HB.out | apply below_alloc | apply pw_below_drewN | apply below_drew1)))))
             have n1_ := Aside0.mk (below_step (by repeat (first | (with_reducible first | exact HB.out | apply below_alloc | apply pw_below_drewN | apply below_drew1))) hb)
             clear HB
             have HO114 := n0_
             have HB := n1_
             clear n0_ n1_
             clear hb ho23
             refine hK.out _ _ (((HB.out.cell (World.block_lt_of_cell? w _ hw111_0)).trans hw111_0)) (fun hHeld => ?_)
             clear hK K
             refine norm_ (a' := ?_) ?_ ?_
             rotate_left
             ·show Act.put _ (some 50) _ = _
              simp only [Act.put, List.setIfInBounds_toArray, List.set_cons_zero, List.set_cons_succ, i64_w, i32_w]
              rfl
             refine one_ (i := 3) (N := some 43) #[true, true, true, true, true, false, true, true, true, true, true, false, true, true, false, true, false, false, false] rfl rfl (one_of HT_.out (by kernel_rfl)) (by decide) (fun K hK => ?_)
             refine Kd.R_lit_step (Kd.int .i64) _ 3 ?hg (N := 43) ?hd (xs := ([] : List Int)) (inner := []) (ok := fun _ => True) (okp := fun _ => True) ?hr ?hp (fun _ hk => hk) trivial (Below.refl _ _) (Nat.le_refl _) (by simp) ?_; (case hd => rfl); (case hg => rfl); (case hr => first | (go_simp; done) | (go_simp; rfl)); (case hp => exact (Reps.none _ _))
             intro v106 w24 ho25 hb hg_ hnew_
             clear hg_ hnew_
             (first | rw [← Ny105.out] at ho25 | (simp only [Int.reduceToNat] at ho25; rw [← Ny105.out] at ho25))
             have n0_ := Aside0.mk (Kd.R_elder' (by (with_reducible repeat (first | apply Kd.R_alloc | apply Kd.R_drewN | apply Kd.R_drew)); exact HO114.out) (Kd.R_base ho25) hb)
             have n1_ := Aside0.mk (Kd.R_lower (Kd.R_new' ho25 (Kd.R_lt (by (with_reducible repeat (first | apply Kd.R_alloc | apply Kd.R_drewN | apply Kd.R_drew)); exact HO114.out))) (below_size (by repeat (first | (with_reducible first | exact HB.out | apply below_alloc | apply pw_below_drewN | apply below_drew1)))))
             have n2_ := Aside0.mk (below_step (by repeat (first | (with_reducible first | exact HB.out | apply below_alloc | apply pw_below_drewN | apply below_drew1))) hb)
             clear HO114
             clear HB
             have HO114 := n0_
             have HO107 := n1_
             have HB := n2_
             clear n0_ n1_ n2_
             clear hb ho25
             refine hK.out _ _ (((HB.out.cell (World.block_lt_of_cell? w _ hw111_0)).trans hw111_0)) (fun hHeld => ?_)
             clear hK K
             refine norm_ (a' := ?_) ?_ ?_
             rotate_left
             ·show Act.put _ (some 43) _ = _
              simp only [Act.put, List.setIfInBounds_toArray, List.set_cons_zero, List.set_cons_succ, i64_w, i32_w]
              rfl
             refine one_ (i := 5) (N := some 45) #[true, true, true, true, true, true, true, true, true, true, true, false, true, true, false, true, false, false, false] rfl rfl (one_of HT_.out (by kernel_rfl)) (by decide) (fun K hK => ?_)
             refine Kd.R_append_rows_step (Kd.int .i64) (w0 := w) w.heap.size (by rfl) (.tmp 43) (.tmp 44) 69 3 (.int .i64 0) 8 rfl Try.underlying69 info3 rfl (by decide) (by omega) v106 y105 l2 _ _ _ (fun k_ => some k_ ≠ (v113 : Value).ownBlock) (fun _ => False) rfl rfl ?aO ?aR (fun _ _ h => h) (fun _ h => h.elim) ?aF ?aB ?aS ?aL ?_
             (case aR => repeat (first | exact (Kd.C_below HR2.out HB.out) | (with_reducible refine Kd.C_alloc ?_ _) | (with_reducible refine Kd.C_drewN ?_ _) | (with_reducible refine Kd.C_drew ?_)))
             (case aB => exact (by repeat (first | (with_reducible first | exact HB.out | apply below_alloc | apply pw_below_drewN | apply below_drew1))))
             (case aF => exact (fun k_ hk => Kd.fresh' (Kd.R_lt (by (with_reducible repeat (first | apply Kd.R_alloc | apply Kd.R_drewN | apply Kd.R_drew)); exact HO114.out)) k_ hk))
             (case aO => exact (by (with_reducible repeat (first | apply Kd.R_alloc | apply Kd.R_drewN | apply Kd.R_drew)); exact Kd.R_mono HO107.out (fun _ hk => hk.2)))
             (case aS => exact (below_size (by repeat (first | (with_reducible first | exact HB.out | apply below_alloc | apply pw_below_drewN | apply below_drew1)))))
             (case aL => have := LMc15.out; omega)
             intro v109 w26 ho hb hg hat
             rw [← Ny108.out] at ho
             have n0_ := Aside0.mk (Kd.R_after (ok := (fun _ => True)) (by (with_reducible repeat (first | apply Kd.R_alloc | apply Kd.R_drewN | apply Kd.R_drew)); exact HO114.out) hg hat)
             have n1_ := Aside0.mk (hb)
             have n2_ := Aside0.mk (ho)
             clear HO114
             clear HB
             clear HO107
             have HO114 := n0_
             have HB := n1_
             have HO110 := n2_
             clear n0_ n1_ n2_
             clear ho hb hg hat
             refine hK.out _ _ (((HB.out.cell (World.block_lt_of_cell? w _ hw111_0)).trans hw111_0)) (fun hHeld => ?_)
             clear hK K
             refine norm_ (a' := ?_) ?_ ?_
             rotate_left
             ·show Act.put _ (some 45) _ = _
              simp only [Act.put, List.setIfInBounds_toArray, List.set_cons_zero, List.set_cons_succ, i64_w, i32_w]
              rfl
             exact norm_ (by simp only [putAll, Act.put, List.setIfInBounds_toArray, List.set_cons_zero, List.set_cons_succ]) (hCont (v106, v109, v113) _ ⟨hHeld, (by (with_reducible repeat (first | apply Kd.R_alloc | apply Kd.R_drewN | apply Kd.R_drew)); exact HO110.out), (by (with_reducible repeat (first | apply Kd.R_alloc | apply Kd.R_drewN | apply Kd.R_drew)); exact Kd.R_mono HO114.out (fun _ hk => hk.2)), (by repeat (first | (with_reducible first | exact HB.out | apply below_alloc | apply pw_below_drewN | apply below_drew1)))⟩)
           rintro ⟨v106, v109, v113⟩ w27 ⟨hS_, h0_, h1_, h2_⟩
           have n0_ : Aside0 (Kd.R (Kd.int .i64) 3 w27 w.heap.size (fun k_ => some k_ ≠ (v113 : Value).ownBlock) v109 y108) := ⟨h0_⟩
           have n1_ : Aside0 (Kd.R (Kd.int .i64) 3 w27 w.heap.size (fun k_ => some k_ ≠ (v109 : Value).ownBlock) v113 y112) := ⟨h1_⟩
           have n2_ : Aside0 (Below w.heap.size w w27) := ⟨h2_⟩
           clear HB
           clear h0_ h1_ h2_
           have HO110 := n0_
           have HO114 := n1_
           have HB := n2_
           clear n0_ n1_ n2_
           have hHeld : w27.cell? (ad111.add (x14_1).toNat) = some (.int .i64 (rd l3 x14_1)) := hS_
           obtain ⟨Ao29, co29, eo29⟩ := Kd.R_slice HO114.out
           (first | subst eo29 | (injection eo29 with f1_ f2_ f3_; have f4_ := f1_.symm; have f5_ := f3_.symm; clear f1_ f2_ f3_; subst f4_; subst f5_))
           refine norm_ (a' := ?_) ?_ ?_
           rotate_left
           ·simp only [putAll, Act.put, List.setIfInBounds_toArray, List.set_cons_zero, List.set_cons_succ]
            rfl
           refine one_ (i := 11) (N := some 51) #[true, true, true, true, true, true, true, true, true, true, true, true, true, true, false, true, false, false, false] rfl rfl (one_of HT_.out (by kernel_rfl)) (by decide) (fun K hK => ?_)
           refine Kd.R_append_rows_step (Kd.int .i64) (w0 := w) w.heap.size (by rfl) (.tmp 45) (.tmp 50) 69 3 (.int .i64 0) 8 rfl Try.underlying69 info3 rfl (by decide) (by omega) v109 y108 y112 _ _ _ (fun k_ => some k_ ≠ (.slice Ao29 y112.length co29 : Value).ownBlock) (fun _ => False) rfl rfl ?aO ?aR (fun _ _ h => h) (fun _ h => h.elim) ?aF ?aB ?aS ?aL ?_
           (case aR => repeat (first | exact (Kd.R_reads' HO114.out).2.2 | (with_reducible refine Kd.C_alloc ?_ _) | (with_reducible refine Kd.C_drewN ?_ _) | (with_reducible refine Kd.C_drew ?_)))
           (case aB => exact (by repeat (first | (with_reducible first | exact HB.out | apply below_alloc | apply pw_below_drewN | apply below_drew1))))
           (case aF => exact (fun k_ hk => Kd.fresh' (Kd.R_lt (by (with_reducible repeat (first | apply Kd.R_alloc | apply Kd.R_drewN | apply Kd.R_drew)); exact HO114.out)) k_ hk))
           (case aO => exact (by (with_reducible repeat (first | apply Kd.R_alloc | apply Kd.R_drewN | apply Kd.R_drew)); exact HO110.out))
           (case aS => exact (below_size (by repeat (first | (with_reducible first | exact HB.out | apply below_alloc | apply pw_below_drewN | apply below_drew1)))))
           (case aL => have := LMc18.out; omega)
           intro v116 w28 ho hb hg hat
           rw [← Ny115.out] at ho
           have n0_ := Aside0.mk (Kd.R_after (ok := (fun _ => True)) (by (with_reducible repeat (first | apply Kd.R_alloc | apply Kd.R_drewN | apply Kd.R_drew)); exact Kd.R_mono HO114.out (fun _ hk => ⟨trivial, hk⟩)) hg hat)
           have n1_ := Aside0.mk (hb)
           have n2_ := Aside0.mk (ho)
           clear HO114
           clear HB
           clear HO110
           have HO114 := n0_
           have HB := n1_
           have HO117 := n2_
           clear n0_ n1_ n2_
           clear ho hb hg hat
           refine hK.out _ _ (((HB.out.cell (World.block_lt_of_cell? w _ hw111_0)).trans hw111_0)) (fun hHeld => ?_)
           clear hK K
           refine norm_ (a' := ?_) ?_ ?_
           rotate_left
           ·show Act.put _ (some 51) _ = _
            simp only [Act.put, List.setIfInBounds_toArray, List.set_cons_zero, List.set_cons_succ, i64_w, i32_w]
            rfl
           refine one_ (i := 14) (N := some 54) #[true, true, true, true, true, true, true, true, true, true, true, true, true, true, true, true, false, false, false] rfl rfl (one_of HT_.out (by kernel_rfl)) (by decide) (fun K hK => ?_)
           refine goes_ Try.func93 (by kernel_rfl) rfl #[.slice (some ad111) l3.length c3, .int .i64 x14_1] (by rfl) rfl rfl (by (try simp only [List.map_toArray, List.map_cons, List.map_nil]); first | done | rfl | (simp only [List.length_drop, List.length_take]; rfl)) ?_
           with_reducible refine (ref13_without.calls _ _ l3 x14_1 t118 _ ?side1 ?side2 A19.out).mono ?_
           (case side1 => repeat (first | exact (Kd.C_below HR3.out HB.out) | (with_reducible refine Kd.C_alloc ?_ _) | (with_reducible refine Kd.C_drewN ?_ _) | (with_reducible refine Kd.C_drew ?_)))
           (case side2 => exact HC3.out)
           rintro e w30 ⟨v119, rfl, ho0, hb⟩
           refine ⟨_, rfl, ?_⟩
           have n0_ := Aside0.mk (Kd.R_elder' (by (with_reducible repeat (first | apply Kd.R_alloc | apply Kd.R_drewN | apply Kd.R_drew)); exact HO114.out) (Kd.R_base ho0) hb)
           have n1_ := Aside0.mk (Kd.R_elder' (by (with_reducible repeat (first | apply Kd.R_alloc | apply Kd.R_drewN | apply Kd.R_drew)); exact HO117.out) (Kd.R_base ho0) hb)
           have n2_ := Aside0.mk (Kd.R_lower (Kd.R_new' (Kd.R_new' ho0 (Kd.R_lt (by (with_reducible repeat (first | apply Kd.R_alloc | apply Kd.R_drewN | apply Kd.R_drew)); exact HO114.out))) (Kd.R_lt (by (with_reducible repeat (first | apply Kd.R_alloc | apply Kd.R_drewN | apply Kd.R_drew)); exact HO117.out))) (below_size (by repeat (first | (with_reducible first | exact HB.out | apply below_alloc | apply pw_below_drewN | apply below_drew1)))))
           have n3_ := Aside0.mk (below_step (by repeat (first | (with_reducible first | exact HB.out | apply below_alloc | apply pw_below_drewN | apply below_drew1))) hb)
           clear HO114
           clear HO117
           clear HB
           have HO114 := n0_
           have HO117 := n1_
           have HO120 := n2_
           have HB := n3_
           clear n0_ n1_ n2_ n3_
           (try clear hb)
           (try clear hb2)
           (try clear hk)
           (try clear hi)
           (try clear ho0)
           obtain ⟨Ao31, co31, eo31⟩ := Kd.R_slice HO117.out
           (first | subst eo31 | (injection eo31 with f1_ f2_ f3_; have f4_ := f1_.symm; have f5_ := f3_.symm; clear f1_ f2_ f3_; subst f4_; subst f5_))
           obtain ⟨Ao32, co32, eo32⟩ := Kd.R_slice HO120.out
           (first | subst eo32 | (injection eo32 with f1_ f2_ f3_; have f4_ := f1_.symm; have f5_ := f3_.symm; clear f1_ f2_ f3_; subst f4_; subst f5_))
           refine hK.out _ _ (((HB.out.cell (World.block_lt_of_cell? w _ hw111_0)).trans hw111_0)) (fun hHeld => ?_)
           clear hK K
           refine norm_ (a' := ?_) ?_ ?_
           rotate_left
           ·show Act.put _ (some 54) _ = _
            simp only [Act.put, List.setIfInBounds_toArray, List.set_cons_zero, List.set_cons_succ, i64_w, i32_w]
            rfl
           refine one_ (i := 16) (N := some 56) #[true, true, true, true, true, true, true, true, true, true, true, true, true, true, true, true, true, false, false] rfl rfl (one_of HT_.out (by kernel_rfl)) (by decide) (fun K hK => ?_)
           refine goes_ Try.func58 (by kernel_rfl) rfl #[.slice A0 l0.length c0, .int .i64 a1, .slice Ao31 y115.length co31, .slice Ao32 t118.length co32, .bool a4] (by rfl) rfl rfl (by (try simp only [List.map_toArray, List.map_cons, List.map_nil]); first | done | rfl | (simp only [List.length_drop, List.length_take]; rfl)) ?_
           with_reducible refine (ih kj10 (by have := HK1.out; have := HJ10.out; omega) _ _ l0 a1 _ _ y115 _ _ t118 a4 t121 _ ?side1 ?side2 ?side3 ?side4 ?side5 ?side6 A20.out).mono ?_
           (case side1 => repeat (first | exact (Kd.C_below HR0.out HB.out) | (with_reducible refine Kd.C_alloc ?_ _) | (with_reducible refine Kd.C_drewN ?_ _) | (with_reducible refine Kd.C_drew ?_)))
           (case side2 => exact HC0.out)
           (case side3 => repeat (first | exact (Kd.R_reads' HO117.out).2.2 | (with_reducible refine Kd.C_alloc ?_ _) | (with_reducible refine Kd.C_drewN ?_ _) | (with_reducible refine Kd.C_drew ?_)))
           (case side4 => exact (Kd.R_reads' HO117.out).2.1)
           (case side5 => repeat (first | exact (Kd.R_reads' HO120.out).2.2 | (with_reducible refine Kd.C_alloc ?_ _) | (with_reducible refine Kd.C_drewN ?_ _) | (with_reducible refine Kd.C_drew ?_)))
           (case side6 => exact (Kd.R_reads' HO120.out).2.1)
           rintro e w33 ⟨rfl, hb⟩
           refine ⟨_, rfl, ?_⟩
           have n0_ := Aside0.mk (Kd.R_below (by (with_reducible repeat (first | apply Kd.R_alloc | apply Kd.R_drewN | apply Kd.R_drew)); exact HO114.out) hb)
           have n1_ := Aside0.mk (Kd.R_below (by (with_reducible repeat (first | apply Kd.R_alloc | apply Kd.R_drewN | apply Kd.R_drew)); exact HO117.out) hb)
           have n2_ := Aside0.mk (Kd.R_below (by (with_reducible repeat (first | apply Kd.R_alloc | apply Kd.R_drewN | apply Kd.R_drew)); exact HO120.out) hb)
           have n3_ := Aside0.mk (below_step (by repeat (first | (with_reducible first | exact HB.out | apply below_alloc | apply pw_below_drewN | apply below_drew1))) hb)
           clear HO114
           clear HO117
           clear HO120
           clear HB
           have HO114 := n0_
           have HO117 := n1_
           have HO120 := n2_
           have HB := n3_
           clear n0_ n1_ n2_ n3_
           (try clear hb)
           (try clear hb2)
           (try clear hk)
           (try clear hi)
           refine hK.out _ _ (((HB.out.cell (World.block_lt_of_cell? w _ hw111_0)).trans hw111_0)) (fun hHeld => ?_)
           clear hK K
           refine norm_ (a' := ?_) ?_ ?_
           rotate_left
           ·show Act.put _ (some 56) _ = _
            simp only [Act.put, List.setIfInBounds_toArray, List.set_cons_zero, List.set_cons_succ, i64_w, i32_w]
            rfl
           refine pure_ (i := 17) (N := some 57) (v := ?_) (a' := ?_) #[true, true, true, true, true, true, true, true, true, true, true, true, true, true, true, true, true, true, false] rfl rfl (any_of HT_.out (by kernel_rfl)) (fun _ _ _ h => h) (Or.inl ⟨by rfl, ?_⟩) ?_ ?_
           rotate_left
           ·intro w'
            go_simp
            with_reducible rfl
           rotate_left
           ·simp only [Act.put, List.setIfInBounds_toArray, List.set_cons_zero, List.set_cons_succ, i64_w, i32_w]
            rfl
           refine pure_ (i := 18) (N := some 13) (v := ?_) (a' := ?_) #[true, true, true, true, true, true, true, true, true, true, true, true, true, true, true, true, true, true, true] rfl rfl (any_of HT_.out (by kernel_rfl)) (fun _ _ _ h => h) (Or.inl ⟨by rfl, ?_⟩) ?_ ?_
           rotate_left
           ·intro w'
            go_simp
            with_reducible rfl
           rotate_left
           ·simp only [Act.put, List.setIfInBounds_toArray, List.set_cons_zero, List.set_cons_succ, i64_w, i32_w]
            rfl
           refine done_ (done_of HT_.out (by kernel_rfl)) ?_
           try go_wp2
           go_roundg kj10
           case measure => have := HK1.out; have := HJ10.out; omega
           case rel => exact ⟨(wrap64 (x13_1 + t121)), (wrap64 (x14_1 + 1)), (by first | rfl | (simp; done) | (simp [*]; done)), (by first | rfl | (simp; done) | (simp [*]; done)), H', ⟨by have := HK1.out; have := HJ10.out; omega⟩, ⟨by repeat (first | (with_reducible first | exact HB.out | apply below_alloc | apply pw_below_drewN | apply below_drew1))⟩⟩
          ·rw [if_neg c18] at H
           exact absurd H (by simp)
         ·rw [if_neg c17] at H
          exact absurd H (by simp)
        ·rw [if_neg c16] at H
         exact absurd H (by simp)
       ·rw [if_neg c15] at H
        exact absurd H (by simp)
      ·replace c14 := Bool.eq_false_iff.mpr c14
       subst c14
       have H1 : (some x13_1) = some r := by rw [if_neg (show ¬ (false = true) by decide)] at H; exact H
       clear H
       have H := H1
       clear H1
       obtain rfl := Option.some.inj H
       go_wp2
       go_ret
       exact ⟨by first | rfl | (simp <;> rfl) | (simp [*] <;> rfl), by repeat (first | (with_reducible first | exact HB.out | apply below_alloc | apply pw_below_drewN | apply below_drew1))⟩
end Go.Proofs.Ytfocaefnmfkojaa.Q
namespace Go.Proofs.Ytfocaefnmfkojaa.Q
open Go.RowKit Go.Proofs.YtfocaefnmfkojaaW.PrintWords Go.Proofs.YtfocaefnmfkojaaW.PrintLast Go.Proofs.YtfocaefnmfkojaaW.PrintMore
attribute [local go_sem] max2_int min2_int max_two min_two max_three min_three max_four min_four   -- for this text's walks alone
set_option linter.unusedVariables false
set_option linter.unusedSimpArgs false
def ref13_all.l0 : Nat → Int → List Int → Int → Option (List Int)
 | 0, _, _, _ => none
 | k + 1, x0, x3, x4 => if x4 < x0 then (if x3.length < 17592186044416 then (ref13_all.l0 k x0 (x3 ++ [x4]) (wrap64 (x4 + 1))) else (none)) else (some x3)
def ref13_all.f (k : Nat) (a0 : Int) : Option (List Int) := ref13_all.l0 k a0 (([] : List Int)) 0
set_option maxHeartbeats 8000000 in
set_option maxRecDepth 100000 in
theorem ref13_all.calls (k : Nat) (a0 : Int) (r : List Int) (w : World) (h : ref13_all.f k a0 = some r) :
  Calls Try.prog 59 #[.int .i64 a0] w fun e w' => ∃ v0_ : Value, e = .returned (v0_) ∧ Kd.R (Kd.int .i64) 3 w' w.heap.size (fun _ => True) v0_ r ∧ Below w.heap.size w w' := by
 have HB := Aside0.mk (Below.refl w.heap.size w)
 have H : (ref13_all.l0 k a0 (([] : List Int)) 0) = some r := h
 clear h
 obtain ⟨y101, hy101⟩ : ∃ y_ : List Int, y_ = (([] : List Int)) := ⟨_, rfl⟩
 replace H : (ref13_all.l0 k a0 y101 0) = some r := by first | (rw [hy101]; with_reducible exact H) | (have H2_ := (Option.bind_some _ _).symm.trans H; rw [hy101]; with_reducible exact H2_) | (have H2_ := (Option.bind_some _ _).symm.trans H; with_reducible exact H2_) | with_reducible exact H | (rw [hy101]; exact H) | exact H
 have Ny101 := Aside0.mk hy101
 clear hy101
 have H' := Aside0.mk H
 clear H
 go_enter Try.func59, Try.ntmps59
 go_wp2_with (first | ((with_reducible refine gate_dst (N := 5) rfl ?_); refine Kd.R_lit (Kd.int .i64) _ 3 ?hg (N := 5) ?hd (xs := ([] : List Int)) (inner := []) (ok := fun _ => True) (okp := fun _ => True) ?hr ?hp (fun _ hk => hk) trivial (Below.refl _ _) (Nat.le_refl _) (by simp) ?_; (case hd => rfl); (case hg => rfl); (case hr => first | (go_simp; done) | (go_simp; rfl)); (case hp => exact (Reps.none _ _)); intro v102 w2 ho3 hb hg_ hnew_; clear hg_ hnew_; (first | rw [← Ny101.out] at ho3 | (simp only [Int.reduceToNat] at ho3; rw [← Ny101.out] at ho3)); have n0_ := Aside0.mk (Kd.R_lower ho3 (below_size (by repeat (first | (with_reducible first | exact HB.out | apply below_alloc | apply pw_below_drewN | apply below_drew1))))); have n1_ := Aside0.mk (below_step (by repeat (first | (with_reducible first | exact HB.out | apply below_alloc | apply pw_below_drewN | apply below_drew1))) hb); clear HB; have HO103 := n0_; have HB := n1_; clear n0_ n1_; clear hb ho3))
 go_loopg [3, 4] k (fun kq v3 v4 w' => ∃ (x3_1 : List Int) (x4_1 : Int), v4 = .int .i64 x4_1 ∧ Aside0 (ref13_all.l0 kq a0 x3_1 x4_1 = some r) ∧ Aside0 (kq ≤ k) ∧ Aside0 (Kd.R (Kd.int .i64) 3 w' w.heap.size (fun _ => True) v3 x3_1) ∧ Aside0 (Below w.heap.size w w'))
 case atStart => exact ⟨(y101), (0), (by first | rfl | (simp; done) | (simp [*]; done)), H', ⟨Nat.le_refl _⟩, ⟨by (with_reducible repeat (first | apply Kd.R_alloc | apply Kd.R_drewN | apply Kd.R_drew)); exact HO103.out⟩, ⟨by repeat (first | (with_reducible first | exact HB.out | apply below_alloc | apply pw_below_drewN | apply below_drew1))⟩⟩
 case round =>
  clear H'
  try clear p2
  obtain ⟨x3_1, x4_1, rfl, HA, HK1, HO_3, HB⟩ := hrel
  cases gk with
  | zero => exact absurd HA.out (by simp [ref13_all.l0])
  | succ k1 =>
   have H := HA.out
   clear HA
   simp only [ref13_all.l0] at H
   by_cases c4 : x4_1 < a0
   ·rw [if_pos c4] at H
    have c4b0 : decide (x4_1 < a0) = true := decide_eq_true c4
    clear c4
    by_cases c5 : x3_1.length < 17592186044416
    ·rw [if_pos c5] at H
     have LMc5 := Aside0.mk c5
     clear c5
     obtain ⟨y104, hy104⟩ : ∃ y_ : List Int, y_ = (x3_1 ++ [x4_1]) := ⟨_, rfl⟩
     replace H : (ref13_all.l0 k1 a0 y104 (wrap64 (x4_1 + 1))) = some r := by first | (rw [hy104]; with_reducible exact H) | (have H2_ := (Option.bind_some _ _).symm.trans H; rw [hy104]; with_reducible exact H2_) | (have H2_ := (Option.bind_some _ _).symm.trans H; with_reducible exact H2_) | with_reducible exact H | (rw [hy104]; exact H) | exact H
     have Ny104 := Aside0.mk hy104
     clear hy104
     have H' := Aside0.mk H
     clear H
     go_wp2_with (first | ((with_reducible refine gate_builtin (b := .append) (xs := #[.tmp 11, .tmp 13]) rfl ?_); at_builtin; refine Kd.R_append (Kd.int .i64) (w0 := w) w.heap.size rfl (.tmp 11) (.tmp 13) 69 3 (.int .i64 0) 8 rfl Try.underlying69 info3 rfl (by decide) (by omega) u3 x3_1 x4_1 [.int .i64 x4_1] (fun _ => True) (fun _ => False) rfl rfl ?aP (fun _ hk => hk.elim) ?aF ?aO ?aB ?aS ?aL ?_; (case aP => exact rfl); (case aB => exact (by repeat (first | (with_reducible first | exact HB.out | apply below_alloc | apply pw_below_drewN | apply below_drew1)))); (case aF => exact (fun _ _ => trivial)); (case aO => exact (by (with_reducible repeat (first | apply Kd.R_alloc | apply Kd.R_drewN | apply Kd.R_drew)); exact HO_3.out)); (case aS => exact (below_size (by repeat (first | (with_reducible first | exact HB.out | apply below_alloc | apply pw_below_drewN | apply below_drew1))))); (case aL => have := LMc5.out; omega); intro v105 w6 ho hb hg hat; rw [← Ny104.out] at ho; have n0_ := Aside0.mk (hb); have n1_ := Aside0.mk (ho); clear HB; clear HO_3; have HB := n0_; have HO106 := n1_; clear n0_ n1_; clear ho hb hg hat))
     go_roundg k1
     case measure => have := HK1.out; omega
     case rel => exact ⟨(y104), (wrap64 (x4_1 + 1)), (by first | rfl | (simp; done) | (simp [*]; done)), H', ⟨by have := HK1.out; omega⟩, ⟨by (with_reducible repeat (first | apply Kd.R_alloc | apply Kd.R_drewN | apply Kd.R_drew)); exact HO106.out⟩, ⟨by repeat (first | (with_reducible first | exact HB.out | apply below_alloc | apply pw_below_drewN | apply below_drew1))⟩⟩
    ·rw [if_neg c5] at H
     exact absurd H (by simp)
   ·rw [if_neg c4] at H
    have c4b0 : decide (x4_1 < a0) = false := decide_eq_false c4
    clear c4
    obtain rfl := Option.some.inj H
    go_wp2
    go_ret
    exact ⟨_, by first | rfl | (simp <;> rfl) | (simp [*] <;> rfl), by (with_reducible repeat (first | apply Kd.R_alloc | apply Kd.R_drewN | apply Kd.R_drew)); exact HO_3.out, by repeat (first | (with_reducible first | exact HB.out | apply below_alloc | apply pw_below_drewN | apply below_drew1))⟩
end Go.Proofs.Ytfocaefnmfkojaa.Q
namespace Go.Proofs.Ytfocaefnmfkojaa.Q
open Go.RowKit Go.Proofs.YtfocaefnmfkojaaW.PrintWords Go.Proofs.YtfocaefnmfkojaaW.PrintLast Go.Proofs.YtfocaefnmfkojaaW.PrintMore
attribute [local go_sem] max2_int min2_int max_two min_two max_three min_three max_four min_four   -- for this text's walks alone
set_option linter.unusedVariables false
set_option linter.unusedSimpArgs false
def ref13_Accepts.f (k : Nat) (l0 : List (S44)) (a1 : Int) : Option (Bool) := (ref13_all.f k (l0.length : Int)).bind fun t101 => ((ref13_count.f k l0 a1 ([] : List Int) t101 true).bind fun t104 => (some (decide (t104 > 0))))
set_option maxHeartbeats 8000000 in
set_option maxRecDepth 100000 in
theorem ref13_Accepts.calls (k : Nat) (A0 : Option Addr) (c0 : Nat) (l0 : List (S44)) (a1 : Int) (r : Bool) (w : World) (hr0 : Kd.C k44 w A0 l0.length l0) (hc0 : l0.length ≤ c0) (h : ref13_Accepts.f k l0 a1 = some r) :
  Calls Try.prog 17 #[.slice A0 l0.length c0, .int .i64 a1] w fun e w' => e = .returned (.bool r) ∧ Below w.heap.size w w' := by
 have HR0 := Aside0.mk hr0
 have HC0 := Aside0.mk hc0
 clear hr0 hc0
 have HB := Aside0.mk (Below.refl w.heap.size w)
 have H : ((ref13_all.f k (l0.length : Int)).bind fun t101 => ((ref13_count.f k l0 a1 ([] : List Int) t101 true).bind fun t104 => (some (decide (t104 > 0))))) = some r := h
 clear h
 replace H := Option.bind_eq_some_iff.mp H
 obtain ⟨t101, A30, H⟩ := H
 replace H : ((ref13_count.f k l0 a1 ([] : List Int) t101 true).bind fun t104 => (some (decide (t104 > 0)))) = some r := H
 have A3 := Aside0.mk A30
 clear A30
 replace H := Option.bind_eq_some_iff.mp H
 obtain ⟨t104, A40, H⟩ := H
 replace H : (some (decide (t104 > 0))) = some r := H
 have A4 := Aside0.mk A40
 clear A40
 obtain rfl := Option.some.inj H
 go_enter Try.func17, Try.ntmps17
 go_wp2_with (first | ((with_reducible refine gate_callee (f := 59) rfl ?_); refine goesL_ (some 9) rfl rfl Try.func59 (by kernel_rfl) rfl #[.int .i64 (l0.length : Int)] rfl (by (try simp only [List.map_toArray, List.map_cons, List.map_nil]); first | done | rfl | (simp only [List.length_drop, List.length_take]; rfl)) ?_; (with_reducible refine (ref13_all.calls k (l0.length : Int) t101 _ A3.out).mono ?_); rintro e w5 ⟨v102, rfl, ho0, hb⟩; refine ⟨_, rfl, ?_⟩; have n0_ := Aside0.mk (Kd.R_lower ho0 (below_size (by repeat (first | (with_reducible first | exact HB.out | apply below_alloc | apply pw_below_drewN | apply below_drew1))))); have n1_ := Aside0.mk (below_step (by repeat (first | (with_reducible first | exact HB.out | apply below_alloc | apply pw_below_drewN | apply below_drew1))) hb); clear HB; have HO103 := n0_; have HB := n1_; clear n0_ n1_; (try clear hb); (try clear hb2); (try clear hk); (try clear hi); (try clear ho0); obtain ⟨Ao6, co6, eo6⟩ := Kd.R_slice HO103.out; subst eo6) | ((with_reducible refine gate_callee (f := 58) rfl ?_); refine goesL_ (some 10) rfl rfl Try.func58 (by kernel_rfl) rfl #[.slice A0 l0.length c0, .int .i64 a1, .slice none 0 0, .slice Ao6 t101.length co6, .bool true] rfl (by (try simp only [List.map_toArray, List.map_cons, List.map_nil]); first | done | rfl | (simp only [List.length_drop, List.length_take]; rfl)) ?_; (refine (ref13_count.calls k _ _ l0 a1 _ _ ([] : List Int) _ _ t101 true t104 _ ?side1 ?side2 ?side3 ?side4 ?side5 ?side6 A4.out).mono ?_); (case side1 => repeat (first | exact (Kd.C_below HR0.out HB.out) | (with_reducible refine Kd.C_alloc ?_ _) | (with_reducible refine Kd.C_drewN ?_ _) | (with_reducible refine Kd.C_drew ?_))); (case side2 => exact HC0.out); (case side3 => exact Kd.C_nil _ _); (case side4 => exact Nat.le_refl _); (case side5 => repeat (first | exact (Kd.R_reads' HO103.out).2.2 | (with_reducible refine Kd.C_alloc ?_ _) | (with_reducible refine Kd.C_drewN ?_ _) | (with_reducible refine Kd.C_drew ?_))); (case side6 => exact (Kd.R_reads' HO103.out).2.1); rintro e w7 ⟨rfl, hb⟩; refine ⟨_, rfl, ?_⟩; have n0_ := Aside0.mk (Kd.R_below (by (with_reducible repeat (first | apply Kd.R_alloc | apply Kd.R_drewN | apply Kd.R_drew)); exact HO103.out) hb); have n1_ := Aside0.mk (below_step (by repeat (first | (with_reducible first | exact HB.out | apply below_alloc | apply pw_below_drewN | apply below_drew1))) hb); clear HO103; clear HB; have HO103 := n0_; have HB := n1_; clear n0_ n1_; (try clear hb); (try clear hb2); (try clear hk); (try clear hi)))
 go_ret
 exact ⟨by first | rfl | (simp <;> rfl) | (simp [*] <;> rfl), by repeat (first | (with_reducible first | exact HB.out | apply below_alloc | apply pw_below_drewN | apply below_drew1))⟩
end Go.Proofs.Ytfocaefnmfkojaa.Q
namespace Go.Proofs.Ytfocaefnmfkojaa.Q
end Go.Proofs.Ytfocaefnmfkojaa.Q
namespace Go.Proofs.Ytfocaefnmfkojaa.Q
end Go.Proofs.Ytfocaefnmfkojaa.Q
namespace Go.Proofs.Ytfocaefnmfkojaa.Q
open Go.RowKit Go.Proofs.YtfocaefnmfkojaaW.PrintWords Go.Proofs.YtfocaefnmfkojaaW.PrintLast Go.Proofs.YtfocaefnmfkojaaW.PrintMore
attribute [local go_sem] max2_int min2_int max_two min_two max_three min_three max_four min_four   -- for this text's walks alone
set_option linter.unusedVariables false
set_option linter.unusedSimpArgs false
def table_Implies.f (k : Nat) (a0 : Int) (a1 : Int) : Option (Bool) := (level_Is.f a0).bind fun t101 => (if t101 = true then ((level_Is.f a1).bind fun t102 => (if t102 = true then ((table_Missing.f k a0 a1).bind fun t103 => (some (t103 == 0))) else (some false))) else (some false))
theorem table_Implies.mono : ∀ a0 a1 k, LeO (table_Implies.f k a0 a1) (table_Implies.f (k + 1) a0 a1) := by
 intro a0 a1 k
 unfold table_Implies.f
 repeat' first
   | (with_reducible exact table_Missing.mono _ _ _)
   | (with_reducible exact LeO.refl _)
   | (with_reducible exact LeO.none _)
   | (with_reducible refine LeO.ite ?_ ?_)
   | (with_reducible refine LeO.bind ?_ (fun _ => ?_))
   | exact table_Missing.mono _ _ _
   | exact LeO.none _
   | refine LeO.ite ?_ ?_
   | refine LeO.bind ?_ (fun _ => ?_)
set_option maxHeartbeats 8000000 in
set_option maxRecDepth 100000 in
theorem table_Implies.calls (k : Nat) (a0 : Int) (a1 : Int) (r : Bool) (w : World) (h : table_Implies.f k a0 a1 = some r) :
  Calls Try.prog 22 #[.int .i64 a0, .int .i64 a1] w fun e w' => e = .returned (.bool r) ∧ Below w.heap.size w w' := by
 have HB := Aside0.mk (Below.refl w.heap.size w)
 have H : ((level_Is.f a0).bind fun t101 => (if t101 = true then ((level_Is.f a1).bind fun t102 => (if t102 = true then ((table_Missing.f k a0 a1).bind fun t103 => (some (t103 == 0))) else (some false))) else (some false))) = some r := h
 clear h
 replace H := Option.bind_eq_some_iff.mp H
 obtain ⟨t101, A30, H⟩ := H
 replace H : (if t101 = true then ((level_Is.f a1).bind fun t102 => (if t102 = true then ((table_Missing.f k a0 a1).bind fun t103 => (some (t103 == 0))) else (some false))) else (some false)) = some r := H
 have A3 := Aside0.mk A30
 clear A30
 by_cases c4 : t101 = true
 ·subst c4
  have H1 : ((level_Is.f a1).bind fun t102 => (if t102 = true then ((table_Missing.f k a0 a1).bind fun t103 => (some (t103 == 0))) else (some false))) = some r := by rw [if_pos rfl] at H; exact H
  clear H
  have H := H1
  clear H1
  replace H := Option.bind_eq_some_iff.mp H
  obtain ⟨t102, A50, H⟩ := H
  replace H : (if t102 = true then ((table_Missing.f k a0 a1).bind fun t103 => (some (t103 == 0))) else (some false)) = some r := H
  have A5 := Aside0.mk A50
  clear A50
  by_cases c6 : t102 = true
  ·subst c6
   have H1 : ((table_Missing.f k a0 a1).bind fun t103 => (some (t103 == 0))) = some r := by rw [if_pos rfl] at H; exact H
   clear H
   have H := H1
   clear H1
   replace H := Option.bind_eq_some_iff.mp H
   obtain ⟨t103, A70, H⟩ := H
   replace H : (some (t103 == 0)) = some r := H
   have A7 := Aside0.mk A70
   clear A70
   obtain rfl := Option.some.inj H
   go_enter Try.func22, Try.ntmps22
   go_wp2_with (first | ((with_reducible refine gate_callee (f := 55) rfl ?_); refine goesL_ (some 6) rfl rfl Try.func55 (by kernel_rfl) rfl #[.int .i64 a0] rfl (by (try simp only [List.map_toArray, List.map_cons, List.map_nil]); first | done | rfl | (simp only [List.length_drop, List.length_take]; rfl)) ?_; (with_reducible refine (level_Is.calls a0 true _ A3.out).mono ?_); rintro e w' ⟨rfl, ⟨nd, rfl⟩⟩; refine ⟨_, rfl, ?_⟩) | (go_at_call 55; (with_reducible refine (level_Is.calls a1 true _ A5.out).mono ?_); rintro e w' ⟨rfl, ⟨nd, rfl⟩⟩) | (go_at_call 56; (with_reducible refine (table_Missing.calls k a0 a1 t103 _ A7.out).mono ?_); rintro e w8 ⟨rfl, hb⟩; have n0_ := Aside0.mk (below_step (by repeat (first | (with_reducible first | exact HB.out | apply below_alloc | apply pw_below_drewN | apply below_drew1))) hb); clear HB; have HB := n0_; clear n0_; (try clear hb); (try clear hb2); (try clear hk); (try clear hi)))
   go_ret
   exact ⟨by first | rfl | (simp <;> rfl) | (simp [*] <;> rfl), by repeat (first | (with_reducible first | exact HB.out | apply below_alloc | apply pw_below_drewN | apply below_drew1))⟩
  ·replace c6 := Bool.eq_false_iff.mpr c6
   subst c6
   have H1 : (some false) = some r := by rw [if_neg (show ¬ (false = true) by decide)] at H; exact H
   clear H
   have H := H1
   clear H1
   obtain rfl := Option.some.inj H
   go_enter Try.func22, Try.ntmps22
   go_wp2_with (first | ((with_reducible refine gate_callee (f := 55) rfl ?_); refine goesL_ (some 6) rfl rfl Try.func55 (by kernel_rfl) rfl #[.int .i64 a0] rfl (by (try simp only [List.map_toArray, List.map_cons, List.map_nil]); first | done | rfl | (simp only [List.length_drop, List.length_take]; rfl)) ?_; (with_reducible refine (level_Is.calls a0 true _ A3.out).mono ?_); rintro e w' ⟨rfl, ⟨nd, rfl⟩⟩; refine ⟨_, rfl, ?_⟩) | (go_at_call 55; (with_reducible refine (level_Is.calls a1 false _ A5.out).mono ?_); rintro e w' ⟨rfl, ⟨nd, rfl⟩⟩))
   go_ret
   exact ⟨by first | rfl | (simp <;> rfl) | (simp [*] <;> rfl), by repeat (first | (with_reducible first | exact HB.out | apply below_alloc | apply pw_below_drewN | apply below_drew1))⟩
 ·replace c4 := Bool.eq_false_iff.mpr c4
  subst c4
  have H1 : (some false) = some r := by rw [if_neg (show ¬ (false = true) by decide)] at H; exact H
  clear H
  have H := H1
  clear H1
  obtain rfl := Option.some.inj H
  go_enter Try.func22, Try.ntmps22
  go_wp2_with (first | ((with_reducible refine gate_callee (f := 55) rfl ?_); refine goesL_ (some 6) rfl rfl Try.func55 (by kernel_rfl) rfl #[.int .i64 a0] rfl (by (try simp only [List.map_toArray, List.map_cons, List.map_nil]); first | done | rfl | (simp only [List.length_drop, List.length_take]; rfl)) ?_; (with_reducible refine (level_Is.calls a0 false _ A3.out).mono ?_); rintro e w' ⟨rfl, ⟨nd, rfl⟩⟩; refine ⟨_, rfl, ?_⟩))
  go_ret
  exact ⟨by first | rfl | (simp <;> rfl) | (simp [*] <;> rfl), by repeat (first | (with_reducible first | exact HB.out | apply below_alloc | apply pw_below_drewN | apply below_drew1))⟩
end Go.Proofs.Ytfocaefnmfkojaa.Q
namespace Go.Proofs.Ytfocaefnmfkojaa.Q
open Go.RowKit Go.Proofs.YtfocaefnmfkojaaW.PrintWords Go.Proofs.YtfocaefnmfkojaaW.PrintLast Go.Proofs.YtfocaefnmfkojaaW.PrintMore
attribute [local go_sem] max2_int min2_int max_two min_two max_three min_three max_four min_four   -- for this text's walks alone
set_option linter.unusedVariables false
set_option linter.unusedSimpArgs false
def burgagelaw20_CatalogueSound.j0 : Nat → List (S44) → Int → Int → Bool → Option (Bool)
 | 0, _, _, _, _ => none
 | k + 1, x0, x1, x2, x26 => if x26 = true then (some true) else ((ref13_Accepts.f k x0 (wrap64 (Int.tmod x1 12))).bind fun t104 => (if t104 = true then ((ref13_Accepts.f k x0 (wrap64 (Int.tmod x2 12))).bind fun t105 => (some t105)) else (some true)))
def burgagelaw20_CatalogueSound.f (k : Nat) (l0 : List (S44)) (a1 : Int) (a2 : Int) : Option (Bool) := (burgagelaw20_speaks.f k).bind fun t101 => (if t101 = true then (if (l0.length : Int) > 5 then (burgagelaw20_CatalogueSound.j0 k l0 a1 a2 true) else ((ref06_Check.f k l0).bind fun t102 => (if t102 = 0 then ((table_Implies.f k (wrap64 (Int.tmod a1 12)) (wrap64 (Int.tmod a2 12))).bind fun t103 => (burgagelaw20_CatalogueSound.j0 k l0 a1 a2 (!t103))) else (burgagelaw20_CatalogueSound.j0 k l0 a1 a2 true)))) else (some false))
set_option maxHeartbeats 8000000 in
set_option maxRecDepth 100000 in
theorem burgagelaw20_CatalogueSound.calls (k : Nat) (A0 : Option Addr) (c0 : Nat) (l0 : List (S44)) (a1 : Int) (a2 : Int) (r : Bool) (w : World) (hr0 : Kd.C k44 w A0 l0.length l0) (hc0 : l0.length ≤ c0) (h : burgagelaw20_CatalogueSound.f k l0 a1 a2 = some r) :
  Calls Try.prog 4 #[.slice A0 l0.length c0, .int .u8 a1, .int .u8 a2] w fun e w' => e = .returned (.bool r) ∧ Below w.heap.size w w' := by
 have HR0 := Aside0.mk hr0
 have HC0 := Aside0.mk hc0
 clear hr0 hc0
 have HB := Aside0.mk (Below.refl w.heap.size w)
 have H : ((burgagelaw20_speaks.f k).bind fun t101 => (if t101 = true then (if (l0.length : Int) > 5 then (burgagelaw20_CatalogueSound.j0 k l0 a1 a2 true) else ((ref06_Check.f k l0).bind fun t102 => (if t102 = 0 then ((table_Implies.f k (wrap64 (Int.tmod a1 12)) (wrap64 (Int.tmod a2 12))).bind fun t103 => (burgagelaw20_CatalogueSound.j0 k l0 a1 a2 (!t103))) else (burgagelaw20_CatalogueSound.j0 k l0 a1 a2 true)))) else (some false))) = some r := h
 clear h
 replace H := Option.bind_eq_some_iff.mp H
 obtain ⟨t101, A40, H⟩ := H
 replace H : (if t101 = true then (if (l0.length : Int) > 5 then (burgagelaw20_CatalogueSound.j0 k l0 a1 a2 true) else ((ref06_Check.f k l0).bind fun t102 => (if t102 = 0 then ((table_Implies.f k (wrap64 (Int.tmod a1 12)) (wrap64 (Int.tmod a2 12))).bind fun t103 => (burgagelaw20_CatalogueSound.j0 k l0 a1 a2 (!t103))) else (burgagelaw20_CatalogueSound.j0 k l0 a1 a2 true)))) else (some false)) = some r := H
 have A4 := Aside0.mk A40
 clear A40
 by_cases c5 : t101 = true
 ·subst c5
  have H1 : (if (l0.length : Int) > 5 then (burgagelaw20_CatalogueSound.j0 k l0 a1 a2 true) else ((ref06_Check.f k l0).bind fun t102 => (if t102 = 0 then ((table_Implies.f k (wrap64 (Int.tmod a1 12)) (wrap64 (Int.tmod a2 12))).bind fun t103 => (burgagelaw20_CatalogueSound.j0 k l0 a1 a2 (!t103))) else (burgagelaw20_CatalogueSound.j0 k l0 a1 a2 true)))) = some r := by rw [if_pos rfl] at H; exact H
  clear H
  have H := H1
  clear H1
  have HC6 := Aside0.mk H
  clear H
  go_enter Try.func4, Try.ntmps4
  go_upto_region 3 with (first | ((with_reducible refine gate_callee (f := 13) rfl ?_); refine goesL_ (some 7) rfl rfl Try.func13 (by kernel_rfl) rfl #[] rfl (by (try simp only [List.map_toArray, List.map_cons, List.map_nil]); first | done | rfl | (simp only [List.length_drop, List.length_take]; rfl)) ?_; (with_reducible refine (burgagelaw20_speaks.calls k  true _ A4.out).mono ?_); rintro e w7 ⟨rfl, hb⟩; refine ⟨_, rfl, ?_⟩; have n0_ := Aside0.mk (below_step (by repeat (first | (with_reducible first | exact HB.out | apply below_alloc | apply pw_below_drewN | apply below_drew1))) hb); clear HB; have HB := n0_; clear n0_; (try clear hb); (try clear hb2); (try clear hk); (try clear hi)))
  (try simp only [Act.put, List.setIfInBounds_toArray, List.set_cons_zero, List.set_cons_succ])
  go_cut [26] (fun v26 wc => ∃ (kq : Nat) (x26_5 : Bool), v26 = .bool x26_5 ∧ Aside0 (burgagelaw20_CatalogueSound.j0 kq l0 a1 a2 x26_5 = some r) ∧ Aside0 (kq ≤ k) ∧ Aside0 (Below w.heap.size w wc))
  case first =>
   have H := HC6.out
   clear HC6
   by_cases c8 : (l0.length : Int) > 5
   ·rw [if_pos c8] at H
    have c8b0 : decide (5 < (l0.length : Int)) = true := decide_eq_true c8
    have c8b1 : decide (5 < l0.length) = true := decide_eq_true (by omega)
    clear c8
    (first | rw [c8b0] | (simp only [i64_w, i32_w]; rw [c8b0]) | skip)
    have H' := Aside0.mk H
    clear H
    go_wp2
    go_meet
    case rel => exact ⟨_, (true), (by first | rfl | (simp; done) | (simp [*]; done)), H', ⟨by first | omega | exact Nat.le_refl _⟩, ⟨by repeat (first | (with_reducible first | exact HB.out | apply below_alloc | apply pw_below_drewN | apply below_drew1))⟩⟩
   ·rw [if_neg c8] at H
    have c8b0 : decide (5 < (l0.length : Int)) = false := decide_eq_false c8
    have c8b1 : decide (5 < l0.length) = false := decide_eq_false (by omega)
    clear c8
    (first | rw [c8b0] | (simp only [i64_w, i32_w]; rw [c8b0]) | skip)
    replace H := Option.bind_eq_some_iff.mp H
    obtain ⟨t102, A90, H⟩ := H
    replace H : (if t102 = 0 then ((table_Implies.f k (wrap64 (Int.tmod a1 12)) (wrap64 (Int.tmod a2 12))).bind fun t103 => (burgagelaw20_CatalogueSound.j0 k l0 a1 a2 (!t103))) else (burgagelaw20_CatalogueSound.j0 k l0 a1 a2 true)) = some r := H
    have A9 := Aside0.mk A90
    clear A90
    by_cases c10 : t102 = 0
    ·rw [if_pos c10] at H
     have c10b0 : (t102 == 0) = true := beq_iff_eq.mpr c10
     have c10b1 : (t102 != 0) = false := bne_eq_false_iff_eq.mpr c10
     clear c10
     replace H := Option.bind_eq_some_iff.mp H
     obtain ⟨t103, A110, H⟩ := H
     replace H : (burgagelaw20_CatalogueSound.j0 k l0 a1 a2 (!t103)) = some r := H
     have A11 := Aside0.mk A110
     clear A110
     have H' := Aside0.mk H
     clear H
     go_wp2_with (first | (go_at_call 16; (with_reducible refine (ref06_Check.calls k _ _ l0 t102 _ ?side1 ?side2 A9.out).mono ?_); (case side1 => repeat (first | exact (Kd.C_below HR0.out HB.out) | (with_reducible refine Kd.C_alloc ?_ _) | (with_reducible refine Kd.C_drewN ?_ _) | (with_reducible refine Kd.C_drew ?_))); (case side2 => exact HC0.out); rintro e w12 ⟨rfl, hb⟩; have n0_ := Aside0.mk (below_step (by repeat (first | (with_reducible first | exact HB.out | apply below_alloc | apply pw_below_drewN | apply below_drew1))) hb); clear HB; have HB := n0_; clear n0_; (try clear hb); (try clear hb2); (try clear hk); (try clear hi)) | (go_at_call 22; (with_reducible refine (table_Implies.calls k (wrap64 (Int.tmod a1 12)) (wrap64 (Int.tmod a2 12)) t103 _ A11.out).mono ?_); rintro e w13 ⟨rfl, hb⟩; have n0_ := Aside0.mk (below_step (by repeat (first | (with_reducible first | exact HB.out | apply below_alloc | apply pw_below_drewN | apply below_drew1))) hb); clear HB; have HB := n0_; clear n0_; (try clear hb); (try clear hb2); (try clear hk); (try clear hi)))
     go_meet
     case rel => exact ⟨_, (!t103), (by first | rfl | (simp; done) | (simp [*]; done)), H', ⟨by first | omega | exact Nat.le_refl _⟩, ⟨by repeat (first | (with_reducible first | exact HB.out | apply below_alloc | apply pw_below_drewN | apply below_drew1))⟩⟩
    ·rw [if_neg c10] at H
     have c10b0 : (t102 == 0) = false := beq_eq_false_iff_ne.mpr c10
     have c10b1 : (t102 != 0) = true := bne_iff_ne.mpr c10
     have H' := Aside0.mk H
     clear H
     go_wp2_with (first | (go_at_call 16; (with_reducible refine (ref06_Check.calls k _ _ l0 t102 _ ?side1 ?side2 A9.out).mono ?_); (case side1 => repeat (first | exact (Kd.C_below HR0.out HB.out) | (with_reducible refine Kd.C_alloc ?_ _) | (with_reducible refine Kd.C_drewN ?_ _) | (with_reducible refine Kd.C_drew ?_))); (case side2 => exact HC0.out); rintro e w14 ⟨rfl, hb⟩; have n0_ := Aside0.mk (below_step (by repeat (first | (with_reducible first | exact HB.out | apply below_alloc | apply pw_below_drewN | apply below_drew1))) hb); clear HB; have HB := n0_; clear n0_; (try clear hb); (try clear hb2); (try clear hk); (try clear hi)))
     go_meet
     case rel => exact ⟨_, (true), (by first | rfl | (simp; done) | (simp [*]; done)), H', ⟨by first | omega | exact Nat.le_refl _⟩, ⟨by repeat (first | (with_reducible first | exact HB.out | apply below_alloc | apply pw_below_drewN | apply below_drew1))⟩⟩
  case rest =>
   clear HC6
   try clear c1
   try clear p2
   try clear c4
   try clear c5
   try clear p6
   try clear c8
   try clear c8b0
   try clear c8b1
   try clear c10
   try clear c10b0
   try clear c10b1
   try clear c13
   obtain ⟨kq, x26_5, rfl, HA, HJ5, HB⟩ := hcut
   cases kq with
   | zero => exact absurd HA.out (by simp [burgagelaw20_CatalogueSound.j0])
   | succ kj5 =>
    have H := HA.out
    clear HA
    simp only [burgagelaw20_CatalogueSound.j0] at H
    by_cases c15 : x26_5 = true
    ·subst c15
     have H1 : (some true) = some r := by rw [if_pos rfl] at H; exact H
     clear H
     have H := H1
     clear H1
     obtain rfl := Option.some.inj H
     go_wp2
     go_ret
     exact ⟨by first | rfl | (simp <;> rfl) | (simp [*] <;> rfl), by repeat (first | (with_reducible first | exact HB.out | apply below_alloc | apply pw_below_drewN | apply below_drew1))⟩
    ·replace c15 := Bool.eq_false_iff.mpr c15
     subst c15
     have H1 : ((ref13_Accepts.f kj5 l0 (wrap64 (Int.tmod a1 12))).bind fun t104 => (if t104 = true then ((ref13_Accepts.f kj5 l0 (wrap64 (Int.tmod a2 12))).bind fun t105 => (some t105)) else (some true))) = some r := by rw [if_neg (show ¬ (false = true) by decide)] at H; exact H
     clear H
     have H := H1
     clear H1
     replace H := Option.bind_eq_some_iff.mp H
     obtain ⟨t104, A160, H⟩ := H
     replace H : (if t104 = true then ((ref13_Accepts.f kj5 l0 (wrap64 (Int.tmod a2 12))).bind fun t105 => (some t105)) else (some true)) = some r := H
     have A16 := Aside0.mk A160
     clear A160
     by_cases c17 : t104 = true
     ·subst c17
      have H1 : ((ref13_Accepts.f kj5 l0 (wrap64 (Int.tmod a2 12))).bind fun t105 => (some t105)) = some r := by rw [if_pos rfl] at H; exact H
      clear H
      have H := H1
      clear H1
      replace H := Option.bind_eq_some_iff.mp H
      obtain ⟨t105, A180, H⟩ := H
      replace H : (some t105) = some r := H
      have A18 := Aside0.mk A180
      clear A180
      obtain rfl := Option.some.inj H
      go_wp2_with (first | ((with_reducible refine gate_callee (f := 17) rfl ?_); refine goesL_ (some 31) rfl rfl Try.func17 (by kernel_rfl) rfl #[.slice A0 l0.length c0, .int .i64 (wrap64 (Int.tmod a1 12))] rfl (by (try simp only [List.map_toArray, List.map_cons, List.map_nil]); first | done | rfl | (simp only [List.length_drop, List.length_take]; rfl)) ?_; (with_reducible refine (ref13_Accepts.calls kj5 _ _ l0 (wrap64 (Int.tmod a1 12)) true _ ?side1 ?side2 A16.out).mono ?_); (case side1 => repeat (first | exact (Kd.C_below HR0.out HB.out) | (with_reducible refine Kd.C_alloc ?_ _) | (with_reducible refine Kd.C_drewN ?_ _) | (with_reducible refine Kd.C_drew ?_))); (case side2 => exact HC0.out); rintro e w19 ⟨rfl, hb⟩; refine ⟨_, rfl, ?_⟩; have n0_ := Aside0.mk (below_step (by repeat (first | (with_reducible first | exact HB.out | apply below_alloc | apply pw_below_drewN | apply below_drew1))) hb); clear HB; have HB := n0_; clear n0_; (try clear hb); (try clear hb2); (try clear hk); (try clear hi)) | (go_at_call 17; (with_reducible refine (ref13_Accepts.calls kj5 _ _ l0 (wrap64 (Int.tmod a2 12)) t105 _ ?side1 ?side2 A18.out).mono ?_); (case side1 => repeat (first | exact (Kd.C_below HR0.out HB.out) | (with_reducible refine Kd.C_alloc ?_ _) | (with_reducible refine Kd.C_drewN ?_ _) | (with_reducible refine Kd.C_drew ?_))); (case side2 => exact HC0.out); rintro e w20 ⟨rfl, hb⟩; have n0_ := Aside0.mk (below_step (by repeat (first | (with_reducible first | exact HB.out | apply below_alloc | apply pw_below_drewN | apply below_drew1))) hb); clear HB; have HB := n0_; clear n0_; (try clear hb); (try clear hb2); (try clear hk); (try clear hi)))
      go_ret
      exact ⟨by first | rfl | (simp <;> rfl) | (simp [*] <;> rfl), by repeat (first | (with_reducible first | exact HB.out | apply below_alloc | apply pw_below_drewN | apply below_drew1))⟩
     ·replace c17 := Bool.eq_false_iff.mpr c17
      subst c17
      have H1 : (some true) = some r := by rw [if_neg (show ¬ (false = true) by decide)] at H; exact H
      clear H
      have H := H1
      clear H1
      obtain rfl := Option.some.inj H
      go_wp2_with (first | ((with_reducible refine gate_callee (f := 17) rfl ?_); refine goesL_ (some 31) rfl rfl Try.func17 (by kernel_rfl) rfl #[.slice A0 l0.length c0, .int .i64 (wrap64 (Int.tmod a1 12))] rfl (by (try simp only [List.map_toArray, List.map_cons, List.map_nil]); first | done | rfl | (simp only [List.length_drop, List.length_take]; rfl)) ?_; (with_reducible refine (ref13_Accepts.calls kj5 _ _ l0 (wrap64 (Int.tmod a1 12)) false _ ?side1 ?side2 A16.out).mono ?_); (case side1 => repeat (first | exact (Kd.C_below HR0.out HB.out) | (with_reducible refine Kd.C_alloc ?_ _) | (with_reducible refine Kd.C_drewN ?_ _) | (with_reducible refine Kd.C_drew ?_))); (case side2 => exact HC0.out); rintro e w21 ⟨rfl, hb⟩; refine ⟨_, rfl, ?_⟩; have n0_ := Aside0.mk (below_step (by repeat (first | (with_reducible first | exact HB.out | apply below_alloc | apply pw_below_drewN | apply below_drew1))) hb); clear HB; have HB := n0_; clear n0_; (try clear hb); (try clear hb2); (try clear hk); (try clear hi)))
      go_ret
      exact ⟨by first | rfl | (simp <;> rfl) | (simp [*] <;> rfl), by repeat (first | (with_reducible first | exact HB.out | apply below_alloc | apply pw_below_drewN | apply below_drew1))⟩
 ·replace c5 := Bool.eq_false_iff.mpr c5
  subst c5
  have H1 : (some false) = some r := by rw [if_neg (show ¬ (false = true) by decide)] at H; exact H
  clear H
  have H := H1
  clear H1
  obtain rfl := Option.some.inj H
  go_enter Try.func4, Try.ntmps4
  go_wp2_with (first | ((with_reducible refine gate_callee (f := 13) rfl ?_); refine goesL_ (some 7) rfl rfl Try.func13 (by kernel_rfl) rfl #[] rfl (by (try simp only [List.map_toArray, List.map_cons, List.map_nil]); first | done | rfl | (simp only [List.length_drop, List.length_take]; rfl)) ?_; (with_reducible refine (burgagelaw20_speaks.calls k  false _ A4.out).mono ?_); rintro e w22 ⟨rfl, hb⟩; refine ⟨_, rfl, ?_⟩; have n0_ := Aside0.mk (below_step (by repeat (first | (with_reducible first | exact HB.out | apply below_alloc | apply pw_below_drewN | apply below_drew1))) hb); clear HB; have HB := n0_; clear n0_; (try clear hb); (try clear hb2); (try clear hk); (try clear hi)))
  go_ret
  exact ⟨by first | rfl | (simp <;> rfl) | (simp [*] <;> rfl), by repeat (first | (with_reducible first | exact HB.out | apply below_alloc | apply pw_below_drewN | apply below_drew1))⟩
end Go.Proofs.Ytfocaefnmfkojaa.Q
namespace Go.Proofs.Ytfocaefnmfkojaa.Q
end Go.Proofs.Ytfocaefnmfkojaa.Q
namespace Go.Proofs.Ytfocaefnmfkojaa.Q
end Go.Proofs.Ytfocaefnmfkojaa.Q
namespace Go.Proofs.Ytfocaefnmfkojaa.Q
end Go.Proofs.Ytfocaefnmfkojaa.Q
namespace Go.Proofs.Ytfocaefnmfkojaa.Q
end Go.Proofs.Ytfocaefnmfkojaa.Q
namespace Go.Proofs.Ytfocaefnmfkojaa.Q
end Go.Proofs.Ytfocaefnmfkojaa.Q
namespace Go.Proofs.Ytfocaefnmfkojaa.Q
end Go.Proofs.Ytfocaefnmfkojaa.Q
namespace Go.Proofs.Ytfocaefnmfkojaa.Q
end Go.Proofs.Ytfocaefnmfkojaa.Q
namespace Go.Proofs.Ytfocaefnmfkojaa.Q
end Go.Proofs.Ytfocaefnmfkojaa.Q
namespace Go.Proofs.Ytfocaefnmfkojaa.Q
end Go.Proofs.Ytfocaefnmfkojaa.Q
namespace Go.Proofs.Ytfocaefnmfkojaa.Q
end Go.Proofs.Ytfocaefnmfkojaa.Q
namespace Go.Proofs.Ytfocaefnmfkojaa.Q
end Go.Proofs.Ytfocaefnmfkojaa.Q
namespace Go.Proofs.Ytfocaefnmfkojaa.Q
end Go.Proofs.Ytfocaefnmfkojaa.Q
namespace Go.Proofs.Ytfocaefnmfkojaa.Q
end Go.Proofs.Ytfocaefnmfkojaa.Q
namespace Go.Proofs.Ytfocaefnmfkojaa.Q
end Go.Proofs.Ytfocaefnmfkojaa.Q
namespace Go.Proofs.Ytfocaefnmfkojaa.Q
end Go.Proofs.Ytfocaefnmfkojaa.Q
namespace Go.Proofs.Ytfocaefnmfkojaa.Q
end Go.Proofs.Ytfocaefnmfkojaa.Q
namespace Go.Proofs.Ytfocaefnmfkojaa.Q
end Go.Proofs.Ytfocaefnmfkojaa.Q
namespace Go.Proofs.Ytfocaefnmfkojaa.R
open Go.RowKit Go.Proofs.Ytfocaefnmfkojaa.Q Go.Proofs.YtfocaefnmfkojaaW.PrintWords Go.Proofs.YtfocaefnmfkojaaW.PrintLast
set_option linter.unusedVariables false
set_option linter.unusedSimpArgs false
abbrev Op := S46
abbrev Txn := S44
abbrev Pair := S154
abbrev Rd := S86
abbrev Op.w (o : Op) : Bool := o.f0
abbrev Op.key (o : Op) : Int := o.f1
abbrev Txn.ses (t : Txn) : Int := t.f0
abbrev Txn.ops (t : Txn) : List Op := t.f3
theorem wrapN (n : Nat) (h : n < 4611686018427387904) : wrap64 ((n : Int) + 1) = ((n + 1 : Nat) : Int) := by
  unfold wrap64
  omega
theorem wrapI (x : Int) (h0 : -4611686018427387904 ≤ x) (h1 : x ≤ 4611686018427387904) : wrap64 x = x := by
  unfold wrap64
  omega
theorem rdN (xs : List Int) (i : Nat) (h : i < xs.length) : rd xs (i : Int) = xs[i] := by
  simp [rd, List.getD_eq_getElem?_getD, List.getElem?_eq_getElem h]
theorem rdOp (xs : List Op) (i : Nat) (h : i < xs.length) : rd_T46 xs (i : Int) = xs[i] := by
  simp [rd_T46, List.getD_eq_getElem?_getD, List.getElem?_eq_getElem h]
theorem rdTxn (xs : List Txn) (i : Nat) (h : i < xs.length) : rd_T44 xs (i : Int) = xs[i] := by
  simp [rd_T44, List.getD_eq_getElem?_getD, List.getElem?_eq_getElem h]
theorem rdPair (xs : List Pair) (i : Nat) (h : i < xs.length) : rd_T154 xs (i : Int) = xs[i] := by
  simp [rd_T154, List.getD_eq_getElem?_getD, List.getElem?_eq_getElem h]
theorem rdRd (xs : List Rd) (i : Nat) (h : i < xs.length) : rd_T86 xs (i : Int) = xs[i] := by
  simp [rd_T86, List.getD_eq_getElem?_getD, List.getElem?_eq_getElem h]
theorem drop_at {α : Type} (l : List α) (i : Nat) (h : i < l.length) : l.drop i = l[i] :: l.drop (i + 1) := List.drop_eq_getElem_cons h
theorem drop_end {α : Type} (l : List α) (i : Nat) (h : l.length ≤ i) : l.drop i = [] := List.drop_eq_nil_of_le h
abbrev Few {α : Type} (l : List α) : Prop := l.length ≤ 1000000000000
theorem Ev.ofEq {α : Type} {g : Nat → Option α} {r r' : α} (h : Ev g r) (e : r = r') : Ev g r' := e ▸ h
def has (l : List Pair) (a b : Int) : Bool := l.any fun p => p.f0 == a && p.f1 == b
theorem has_loop (l : List Pair) (a b : Int) (hl : Few l) : ∀ d i : Nat, i + d = l.length → Ev (fun k => ref02_Has.l0 k l a b (i : Int)) ((l.drop i).any fun p => p.f0 == a && p.f1 == b) := by
  intro d
  induction d with
  | zero =>
    intro i hi
    rw [drop_end l i (by omega)]
    refine Ev.step (fun k => by rw [ref02_Has.l0]) ?_
    simp only [if_neg (show ¬ (i : Int) < (l.length : Int) by omega)]
    exact Ev.now _
  | succ d ih =>
    intro i hi
    have hlt : i < l.length := by omega
    have h := ih (i + 1) (by omega)
    rw [drop_at l i hlt, List.any_cons]
    refine Ev.step (fun k => by rw [ref02_Has.l0]) ?_
    simp only [if_pos (show (i : Int) < (l.length : Int) by omega), if_pos (show 0 ≤ (i : Int) by omega), rdPair l i hlt, wrapN i (by unfold Few at hl; omega)]
    by_cases h1 : (l[i]).f0 = a
    · by_cases h2 : (l[i]).f1 = b
      · simp only [if_pos h1, if_pos h2]
        rw [show ((l[i]).f0 == a && (l[i]).f1 == b) = true by simp [h1, h2], Bool.true_or]
        exact Ev.now _
      · simp only [if_pos h1, if_neg h2]
        rw [show ((l[i]).f0 == a && (l[i]).f1 == b) = false by simp [h2], Bool.false_or]
        exact h
    · simp only [if_neg h1]
      rw [show ((l[i]).f0 == a && (l[i]).f1 == b) = false by simp [h1], Bool.false_or]
      exact h
theorem has_ev (l : List Pair) (a b : Int) (hl : Few l) : Ev (fun k => ref02_Has.f k l a b) (has l a b) := has_loop l a b hl l.length 0 (by omega)
theorem has_iff (l : List Pair) (a b : Int) : has l a b = true ↔ ∃ p ∈ l, p.f0 = a ∧ p.f1 = b := by simp [has]
def put (l : List Pair) (a b : Int) : List Pair := if has l a b then l else l ++ [(⟨a, b⟩ : Pair)]
theorem put_ev (l : List Pair) (a b : Int) (hl : Few l) : Ev (fun k => ref02_Put.f k l a b) (put l a b) := by
  unfold ref02_Put.f
  refine Ev.bind (has_ev l a b hl) ?_
  unfold put
  cases has l a b with
  | true => simp only [if_true]; exact Ev.now _
  | false =>
    simp only [Bool.false_eq_true, if_false, Option.bind_some, List.length_nil, Nat.zero_add, List.nil_append]
    unfold Few at hl
    simp only [if_pos (show l.length < 8796093022208 by omega), Option.bind_some]
    exact Ev.now _
theorem has_put (l : List Pair) (a b i k : Int) : has (put l a b) i k = (has l i k || (i == a && k == b)) := by
  unfold put
  split
  · rename_i h
    by_cases h1 : i = a ∧ k = b
    · rw [h1.1, h1.2, h]; simp
    · have : (i == a && k == b) = false := by
        rw [Bool.and_eq_false_iff, beq_eq_false_iff_ne, beq_eq_false_iff_ne]
        by_cases h2 : i = a
        · exact .inr fun h3 => h1 ⟨h2, h3⟩
        · exact .inl h2
      rw [this, Bool.or_false]
  · simp only [has, List.any_append, List.any_cons, List.any_nil, Bool.or_false]
    congr 1
    rw [Bool.eq_iff_iff]
    simp only [Bool.and_eq_true, beq_iff_eq]
    exact ⟨fun h => ⟨h.1.symm, h.2.symm⟩, fun h => ⟨h.1.symm, h.2.symm⟩⟩
end Go.Proofs.Ytfocaefnmfkojaa.R
namespace Go.Proofs.Ytfocaefnmfkojaa.R
open Go.RowKit Go.Proofs.Ytfocaefnmfkojaa.Q Go.Proofs.YtfocaefnmfkojaaW.PrintWords Go.Proofs.YtfocaefnmfkojaaW.PrintLast
set_option linter.unusedVariables false
set_option linter.unusedSimpArgs false
def prev (l : List Op) (i : Nat) (key : Int) : Option Op := (l.take i).reverse.find? fun o => o.f1 == key
def enc (o : Option Op) : Bool × Int × Int × Bool := match o with
  | none => (false, 0, 0, false)
  | some o => (o.f0, o.f1, o.f2, true)
theorem prev_zero (l : List Op) (key : Int) : prev l 0 key = none := by simp [prev]
theorem prev_succ (l : List Op) (i : Nat) (key : Int) (h : i < l.length) : prev l (i + 1) key = if (l[i]).f1 = key then some l[i] else prev l i key := by
  unfold prev
  rw [List.take_succ_eq_append_getElem h, List.reverse_append, List.reverse_singleton, List.singleton_append, List.find?_cons]
  by_cases h1 : (l[i]).f1 = key
  · simp [h1]
  · rw [if_neg h1, show ((l[i]).f1 == key) = false by simpa using h1]
theorem before_loop (l : List Op) (key : Int) (hl : Few l) : ∀ i : Nat, i ≤ l.length → Ev (fun k => ref05_before.l0 k l key ((i : Int) - 1)) (enc (prev l i key)) := by
  intro i
  induction i with
  | zero =>
    intro _
    refine Ev.step (fun k => by rw [ref05_before.l0]) ?_
    simp only [if_neg (show ¬ ((0 : Nat) : Int) - 1 ≥ 0 by omega), prev_zero]
    exact Ev.now _
  | succ i ih =>
    intro hi
    have hlt : i < l.length := by omega
    have h := ih (by omega)
    rw [prev_succ l i key hlt]
    refine Ev.step (fun k => by rw [ref05_before.l0]) ?_
    have e1 : ((i + 1 : Nat) : Int) - 1 = (i : Int) := by omega
    have e2 : wrap64 ((i : Int) - 1) = (i : Int) - 1 := wrapI _ (by omega) (by unfold Few at hl; omega)
    simp only [e1, if_pos (show (i : Int) ≥ 0 by omega), if_pos (show 0 ≤ (i : Int) by omega), if_pos (show (i : Int) < (l.length : Int) by omega), rdOp l i hlt, e2]
    by_cases h1 : (l[i]).f1 = key
    · simp only [if_pos h1]
      exact Ev.now _
    · simp only [if_neg h1]
      exact h
theorem before_ev (l : List Op) (i : Nat) (key : Int) (hl : Few l) (hi : i ≤ l.length) : Ev (fun k => ref05_before.f k l (i : Int) key) (enc (prev l i key)) := by
  unfold ref05_before.f
  rw [wrapI ((i : Int) - 1) (by omega) (by unfold Few at hl; omega)]
  exact before_loop l key hl i hi
def steadyAt (l : List Op) (i : Nat) : Bool := match l[i]? with
  | none => true
  | some o => match prev l i o.f1 with
    | none => true
    | some p => o.f0 || p.f2 == o.f2
def steady (l : List Op) : Bool := (List.range l.length).all (steadyAt l)
theorem range_drop (n i : Nat) (h : i < n) : (List.range n).drop i = i :: (List.range n).drop (i + 1) := by
  rw [drop_at (List.range n) i (by simpa using h)]
  simp
theorem range_end (n i : Nat) (h : n ≤ i) : (List.range n).drop i = [] := drop_end _ _ (by simpa using h)
theorem steady_loop (l : List Op) (hl : Few l) : ∀ d i : Nat, i + d = l.length → Ev (fun k => ref05_Steady.l0 k l (i : Int)) (((List.range l.length).drop i).all (steadyAt l)) := by
  intro d
  induction d with
  | zero =>
    intro i hi
    rw [range_end _ i (by omega)]
    refine Ev.step (fun k => by rw [ref05_Steady.l0]) ?_
    simp only [if_neg (show ¬ (i : Int) < (l.length : Int) by omega)]
    exact Ev.now _
  | succ d ih =>
    intro i hi
    have hlt : i < l.length := by omega
    have h := ih (i + 1) (by omega)
    rw [range_drop _ i hlt, List.all_cons]
    refine Ev.step (fun k => by rw [ref05_Steady.l0]) ?_
    simp only [if_pos (show (i : Int) < (l.length : Int) by omega), if_pos (show 0 ≤ (i : Int) by omega), rdOp l i hlt, wrapN i (by unfold Few at hl; omega)]
    refine Ev.bind (before_ev l i (l[i]).f1 hl (by omega)) ?_
    have hs : steadyAt l i = match prev l i (l[i]).f1 with
      | none => true
      | some p => (l[i]).f0 || p.f2 == (l[i]).f2 := by unfold steadyAt; rw [List.getElem?_eq_getElem hlt]
    rw [hs]
    cases hp : prev l i (l[i]).f1 with
    | none =>
      simp only [enc, Bool.false_eq_true, if_false, Bool.true_and]
      exact h
    | some p =>
      simp only [enc, if_true]
      cases hw : (l[i]).f0 with
      | true => simp only [if_true, Bool.true_or, Bool.true_and]; exact h
      | false =>
        by_cases he : p.f2 = (l[i]).f2
        · simp only [Bool.false_eq_true, if_false, if_pos he, he, BEq.rfl, Bool.or_true, Bool.true_and]; exact h
        · have he2 : (p.f2 == (l[i]).f2) = false := by simpa using he
          simp only [Bool.false_eq_true, if_false, Bool.false_or, he2, Bool.false_and, he]; exact Ev.now _
theorem steady_ev (l : List Op) (hl : Few l) : Ev (fun k => ref05_Steady.f k l) (steady l) := steady_loop l hl l.length 0 (by omega)
def firstAt (l : List Op) (key : Int) (i : Nat) : Option Op := match l[i]? with
  | none => none
  | some o => if o.f1 = key ∧ o.f0 = false ∧ prev l i key = none then some o else none
def readsKey (l : List Op) (key : Int) : List Op := (List.range l.length).filterMap (firstAt l key)
def keys64 : List Nat := List.range 64
def reads (l : List Op) : List Op := keys64.flatMap fun key : Nat => readsKey l (key : Int)
theorem filterMap_len {α β : Type} (f : α → Option β) (l : List α) : (l.filterMap f).length ≤ l.length := List.length_filterMap_le f l
theorem reads_inner (l : List Op) (key : Nat) (r : List Op) (hl : Few l) : ∀ d (i : Nat) (acc : List Op), i + d = l.length → acc.length + d ≤ 100000000000000 / 20 →
    Ev (fun k => ref05_Reads.l0 k l (acc ++ ((List.range l.length).drop i).filterMap (firstAt l (key : Int))) (wrap64 ((key : Int) + 1))) r →
    Ev (fun k => ref05_Reads.l1 k l acc (key : Int) (i : Int)) r := by
  intro d
  induction d with
  | zero =>
    intro i acc hi ha h
    rw [range_end _ i (by omega), List.filterMap_nil, List.append_nil] at h
    refine Ev.step (fun k => by rw [ref05_Reads.l1]) ?_
    simp only [if_neg (show ¬ (i : Int) < (l.length : Int) by omega)]
    exact h
  | succ d ih =>
    intro i acc hi ha h
    have hlt : i < l.length := by omega
    rw [range_drop _ i hlt, List.filterMap_cons] at h
    refine Ev.step (fun k => by rw [ref05_Reads.l1]) ?_
    simp only [if_pos (show (i : Int) < (l.length : Int) by omega)]
    refine Ev.bind (before_ev l i (key : Int) hl (by omega)) ?_
    simp only [if_pos (show 0 ≤ (i : Int) by omega), rdOp l i hlt, wrapN i (by unfold Few at hl; omega)]
    have hf : firstAt l (key : Int) i = if (l[i]).f1 = (key : Int) ∧ (l[i]).f0 = false ∧ prev l i (key : Int) = none then some l[i] else none := by
      unfold firstAt; rw [List.getElem?_eq_getElem hlt]
    by_cases h1 : (l[i]).f1 = (key : Int)
    · cases hw : (l[i]).f0 with
      | true =>
        rw [hf, if_neg (by rw [hw]; simp)] at h
        simp only [if_pos h1, if_true]
        exact ih (i + 1) acc (by omega) (by omega) h
      | false =>
        cases hp : prev l i (key : Int) with
        | some p =>
          rw [hf, if_neg (by rw [hp]; simp)] at h
          simp only [if_pos h1, Bool.false_eq_true, if_false, enc, if_true]
          exact ih (i + 1) acc (by omega) (by omega) h
        | none =>
          rw [hf, if_pos ⟨h1, hw, hp⟩] at h
          simp only [if_pos h1, Bool.false_eq_true, if_false, enc, if_pos (show acc.length < 5864062014805 by omega)]
          refine ih (i + 1) _ (by omega) (by simp; omega) ?_
          have e : (⟨false, (l[i]).f1, (l[i]).f2⟩ : Op) = l[i] := by
            cases hh : l[i] with
            | mk a b c => rw [hh] at hw; simp at hw; simp [hw]
          rw [e, List.append_assoc, List.singleton_append]
          exact h
    · rw [hf, if_neg (fun h2 => h1 h2.1)] at h
      simp only [if_neg h1]
      exact ih (i + 1) acc (by omega) (by omega) h
theorem reads_outer (l : List Op) (hl : Few l) : ∀ d (key : Nat) (acc : List Op), key + d = 64 → acc.length ≤ key * l.length → l.length ≤ 70000000000 →
    Ev (fun k => ref05_Reads.l0 k l acc (key : Int)) (acc ++ (keys64.drop key).flatMap fun key : Nat => readsKey l (key : Int)) := by
  intro d
  induction d with
  | zero =>
    intro key acc hk _ _
    obtain rfl : key = 64 := by omega
    rw [keys64, range_end 64 64 (by omega), List.flatMap_nil, List.append_nil]
    refine Ev.step (fun k => by rw [ref05_Reads.l0]) ?_
    simp only [if_neg (show ¬ ((64 : Nat) : Int) < 64 by omega)]
    exact Ev.now _
  | succ d ih =>
    intro key acc hk ha hb
    rw [keys64, range_drop 64 key (by omega), List.flatMap_cons]
    refine Ev.step (fun k => by rw [ref05_Reads.l0]) ?_
    simp only [if_pos (show (key : Int) < 64 by omega)]
    have hmul : key * l.length ≤ 64 * l.length := Nat.mul_le_mul_right _ (by omega)
    refine reads_inner l key _ hl l.length 0 acc (by omega) (by omega) ?_
    rw [List.drop_zero, wrapN key (by omega), ← List.append_assoc]
    refine ih (key + 1) _ (by omega) ?_ hb
    have h1 := filterMap_len (firstAt l (key : Int)) (List.range l.length)
    rw [List.length_append, Nat.succ_mul]
    simp only [List.length_range] at h1
    omega
theorem reads_ev (l : List Op) (hl : l.length ≤ 70000000000) : Ev (fun k => ref05_Reads.f k l) (reads l) :=
  reads_outer l (by unfold Few; omega) 64 0 [] (by omega) (by simp) hl
def lastW (l : List Op) (key : Int) : Option Op := l.reverse.find? fun o => o.f0 && o.f1 == key
def writes (l : List Op) : List Op := keys64.flatMap fun key : Nat => (lastW l (key : Int)).toList
def lastI (l : List Op) (key : Int) : Nat → Int
  | 0 => -1
  | i + 1 => match l[i]? with
    | none => lastI l key i
    | some o => if o.f1 = key ∧ o.f0 = true then (i : Int) else lastI l key i
theorem lastI_range (l : List Op) (key : Int) : ∀ i, i ≤ l.length → -1 ≤ lastI l key i ∧ lastI l key i < i := by
  intro i
  induction i with
  | zero => intro _; simp [lastI]
  | succ i ih =>
    intro h
    have := ih (by omega)
    unfold lastI
    rw [List.getElem?_eq_getElem (show i < l.length by omega)]
    simp only
    split <;> omega
theorem lastI_find (l : List Op) (key : Int) : ∀ i, i ≤ l.length → (l.take i).reverse.find? (fun o => o.f0 && o.f1 == key) = if lastI l key i ≥ 0 then l[(lastI l key i).toNat]? else none := by
  intro i
  induction i with
  | zero => intro _; simp [lastI]
  | succ i ih =>
    intro h
    have hlt : i < l.length := by omega
    rw [List.take_succ_eq_append_getElem hlt, List.reverse_append, List.reverse_singleton, List.singleton_append, List.find?_cons]
    unfold lastI
    rw [List.getElem?_eq_getElem hlt]
    simp only
    by_cases h1 : (l[i]).f1 = key ∧ (l[i]).f0 = true
    · rw [if_pos h1, show ((l[i]).f0 && (l[i]).f1 == key) = true by simp [h1.1, h1.2]]
      simp [List.getElem?_eq_getElem hlt]
    · rw [if_neg h1, show ((l[i]).f0 && (l[i]).f1 == key) = false by
        cases hw : (l[i]).f0 with
        | false => rfl
        | true =>
          have h2 : ¬ (l[i]).f1 = key := fun h2 => h1 ⟨h2, hw⟩
          simpa using h2]
      exact ih (by omega)
theorem writes_inner (l : List Op) (key : Nat) (acc : List Op) (r : List Op) (hl : Few l) (ha : acc.length ≤ 64)
    (h : Ev (fun k => ref05_Writes.l0 k l (acc ++ (lastW l (key : Int)).toList) (wrap64 ((key : Int) + 1))) r) :
    ∀ d (i : Nat), i + d = l.length → Ev (fun k => ref05_Writes.l1 k l acc (key : Int) (lastI l (key : Int) i) (i : Int)) r := by
  intro d
  induction d with
  | zero =>
    intro i hi
    obtain rfl : i = l.length := by omega
    refine Ev.step (fun k => by rw [ref05_Writes.l1]) ?_
    simp only [if_neg (show ¬ (l.length : Int) < (l.length : Int) by omega)]
    have hf := lastI_find l (key : Int) l.length (Nat.le_refl _)
    rw [List.take_length] at hf
    have hr := lastI_range l (key : Int) l.length (Nat.le_refl _)
    by_cases h0 : lastI l (key : Int) l.length ≥ 0
    · have hlt : (lastI l (key : Int) l.length).toNat < l.length := by omega
      have e : lastI l (key : Int) l.length = (((lastI l (key : Int) l.length).toNat : Nat) : Int) := by omega
      have hrd := rdOp l (lastI l (key : Int) l.length).toNat hlt
      rw [← e] at hrd
      simp only [if_pos h0, if_pos (show 0 ≤ lastI l (key : Int) l.length from h0), if_pos (show lastI l (key : Int) l.length < (l.length : Int) by omega), if_pos (show acc.length < 5864062014805 by omega), hrd]
      have : lastW l (key : Int) = some l[(lastI l (key : Int) l.length).toNat] := by
        unfold lastW
        rw [hf, if_pos h0, List.getElem?_eq_getElem hlt]
      rw [this] at h
      exact h
    · simp only [if_neg h0]
      have : lastW l (key : Int) = none := by
        unfold lastW
        rw [hf, if_neg h0]
      rw [this, Option.toList_none, List.append_nil] at h
      exact h
  | succ d ih =>
    intro i hi
    have hlt : i < l.length := by omega
    have hn := ih (i + 1) (by omega)
    refine Ev.step (fun k => by rw [ref05_Writes.l1]) ?_
    simp only [if_pos (show (i : Int) < (l.length : Int) by omega), if_pos (show 0 ≤ (i : Int) by omega), rdOp l i hlt, wrapN i (by unfold Few at hl; omega)]
    have hs : lastI l (key : Int) (i + 1) = if (l[i]).f1 = (key : Int) ∧ (l[i]).f0 = true then (i : Int) else lastI l (key : Int) i := by
      rw [lastI, List.getElem?_eq_getElem hlt]
    rw [hs] at hn
    by_cases h1 : (l[i]).f1 = (key : Int)
    · cases hw : (l[i]).f0 with
      | true =>
        rw [if_pos ⟨h1, hw⟩] at hn
        simp only [if_pos h1, if_true]
        exact hn
      | false =>
        rw [if_neg (by rw [hw]; simp)] at hn
        simp only [if_pos h1, Bool.false_eq_true, if_false]
        exact hn
    · rw [if_neg (fun h2 => h1 h2.1)] at hn
      simp only [if_neg h1]
      exact hn
theorem writes_outer (l : List Op) (hl : Few l) : ∀ d (key : Nat) (acc : List Op), key + d = 64 → acc.length ≤ key →
    Ev (fun k => ref05_Writes.l0 k l acc (key : Int)) (acc ++ (keys64.drop key).flatMap fun key : Nat => (lastW l (key : Int)).toList) := by
  intro d
  induction d with
  | zero =>
    intro key acc hk _
    obtain rfl : key = 64 := by omega
    rw [keys64, range_end 64 64 (by omega), List.flatMap_nil, List.append_nil]
    refine Ev.step (fun k => by rw [ref05_Writes.l0]) ?_
    simp only [if_neg (show ¬ ((64 : Nat) : Int) < 64 by omega)]
    exact Ev.now _
  | succ d ih =>
    intro key acc hk ha
    rw [keys64, range_drop 64 key (by omega), List.flatMap_cons]
    refine Ev.step (fun k => by rw [ref05_Writes.l0]) ?_
    simp only [if_pos (show (key : Int) < 64 by omega)]
    refine writes_inner l key acc _ hl (by omega) ?_ l.length 0 (by omega)
    rw [wrapN key (by omega), ← List.append_assoc]
    refine ih (key + 1) _ (by omega) ?_
    have : (lastW l (key : Int)).toList.length ≤ 1 := by cases lastW l (key : Int) <;> simp
    rw [List.length_append]
    omega
theorem writes_ev (l : List Op) (hl : Few l) : Ev (fun k => ref05_Writes.f k l) (writes l) := writes_outer l hl 64 0 [] (by omega) (by simp)
theorem writes_len (l : List Op) : (writes l).length ≤ 64 := by
  have : ∀ ks : List Nat, (ks.flatMap fun key : Nat => (lastW l (key : Int)).toList).length ≤ ks.length := by
    intro ks
    induction ks with
    | nil => simp
    | cons a ks ih =>
      rw [List.flatMap_cons, List.length_append, List.length_cons]
      have : (lastW l (a : Int)).toList.length ≤ 1 := by cases lastW l (a : Int) <;> simp
      omega
  have h := this keys64
  rw [show keys64.length = 64 from List.length_range] at h
  exact h
def value (l : List Op) (key : Int) : Int := match (writes l).find? fun o => o.f1 == key with
  | none => 0
  | some o => o.f2
theorem value_loop (ws : List Op) (key : Int) (hl : Few ws) : ∀ d i : Nat, i + d = ws.length → Ev (fun k => ref05_Value.l0 k key ws (i : Int)) (match (ws.drop i).find? fun o => o.f1 == key with
  | none => 0
  | some o => o.f2) := by
  intro d
  induction d with
  | zero =>
    intro i hi
    rw [drop_end ws i (by omega)]
    refine Ev.step (fun k => by rw [ref05_Value.l0]) ?_
    simp only [if_neg (show ¬ (i : Int) < (ws.length : Int) by omega), List.find?_nil]
    exact Ev.now _
  | succ d ih =>
    intro i hi
    have hlt : i < ws.length := by omega
    have h := ih (i + 1) (by omega)
    rw [drop_at ws i hlt, List.find?_cons]
    refine Ev.step (fun k => by rw [ref05_Value.l0]) ?_
    simp only [if_pos (show (i : Int) < (ws.length : Int) by omega), if_pos (show 0 ≤ (i : Int) by omega), rdOp ws i hlt, wrapN i (by unfold Few at hl; omega)]
    by_cases h1 : (ws[i]).f1 = key
    · simp only [if_pos h1, show ((ws[i]).f1 == key) = true by simpa using h1]
      exact Ev.now _
    · simp only [if_neg h1, show ((ws[i]).f1 == key) = false by simpa using h1]
      exact h
theorem value_ev (l : List Op) (key : Int) (hl : Few l) : Ev (fun k => ref05_Value.f k l key) (value l key) := by
  unfold ref05_Value.f
  refine Ev.bind (writes_ev l hl) ?_
  exact value_loop (writes l) key (by have := writes_len l; unfold Few; omega) (writes l).length 0 (by omega)
theorem last_ev (t : Txn) (key v : Int) (hl : Few t.f3) : Ev (fun k => ref06_Last.f k t.f0 t.f1 t.f2 t.f3 key v) (value t.f3 key == v) := by
  unfold ref06_Last.f
  refine Ev.bind (value_ev t.f3 key hl) ?_
  exact Ev.now _
end Go.Proofs.Ytfocaefnmfkojaa.R
namespace Go.Proofs.Ytfocaefnmfkojaa.R
open Go.RowKit Go.Proofs.Ytfocaefnmfkojaa.Q Go.Proofs.YtfocaefnmfkojaaW.PrintWords Go.Proofs.YtfocaefnmfkojaaW.PrintLast
set_option linter.unusedVariables false
set_option linter.unusedSimpArgs false
structure FewH (h : List Txn) : Prop where
  len : h.length ≤ 1000
  ops : ∀ t ∈ h, t.f3.length ≤ 7000000000000
theorem FewH.at {h : List Txn} (H : FewH h) (i : Nat) (hi : i < h.length) : (h[i]).f3.length ≤ 7000000000000 := H.ops _ (List.getElem_mem hi)
def isW (key v : Int) (o : Op) : Bool := o.f0 && (o.f1 == key && o.f2 == v)
def writer (h : List Txn) (key v : Int) : Int := match h.findIdx? fun t => t.f3.any (isW key v) with
  | none => -1
  | some i => (i : Int)
def writerFrom (h : List Txn) (key v : Int) (i : Nat) : Int := match (h.drop i).findIdx? fun t => t.f3.any (isW key v) with
  | none => -1
  | some j => ((i + j : Nat) : Int)
theorem writerFrom_end (h : List Txn) (key v : Int) (i : Nat) (hi : h.length ≤ i) : writerFrom h key v i = -1 := by
  unfold writerFrom
  rw [drop_end h i hi]
  rfl
theorem writerFrom_at (h : List Txn) (key v : Int) (i : Nat) (hi : i < h.length) : writerFrom h key v i = if (h[i]).f3.any (isW key v) = true then (i : Int) else writerFrom h key v (i + 1) := by
  unfold writerFrom
  rw [drop_at h i hi, List.findIdx?_cons]
  by_cases h1 : (h[i]).f3.any (isW key v) = true
  · rw [if_pos h1, if_pos h1]; simp
  · rw [if_neg h1, if_neg h1]
    cases (h.drop (i + 1)).findIdx? fun t => t.f3.any (isW key v) with
    | none => rfl
    | some j => simp; omega
theorem writer_loop (h : List Txn) (key v : Int) (H : FewH h) : ∀ d i : Nat, i + d = h.length → Ev (fun k => ref06_Writer.l0 k h key v (i : Int)) (writerFrom h key v i) := by
  intro d
  induction d with
  | zero =>
    intro i hi
    rw [writerFrom_end h key v i (by omega)]
    refine Ev.step (fun k => by rw [ref06_Writer.l0]) ?_
    simp only [if_neg (show ¬ (i : Int) < (h.length : Int) by omega)]
    exact Ev.now _
  | succ d ih =>
    intro i hi
    have hlt : i < h.length := by omega
    have hn := ih (i + 1) (by omega)
    refine Ev.step (fun k => by rw [ref06_Writer.l0]) ?_
    simp only [if_pos (show (i : Int) < (h.length : Int) by omega)]
    have hops := H.at i hlt
    have inner : ∀ d2 j : Nat, j + d2 = (h[i]).f3.length → Ev (fun k => ref06_Writer.l1 k h key v (i : Int) (j : Int)) (if ((h[i]).f3.drop j).any (isW key v) = true then (i : Int) else writerFrom h key v (i + 1)) := by
      intro d2
      induction d2 with
      | zero =>
        intro j hj
        rw [drop_end _ j (by omega)]
        refine Ev.step (fun k => by rw [ref06_Writer.l1]) ?_
        simp only [if_pos (show 0 ≤ (i : Int) by omega), if_pos (show (i : Int) < (h.length : Int) by omega), rdTxn h i hlt, if_neg (show ¬ (j : Int) < ((h[i]).f3.length : Int) by omega), wrapN i (by have := H.len; omega), List.any_nil, Bool.false_eq_true, if_false]
        exact hn
      | succ d2 ih2 =>
        intro j hj
        have hj2 : j < (h[i]).f3.length := by omega
        have hm := ih2 (j + 1) (by omega)
        rw [drop_at _ j hj2, List.any_cons]
        refine Ev.step (fun k => by rw [ref06_Writer.l1]) ?_
        simp only [if_pos (show 0 ≤ (i : Int) by omega), if_pos (show (i : Int) < (h.length : Int) by omega), rdTxn h i hlt, if_pos (show (j : Int) < ((h[i]).f3.length : Int) by omega), if_pos (show 0 ≤ (j : Int) by omega), rdOp _ j hj2, wrapN j (by omega)]
        cases hw : ((h[i]).f3[j]).f0 with
        | false =>
          rw [show isW key v ((h[i]).f3[j]) = false by simp [isW, hw], Bool.false_or]
          simp only [Bool.false_eq_true, if_false]
          exact hm
        | true =>
          by_cases h1 : ((h[i]).f3[j]).f1 = key
          · by_cases h2 : ((h[i]).f3[j]).f2 = v
            · rw [show isW key v ((h[i]).f3[j]) = true by simp [isW, hw, h1, h2], Bool.true_or]
              simp only [if_true, if_pos h1, if_pos h2]
              exact Ev.now _
            · rw [show isW key v ((h[i]).f3[j]) = false by simp [isW, hw, h2], Bool.false_or]
              simp only [if_true, if_pos h1, if_neg h2]
              exact hm
          · rw [show isW key v ((h[i]).f3[j]) = false by simp [isW, hw, h1], Bool.false_or]
            simp only [if_true, if_neg h1]
            exact hm
    rw [writerFrom_at h key v i hlt]
    exact inner (h[i]).f3.length 0 (by omega)
theorem writer_ev (h : List Txn) (key v : Int) (H : FewH h) : Ev (fun k => ref06_Writer.f k h key v) (writer h key v) := by
  have e : writer h key v = writerFrom h key v 0 := by
    unfold writer writerFrom
    rw [List.drop_zero]
    cases h.findIdx? fun t => t.f3.any (isW key v) with
    | none => rfl
    | some j => simp
  rw [e]
  exact writer_loop h key v H h.length 0 (by omega)
theorem writer_range (h : List Txn) (key v : Int) : -1 ≤ writer h key v ∧ writer h key v < h.length := by
  unfold writer
  cases hf : h.findIdx? fun t => t.f3.any (isW key v) with
  | none => simp only; omega
  | some i =>
    have := (List.findIdx?_eq_some_iff_getElem.1 hf).1
    simp only
    omega
def isV (v : Int) (o : Op) : Bool := o.f0 && o.f2 == v
def timesL (l : List Op) (v : Int) : Nat := l.countP (isV v)
theorem timesL_cons (o : Op) (l : List Op) (v : Int) : timesL (o :: l) v = timesL l v + if isV v o = true then 1 else 0 := by
  unfold timesL
  rw [List.countP_cons]
def times (h : List Txn) (v : Int) : Nat := (h.map fun t => timesL t.f3 v).sum
theorem times_loop (h : List Txn) (v : Int) (H : FewH h) : ∀ d (i n : Nat), i + d = h.length → n + d * 7000000000000 ≤ 1000000000000000000 → Ev (fun k => ref06_times.l0 k h v (n : Int) (i : Int)) ((n + times (h.drop i) v : Nat) : Int) := by
  intro d
  induction d with
  | zero =>
    intro i n hi hb
    rw [drop_end h i (by omega)]
    refine Ev.step (fun k => by rw [ref06_times.l0]) ?_
    simp only [if_neg (show ¬ (i : Int) < (h.length : Int) by omega)]
    exact Ev.now _
  | succ d ih =>
    intro i n hi hb
    have hlt : i < h.length := by omega
    refine Ev.step (fun k => by rw [ref06_times.l0]) ?_
    simp only [if_pos (show (i : Int) < (h.length : Int) by omega)]
    have hops := H.at i hlt
    have inner : ∀ d2 (j n : Nat), j + d2 = (h[i]).f3.length → n + d2 + d * 7000000000000 ≤ 1000000000000000000 → Ev (fun k => ref06_times.l1 k h v (n : Int) (i : Int) (j : Int)) ((n + timesL ((h[i]).f3.drop j) v + times (h.drop (i + 1)) v : Nat) : Int) := by
      intro d2
      induction d2 with
      | zero =>
        intro j n hj hb2
        rw [drop_end _ j (by omega)]
        refine Ev.step (fun k => by rw [ref06_times.l1]) ?_
        simp only [if_pos (show 0 ≤ (i : Int) by omega), if_pos (show (i : Int) < (h.length : Int) by omega), rdTxn h i hlt, if_neg (show ¬ (j : Int) < ((h[i]).f3.length : Int) by omega), wrapN i (by have := H.len; omega)]
        have := ih (i + 1) n (by omega) (by omega)
        simpa [timesL] using this
      | succ d2 ih2 =>
        intro j n hj hb2
        have hj2 : j < (h[i]).f3.length := by omega
        rw [drop_at _ j hj2]
        refine Ev.step (fun k => by rw [ref06_times.l1]) ?_
        simp only [if_pos (show 0 ≤ (i : Int) by omega), if_pos (show (i : Int) < (h.length : Int) by omega), rdTxn h i hlt, if_pos (show (j : Int) < ((h[i]).f3.length : Int) by omega), if_pos (show 0 ≤ (j : Int) by omega), rdOp _ j hj2, wrapN j (by omega), wrapN n (by omega)]
        cases hw : ((h[i]).f3[j]).f0 with
        | false =>
          have e : timesL ((h[i]).f3[j] :: (h[i]).f3.drop (j + 1)) v = timesL ((h[i]).f3.drop (j + 1)) v := by rw [timesL_cons]; simp [isV, hw]
          rw [e]
          simp only [Bool.false_eq_true, if_false]
          exact ih2 (j + 1) n (by omega) (by omega)
        | true =>
          by_cases h1 : ((h[i]).f3[j]).f2 = v
          · have e : timesL ((h[i]).f3[j] :: (h[i]).f3.drop (j + 1)) v = timesL ((h[i]).f3.drop (j + 1)) v + 1 := by rw [timesL_cons]; simp [isV, hw, h1]
            rw [e]
            simp only [if_true, if_pos h1]
            refine Ev.ofEq (ih2 (j + 1) (n + 1) (by omega) (by omega)) ?_
            omega
          · have e : timesL ((h[i]).f3[j] :: (h[i]).f3.drop (j + 1)) v = timesL ((h[i]).f3.drop (j + 1)) v := by rw [timesL_cons]; simp [isV, hw, h1]
            rw [e]
            simp only [if_true, if_neg h1]
            exact ih2 (j + 1) n (by omega) (by omega)
    refine Ev.ofEq (inner (h[i]).f3.length 0 n (by omega) (by omega)) ?_
    rw [drop_at h i hlt]
    simp only [times, List.map_cons, List.sum_cons, List.drop_zero]
    omega
theorem times_ev (h : List Txn) (v : Int) (H : FewH h) : Ev (fun k => ref06_times.f k h v) (times h v : Int) := by
  have := times_loop h v H h.length 0 0 (by omega) (by have := H.len; omega)
  unfold ref06_times.f
  simpa using this
def mayOp (o : Op) : Bool := decide (0 ≤ o.f1 ∧ o.f1 ≤ 63 ∧ 0 ≤ o.f2 ∧ o.f2 ≤ 2147483647 ∧ (o.f0 = true → o.f2 ≠ 0))
theorem mayOp_f (a : Bool) (b c : Int) : ref06_mayOp.f a b c = some (mayOp ⟨a, b, c⟩) := by
  unfold ref06_mayOp.f mayOp
  simp only
  by_cases h1 : b < 0
  · rw [if_pos h1, decide_eq_false (by omega)]
  · rw [if_neg h1]
    by_cases h2 : b > 63
    · rw [if_pos h2, decide_eq_false (by omega)]
    · rw [if_neg h2]
      by_cases h3 : c < 0
      · rw [if_pos h3, decide_eq_false (by omega)]
      · rw [if_neg h3]
        by_cases h4 : c > 2147483647
        · rw [if_pos h4, decide_eq_false (by omega)]
        · rw [if_neg h4]
          cases a with
          | false => rw [if_neg (by simp), decide_eq_true ⟨by omega, by omega, by omega, by omega, by simp⟩]
          | true =>
            rw [if_pos rfl]
            by_cases h5 : c = 0
            · rw [decide_eq_false (by simp [h5]), show (c != 0) = false by simp [h5]]
            · rw [decide_eq_true ⟨by omega, by omega, by omega, by omega, fun _ => h5⟩, show (c != 0) = true by simp [h5]]
def mayTxn (t : Txn) : Bool := decide (0 ≤ t.f0 ∧ t.f0 ≤ 63 ∧ 0 ≤ t.f1 ∧ t.f1 < t.f2 ∧ t.f2 ≤ 2147483647 ∧ 1 ≤ t.f3.length ∧ t.f3.length ≤ 64) && t.f3.all mayOp
theorem mayTxn_loop (a b c : Int) (l : List Op) (hl : Few l) : ∀ d i : Nat, i + d = l.length → Ev (fun k => ref06_mayTxn.l0 k (i : Int) a b c l) ((l.drop i).all mayOp) := by
  intro d
  induction d with
  | zero =>
    intro i hi
    rw [drop_end l i (by omega)]
    refine Ev.step (fun k => by rw [ref06_mayTxn.l0]) ?_
    simp only [if_neg (show ¬ (i : Int) < (l.length : Int) by omega)]
    exact Ev.now _
  | succ d ih =>
    intro i hi
    have hlt : i < l.length := by omega
    have h := ih (i + 1) (by omega)
    rw [drop_at l i hlt, List.all_cons]
    refine Ev.step (fun k => by rw [ref06_mayTxn.l0]) ?_
    simp only [if_pos (show (i : Int) < (l.length : Int) by omega), if_pos (show 0 ≤ (i : Int) by omega), rdOp l i hlt, wrapN i (by unfold Few at hl; omega), mayOp_f, Option.bind_some]
    cases mayOp l[i] with
    | true => simp only [if_true, Bool.true_and]; exact h
    | false => simp only [Bool.false_eq_true, if_false, Bool.false_and]; exact Ev.now _
theorem mayTxn_ev (t : Txn) (hl : t.f3.length ≤ 7000000000000) : Ev (fun k => ref06_mayTxn.f k t.f0 t.f1 t.f2 t.f3) (mayTxn t) := by
  have yes : Ev (fun k => ref06_mayTxn.j0 k true t.f0 t.f1 t.f2 t.f3) false := by
    refine Ev.step (fun k => by rw [ref06_mayTxn.j0]) ?_
    simp only [if_true]
    exact Ev.now _
  unfold ref06_mayTxn.f mayTxn
  by_cases h1 : t.f0 < 0
  · simp only [if_pos h1]; rw [decide_eq_false (by omega), Bool.false_and]; exact yes
  · simp only [if_neg h1]
    by_cases h2 : t.f0 > 63
    · simp only [if_pos h2]; rw [decide_eq_false (by omega), Bool.false_and]; exact yes
    · simp only [if_neg h2]
      by_cases h3 : t.f1 < 0
      · simp only [if_pos h3]; rw [decide_eq_false (by omega), Bool.false_and]; exact yes
      · simp only [if_neg h3]
        by_cases h4 : t.f1 ≥ t.f2
        · simp only [if_pos h4]; rw [decide_eq_false (by omega), Bool.false_and]; exact yes
        · simp only [if_neg h4]
          by_cases h5 : t.f2 > 2147483647
          · simp only [if_pos h5]; rw [decide_eq_false (by omega), Bool.false_and]; exact yes
          · simp only [if_neg h5]
            by_cases h6 : (t.f3.length : Int) < 1
            · simp only [if_pos h6]; rw [decide_eq_false (by omega), Bool.false_and]; exact yes
            · simp only [if_neg h6]
              by_cases h7 : (t.f3.length : Int) > 64
              · simp only [decide_eq_true h7]; rw [decide_eq_false (by omega), Bool.false_and]; exact yes
              · simp only [decide_eq_false h7]
                rw [decide_eq_true ⟨by omega, by omega, by omega, by omega, by omega, by omega, by omega⟩, Bool.true_and]
                refine Ev.step (fun k => by rw [ref06_mayTxn.j0]) ?_
                simp only [Bool.false_eq_true, if_false]
                exact mayTxn_loop t.f0 t.f1 t.f2 t.f3 (by unfold Few; omega) t.f3.length 0 (by omega)
end Go.Proofs.Ytfocaefnmfkojaa.R
namespace Go.Proofs.Ytfocaefnmfkojaa.R
open Go.RowKit Go.Proofs.Ytfocaefnmfkojaa.Q Go.Proofs.YtfocaefnmfkojaaW.PrintWords Go.Proofs.YtfocaefnmfkojaaW.PrintLast
set_option linter.unusedVariables false
set_option linter.unusedSimpArgs false
def count (h : List Txn) : Nat := (h.map fun t => t.f3.length).sum
theorem count_loop (h : List Txn) (H : FewH h) : ∀ d (i n : Nat), i + d = h.length → n + d * 7000000000000 ≤ 1000000000000000000 → Ev (fun k => ref06_Count.l0 k h (n : Int) (i : Int)) ((n + count (h.drop i) : Nat) : Int) := by
  intro d
  induction d with
  | zero =>
    intro i n hi hb
    rw [drop_end h i (by omega)]
    refine Ev.step (fun k => by rw [ref06_Count.l0]) ?_
    simp only [if_neg (show ¬ (i : Int) < (h.length : Int) by omega)]
    exact Ev.now _
  | succ d ih =>
    intro i n hi hb
    have hlt : i < h.length := by omega
    have hops := H.at i hlt
    refine Ev.step (fun k => by rw [ref06_Count.l0]) ?_
    have e : wrap64 ((n : Int) + ((h[i]).f3.length : Int)) = ((n + (h[i]).f3.length : Nat) : Int) := by
      rw [wrapI _ (by omega) (by omega)]
      omega
    simp only [if_pos (show (i : Int) < (h.length : Int) by omega), if_pos (show 0 ≤ (i : Int) by omega), rdTxn h i hlt, wrapN i (by have := H.len; omega), e]
    refine Ev.ofEq (ih (i + 1) _ (by omega) (by omega)) ?_
    rw [drop_at h i hlt]
    simp only [count, List.map_cons, List.sum_cons]
    omega
theorem count_ev (h : List Txn) (H : FewH h) : Ev (fun k => ref06_Count.f k h) (count h : Int) := by
  have := count_loop h H h.length 0 0 (by omega) (by have := H.len; omega)
  unfold ref06_Count.f
  simpa using this
def pairOk (a b : Txn) : Bool := decide (a.f1 ≠ b.f1 ∧ a.f1 ≠ b.f2 ∧ a.f2 ≠ b.f1 ∧ a.f2 ≠ b.f2 ∧ (a.f0 = b.f0 → a.f2 ≤ b.f1))
def opOk (h : List Txn) (o : Op) : Bool := decide ((o.f0 = true → times h o.f2 = 1) ∧ (o.f0 = false → o.f2 ≠ 0 → 0 ≤ writer h o.f1 o.f2))
def pairAt (h : List Txn) (b : Txn) (k : Nat) : Bool := match h[k]? with
  | none => true
  | some a => pairOk a b
def txnOk (h : List Txn) (i : Nat) : Bool := match h[i]? with
  | none => true
  | some t => mayTxn t && ((List.range i).all (pairAt h t) && t.f3.all (opOk h))
def may (h : List Txn) : Bool := (List.range h.length).all (txnOk h)
theorem may_ops (h : List Txn) (H : FewH h) (i : Nat) (hi : i < h.length) (r : Bool) (hn : Ev (fun k => ref06_May.l0 k h ((i + 1 : Nat) : Int)) r) :
    ∀ d j : Nat, j + d = (h[i]).f3.length → Ev (fun k => ref06_May.l2 k h (i : Int) (j : Int)) (((h[i]).f3.drop j).all (opOk h) && r) := by
  have hops := H.at i hi
  intro d
  induction d with
  | zero =>
    intro j hj
    rw [drop_end _ j (by omega)]
    refine Ev.step (fun k => by rw [ref06_May.l2]) ?_
    simp only [if_pos (show 0 ≤ (i : Int) by omega), if_pos (show (i : Int) < (h.length : Int) by omega), rdTxn h i hi, if_neg (show ¬ (j : Int) < ((h[i]).f3.length : Int) by omega), wrapN i (by have := H.len; omega), List.all_nil, Bool.true_and]
    exact hn
  | succ d ih =>
    intro j hj
    have hj2 : j < (h[i]).f3.length := by omega
    have hm := ih (j + 1) (by omega)
    rw [drop_at _ j hj2, List.all_cons]
    generalize ho : (h[i]).f3[j] = o at *
    refine Ev.step (fun k => by rw [ref06_May.l2]) ?_
    simp only [if_pos (show 0 ≤ (i : Int) by omega), if_pos (show (i : Int) < (h.length : Int) by omega), rdTxn h i hi, if_pos (show (j : Int) < ((h[i]).f3.length : Int) by omega), if_pos (show 0 ≤ (j : Int) by omega), rdOp _ j hj2, ho]
    have j4 : ∀ b : Bool, Ev (fun k => ref06_May.j4 k h (i : Int) (j : Int) b o.f0 o.f1 o.f2) (!b && (decide (o.f0 = false → o.f2 ≠ 0 → 0 ≤ writer h o.f1 o.f2) && (((h[i]).f3.drop (j + 1)).all (opOk h) && r))) := by
      intro b
      refine Ev.step (fun k => by rw [ref06_May.j4]) ?_
      cases b with
      | true => simp only [if_true, Bool.not_true, Bool.false_and]; exact Ev.now _
      | false =>
        simp only [Bool.false_eq_true, if_false, Bool.not_false, Bool.true_and, wrapN j (by omega)]
        cases hw : o.f0 with
        | true =>
          rw [decide_eq_true (by simp), Bool.true_and]
          simp only [if_true]
          exact hm
        | false =>
          simp only [Bool.false_eq_true, if_false]
          by_cases h0 : o.f2 = 0
          · rw [decide_eq_true (by simp [h0]), Bool.true_and]
            simp only [if_pos h0]
            exact hm
          · simp only [if_neg h0]
            refine Ev.bind (writer_ev h o.f1 o.f2 H) ?_
            by_cases h1 : writer h o.f1 o.f2 < 0
            · rw [decide_eq_false (by simp [h0]; omega), Bool.false_and]
              simp only [if_pos h1]
              exact Ev.now _
            · rw [decide_eq_true (by intro _ _; omega), Bool.true_and]
              simp only [if_neg h1]
              exact hm
    have e : (opOk h o && (((h[i]).f3.drop (j + 1)).all (opOk h) && r)) = (decide (o.f0 = true → times h o.f2 = 1) && (decide (o.f0 = false → o.f2 ≠ 0 → 0 ≤ writer h o.f1 o.f2) && (((h[i]).f3.drop (j + 1)).all (opOk h) && r))) := by
      unfold opOk
      rw [Bool.decide_and, Bool.and_assoc]
    rw [Bool.and_assoc, e]
    cases hw : o.f0 with
    | true =>
      simp only [if_true]
      refine Ev.bind (times_ev h o.f2 H) ?_
      have h4 := j4 ((times h o.f2 : Int) != 1)
      rw [hw] at h4
      refine Ev.ofEq h4 ?_
      congr 1
      rw [Bool.eq_iff_iff]
      simp
      omega
    | false =>
      simp only [Bool.false_eq_true, if_false]
      have h4 := j4 false
      rw [hw] at h4
      refine Ev.ofEq h4 ?_
      have a1 : decide (False → times h o.f2 = 1) = true := decide_eq_true (fun x => x.elim)
      rw [a1, Bool.true_and, Bool.not_false, Bool.true_and]
      congr 1
      rw [Bool.eq_iff_iff, decide_eq_true_iff, decide_eq_true_iff]
      exact ⟨fun x _ => x rfl, fun x _ => x trivial⟩
theorem may_pairs (h : List Txn) (H : FewH h) (i : Nat) (hi : i < h.length) (r : Bool) (hn : Ev (fun k => ref06_May.l2 k h (i : Int) 0) r) :
    ∀ d j : Nat, j + d = i → Ev (fun k => ref06_May.l1 k h (i : Int) (j : Int)) (((List.range i).drop j).all (pairAt h h[i]) && r) := by
  intro d
  induction d with
  | zero =>
    intro j hj
    rw [range_end _ j (by omega)]
    refine Ev.step (fun k => by rw [ref06_May.l1]) ?_
    simp only [if_neg (show ¬ (j : Int) < (i : Int) by omega), List.all_nil, Bool.true_and]
    exact hn
  | succ d ih =>
    intro j hj
    have hj2 : j < h.length := by omega
    have hm := ih (j + 1) (by omega)
    rw [range_drop _ j (by omega), List.all_cons]
    have hp : pairAt h h[i] j = pairOk h[j] h[i] := by unfold pairAt; rw [List.getElem?_eq_getElem hj2]
    rw [hp]
    generalize ha : h[j] = a at *
    generalize hb : h[i] = b at *
    refine Ev.step (fun k => by rw [ref06_May.l1]) ?_
    have ra := rdTxn h j hj2
    have rb := rdTxn h i hi
    rw [ha] at ra
    rw [hb] at rb
    simp only [if_pos (show (j : Int) < (i : Int) by omega), if_pos (show 0 ≤ (j : Int) by omega), if_pos (show (j : Int) < (h.length : Int) by omega), if_pos (show 0 ≤ (i : Int) by omega), if_pos (show (i : Int) < (h.length : Int) by omega), ra, rb]
    have j2 : ∀ x : Bool, Ev (fun k => ref06_May.j2 k h (i : Int) (j : Int) x a.f0 a.f1 a.f2 a.f3 b.f0 b.f1 b.f2 b.f3) (!x && (decide (a.f0 = b.f0 → a.f2 ≤ b.f1) && (((List.range i).drop (j + 1)).all (pairAt h b) && r))) := by
      intro x
      refine Ev.step (fun k => by rw [ref06_May.j2]) ?_
      cases x with
      | true => simp only [if_true, Bool.not_true, Bool.false_and]; exact Ev.now _
      | false =>
        simp only [Bool.false_eq_true, if_false, Bool.not_false, Bool.true_and, wrapN j (by have := H.len; omega)]
        by_cases h1 : a.f0 = b.f0
        · simp only [if_pos h1]
          by_cases h2 : a.f2 > b.f1
          · rw [decide_eq_false (by intro h3; have := h3 h1; omega), Bool.false_and]
            simp only [if_pos h2]
            exact Ev.now _
          · rw [decide_eq_true (by intro _; omega), Bool.true_and]
            simp only [if_neg h2]
            exact hm
        · rw [decide_eq_true (by intro h3; exact absurd h3 h1), Bool.true_and]
          simp only [if_neg h1]
          exact hm
    have yes := j2 true
    rw [Bool.not_true, Bool.false_and] at yes
    unfold pairOk
    by_cases h1 : a.f1 = b.f1
    · simp only [if_pos h1]; rw [decide_eq_false (by simp [h1])]; exact yes
    · simp only [if_neg h1]
      by_cases h2 : a.f1 = b.f2
      · simp only [if_pos h2]; rw [decide_eq_false (by simp [h2])]; exact yes
      · simp only [if_neg h2]
        by_cases h3 : a.f2 = b.f1
        · simp only [if_pos h3]; rw [decide_eq_false (by simp [h3])]; exact yes
        · simp only [if_neg h3]
          refine Ev.ofEq (j2 (a.f2 == b.f2)) ?_
          rw [Bool.and_assoc]
          by_cases h4 : a.f2 = b.f2
          · simp [h4]
          · have : (a.f2 == b.f2) = false := by simpa using h4
            simp [this, h1, h2, h3, h4]
theorem may_loop (h : List Txn) (H : FewH h) : ∀ d i : Nat, i + d = h.length → Ev (fun k => ref06_May.l0 k h (i : Int)) (((List.range h.length).drop i).all (txnOk h)) := by
  intro d
  induction d with
  | zero =>
    intro i hi
    rw [range_end _ i (by omega)]
    refine Ev.step (fun k => by rw [ref06_May.l0]) ?_
    simp only [if_neg (show ¬ (i : Int) < (h.length : Int) by omega)]
    exact Ev.now _
  | succ d ih =>
    intro i hi
    have hlt : i < h.length := by omega
    have hn := ih (i + 1) (by omega)
    have h2 := may_ops h H i hlt _ hn (h[i]).f3.length 0 (by omega)
    have h1 := may_pairs h H i hlt _ h2 i 0 (by omega)
    rw [List.drop_zero, List.drop_zero] at h1
    rw [range_drop _ i hlt, List.all_cons]
    have e : txnOk h i = (mayTxn h[i] && ((List.range i).all (pairAt h h[i]) && (h[i]).f3.all (opOk h))) := by unfold txnOk; rw [List.getElem?_eq_getElem hlt]
    rw [e]
    refine Ev.step (fun k => by rw [ref06_May.l0]) ?_
    simp only [if_pos (show (i : Int) < (h.length : Int) by omega), if_pos (show 0 ≤ (i : Int) by omega), rdTxn h i hlt]
    refine Ev.bind (mayTxn_ev h[i] (H.at i hlt)) ?_
    cases mayTxn h[i] with
    | false => simp only [Bool.false_eq_true, if_false, Bool.false_and]; exact Ev.now _
    | true =>
      simp only [if_true, Bool.true_and]
      rw [Bool.and_assoc]
      exact h1
theorem may_ev (h : List Txn) (H : FewH h) : Ev (fun k => ref06_May.f k h) (may h) := may_loop h H h.length 0 (by omega)
def check (h : List Txn) : Int := if h.length > 64 ∨ count h > 1024 then 3 else if may h = true then 0 else 2
theorem check_ev (h : List Txn) (H : FewH h) : Ev (fun k => ref06_Check.f k h) (check h) := by
  have j0 : ∀ b : Bool, Ev (fun k => ref06_Check.j0 k h b) (if b = true then 3 else if may h = true then 0 else 2) := by
    intro b
    refine Ev.step (fun k => by rw [ref06_Check.j0]) ?_
    cases b with
    | true => simp only [if_true]; exact Ev.now _
    | false =>
      simp only [Bool.false_eq_true, if_false]
      refine Ev.bind (may_ev h H) ?_
      cases may h with
      | true => simp only [if_true]; exact Ev.now _
      | false => simp only [Bool.false_eq_true, if_false]; exact Ev.now _
  unfold ref06_Check.f check
  by_cases h1 : h.length > 64
  · simp only [if_pos (show (h.length : Int) > 64 by omega), if_pos (Or.inl h1)]
    exact j0 true
  · simp only [if_neg (show ¬ (h.length : Int) > 64 by omega)]
    refine Ev.bind (count_ev h H) ?_
    by_cases h2 : count h > 1024
    · rw [if_pos (Or.inr h2)]
      simp only [decide_eq_true (show (count h : Int) > 1024 by omega)]
      exact j0 true
    · rw [if_neg (by omega)]
      simp only [decide_eq_false (show ¬ (count h : Int) > 1024 by omega)]
      exact j0 false
structure Good (h : List Txn) : Prop where
  len : h.length ≤ 64
  cnt : count h ≤ 1024
  may : may h = true
theorem good_iff (h : List Txn) : check h = 0 ↔ Good h := by
  unfold check
  constructor
  · intro hc
    split at hc
    · omega
    · rename_i h1
      split at hc
      · rename_i h2
        exact ⟨by omega, by omega, h2⟩
      · omega
  · intro g
    rw [if_neg (by have := g.len; have := g.cnt; omega), if_pos g.may]
theorem Good.txn {h : List Txn} (g : Good h) (i : Nat) (hi : i < h.length) : mayTxn h[i] = true ∧ (∀ k, k < i → pairAt h h[i] k = true) ∧ ∀ o ∈ (h[i]).f3, opOk h o = true := by
  have h1 := List.all_eq_true.1 g.may i (List.mem_range.2 hi)
  unfold txnOk at h1
  rw [List.getElem?_eq_getElem hi] at h1
  simp only [Bool.and_eq_true] at h1
  exact ⟨h1.1, fun k hk => List.all_eq_true.1 h1.2.1 k (List.mem_range.2 hk), fun o ho => List.all_eq_true.1 h1.2.2 o ho⟩
theorem Good.pair {h : List Txn} (g : Good h) (k i : Nat) (hk : k < i) (hi : i < h.length) : (h[k]).f1 ≠ (h[i]).f1 ∧ (h[k]).f1 ≠ (h[i]).f2 ∧ (h[k]).f2 ≠ (h[i]).f1 ∧ (h[k]).f2 ≠ (h[i]).f2 ∧ ((h[k]).f0 = (h[i]).f0 → (h[k]).f2 ≤ (h[i]).f1) := by
  have h1 := (g.txn i hi).2.1 k hk
  unfold pairAt at h1
  rw [List.getElem?_eq_getElem (show k < h.length by omega)] at h1
  exact of_decide_eq_true h1
theorem Good.one {h : List Txn} (g : Good h) (i : Nat) (hi : i < h.length) : 0 ≤ (h[i]).f0 ∧ (h[i]).f0 ≤ 63 ∧ 0 ≤ (h[i]).f1 ∧ (h[i]).f1 < (h[i]).f2 ∧ (h[i]).f2 ≤ 2147483647 ∧ 1 ≤ (h[i]).f3.length ∧ (h[i]).f3.length ≤ 64 := by
  have h1 := (g.txn i hi).1
  unfold mayTxn at h1
  rw [Bool.and_eq_true] at h1
  exact of_decide_eq_true h1.1
theorem Good.op {h : List Txn} (g : Good h) (i : Nat) (hi : i < h.length) (o : Op) (ho : o ∈ (h[i]).f3) : (0 ≤ o.f1 ∧ o.f1 ≤ 63 ∧ 0 ≤ o.f2 ∧ o.f2 ≤ 2147483647 ∧ (o.f0 = true → o.f2 ≠ 0)) ∧ (o.f0 = true → times h o.f2 = 1) ∧ (o.f0 = false → o.f2 ≠ 0 → 0 ≤ writer h o.f1 o.f2) := by
  have h1 := (g.txn i hi).1
  unfold mayTxn at h1
  rw [Bool.and_eq_true] at h1
  exact ⟨of_decide_eq_true (List.all_eq_true.1 h1.2 o ho), of_decide_eq_true ((g.txn i hi).2.2 o ho)⟩
end Go.Proofs.Ytfocaefnmfkojaa.R
namespace Go.Proofs.Ytfocaefnmfkojaa.R
open Go.RowKit Go.Proofs.Ytfocaefnmfkojaa.Q Go.Proofs.YtfocaefnmfkojaaW.PrintWords Go.Proofs.YtfocaefnmfkojaaW.PrintLast
set_option linter.unusedVariables false
set_option linter.unusedSimpArgs false
theorem count_ge (h : List Txn) : ∀ t ∈ h, t.f3.length ≤ count h := by
  induction h with
  | nil => simp
  | cons a h ih =>
    intro t ht
    simp only [count, List.map_cons, List.sum_cons] at *
    rcases List.mem_cons.1 ht with rfl | ht
    · omega
    · have := ih t ht
      omega
theorem Good.few {h : List Txn} (g : Good h) : FewH h := ⟨by have := g.len; omega, fun t ht => by have := count_ge h t ht; have := g.cnt; omega⟩
theorem Good.ops64 {h : List Txn} (g : Good h) (i : Nat) (hi : i < h.length) : (h[i]).f3.length ≤ 64 := (g.one i hi).2.2.2.2.2.2
theorem readsKey_len (l : List Op) (key : Int) : (readsKey l key).length ≤ l.length := by
  have := filterMap_len (firstAt l key) (List.range l.length)
  simpa [readsKey] using this
theorem flatMap_len {α β : Type} (f : α → List β) (B : Nat) : ∀ l : List α, (∀ a ∈ l, (f a).length ≤ B) → (l.flatMap f).length ≤ l.length * B
  | [], _ => by simp
  | a :: l, h => by
    have h1 := h a List.mem_cons_self
    have h2 := flatMap_len f B l fun b hb => h b (List.mem_cons_of_mem _ hb)
    rw [List.flatMap_cons, List.length_append, List.length_cons, Nat.succ_mul]
    omega
theorem reads_len (l : List Op) : (reads l).length ≤ 64 * l.length := by
  have := flatMap_len (fun key : Nat => readsKey l (key : Int)) l.length keys64 (fun a _ => readsKey_len l _)
  rw [show keys64.length = 64 from List.length_range] at this
  exact this
theorem mem_reads (l : List Op) (o : Op) (h : o ∈ reads l) : o.f0 = false ∧ o ∈ l ∧ 0 ≤ o.f1 ∧ o.f1 < 64 := by
  obtain ⟨key, hk, ho⟩ := List.mem_flatMap.1 h
  obtain ⟨i, hi, hf⟩ := List.mem_filterMap.1 ho
  unfold firstAt at hf
  cases hl : l[i]? with
  | none => rw [hl] at hf; cases hf
  | some x =>
    rw [hl] at hf
    simp only at hf
    split at hf
    · rename_i hc
      obtain rfl := Option.some.inj hf
      have hk2 : key < 64 := by simpa [keys64] using hk
      exact ⟨hc.2.1, List.mem_of_getElem? hl, by omega, by omega⟩
    · cases hf
def fromOf (h : List Txn) (o : Op) : Int := if o.f2 = 0 then -1 else writer h o.f1 o.f2
def rdOf (h : List Txn) (i : Int) (o : Op) : Option Rd := if fromOf h o = i then none else some ⟨o.f1, fromOf h o⟩
def readsOf (h : List Txn) (i : Nat) : List Rd := match h[i]? with
  | none => []
  | some t => (reads t.f3).filterMap (rdOf h (i : Int))
theorem readsOf_at (h : List Txn) (i : Nat) (hi : i < h.length) : readsOf h i = (reads (h[i]).f3).filterMap (rdOf h (i : Int)) := by
  unfold readsOf
  rw [List.getElem?_eq_getElem hi]
theorem readsOf_loop (h : List Txn) (H : FewH h) (x : Int) (l : List Op) (hl : l.length ≤ 100000) : ∀ d (i : Nat) (acc : List Rd), i + d = l.length → acc.length + d ≤ 1000000 →
    Ev (fun k => ref08_Reads.l0 k h x acc l (i : Int)) (acc ++ (l.drop i).filterMap (rdOf h x)) := by
  intro d
  induction d with
  | zero =>
    intro i acc hi ha
    rw [drop_end l i (by omega), List.filterMap_nil, List.append_nil]
    refine Ev.step (fun k => by rw [ref08_Reads.l0]) ?_
    simp only [if_neg (show ¬ (i : Int) < (l.length : Int) by omega)]
    exact Ev.now _
  | succ d ih =>
    intro i acc hi ha
    have hlt : i < l.length := by omega
    rw [drop_at l i hlt, List.filterMap_cons]
    refine Ev.step (fun k => by rw [ref08_Reads.l0]) ?_
    simp only [if_pos (show (i : Int) < (l.length : Int) by omega), if_pos (show 0 ≤ (i : Int) by omega), rdOp l i hlt, wrapN i (by omega), if_pos (show acc.length < 8796093022208 by omega)]
    by_cases h0 : (l[i]).f2 = 0
    · have hf : fromOf h l[i] = -1 := if_pos h0
      simp only [if_pos h0]
      by_cases h1 : (-1 : Int) = x
      · have hr : rdOf h x l[i] = none := by unfold rdOf; rw [hf, if_pos h1]
        simp only [if_pos h1, hr]
        exact ih (i + 1) acc (by omega) (by omega)
      · have hr : rdOf h x l[i] = some ⟨(l[i]).f1, -1⟩ := by unfold rdOf; rw [hf, if_neg h1]
        simp only [if_neg h1, hr]
        have := ih (i + 1) (acc ++ [⟨(l[i]).f1, -1⟩]) (by omega) (by simp; omega)
        rwa [List.append_assoc, List.singleton_append] at this
    · have hf : fromOf h l[i] = writer h (l[i]).f1 (l[i]).f2 := if_neg h0
      simp only [if_neg h0]
      refine Ev.bind (writer_ev h _ _ H) ?_
      by_cases h1 : writer h (l[i]).f1 (l[i]).f2 = x
      · have hr : rdOf h x l[i] = none := by unfold rdOf; rw [hf, if_pos h1]
        simp only [if_pos h1, hr]
        exact ih (i + 1) acc (by omega) (by omega)
      · have hr : rdOf h x l[i] = some ⟨(l[i]).f1, writer h (l[i]).f1 (l[i]).f2⟩ := by unfold rdOf; rw [hf, if_neg h1]
        simp only [if_neg h1, hr]
        have := ih (i + 1) (acc ++ [⟨(l[i]).f1, writer h (l[i]).f1 (l[i]).f2⟩]) (by omega) (by simp; omega)
        rwa [List.append_assoc, List.singleton_append] at this
theorem readsOf_ev (h : List Txn) (g : Good h) (i : Nat) (hi : i < h.length) : Ev (fun k => ref08_Reads.f k h (i : Int)) (readsOf h i) := by
  have h64 := g.ops64 i hi
  have hr := reads_len (h[i]).f3
  unfold ref08_Reads.f
  rw [readsOf_at h i hi]
  simp only [if_pos (show 0 ≤ (i : Int) by omega), if_pos (show (i : Int) < (h.length : Int) by omega), rdTxn h i hi]
  refine Ev.bind (reads_ev (h[i]).f3 (by omega)) ?_
  have := readsOf_loop h g.few (i : Int) (reads (h[i]).f3) (by omega) (reads (h[i]).f3).length 0 [] (by omega) (by simp; omega)
  simpa using this
theorem readsOf_len (h : List Txn) (g : Good h) (i : Nat) (hi : i < h.length) : (readsOf h i).length ≤ 4096 := by
  have h64 := g.ops64 i hi
  have hr := reads_len (h[i]).f3
  have := filterMap_len (rdOf h (i : Int)) (reads (h[i]).f3)
  rw [readsOf_at h i hi]
  omega
def frm (h : List Txn) (x : Int) (k : Nat) : Bool := (readsOf h k).any fun r => r.f1 == x
theorem frm_loop (x : Int) (l : List Rd) (hl : l.length ≤ 100000) : ∀ d i : Nat, i + d = l.length → Ev (fun k => ref08_From.l0 k x l (i : Int)) ((l.drop i).any fun r => r.f1 == x) := by
  intro d
  induction d with
  | zero =>
    intro i hi
    rw [drop_end l i (by omega)]
    refine Ev.step (fun k => by rw [ref08_From.l0]) ?_
    simp only [if_neg (show ¬ (i : Int) < (l.length : Int) by omega)]
    exact Ev.now _
  | succ d ih =>
    intro i hi
    have hlt : i < l.length := by omega
    have h := ih (i + 1) (by omega)
    rw [drop_at l i hlt, List.any_cons]
    refine Ev.step (fun k => by rw [ref08_From.l0]) ?_
    simp only [if_pos (show (i : Int) < (l.length : Int) by omega), if_pos (show 0 ≤ (i : Int) by omega), rdRd l i hlt, wrapN i (by omega)]
    by_cases h1 : (l[i]).f1 = x
    · simp only [if_pos h1, show ((l[i]).f1 == x) = true by simpa using h1, Bool.true_or]
      exact Ev.now _
    · simp only [if_neg h1, show ((l[i]).f1 == x) = false by simpa using h1, Bool.false_or]
      exact h
theorem frm_ev (h : List Txn) (g : Good h) (x : Int) (k : Nat) (hk : k < h.length) : Ev (fun n => ref08_From.f n h x (k : Int)) (frm h x k) := by
  unfold ref08_From.f
  refine Ev.bind (readsOf_ev h g k hk) ?_
  have := readsOf_len h g k hk
  exact frm_loop x (readsOf h k) (by omega) (readsOf h k).length 0 (by omega)
def sOk (h : List Txn) (i : Int) (o : Op) : Bool := o.f2 == 0 || (writer h o.f1 o.f2 != i && (match h[(writer h o.f1 o.f2).toNat]? with
  | none => false
  | some t => value t.f3 o.f1 == o.f2))
def soundAt (h : List Txn) (i : Nat) : Bool := match h[i]? with
  | none => true
  | some t => steady t.f3 && (reads t.f3).all (sOk h (i : Int))
def sound (h : List Txn) : Bool := (List.range h.length).all (soundAt h)
theorem sound_inner (h : List Txn) (g : Good h) (i : Nat) (hi : i < h.length) (r : Bool) (l : List Op) (hl : l.length ≤ 100000) (hw : ∀ o ∈ l, o.f2 ≠ 0 → 0 ≤ writer h o.f1 o.f2)
    (hn : Ev (fun k => ref08_Sound.l0 k h ((i + 1 : Nat) : Int)) r) : ∀ d j : Nat, j + d = l.length → Ev (fun k => ref08_Sound.l1 k h (i : Int) l (j : Int)) ((l.drop j).all (sOk h (i : Int)) && r) := by
  intro d
  induction d with
  | zero =>
    intro j hj
    rw [drop_end l j (by omega)]
    refine Ev.step (fun k => by rw [ref08_Sound.l1]) ?_
    simp only [if_neg (show ¬ (j : Int) < (l.length : Int) by omega), wrapN i (by have := g.len; omega), List.all_nil, Bool.true_and]
    exact hn
  | succ d ih =>
    intro j hj
    have hlt : j < l.length := by omega
    have hm := ih (j + 1) (by omega)
    have hwj := hw _ (List.getElem_mem hlt)
    rw [drop_at l j hlt, List.all_cons, Bool.and_assoc]
    refine Ev.step (fun k => by rw [ref08_Sound.l1]) ?_
    simp only [if_pos (show (j : Int) < (l.length : Int) by omega), if_pos (show 0 ≤ (j : Int) by omega), rdOp l j hlt, wrapN j (by omega)]
    generalize l[j] = o at *
    by_cases h0 : o.f2 = 0
    · have e : sOk h (i : Int) o = true := by simp [sOk, h0]
      simp only [if_pos h0]
      rw [e, Bool.true_and]
      exact hm
    · simp only [if_neg h0]
      refine Ev.bind (writer_ev h o.f1 o.f2 g.few) ?_
      by_cases h1 : writer h o.f1 o.f2 = (i : Int)
      · have e : sOk h (i : Int) o = false := by simp [sOk, h0, h1]
        simp only [if_pos h1]
        rw [e, Bool.false_and]
        exact Ev.now _
      · have h2 := hwj h0
        have h3 := (writer_range h o.f1 o.f2).2
        obtain ⟨n, hn2⟩ := Int.eq_ofNat_of_zero_le h2
        have hlt2 : n < h.length := by omega
        have e : sOk h (i : Int) o = (value (h[n]).f3 o.f1 == o.f2) := by
          unfold sOk
          rw [show (o.f2 == 0) = false by simpa using h0, Bool.false_or, show (writer h o.f1 o.f2 != (i : Int)) = true by simpa using h1, Bool.true_and, hn2]
          simp [List.getElem?_eq_getElem hlt2]
        rw [e]
        rw [hn2] at h1 ⊢
        simp only [if_neg h1, if_pos (show 0 ≤ (n : Int) by omega), if_pos (show (n : Int) < (h.length : Int) by omega), rdTxn h n hlt2]
        refine Ev.bind (last_ev h[n] o.f1 o.f2 (by have := g.ops64 n hlt2; unfold Few; omega)) ?_
        cases value (h[n]).f3 o.f1 == o.f2 with
        | true => simp only [if_true, Bool.true_and]; exact hm
        | false => simp only [Bool.false_eq_true, if_false, Bool.false_and]; exact Ev.now _
theorem sound_loop (h : List Txn) (g : Good h) : ∀ d i : Nat, i + d = h.length → Ev (fun k => ref08_Sound.l0 k h (i : Int)) (((List.range h.length).drop i).all (soundAt h)) := by
  intro d
  induction d with
  | zero =>
    intro i hi
    rw [range_end _ i (by omega)]
    refine Ev.step (fun k => by rw [ref08_Sound.l0]) ?_
    simp only [if_neg (show ¬ (i : Int) < (h.length : Int) by omega)]
    exact Ev.now _
  | succ d ih =>
    intro i hi
    have hlt : i < h.length := by omega
    have h64 := g.ops64 i hlt
    have hr := reads_len (h[i]).f3
    rw [range_drop _ i hlt, List.all_cons]
    have e : soundAt h i = (steady (h[i]).f3 && (reads (h[i]).f3).all (sOk h (i : Int))) := by unfold soundAt; rw [List.getElem?_eq_getElem hlt]
    rw [e]
    refine Ev.step (fun k => by rw [ref08_Sound.l0]) ?_
    simp only [if_pos (show (i : Int) < (h.length : Int) by omega), if_pos (show 0 ≤ (i : Int) by omega), rdTxn h i hlt]
    refine Ev.bind (steady_ev (h[i]).f3 (by unfold Few; omega)) ?_
    cases steady (h[i]).f3 with
    | false => simp only [Bool.false_eq_true, if_false, Bool.false_and]; exact Ev.now _
    | true =>
      simp only [if_true, Bool.true_and]
      refine Ev.bind (reads_ev (h[i]).f3 (by omega)) ?_
      have := sound_inner h g i hlt _ (reads (h[i]).f3) (by omega) (fun o ho h0 => by
        obtain ⟨h1, h2, _⟩ := mem_reads _ _ ho
        exact (g.op i hlt o h2).2.2 h1 h0) (ih (i + 1) (by omega)) (reads (h[i]).f3).length 0 (by omega)
      rwa [List.drop_zero] at this
theorem sound_ev (h : List Txn) (g : Good h) : Ev (fun k => ref08_Sound.f k h) (sound h) := sound_loop h g h.length 0 (by omega)
def sess (h : List Txn) (i k : Nat) : Bool := decide (i < k) && (match h[i]?, h[k]? with
  | some a, some b => a.f0 == b.f0
  | _, _ => false)
theorem sess_f (h : List Txn) (i k : Nat) (hi : i < h.length) (hk : k < h.length) : ref08_Session.f h (i : Int) (k : Int) = some (sess h i k) := by
  unfold ref08_Session.f sess
  rw [List.getElem?_eq_getElem hi, List.getElem?_eq_getElem hk]
  by_cases h1 : i < k
  · rw [if_pos (by omega), if_pos (by omega), if_pos (by omega), if_pos (by omega), if_pos (by omega), rdTxn h i hi, rdTxn h k hk]
    simp [h1]
  · rw [if_neg (by omega)]
    simp [h1]
def time (h : List Txn) (i k : Nat) : Bool := match h[i]?, h[k]? with
  | some a, some b => decide (a.f2 < b.f1)
  | _, _ => false
theorem time_f (h : List Txn) (i k : Nat) (hi : i < h.length) (hk : k < h.length) : ref08_Time.f h (i : Int) (k : Int) = some (time h i k) := by
  unfold ref08_Time.f time
  rw [List.getElem?_eq_getElem hi, List.getElem?_eq_getElem hk, if_pos (by omega), if_pos (by omega), if_pos (by omega), if_pos (by omega), rdTxn h i hi, rdTxn h k hk]
def wrt (h : List Txn) (i : Nat) (key : Int) : Bool := match h[i]? with
  | none => false
  | some t => value t.f3 key != 0
theorem wrt_ev (h : List Txn) (g : Good h) (i : Nat) (key : Int) (hi : i < h.length) : Ev (fun k => ref08_Writes.f k h (i : Int) key) (wrt h i key) := by
  unfold ref08_Writes.f wrt
  rw [List.getElem?_eq_getElem hi]
  simp only [if_pos (show 0 ≤ (i : Int) by omega), if_pos (show (i : Int) < (h.length : Int) by omega), rdTxn h i hi]
  refine Ev.bind (value_ev (h[i]).f3 key (by have := g.ops64 i hi; unfold Few; omega)) ?_
  exact Ev.now _
def rivals (h : List Txn) (i k : Nat) : Bool := decide (i ≠ k) && keys64.any fun key : Nat => wrt h i (key : Int) && wrt h k (key : Int)
theorem rivals_loop (h : List Txn) (g : Good h) (i k : Nat) (hi : i < h.length) (hk : k < h.length) : ∀ d key : Nat, key + d = 64 → Ev (fun n => ref08_Rivals.l0 n h (i : Int) (k : Int) (key : Int)) ((keys64.drop key).any fun key : Nat => wrt h i (key : Int) && wrt h k (key : Int)) := by
  intro d
  induction d with
  | zero =>
    intro key hd
    obtain rfl : key = 64 := by omega
    rw [keys64, range_end 64 64 (by omega)]
    refine Ev.step (fun k => by rw [ref08_Rivals.l0]) ?_
    simp only [if_neg (show ¬ ((64 : Nat) : Int) < 64 by omega)]
    exact Ev.now _
  | succ d ih =>
    intro key hd
    have h1 := ih (key + 1) (by omega)
    rw [keys64] at h1 ⊢
    rw [range_drop 64 key (by omega), List.any_cons]
    refine Ev.step (fun k => by rw [ref08_Rivals.l0]) ?_
    simp only [if_pos (show (key : Int) < 64 by omega), wrapN key (by omega)]
    refine Ev.bind (wrt_ev h g i (key : Int) hi) ?_
    cases wrt h i (key : Int) with
    | false => simp only [Bool.false_eq_true, if_false, Bool.false_and, Bool.false_or]; exact h1
    | true =>
      simp only [if_true, Bool.true_and]
      refine Ev.bind (wrt_ev h g k (key : Int) hk) ?_
      cases wrt h k (key : Int) with
      | false => simp only [Bool.false_eq_true, if_false, Bool.false_or]; exact h1
      | true => simp only [if_true, Bool.true_or]; exact Ev.now _
theorem rivals_ev (h : List Txn) (g : Good h) (i k : Nat) (hi : i < h.length) (hk : k < h.length) : Ev (fun n => ref08_Rivals.f n h (i : Int) (k : Int)) (rivals h i k) := by
  unfold ref08_Rivals.f rivals
  by_cases h1 : i = k
  · simp only [if_pos (show (i : Int) = (k : Int) by omega), h1]
    rw [decide_eq_false (by simp), Bool.false_and]
    exact Ev.now _
  · simp only [if_neg (show ¬ (i : Int) = (k : Int) by omega)]
    rw [decide_eq_true h1, Bool.true_and]
    exact rivals_loop h g i k hi hk 64 0 (by omega)
def bit (a b : Int) : Bool := (Int.tmod (wrap64 (Int.tdiv a b)) 2) == 1
theorem bit_f (a b : Int) (hb : b ≠ 0) : ref09_Has.f a b = some (bit a b) := by
  unfold ref09_Has.f bit
  rw [if_neg hb]
def place (row : List Int) (x : Int) : Int := match row.findIdx? fun y => y == x with
  | none => -1
  | some i => (i : Int)
def placeFrom (row : List Int) (x : Int) (i : Nat) : Int := match (row.drop i).findIdx? fun y => y == x with
  | none => -1
  | some j => ((i + j : Nat) : Int)
theorem place_loop (row : List Int) (x : Int) (hl : Few row) : ∀ d i : Nat, i + d = row.length → Ev (fun k => ref11_Place.l0 k row x (i : Int)) (placeFrom row x i) := by
  intro d
  induction d with
  | zero =>
    intro i hi
    unfold placeFrom
    rw [drop_end row i (by omega)]
    refine Ev.step (fun k => by rw [ref11_Place.l0]) ?_
    simp only [if_neg (show ¬ (i : Int) < (row.length : Int) by omega)]
    exact Ev.now _
  | succ d ih =>
    intro i hi
    have hlt : i < row.length := by omega
    have h := ih (i + 1) (by omega)
    have e : placeFrom row x i = if row[i] = x then (i : Int) else placeFrom row x (i + 1) := by
      unfold placeFrom
      rw [drop_at row i hlt, List.findIdx?_cons]
      by_cases h1 : row[i] = x
      · rw [if_pos h1]; simp [h1]
      · rw [if_neg h1, if_neg (by simpa using h1)]
        cases (row.drop (i + 1)).findIdx? fun y => y == x with
        | none => rfl
        | some j => simp; omega
    rw [e]
    refine Ev.step (fun k => by rw [ref11_Place.l0]) ?_
    simp only [if_pos (show (i : Int) < (row.length : Int) by omega), if_pos (show 0 ≤ (i : Int) by omega), rdN row i hlt, wrapN i (by unfold Few at hl; omega)]
    by_cases h1 : row[i] = x
    · simp only [if_pos h1]
      exact Ev.now _
    · simp only [if_neg h1]
      exact h
theorem place_ev (row : List Int) (x : Int) (hl : Few row) : Ev (fun k => ref11_Place.f k row x) (place row x) := by
  have e : place row x = placeFrom row x 0 := by
    unfold place placeFrom
    rw [List.drop_zero]
    cases row.findIdx? fun y => y == x with
    | none => rfl
    | some j => simp
  rw [e]
  exact place_loop row x hl row.length 0 (by omega)
theorem place_some (row : List Int) (x : Int) (h : 0 ≤ place row x) : ∃ (i : Nat) (hi : i < row.length), place row x = (i : Int) ∧ row[i] = x ∧ ∀ j (hj : j < i), row[j] ≠ x := by
  unfold place at h ⊢
  cases hf : row.findIdx? fun y => y == x with
  | none => rw [hf] at h; simp at h
  | some i =>
    obtain ⟨h1, h2, h3⟩ := List.findIdx?_eq_some_iff_getElem.1 hf
    exact ⟨i, h1, rfl, by simpa using h2, fun j hj => by simpa using h3 j hj⟩
theorem place_none (row : List Int) (x : Int) (h : place row x < 0) : x ∉ row := by
  unfold place at h
  cases hf : row.findIdx? fun y => y == x with
  | none => intro hx; have := List.findIdx?_eq_none_iff.1 hf x hx; simp at this
  | some i => rw [hf] at h; simp at h; omega
def ahead (row : List Int) (i k : Int) : Bool := decide (place row i < place row k)
theorem ahead_ev (row : List Int) (i k : Int) (hl : Few row) : Ev (fun n => ref11_Ahead.f n row i k) (ahead row i k) := by
  unfold ref11_Ahead.f
  refine Ev.bind (place_ev row i hl) ?_
  refine Ev.bind (place_ev row k hl) ?_
  exact Ev.now _
end Go.Proofs.Ytfocaefnmfkojaa.R
namespace Go.Proofs.Ytfocaefnmfkojaa.R
open Go.RowKit Go.Proofs.Ytfocaefnmfkojaa.Q Go.Proofs.YtfocaefnmfkojaaW.PrintWords Go.Proofs.YtfocaefnmfkojaaW.PrintLast
set_option linter.unusedVariables false
set_option linter.unusedSimpArgs false
def must (h : List Txn) (asks : Int) (row : List Int) (i k : Nat) : Bool :=
  (frm h (i : Int) k || ((bit asks 1 && sess h i k) || (bit asks 32 && time h i k))) || (ahead row (i : Int) (k : Int) && (bit asks 16 || (bit asks 8 && rivals h i k)))
theorem must_ev (h : List Txn) (g : Good h) (asks : Int) (row : List Int) (hr : Few row) (i k : Nat) (hi : i < h.length) (hk : k < h.length) : Ev (fun n => ref11_must.f n h asks row (i : Int) (k : Int)) (must h asks row i k) := by
  have j0 : ∀ b : Bool, Ev (fun n => ref11_must.j0 n h asks row (i : Int) (k : Int) b) (b || (ahead row (i : Int) (k : Int) && (bit asks 16 || (bit asks 8 && rivals h i k)))) := by
    intro b
    refine Ev.step (fun k => by rw [ref11_must.j0]) ?_
    cases b with
    | true => simp only [if_true, Bool.true_or]; exact Ev.now _
    | false =>
      simp only [Bool.false_eq_true, if_false, Bool.false_or]
      refine Ev.bind (ahead_ev row _ _ hr) ?_
      cases ahead row (i : Int) (k : Int) with
      | false => simp only [Bool.false_eq_true, if_false, Bool.false_and]; exact Ev.now _
      | true =>
        simp only [if_true, Bool.true_and, bit_f asks 16 (by omega), bit_f asks 8 (by omega), Option.bind_some]
        cases bit asks 16 with
        | true => simp only [if_true, Bool.true_or]; exact Ev.now _
        | false =>
          simp only [Bool.false_eq_true, if_false, Bool.false_or]
          cases bit asks 8 with
          | false => simp only [Bool.false_eq_true, if_false, Bool.false_and]; exact Ev.now _
          | true =>
            simp only [if_true, Bool.true_and]
            refine Ev.bind (rivals_ev h g i k hi hk) ?_
            exact Ev.now _
  unfold ref11_must.f must
  refine Ev.bind (frm_ev h g (i : Int) k hk) ?_
  cases frm h (i : Int) k with
  | true => simp only [if_true, Bool.true_or]; exact j0 true
  | false =>
    simp only [Bool.false_eq_true, if_false, Bool.false_or, bit_f asks 1 (by omega), bit_f asks 32 (by omega), Option.bind_some, sess_f h i k hi hk, time_f h i k hi hk]
    cases bit asks 1 with
    | true =>
      simp only [if_true, Bool.true_and]
      cases sess h i k with
      | true => simp only [if_true, Bool.true_or]; exact j0 true
      | false =>
        simp only [Bool.false_eq_true, if_false, Bool.false_or]
        cases bit asks 32 with
        | true => simp only [if_true, Bool.true_and]; exact j0 _
        | false => simp only [Bool.false_eq_true, if_false, Bool.false_and]; exact j0 false
    | false =>
      simp only [Bool.false_eq_true, if_false, Bool.false_and, Bool.false_or]
      cases bit asks 32 with
      | true => simp only [if_true, Bool.true_and]; exact j0 _
      | false => simp only [Bool.false_eq_true, if_false, Bool.false_and]; exact j0 false
def followAt (vis : List Pair) (asks : Int) (row : List Int) (i k : Int) (j : Nat) : Bool := has vis (j : Int) k && ((bit asks 2 && has vis i (j : Int)) || (bit asks 4 && ahead row i (j : Int)))
def follows (vis : List Pair) (n : Nat) (asks : Int) (row : List Int) (i k : Int) : Bool := (List.range n).any (followAt vis asks row i k)
theorem follows_loop (vis : List Pair) (hv : Few vis) (n : Nat) (hn : n ≤ 1000) (asks : Int) (row : List Int) (hr : Few row) (i k : Int) : ∀ d j : Nat, j + d = n →
    Ev (fun q => ref11_follows.l0 q vis (n : Int) asks row i k (j : Int)) (((List.range n).drop j).any (followAt vis asks row i k)) := by
  intro d
  induction d with
  | zero =>
    intro j hj
    rw [range_end _ j (by omega)]
    refine Ev.step (fun k => by rw [ref11_follows.l0]) ?_
    simp only [if_neg (show ¬ (j : Int) < (n : Int) by omega)]
    exact Ev.now _
  | succ d ih =>
    intro j hj
    have hm := ih (j + 1) (by omega)
    rw [range_drop _ j (by omega), List.any_cons]
    refine Ev.step (fun k => by rw [ref11_follows.l0]) ?_
    simp only [if_pos (show (j : Int) < (n : Int) by omega), wrapN j (by omega)]
    refine Ev.bind (has_ev vis (j : Int) k hv) ?_
    rw [show followAt vis asks row i k j = (has vis (j : Int) k && ((bit asks 2 && has vis i (j : Int)) || (bit asks 4 && ahead row i (j : Int)))) from rfl]
    cases has vis (j : Int) k with
    | false => simp only [Bool.false_eq_true, if_false, Bool.false_and, Bool.false_or]; exact hm
    | true =>
      simp only [if_true, Bool.true_and, bit_f asks 2 (by omega), bit_f asks 4 (by omega), Option.bind_some]
      have rest : Ev (fun q => if bit asks 4 = true then (ref11_Ahead.f q row i (j : Int)).bind fun t300 => (if t300 = true then (some true) else (ref11_follows.l0 q vis (n : Int) asks row i k ((j + 1 : Nat) : Int))) else (ref11_follows.l0 q vis (n : Int) asks row i k ((j + 1 : Nat) : Int))) ((bit asks 4 && ahead row i (j : Int)) || ((List.range n).drop (j + 1)).any (followAt vis asks row i k)) := by
        cases bit asks 4 with
        | false => simp only [Bool.false_eq_true, if_false, Bool.false_and, Bool.false_or]; exact hm
        | true =>
          simp only [if_true, Bool.true_and]
          refine Ev.bind (ahead_ev row _ _ hr) ?_
          cases ahead row i (j : Int) with
          | true => simp only [if_true, Bool.true_or]; exact Ev.now _
          | false => simp only [Bool.false_eq_true, if_false, Bool.false_or]; exact hm
      cases bit asks 2 with
      | false => simp only [Bool.false_eq_true, if_false, Bool.false_and, Bool.false_or]; exact rest
      | true =>
        simp only [if_true, Bool.true_and]
        refine Ev.bind (has_ev vis i (j : Int) hv) ?_
        cases has vis i (j : Int) with
        | true => simp only [if_true, Bool.true_or]; exact Ev.now _
        | false => simp only [Bool.false_eq_true, if_false, Bool.false_or]; exact rest
theorem follows_ev (vis : List Pair) (hv : Few vis) (n : Nat) (hn : n ≤ 1000) (asks : Int) (row : List Int) (hr : Few row) (i k : Int) : Ev (fun q => ref11_follows.f q vis (n : Int) asks row i k) (follows vis n asks row i k) :=
  follows_loop vis hv n hn asks row hr i k n 0 (by omega)
theorem follows_iff (vis : List Pair) (n : Nat) (asks : Int) (row : List Int) (i k : Int) : follows vis n asks row i k = true ↔ ∃ j : Nat, j < n ∧ has vis (j : Int) k = true ∧ ((bit asks 2 = true ∧ has vis i (j : Int) = true) ∨ (bit asks 4 = true ∧ ahead row i (j : Int) = true)) := by
  unfold follows followAt
  simp [List.any_eq_true, List.mem_range, Bool.and_eq_true, Bool.or_eq_true]
inductive Lst (n : Nat) (base : Nat → Nat → Prop) (T P : Prop) (ah : Nat → Nat → Prop) : Nat → Nat → Prop
  | base {i k : Nat} : i < n → k < n → base i k → Lst n base T P ah i k
  | tr {i j k : Nat} : T → Lst n base T P ah i j → Lst n base T P ah j k → Lst n base T P ah i k
  | pre {i j k : Nat} : P → i < n → ah i j → Lst n base T P ah j k → Lst n base T P ah i k
theorem Lst.lt {n : Nat} {base : Nat → Nat → Prop} {T P : Prop} {ah : Nat → Nat → Prop} {i k : Nat} (h : Lst n base T P ah i k) : i < n ∧ k < n := by
  induction h with
  | base h1 h2 _ => exact ⟨h1, h2⟩
  | tr _ _ _ h1 h2 => exact ⟨h1.1, h2.2⟩
  | pre _ h1 _ _ h2 => exact ⟨h1, h2.2⟩
def Is (vis : List Pair) (n : Nat) (R : Nat → Nat → Prop) : Prop := ∀ i k : Int, has vis i k = true ↔ ∃ a b : Nat, i = (a : Int) ∧ k = (b : Int) ∧ a < n ∧ b < n ∧ R a b
def free (n : Nat) (vis : List Pair) : Nat := ((List.range n).map fun i : Nat => (List.range n).countP fun k : Nat => !has vis (i : Int) (k : Int)).sum
theorem sum_le {l : List Nat} {f g : Nat → Nat} (h : ∀ x ∈ l, f x ≤ g x) : (l.map f).sum ≤ (l.map g).sum := by
  induction l with
  | nil => simp
  | cons a l ih =>
    have h1 := h a List.mem_cons_self
    have h2 := ih fun x hx => h x (List.mem_cons_of_mem _ hx)
    simp only [List.map_cons, List.sum_cons]
    omega
theorem sum_lt {l : List Nat} {f g : Nat → Nat} (h : ∀ x ∈ l, f x ≤ g x) (a : Nat) (ha : a ∈ l) (hlt : f a < g a) : (l.map f).sum < (l.map g).sum := by
  induction l with
  | nil => cases ha
  | cons b l ih =>
    have h1 := h b List.mem_cons_self
    have h2 := sum_le (l := l) fun x hx => h x (List.mem_cons_of_mem _ hx)
    simp only [List.map_cons, List.sum_cons]
    rcases List.mem_cons.1 ha with rfl | ha
    · omega
    · have := ih (fun x hx => h x (List.mem_cons_of_mem _ hx)) ha
      omega
theorem countP_lt {l : List Nat} {p q : Nat → Bool} (h : ∀ x ∈ l, p x = true → q x = true) (a : Nat) (ha : a ∈ l) (h1 : p a = false) (h2 : q a = true) : l.countP p < l.countP q := by
  induction l with
  | nil => cases ha
  | cons b l ih =>
    rw [List.countP_cons, List.countP_cons]
    have hb := h b List.mem_cons_self
    have hm : l.countP p ≤ l.countP q := List.countP_mono_left fun x hx => h x (List.mem_cons_of_mem _ hx)
    rcases List.mem_cons.1 ha with rfl | ha
    · rw [if_neg (by simp [h1]), if_pos h2]
      omega
    · have := ih (fun x hx => h x (List.mem_cons_of_mem _ hx)) ha
      by_cases hp : p b = true
      · rw [if_pos hp, if_pos (hb hp)]; omega
      · rw [if_neg hp]; split <;> omega
theorem free_put (n : Nat) (vis : List Pair) (i k : Nat) (hi : i < n) (hk : k < n) (h : has vis (i : Int) (k : Int) = false) : free n (put vis (i : Int) (k : Int)) < free n vis := by
  unfold free
  have hmono : ∀ a k2 : Nat, (!has (put vis (i : Int) (k : Int)) (a : Int) (k2 : Int)) = true → (!has vis (a : Int) (k2 : Int)) = true := by
    intro a k2
    rw [has_put]
    cases has vis (a : Int) (k2 : Int) <;> simp
  refine sum_lt (fun a _ => List.countP_mono_left fun b _ => hmono a b) i (List.mem_range.2 hi) ?_
  refine countP_lt (fun b _ => hmono i b) k (List.mem_range.2 hk) ?_ (by simp [h])
  rw [has_put]
  simp
theorem put_len (vis : List Pair) (a b : Int) (h : has vis a b = false) : (put vis a b).length = vis.length + 1 := by
  unfold put
  rw [if_neg (by simp [h])]
  simp
section
variable {h : List Txn} (g : Good h) (asks : Int) (row : List Int) (hr : Few row)
abbrev baseR (h : List Txn) (asks : Int) (row : List Int) (i k : Nat) : Prop := i ≠ k ∧ must h asks row i k = true
abbrev LR (h : List Txn) (asks : Int) (row : List Int) : Nat → Nat → Prop := Lst h.length (baseR h asks row) (bit asks 2 = true) (bit asks 4 = true) (fun i j => ahead row (i : Int) (j : Int) = true)
structure Way (h : List Txn) (asks : Int) (row : List Int) (vis : List Pair) : Prop where
  sub : ∀ i k : Int, has vis i k = true → ∃ a b : Nat, i = (a : Int) ∧ k = (b : Int) ∧ LR h asks row a b
  room : vis.length + free h.length vis ≤ h.length * h.length
theorem Way.few {vis : List Pair} (w : Way h asks row vis) (g : Good h) : Few vis := by
  have := w.room
  have h1 := g.len
  have h2 : h.length * h.length ≤ 64 * 64 := Nat.mul_le_mul h1 h1
  unfold Few
  omega
theorem Way.put {vis : List Pair} (w : Way h asks row vis) {i k : Nat} (hn : has vis (i : Int) (k : Int) = false) (hl : LR h asks row i k) : Way h asks row (put vis (i : Int) (k : Int)) := by
  refine ⟨fun a b hab => ?_, ?_⟩
  · rw [has_put, Bool.or_eq_true] at hab
    rcases hab with hab | hab
    · exact w.sub a b hab
    · simp only [Bool.and_eq_true, beq_iff_eq] at hab
      exact ⟨i, k, hab.1, hab.2, hl⟩
  · have h1 := put_len vis (i : Int) (k : Int) hn
    have h2 := free_put h.length vis i k hl.lt.1 hl.lt.2 hn
    have := w.room
    omega
theorem way_nil : Way h asks row [] := by
  refine ⟨fun i k hh => by simp [has] at hh, ?_⟩
  have : ∀ l : List Nat, (l.map fun i : Nat => (List.range h.length).countP fun k : Nat => !has [] (i : Int) (k : Int)).sum ≤ l.length * h.length := by
    intro l
    induction l with
    | nil => simp
    | cons a l ih =>
      have h1 : (List.range h.length).countP (fun k : Nat => !has [] (a : Int) (k : Int)) ≤ h.length := by
        have := List.countP_le_length (p := fun k : Nat => !has [] (a : Int) (k : Int)) (l := List.range h.length)
        simpa using this
      simp only [List.map_cons, List.sum_cons, List.length_cons, Nat.succ_mul]
      omega
  have := this (List.range h.length)
  simpa [free] using this
def HasBase (h : List Txn) (asks : Int) (row : List Int) (vis : List Pair) : Prop := ∀ a b : Nat, a < h.length → b < h.length → baseR h asks row a b → has vis (a : Int) (b : Int) = true
theorem has_put_mono (vis : List Pair) (a b i k : Int) (h : has vis i k = true) : has (put vis a b) i k = true := by rw [has_put, h, Bool.true_or]
theorem HasBase.put {vis : List Pair} (hb : HasBase h asks row vis) (a b : Int) : HasBase h asks row (R.put vis a b) := fun x y hx hy hxy => has_put_mono _ _ _ _ _ (hb x y hx hy hxy)
include g hr
theorem of_second : ∀ F (vis : List Pair), free h.length vis ≤ F → Way h asks row vis → HasBase h asks row vis →
    ∃ r, Ev (fun k => ref11_Of.l2 k h asks row vis true) r ∧ Is r h.length (LR h asks row) ∧ Few r := by
  intro F
  induction F with
  | zero =>
    intro vis hF w hb
    -- all places are taken: one pass, and nothing changes
    have hall : ∀ a b : Nat, a < h.length → b < h.length → has vis (a : Int) (b : Int) = true := by
      intro a b ha hb2
      rcases Bool.eq_false_or_eq_true (has vis (a : Int) (b : Int)) with h1 | h1
      · exact h1
      · have := free_put h.length vis a b ha hb2 h1
        omega
    have l4 : ∀ i, i < h.length → ∀ r, Ev (fun k => ref11_Of.l3 k h asks row vis false ((i + 1 : Nat) : Int)) r → ∀ d k2 : Nat, k2 + d = h.length → Ev (fun k => ref11_Of.l4 k h asks row vis false (i : Int) (k2 : Int)) r := by
      intro i hi r hr2 d
      induction d with
      | zero =>
        intro k2 hk2
        refine Ev.step (fun k => by rw [ref11_Of.l4]) ?_
        simp only [if_neg (show ¬ (k2 : Int) < (h.length : Int) by omega), wrapN i (by have := g.len; omega)]
        exact hr2
      | succ d ih =>
        intro k2 hk2
        refine Ev.step (fun k => by rw [ref11_Of.l4]) ?_
        simp only [if_pos (show (k2 : Int) < (h.length : Int) by omega), wrapN k2 (by have := g.len; omega)]
        refine Ev.bind (has_ev vis (i : Int) (k2 : Int) (w.few asks row g)) ?_
        simp only [hall i k2 hi (by omega), if_true]
        exact ih (k2 + 1) (by omega)
    have l3 : ∀ d i : Nat, i + d = h.length → Ev (fun k => ref11_Of.l3 k h asks row vis false (i : Int)) vis := by
      intro d
      induction d with
      | zero =>
        intro i hi
        refine Ev.step (fun k => by rw [ref11_Of.l3]) ?_
        simp only [if_neg (show ¬ (i : Int) < (h.length : Int) by omega)]
        refine Ev.step (fun k => by rw [ref11_Of.l2]) ?_
        simp only [Bool.false_eq_true, if_false]
        exact Ev.now _
      | succ d ih =>
        intro i hi
        refine Ev.step (fun k => by rw [ref11_Of.l3]) ?_
        simp only [if_pos (show (i : Int) < (h.length : Int) by omega)]
        exact l4 i (by omega) _ (ih (i + 1) (by omega)) h.length 0 (by omega)
    refine ⟨vis, ?_, fun i k => ⟨fun hh => ?_, fun hh => ?_⟩, w.few asks row g⟩
    · refine Ev.step (fun k => by rw [ref11_Of.l2]) ?_
      simp only [if_true]
      exact l3 h.length 0 (by omega)
    · obtain ⟨a, b, e1, e2, hl⟩ := w.sub i k hh
      exact ⟨a, b, e1, e2, hl.lt.1, hl.lt.2, hl⟩
    · obtain ⟨a, b, rfl, rfl, ha, hb2, _⟩ := hh
      exact hall a b ha hb2
  | succ F ihF =>
    intro vis hF w hb
    -- what a pass does from a place on
    have pass : ∀ d i : Nat, i + d = h.length → ∀ (vis2 : List Pair) (m : Bool), free h.length vis2 ≤ F + 1 → (m = true → free h.length vis2 ≤ F) → Way h asks row vis2 → HasBase h asks row vis2 →
        (m = false → ∀ a b : Nat, a < i → b < h.length → follows vis2 h.length asks row (a : Int) (b : Int) = true → has vis2 (a : Int) (b : Int) = true) →
        ∃ r, Ev (fun k => ref11_Of.l3 k h asks row vis2 m (i : Int)) r ∧ Is r h.length (LR h asks row) ∧ Few r := by
      intro d
      induction d with
      | zero =>
        intro i hi vis2 m h1 h2 w2 hb2 hcl
        cases m with
        | true =>
          obtain ⟨r, hr1, hr2⟩ := ihF vis2 (h2 rfl) w2 hb2
          refine ⟨r, ?_, hr2⟩
          refine Ev.step (fun k => by rw [ref11_Of.l3]) ?_
          simp only [if_neg (show ¬ (i : Int) < (h.length : Int) by omega)]
          exact hr1
        | false =>
          refine ⟨vis2, ?_, fun a b => ⟨fun hh => ?_, fun hh => ?_⟩, w2.few asks row g⟩
          · refine Ev.step (fun k => by rw [ref11_Of.l3]) ?_
            simp only [if_neg (show ¬ (i : Int) < (h.length : Int) by omega)]
            refine Ev.step (fun k => by rw [ref11_Of.l2]) ?_
            simp only [Bool.false_eq_true, if_false]
            exact Ev.now _
          · obtain ⟨x, y, e1, e2, hl⟩ := w2.sub a b hh
            exact ⟨x, y, e1, e2, hl.lt.1, hl.lt.2, hl⟩
          · obtain ⟨x, y, rfl, rfl, hx, hy, hl⟩ := hh
            clear hx hy
            induction hl with
            | base p1 p2 p3 => exact hb2 _ _ p1 p2 p3
            | tr q1 q2 q3 q4 q5 => exact hcl rfl _ _ (by have := q2.lt; omega) q3.lt.2 ((follows_iff _ _ _ _ _ _).2 ⟨_, q3.lt.1, q5, .inl ⟨q1, q4⟩⟩)
            | pre q1 q2 q3 q4 q5 => exact hcl rfl _ _ (by omega) q4.lt.2 ((follows_iff _ _ _ _ _ _).2 ⟨_, q4.lt.1, q5, .inr ⟨q1, q3⟩⟩)
      | succ d ihd =>
        intro i hi vis2 m h1 h2 w2 hb2 hcl
        have hlt : i < h.length := by omega
        have inner : ∀ d2 k2 : Nat, k2 + d2 = h.length → ∀ (vis2 : List Pair) (m : Bool), free h.length vis2 ≤ F + 1 → (m = true → free h.length vis2 ≤ F) → Way h asks row vis2 → HasBase h asks row vis2 →
            (m = false → ∀ a b : Nat, (a < i ∨ (a = i ∧ b < k2)) → b < h.length → follows vis2 h.length asks row (a : Int) (b : Int) = true → has vis2 (a : Int) (b : Int) = true) →
            ∃ r, Ev (fun k => ref11_Of.l4 k h asks row vis2 m (i : Int) (k2 : Int)) r ∧ Is r h.length (LR h asks row) ∧ Few r := by
          intro d2
          induction d2 with
          | zero =>
            intro k2 hk2 vis2 m h1 h2 w2 hb2 hcl
            obtain ⟨r, hr1, hr2⟩ := ihd (i + 1) (by omega) vis2 m h1 h2 w2 hb2 (fun hm a b ha hb3 hf => hcl hm a b (by omega) hb3 hf)
            refine ⟨r, ?_, hr2⟩
            refine Ev.step (fun k => by rw [ref11_Of.l4]) ?_
            simp only [if_neg (show ¬ (k2 : Int) < (h.length : Int) by omega), wrapN i (by have := g.len; omega)]
            exact hr1
          | succ d2 ihd2 =>
            intro k2 hk2 vis2 m h1 h2 w2 hb2 hcl
            have hk3 : k2 < h.length := by omega
            rcases Bool.eq_false_or_eq_true (has vis2 (i : Int) (k2 : Int)) with hh | hh
            · obtain ⟨r, hr1, hr2⟩ := ihd2 (k2 + 1) (by omega) vis2 m h1 h2 w2 hb2 (fun hm a b ha hb3 hf => by
                rcases ha with ha | ⟨rfl, ha⟩
                · exact hcl hm a b (.inl ha) hb3 hf
                · rcases Nat.lt_or_eq_of_le (Nat.lt_succ_iff.1 ha) with ha | rfl
                  · exact hcl hm _ b (.inr ⟨rfl, ha⟩) hb3 hf
                  · exact hh)
              refine ⟨r, ?_, hr2⟩
              refine Ev.step (fun k => by rw [ref11_Of.l4]) ?_
              simp only [if_pos (show (k2 : Int) < (h.length : Int) by omega), wrapN k2 (by have := g.len; omega)]
              refine Ev.bind (has_ev vis2 (i : Int) (k2 : Int) (w2.few asks row g)) ?_
              simp only [hh, if_true]
              exact hr1
            · rcases Bool.eq_false_or_eq_true (follows vis2 h.length asks row (i : Int) (k2 : Int)) with hf | hf
              · -- one more
                have hl : LR h asks row i k2 := by
                  obtain ⟨j, hj, hjk, hor⟩ := (follows_iff _ _ _ _ _ _).1 hf
                  obtain ⟨x, y, e1, e2, hjl⟩ := w2.sub _ _ hjk
                  obtain rfl : j = x := by omega
                  obtain rfl : k2 = y := by omega
                  rcases hor with ⟨ht, hij⟩ | ⟨hp, ha⟩
                  · obtain ⟨x, y, e1, e2, hil⟩ := w2.sub _ _ hij
                    obtain rfl : i = x := by omega
                    obtain rfl : j = y := by omega
                    exact .tr ht hil hjl
                  · exact .pre hp hlt ha hjl
                have hfr := free_put h.length vis2 i k2 hlt hk3 hh
                obtain ⟨r, hr1, hr2⟩ := ihd2 (k2 + 1) (by omega) (put vis2 (i : Int) (k2 : Int)) true (by omega) (fun _ => by omega) (w2.put asks row hh hl) (hb2.put asks row _ _) (fun hm => by cases hm)
                refine ⟨r, ?_, hr2⟩
                refine Ev.step (fun k => by rw [ref11_Of.l4]) ?_
                simp only [if_pos (show (k2 : Int) < (h.length : Int) by omega), wrapN k2 (by have := g.len; omega)]
                refine Ev.bind (has_ev vis2 (i : Int) (k2 : Int) (w2.few asks row g)) ?_
                simp only [hh, Bool.false_eq_true, if_false]
                refine Ev.bind (follows_ev vis2 (w2.few asks row g) h.length (by have := g.len; omega) asks row hr (i : Int) (k2 : Int)) ?_
                simp only [hf, if_true]
                refine Ev.bind (put_ev vis2 (i : Int) (k2 : Int) (w2.few asks row g)) ?_
                exact hr1
              · obtain ⟨r, hr1, hr2⟩ := ihd2 (k2 + 1) (by omega) vis2 m h1 h2 w2 hb2 (fun hm a b ha hb3 hf2 => by
                  rcases ha with ha | ⟨rfl, ha⟩
                  · exact hcl hm a b (.inl ha) hb3 hf2
                  · rcases Nat.lt_or_eq_of_le (Nat.lt_succ_iff.1 ha) with ha | rfl
                    · exact hcl hm _ b (.inr ⟨rfl, ha⟩) hb3 hf2
                    · rw [hf] at hf2; cases hf2)
                refine ⟨r, ?_, hr2⟩
                refine Ev.step (fun k => by rw [ref11_Of.l4]) ?_
                simp only [if_pos (show (k2 : Int) < (h.length : Int) by omega), wrapN k2 (by have := g.len; omega)]
                refine Ev.bind (has_ev vis2 (i : Int) (k2 : Int) (w2.few asks row g)) ?_
                simp only [hh, Bool.false_eq_true, if_false]
                refine Ev.bind (follows_ev vis2 (w2.few asks row g) h.length (by have := g.len; omega) asks row hr (i : Int) (k2 : Int)) ?_
                simp only [hf, Bool.false_eq_true, if_false]
                exact hr1
        obtain ⟨r, hr1, hr2⟩ := inner h.length 0 (by omega) vis2 m h1 h2 w2 hb2 (fun hm a b ha hb3 hf => hcl hm a b (by omega) hb3 hf)
        refine ⟨r, ?_, hr2⟩
        refine Ev.step (fun k => by rw [ref11_Of.l3]) ?_
        simp only [if_pos (show (i : Int) < (h.length : Int) by omega)]
        exact hr1
    obtain ⟨r, hr1, hr2⟩ := pass h.length 0 (by omega) vis false hF (fun hm => by cases hm) w hb (fun _ a b ha => by omega)
    refine ⟨r, ?_, hr2⟩
    refine Ev.step (fun k => by rw [ref11_Of.l2]) ?_
    simp only [if_true]
    exact hr1
theorem of_ev : ∃ r, Ev (fun k => ref11_Of.f k h asks row) r ∧ Is r h.length (LR h asks row) ∧ Few r := by
  have first : ∀ d i : Nat, i + d = h.length → ∀ vis : List Pair, Way h asks row vis → (∀ a b : Nat, a < i → b < h.length → baseR h asks row a b → has vis (a : Int) (b : Int) = true) →
      ∃ r, Ev (fun k => ref11_Of.l0 k h asks row vis (i : Int)) r ∧ Is r h.length (LR h asks row) ∧ Few r := by
    intro d
    induction d with
    | zero =>
      intro i hi vis w hb
      obtain ⟨r, hr1, hr2⟩ := of_second g asks row hr _ vis (Nat.le_refl _) w (fun a b ha hb2 hab => hb a b (by omega) hb2 hab)
      refine ⟨r, ?_, hr2⟩
      refine Ev.step (fun k => by rw [ref11_Of.l0]) ?_
      simp only [if_neg (show ¬ (i : Int) < (h.length : Int) by omega)]
      exact hr1
    | succ d ihd =>
      intro i hi vis w hb
      have hlt : i < h.length := by omega
      have inner : ∀ d2 k2 : Nat, k2 + d2 = h.length → ∀ vis : List Pair, Way h asks row vis → (∀ a b : Nat, (a < i ∨ (a = i ∧ b < k2)) → b < h.length → baseR h asks row a b → has vis (a : Int) (b : Int) = true) →
          ∃ r, Ev (fun k => ref11_Of.l1 k h asks row vis (i : Int) (k2 : Int)) r ∧ Is r h.length (LR h asks row) ∧ Few r := by
        intro d2
        induction d2 with
        | zero =>
          intro k2 hk2 vis w hb
          obtain ⟨r, hr1, hr2⟩ := ihd (i + 1) (by omega) vis w (fun a b ha hb2 hab => hb a b (by omega) hb2 hab)
          refine ⟨r, ?_, hr2⟩
          refine Ev.step (fun k => by rw [ref11_Of.l1]) ?_
          simp only [if_neg (show ¬ (k2 : Int) < (h.length : Int) by omega), wrapN i (by have := g.len; omega)]
          exact hr1
        | succ d2 ihd2 =>
          intro k2 hk2 vis w hb
          have hk3 : k2 < h.length := by omega
          by_cases he : i = k2
          · obtain ⟨r, hr1, hr2⟩ := ihd2 (k2 + 1) (by omega) vis w (fun a b ha hb2 hab => by
              rcases ha with ha | ⟨rfl, ha⟩
              · exact hb a b (.inl ha) hb2 hab
              · rcases Nat.lt_or_eq_of_le (Nat.lt_succ_iff.1 ha) with ha | rfl
                · exact hb _ b (.inr ⟨rfl, ha⟩) hb2 hab
                · exact absurd he hab.1)
            refine ⟨r, ?_, hr2⟩
            refine Ev.step (fun k => by rw [ref11_Of.l1]) ?_
            simp only [if_pos (show (k2 : Int) < (h.length : Int) by omega), if_pos (show (i : Int) = (k2 : Int) by omega), wrapN k2 (by have := g.len; omega)]
            exact hr1
          · rcases Bool.eq_false_or_eq_true (must h asks row i k2) with hm | hm
            · have hl : LR h asks row i k2 := .base hlt hk3 ⟨he, hm⟩
              have w2 : Way h asks row (put vis (i : Int) (k2 : Int)) := by
                rcases Bool.eq_false_or_eq_true (has vis (i : Int) (k2 : Int)) with hh | hh
                · have : put vis (i : Int) (k2 : Int) = vis := by unfold put; rw [if_pos hh]
                  rw [this]
                  exact w
                · exact w.put asks row hh hl
              obtain ⟨r, hr1, hr2⟩ := ihd2 (k2 + 1) (by omega) (put vis (i : Int) (k2 : Int)) w2 (fun a b ha hb2 hab => by
                rcases ha with ha | ⟨rfl, ha⟩
                · exact has_put_mono _ _ _ _ _ (hb a b (.inl ha) hb2 hab)
                · rcases Nat.lt_or_eq_of_le (Nat.lt_succ_iff.1 ha) with ha | rfl
                  · exact has_put_mono _ _ _ _ _ (hb _ b (.inr ⟨rfl, ha⟩) hb2 hab)
                  · rw [has_put]; simp)
              refine ⟨r, ?_, hr2⟩
              refine Ev.step (fun k => by rw [ref11_Of.l1]) ?_
              simp only [if_pos (show (k2 : Int) < (h.length : Int) by omega), if_neg (show ¬ (i : Int) = (k2 : Int) by omega), wrapN k2 (by have := g.len; omega)]
              refine Ev.bind (must_ev h g asks row hr i k2 hlt hk3) ?_
              simp only [hm, if_true]
              refine Ev.bind (put_ev vis (i : Int) (k2 : Int) (w.few asks row g)) ?_
              exact hr1
            · obtain ⟨r, hr1, hr2⟩ := ihd2 (k2 + 1) (by omega) vis w (fun a b ha hb2 hab => by
                rcases ha with ha | ⟨rfl, ha⟩
                · exact hb a b (.inl ha) hb2 hab
                · rcases Nat.lt_or_eq_of_le (Nat.lt_succ_iff.1 ha) with ha | rfl
                  · exact hb _ b (.inr ⟨rfl, ha⟩) hb2 hab
                  · rw [hab.2] at hm; cases hm)
              refine ⟨r, ?_, hr2⟩
              refine Ev.step (fun k => by rw [ref11_Of.l1]) ?_
              simp only [if_pos (show (k2 : Int) < (h.length : Int) by omega), if_neg (show ¬ (i : Int) = (k2 : Int) by omega), wrapN k2 (by have := g.len; omega)]
              refine Ev.bind (must_ev h g asks row hr i k2 hlt hk3) ?_
              simp only [hm, Bool.false_eq_true, if_false]
              exact hr1
      obtain ⟨r, hr1, hr2⟩ := inner h.length 0 (by omega) vis w (fun a b ha hb2 hab => hb a b (by omega) hb2 hab)
      refine ⟨r, ?_, hr2⟩
      refine Ev.step (fun k => by rw [ref11_Of.l0]) ?_
      simp only [if_pos (show (i : Int) < (h.length : Int) by omega)]
      exact hr1
  unfold ref11_Of.f
  exact first h.length 0 (by omega) [] (way_nil asks row) (fun a b ha => by omega)
end
end Go.Proofs.Ytfocaefnmfkojaa.R
namespace Go.Proofs.Ytfocaefnmfkojaa.R
open Go.RowKit Go.Proofs.Ytfocaefnmfkojaa.Q Go.Proofs.YtfocaefnmfkojaaW.PrintWords Go.Proofs.YtfocaefnmfkojaaW.PrintLast
set_option linter.unusedVariables false
set_option linter.unusedSimpArgs false
def rowOk (n : Nat) (row : List Int) : Bool := (List.range n).all (fun i : Nat => decide (0 ≤ place row (i : Int))) && ((row.length : Int) == (n : Int))
theorem row_loop (n : Nat) (row : List Int) (hr : Few row) (hn : n ≤ 1000) : ∀ d i : Nat, i + d = n → Ev (fun k => ref12_Row.l0 k (n : Int) row (i : Int)) (((List.range n).drop i).all (fun i : Nat => decide (0 ≤ place row (i : Int))) && ((row.length : Int) == (n : Int))) := by
  intro d
  induction d with
  | zero =>
    intro i hi
    rw [range_end _ i (by omega)]
    refine Ev.step (fun k => by rw [ref12_Row.l0]) ?_
    simp only [if_neg (show ¬ (i : Int) < (n : Int) by omega), List.all_nil, Bool.true_and]
    exact Ev.now _
  | succ d ih =>
    intro i hi
    have h := ih (i + 1) (by omega)
    rw [range_drop _ i (by omega), List.all_cons]
    refine Ev.step (fun k => by rw [ref12_Row.l0]) ?_
    simp only [if_pos (show (i : Int) < (n : Int) by omega), wrapN i (by omega)]
    refine Ev.bind (place_ev row (i : Int) hr) ?_
    by_cases h1 : place row (i : Int) < 0
    · simp only [if_pos h1, decide_eq_false (show ¬ 0 ≤ place row (i : Int) by omega), Bool.false_and]
      exact Ev.now _
    · simp only [if_neg h1, decide_eq_true (show 0 ≤ place row (i : Int) by omega), Bool.true_and]
      exact h
theorem row_ev (n : Nat) (row : List Int) (hr : Few row) (hn : n ≤ 1000) : Ev (fun k => ref12_Row.f k (n : Int) row) (rowOk n row) := row_loop n row hr hn n 0 (by omega)
theorem row_perm : ∀ (n : Nat) (row : List Int), (∀ i : Nat, i < n → (i : Int) ∈ row) → n ≤ row.length ∧ (row.length = n → (∀ x ∈ row, 0 ≤ x ∧ x < n) ∧ row.Nodup) := by
  intro n
  induction n with
  | zero => intro row _; exact ⟨by omega, fun h => by rw [List.eq_nil_of_length_eq_zero h]; simp⟩
  | succ n ih =>
    intro row h
    have hm := h n (by omega)
    have hl := List.length_erase_of_mem hm
    have hp : 0 < row.length := List.length_pos_of_mem hm
    obtain ⟨h1, h2⟩ := ih (row.erase (n : Int)) (fun i hi => (List.mem_erase_of_ne (by omega)).2 (h i (by omega)))
    refine ⟨by omega, fun he => ?_⟩
    obtain ⟨h3, h4⟩ := h2 (by omega)
    have hperm := List.perm_cons_erase hm
    constructor
    · intro x hx
      rcases List.mem_cons.1 (hperm.mem_iff.1 hx) with rfl | hx
      · omega
      · have := h3 x hx
        omega
    · rw [hperm.nodup_iff, List.nodup_cons]
      exact ⟨fun hx => by have := h3 _ hx; omega, h4⟩
structure IsRow (n : Nat) (row : List Int) : Prop where
  len : row.length = n
  mem : ∀ i : Nat, i < n → (i : Int) ∈ row
  rng : ∀ x ∈ row, 0 ≤ x ∧ x < n
  nodup : row.Nodup
theorem place_mem (row : List Int) (x : Int) (h : x ∈ row) : 0 ≤ place row x := by
  rcases Int.lt_or_le (place row x) 0 with h1 | h1
  · exact absurd h (place_none row x h1)
  · exact h1
theorem rowOk_iff (n : Nat) (row : List Int) : rowOk n row = true ↔ IsRow n row := by
  constructor
  · intro h
    unfold rowOk at h
    rw [Bool.and_eq_true] at h
    have hm : ∀ i : Nat, i < n → (i : Int) ∈ row := by
      intro i hi
      have h1 := of_decide_eq_true (List.all_eq_true.1 h.1 i (List.mem_range.2 hi))
      obtain ⟨j, hj, _, he, _⟩ := place_some row (i : Int) h1
      rw [← he]
      exact List.getElem_mem hj
    have hl : row.length = n := by
      have := h.2
      simp at this
      omega
    obtain ⟨h1, h2⟩ := (row_perm n row hm).2 hl
    exact ⟨hl, hm, h1, h2⟩
  · intro h
    unfold rowOk
    rw [Bool.and_eq_true]
    refine ⟨List.all_eq_true.2 fun i hi => decide_eq_true (place_mem row _ (h.mem i (List.mem_range.1 hi))), by simp [h.len]⟩
def lastS (row : List Int) (S : Int → Bool) : Int := ((row.filter S).getLast?).getD (-1)
theorem lastS_snoc (row : List Int) (x : Int) (S : Int → Bool) : lastS (row ++ [x]) S = if S x = true then x else lastS row S := by
  unfold lastS
  rw [List.filter_append]
  cases h : S x with
  | true => simp [h]
  | false => simp [h]
def wrtI (h : List Txn) (x key : Int) : Bool := wrt h x.toNat key
def lastV (h : List Txn) (row : List Int) (vis : List Pair) (i key : Int) : Int := lastS row fun x => has vis x i && wrtI h x key
theorem lastV_loop (h : List Txn) (g : Good h) (row : List Int) (hr : IsRow h.length row) (vis : List Pair) (hv : Few vis) (i key : Int) : ∀ d j : Nat, j + d = row.length →
    Ev (fun k => ref12_last.l0 k h row vis i key (lastS (row.take j) fun x => has vis x i && wrtI h x key) (j : Int)) (lastV h row vis i key) := by
  have hrl := hr.len
  have hg := g.len
  intro d
  induction d with
  | zero =>
    intro j hj
    rw [List.take_of_length_le (by omega)]
    refine Ev.step (fun k => by rw [ref12_last.l0]) ?_
    simp only [if_neg (show ¬ (j : Int) < (row.length : Int) by omega)]
    exact Ev.now _
  | succ d ih =>
    intro j hj
    have hlt : j < row.length := by omega
    have hm := ih (j + 1) (by omega)
    rw [List.take_succ_eq_append_getElem hlt, lastS_snoc] at hm
    have hx := hr.rng _ (List.getElem_mem hlt)
    refine Ev.step (fun k => by rw [ref12_last.l0]) ?_
    simp only [if_pos (show (j : Int) < (row.length : Int) by omega), if_pos (show 0 ≤ (j : Int) by omega), rdN row j hlt, wrapN j (by omega)]
    generalize row[j] = x at *
    refine Ev.bind (has_ev vis x i hv) ?_
    cases h1 : has vis x i with
    | false =>
      rw [h1, Bool.false_and, if_neg (by simp)] at hm
      simp only [Bool.false_eq_true, if_false]
      exact hm
    | true =>
      rw [h1, Bool.true_and] at hm
      simp only [if_true]
      obtain ⟨m, rfl⟩ := Int.eq_ofNat_of_zero_le hx.1
      refine Ev.bind (wrt_ev h g m key (by omega)) ?_
      have e : wrtI h (m : Int) key = wrt h m key := by simp [wrtI]
      rw [e] at hm
      cases h2 : wrt h m key with
      | false =>
        rw [h2, if_neg (by simp)] at hm
        simp only [Bool.false_eq_true, if_false]
        exact hm
      | true =>
        rw [h2, if_pos rfl] at hm
        simp only [if_true]
        exact hm
theorem lastV_ev (h : List Txn) (g : Good h) (row : List Int) (hr : IsRow h.length row) (vis : List Pair) (hv : Few vis) (i key : Int) : Ev (fun k => ref12_last.f k h row vis i key) (lastV h row vis i key) := by
  have := lastV_loop h g row hr vis hv i key row.length 0 (by omega)
  unfold ref12_last.f
  simpa [lastS] using this
def pairIn (row : List Int) (p : Pair) : Bool := decide (0 ≤ place row p.f0 ∧ 0 ≤ place row p.f1 ∧ place row p.f0 < place row p.f1)
def readIn (h : List Txn) (row : List Int) (vis : List Pair) (i : Int) (r : Rd) : Bool := lastV h row vis i r.f0 == r.f1
def readsIn (h : List Txn) (row : List Int) (vis : List Pair) (i : Nat) : Bool := (readsOf h i).all (readIn h row vis (i : Int))
def right (h : List Txn) (row : List Int) (vis : List Pair) : Bool := rowOk h.length row && (vis.all (pairIn row) && (List.range h.length).all (readsIn h row vis))
theorem right_ev (h : List Txn) (g : Good h) (row : List Int) (hf : Few row) (vis : List Pair) (hv : Few vis) : Ev (fun k => ref12_Right.f k h row vis) (right h row vis) := by
  have hg := g.len
  unfold ref12_Right.f right
  refine Ev.bind (row_ev h.length row hf (by omega)) ?_
  cases hrow : rowOk h.length row with
  | false => simp only [Bool.false_eq_true, if_false, Bool.false_and]; exact Ev.now _
  | true =>
    have hr := (rowOk_iff _ _).1 hrow
    simp only [if_true, Bool.true_and]
    have l1 : ∀ d i : Nat, i + d = h.length → Ev (fun k => ref12_Right.l1 k h row vis (i : Int)) (((List.range h.length).drop i).all (readsIn h row vis)) := by
      intro d
      induction d with
      | zero =>
        intro i hi
        rw [range_end _ i (by omega)]
        refine Ev.step (fun k => by rw [ref12_Right.l1]) ?_
        simp only [if_neg (show ¬ (i : Int) < (h.length : Int) by omega)]
        exact Ev.now _
      | succ d ih =>
        intro i hi
        have hlt : i < h.length := by omega
        have hn := ih (i + 1) (by omega)
        rw [range_drop _ i hlt, List.all_cons]
        refine Ev.step (fun k => by rw [ref12_Right.l1]) ?_
        simp only [if_pos (show (i : Int) < (h.length : Int) by omega)]
        refine Ev.bind (readsOf_ev h g i hlt) ?_
        have hrl := readsOf_len h g i hlt
        have l2 : ∀ d j : Nat, j + d = (readsOf h i).length → Ev (fun k => ref12_Right.l2 k h row vis (i : Int) (readsOf h i) (j : Int)) (((readsOf h i).drop j).all (readIn h row vis (i : Int)) && ((List.range h.length).drop (i + 1)).all (readsIn h row vis)) := by
          intro d
          induction d with
          | zero =>
            intro j hj
            rw [drop_end _ j (by omega)]
            refine Ev.step (fun k => by rw [ref12_Right.l2]) ?_
            simp only [if_neg (show ¬ (j : Int) < ((readsOf h i).length : Int) by omega), wrapN i (by omega), List.all_nil, Bool.true_and]
            exact hn
          | succ d ih2 =>
            intro j hj
            have hj2 : j < (readsOf h i).length := by omega
            have hm := ih2 (j + 1) (by omega)
            rw [drop_at _ j hj2, List.all_cons, Bool.and_assoc]
            refine Ev.step (fun k => by rw [ref12_Right.l2]) ?_
            simp only [if_pos (show (j : Int) < ((readsOf h i).length : Int) by omega), if_pos (show 0 ≤ (j : Int) by omega), rdRd _ j hj2, wrapN j (by omega)]
            refine Ev.bind (lastV_ev h g row hr vis hv (i : Int) _) ?_
            by_cases h1 : lastV h row vis (i : Int) ((readsOf h i)[j]).f0 = ((readsOf h i)[j]).f1
            · simp only [if_pos h1, show readIn h row vis (i : Int) (readsOf h i)[j] = true by simpa [readIn] using h1, Bool.true_and]
              exact hm
            · simp only [if_neg h1, show readIn h row vis (i : Int) (readsOf h i)[j] = false by simpa [readIn] using h1, Bool.false_and]
              exact Ev.now _
        have := l2 (readsOf h i).length 0 (by omega)
        rwa [List.drop_zero] at this
    have l0 : ∀ d i : Nat, i + d = vis.length → Ev (fun k => ref12_Right.l0 k h row vis (i : Int)) ((vis.drop i).all (pairIn row) && (List.range h.length).all (readsIn h row vis)) := by
      intro d
      induction d with
      | zero =>
        intro i hi
        rw [drop_end _ i (by omega)]
        refine Ev.step (fun k => by rw [ref12_Right.l0]) ?_
        simp only [if_neg (show ¬ (i : Int) < (vis.length : Int) by omega), List.all_nil, Bool.true_and]
        exact l1 h.length 0 (by omega)
      | succ d ih =>
        intro i hi
        have hlt : i < vis.length := by omega
        have hn := ih (i + 1) (by omega)
        rw [drop_at _ i hlt, List.all_cons, Bool.and_assoc]
        refine Ev.step (fun k => by rw [ref12_Right.l0]) ?_
        simp only [if_pos (show (i : Int) < (vis.length : Int) by omega), if_pos (show 0 ≤ (i : Int) by omega), rdPair _ i hlt, wrapN i (by unfold Few at hv; omega)]
        generalize vis[i] = p at *
        refine Ev.bind (place_ev row p.f0 hf) ?_
        refine Ev.bind (place_ev row p.f1 hf) ?_
        unfold pairIn at hn ⊢
        by_cases h1 : place row p.f0 < 0
        · simp only [if_pos h1]; rw [decide_eq_false (by omega), Bool.false_and]; exact Ev.now _
        · simp only [if_neg h1]
          by_cases h2 : place row p.f1 < 0
          · simp only [if_pos h2]; rw [decide_eq_false (by omega), Bool.false_and]; exact Ev.now _
          · simp only [if_neg h2]
            by_cases h3 : place row p.f0 ≥ place row p.f1
            · simp only [if_pos h3]; rw [decide_eq_false (by omega), Bool.false_and]; exact Ev.now _
            · simp only [if_neg h3]
              rw [decide_eq_true ⟨by omega, by omega, by omega⟩, Bool.true_and]
              exact hn
    have := l0 vis.length 0 (by omega)
    rwa [List.drop_zero] at this
def asksR (l : Int) : Int := if l = 1 then 1 else if l = 2 then 3 else if l = 3 then 9 else if l = 4 then 5 else if l = 5 then 11 else if l = 6 then 13 else if l = 7 then 17 else if l = 8 then 34 else if l = 9 then 36 else if l = 10 then 44 else if l = 11 then 48 else 0
theorem asksR_f (l : Int) : ref09_Asks.f l = some (asksR l) := by
  unfold ref09_Asks.f asksR
  repeat' split
  all_goals rfl
def InP (h : List Txn) (l : Int) (row : List Int) : Prop := 0 ≤ l ∧ l ≤ 11 ∧ sound h = true ∧ IsRow h.length row ∧ ∃ vis, Is vis h.length (LR h (asksR l) row) ∧ right h row vis = true
theorem has_ext {vis vis2 : List Pair} {n : Nat} {R : Nat → Nat → Prop} (h1 : Is vis n R) (h2 : Is vis2 n R) (a b : Int) : has vis a b = has vis2 a b := by
  rw [Bool.eq_iff_iff, h1 a b, h2 a b]
theorem right_ext (h : List Txn) (row : List Int) {vis vis2 : List Pair} (he : ∀ a b, has vis a b = has vis2 a b) : right h row vis = right h row vis2 := by
  have h1 : vis.all (pairIn row) = vis2.all (pairIn row) := by
    have key : ∀ v v2 : List Pair, (∀ a b, has v a b = has v2 a b) → v.all (pairIn row) = true → v2.all (pairIn row) = true := by
      intro v v2 he ha
      refine List.all_eq_true.2 fun p hp => ?_
      have : has v p.f0 p.f1 = true := by rw [he]; exact (has_iff _ _ _).2 ⟨p, hp, rfl, rfl⟩
      obtain ⟨q, hq, e1, e2⟩ := (has_iff _ _ _).1 this
      have := List.all_eq_true.1 ha q hq
      unfold pairIn at this ⊢
      rwa [e1, e2] at this
    rw [Bool.eq_iff_iff]
    exact ⟨key vis vis2 he, key vis2 vis fun a b => (he a b).symm⟩
  have h2 : readsIn h row vis = readsIn h row vis2 := by
    funext i
    unfold readsIn readIn lastV
    simp only [he]
  unfold right
  rw [h1, h2]
theorem in_ev (h : List Txn) (g : Good h) (l : Int) (row : List Int) (hf : Few row) : ∃ v b, Ev (fun k => ref13_In.f k h l row) (v, b) ∧ (b = true ↔ InP h l row) := by
  have no : Ev (fun k => ref13_In.j0 k h l row true) (([] : List Pair), false) := by
    refine Ev.step (fun k => by rw [ref13_In.j0]) ?_
    simp only [if_true]
    exact Ev.now _
  unfold ref13_In.f
  by_cases h1 : l < 0
  · simp only [if_pos h1]
    exact ⟨_, _, no, by simp [InP]; omega⟩
  · simp only [if_neg h1]
    by_cases h2 : l > 11
    · simp only [if_pos h2]
      exact ⟨_, _, no, by simp [InP]; omega⟩
    · simp only [if_neg h2]
      cases hrow : rowOk h.length row with
      | false =>
        refine ⟨[], false, Ev.bind (row_ev h.length row hf (by have := g.len; omega)) ?_, ?_⟩
        · simp only [hrow, Bool.false_eq_true, if_false]; exact no
        · have : ¬ IsRow h.length row := fun hr => by rw [(rowOk_iff _ _).2 hr] at hrow; cases hrow
          simp [InP, this]
      | true =>
        have hr := (rowOk_iff _ _).1 hrow
        cases hs : sound h with
        | false =>
          refine ⟨[], false, Ev.bind (row_ev h.length row hf (by have := g.len; omega)) ?_, by simp [InP, hs]⟩
          simp only [hrow, if_true]
          refine Ev.bind (sound_ev h g) ?_
          simp only [hs, Bool.not_false]
          exact no
        | true =>
          obtain ⟨vis, hv1, hv2, hv3⟩ := of_ev g (asksR l) row hf
          refine ⟨vis, right h row vis, Ev.bind (row_ev h.length row hf (by have := g.len; omega)) ?_, ?_⟩
          · simp only [hrow, if_true]
            refine Ev.bind (sound_ev h g) ?_
            simp only [hs, Bool.not_true]
            refine Ev.step (fun k => by rw [ref13_In.j0]) ?_
            simp only [Bool.false_eq_true, if_false, asksR_f, Option.bind_some]
            refine Ev.bind hv1 ?_
            refine Ev.bind (right_ev h g row hf vis hv3) ?_
            exact Ev.now _
          · constructor
            · intro hh
              exact ⟨by omega, by omega, hs, hr, vis, hv2, hh⟩
            · rintro ⟨_, _, _, _, v2, e1, e2⟩
              rw [right_ext h row (has_ext hv2 e1)]
              exact e2
def Acc (h : List Txn) (l : Int) : Nat → List Int → List Int → Prop
  | 0, row, _ => InP h l row
  | d + 1, row, left => ∃ (i : Nat) (hi : i < left.length), Acc h l d (row ++ [left[i]]) (left.take i ++ left.drop (i + 1))
theorem without_f (l : List Int) (i : Nat) (hl : l.length ≤ 1000) (hi : i < l.length) : ref13_without.f l (i : Int) = some (l.take i ++ l.drop (i + 1)) := by
  unfold ref13_without.f
  have h1 : (l.take i).length ≤ l.length := by rw [List.length_take]; omega
  have h2 : (l.drop (i + 1)).length ≤ l.length := by rw [List.length_drop]; omega
  simp only [Option.bind_some, if_pos (show 0 ≤ (i : Int) by omega), if_pos (show (i : Int) ≤ (l.length : Int) by omega), Int.toNat_natCast, List.length_nil, Nat.zero_add, List.nil_append, wrapN i (by omega)]
  rw [if_pos (by omega), if_pos (by omega), if_pos (by omega), if_pos (by omega)]
theorem count_ev13 (h : List Txn) (g : Good h) (l : Int) : ∀ (d : Nat) (row left : List Int), left.length = d → row.length + d ≤ 1000 → ∃ n : Int, Ev (fun k => ref13_count.f k h l row left true) n ∧ (n = 0 ∨ n = 1) ∧ (n > 0 ↔ Acc h l d row left) := by
  intro d
  induction d with
  | zero =>
    intro row left hl hr
    obtain ⟨v, b, hv, hb⟩ := in_ev h g l row (by unfold Few; omega)
    refine ⟨if b = true then 1 else 0, ?_, by cases b <;> simp, ?_⟩
    · refine Ev.step (fun k => by rw [ref13_count.f]) ?_
      simp only [if_pos (show (left.length : Int) = 0 by omega)]
      refine Ev.bind hv ?_
      cases b with
      | true => simp only [if_true]; exact Ev.now _
      | false => simp only [Bool.false_eq_true, if_false]; exact Ev.now _
    · rw [Acc, ← hb]
      cases b <;> simp
  | succ d ih =>
    intro row left hl hr
    have loop : ∀ q i : Nat, i + q = left.length → (∀ j (hj : j < left.length), j < i → ¬ Acc h l d (row ++ [left[j]]) (left.take j ++ left.drop (j + 1))) →
        ∃ n : Int, Ev (fun k => ref13_count.l0 k h l row left true 0 (i : Int)) n ∧ (n = 0 ∨ n = 1) ∧ (n > 0 ↔ Acc h l (d + 1) row left) := by
      intro q
      induction q with
      | zero =>
        intro i hi hno
        refine ⟨0, ?_, .inl rfl, ?_⟩
        · refine Ev.step (fun k => by rw [ref13_count.l0]) ?_
          simp only [if_neg (show ¬ (i : Int) < (left.length : Int) by omega)]
          refine Ev.step (fun k => by rw [ref13_count.j1]) ?_
          simp only [Bool.false_eq_true, if_false]
          exact Ev.now _
        · refine ⟨fun hh => by omega, ?_⟩
          rintro ⟨j, hj, ha⟩
          exact absurd ha (hno j hj (by omega))
      | succ q ihq =>
        intro i hi hno
        have hlt : i < left.length := by omega
        obtain ⟨n, hn1, hn2, hn3⟩ := ih (row ++ [left[i]]) (left.take i ++ left.drop (i + 1)) (by rw [List.length_append, List.length_take, List.length_drop]; omega) (by rw [List.length_append, List.length_singleton]; omega)
        have step : ∀ r, Ev (fun k => ref13_count.l0 k h l row left true (wrap64 (0 + n)) ((i + 1 : Nat) : Int)) r → Ev (fun k => ref13_count.l0 k h l row left true 0 (i : Int)) r := by
          intro r hr2
          refine Ev.step (fun k => by rw [ref13_count.l0]) ?_
          simp only [if_pos (show (i : Int) < (left.length : Int) by omega), if_true]
          rw [show (!decide ((0 : Int) > 0)) = true by simp]
          refine Ev.step (fun k => by rw [ref13_count.j1]) ?_
          simp only [if_true, Option.bind_some, List.length_nil, Nat.zero_add, List.nil_append, if_pos (show row.length < 17592186044416 by omega), if_pos (show 0 ≤ (i : Int) by omega), if_pos (show (i : Int) < (left.length : Int) by omega), rdN left i hlt, List.length_singleton, if_pos (show row.length + 1 < 17592186044416 by omega), without_f left i (by omega) hlt, wrapN i (by omega)]
          exact Ev.bind hn1 hr2
        rcases hn2 with rfl | rfl
        · have hna : ¬ Acc h l d (row ++ [left[i]]) (left.take i ++ left.drop (i + 1)) := fun ha => by have := hn3.2 ha; omega
          obtain ⟨r, hr1, hr2⟩ := ihq (i + 1) (by omega) (fun j hj hji => by
            rcases Nat.lt_or_eq_of_le (Nat.lt_succ_iff.1 hji) with hji | rfl
            · exact hno j hj hji
            · exact hna)
          refine ⟨r, step r ?_, hr2⟩
          rw [show wrap64 (0 + 0) = 0 from wrapI 0 (by omega) (by omega)]
          exact hr1
        · refine ⟨1, step 1 ?_, .inr rfl, ⟨fun _ => ⟨i, hlt, hn3.1 (by omega)⟩, fun _ => by omega⟩⟩
          rw [show wrap64 (0 + 1) = 1 from wrapI 1 (by omega) (by omega)]
          refine Ev.step (fun k => by rw [ref13_count.l0]) ?_
          by_cases hh : ((i + 1 : Nat) : Int) < (left.length : Int)
          · simp only [if_pos hh, if_true]
            rw [show (!decide ((1 : Int) > 0)) = false by simp]
            refine Ev.step (fun k => by rw [ref13_count.j1]) ?_
            simp only [Bool.false_eq_true, if_false]
            exact Ev.now _
          · simp only [if_neg hh]
            refine Ev.step (fun k => by rw [ref13_count.j1]) ?_
            simp only [Bool.false_eq_true, if_false]
            exact Ev.now _
    obtain ⟨n, h1, h2⟩ := loop left.length 0 (by omega) (fun j hj hji => by omega)
    refine ⟨n, ?_, h2⟩
    refine Ev.step (fun k => by rw [ref13_count.f]) ?_
    simp only [if_neg (show ¬ (left.length : Int) = 0 by omega)]
    exact h1
def allI (n : Nat) : List Int := (List.range n).map fun i : Nat => (i : Int)
theorem all_loop (n : Nat) (hn : n ≤ 1000) : ∀ d i : Nat, i + d = n → Ev (fun k => ref13_all.l0 k (n : Int) (allI i) (i : Int)) (allI n) := by
  intro d
  induction d with
  | zero =>
    intro i hi
    obtain rfl : i = n := by omega
    refine Ev.step (fun k => by rw [ref13_all.l0]) ?_
    simp only [if_neg (show ¬ (i : Int) < (i : Int) by omega)]
    exact Ev.now _
  | succ d ih =>
    intro i hi
    have h := ih (i + 1) (by omega)
    have e : allI (i + 1) = allI i ++ [(i : Int)] := by simp [allI, List.range_succ]
    rw [e] at h
    refine Ev.step (fun k => by rw [ref13_all.l0]) ?_
    simp only [if_pos (show (i : Int) < (n : Int) by omega), wrapN i (by omega), if_pos (show (allI i).length < 17592186044416 by simp [allI]; omega)]
    exact h
theorem accepts_ev (h : List Txn) (g : Good h) (l : Int) : ∃ b, Ev (fun k => ref13_Accepts.f k h l) b ∧ (b = true ↔ Acc h l h.length [] (allI h.length)) := by
  obtain ⟨n, h1, h2, h3⟩ := count_ev13 h g l h.length [] (allI h.length) (by simp [allI]) (by have := g.len; simp; omega)
  refine ⟨decide (n > 0), ?_, by rw [decide_eq_true_iff]; exact h3⟩
  unfold ref13_Accepts.f
  refine Ev.bind (all_loop h.length (by have := g.len; omega) h.length 0 (by omega)) ?_
  refine Ev.bind h1 ?_
  exact Ev.now _
end Go.Proofs.Ytfocaefnmfkojaa.R
namespace Go.Proofs.Ytfocaefnmfkojaa.R
open Go.RowKit Go.Proofs.Ytfocaefnmfkojaa.Q Go.Proofs.YtfocaefnmfkojaaW.PrintWords Go.Proofs.YtfocaefnmfkojaaW.PrintLast
set_option linter.unusedVariables false
set_option linter.unusedSimpArgs false
structure Impl (A B : Int) : Prop where
  total : bit B 16 = true → bit A 16 = true
  pre : bit B 4 = true → bit A 4 = true ∨ bit A 16 = true
  tr : bit B 2 = true → bit A 2 = true ∨ bit A 4 = true ∨ bit A 16 = true
  riv : bit B 8 = true → bit A 8 = true ∨ bit A 16 = true
  time : bit B 32 = true → bit A 32 = true
  ses : bit B 1 = true → bit A 1 = true ∨ bit A 32 = true
def implB (A B : Int) : Bool := (!bit B 16 || bit A 16) && ((!bit B 4 || (bit A 4 || bit A 16)) && ((!bit B 2 || (bit A 2 || (bit A 4 || bit A 16))) && ((!bit B 8 || (bit A 8 || bit A 16)) && ((!bit B 32 || bit A 32) && (!bit B 1 || (bit A 1 || bit A 32))))))
theorem implB_impl {A B : Int} (h : implB A B = true) : Impl A B := by
  unfold implB at h
  simp only [Bool.and_eq_true, Bool.or_eq_true, Bool.not_eq_true'] at h
  obtain ⟨h1, h2, h3, h4, h5, h6⟩ := h
  refine ⟨fun x => ?_, fun x => ?_, fun x => ?_, fun x => ?_, fun x => ?_, fun x => ?_⟩
  · exact h1.resolve_left (by simp [x])
  · exact h2.resolve_left (by simp [x])
  · exact h3.resolve_left (by simp [x])
  · exact h4.resolve_left (by simp [x])
  · exact h5.resolve_left (by simp [x])
  · exact h6.resolve_left (by simp [x])
set_option maxRecDepth 100000 in
theorem table_all : ((List.range 12).all fun a => (List.range 12).all fun b => match table_Implies.f 20 (a : Int) (b : Int) with
  | none => false
  | some t => !t || implB (asksR (a : Int)) (asksR (b : Int))) = true := by kernel_rfl
theorem table_impl (a b : Nat) (ha : a < 12) (hb : b < 12) : ∃ t, table_Implies.f 20 (a : Int) (b : Int) = some t ∧ (t = true → Impl (asksR (a : Int)) (asksR (b : Int))) := by
  have h1 := List.all_eq_true.1 table_all a (List.mem_range.2 ha)
  have h2 := List.all_eq_true.1 h1 b (List.mem_range.2 hb)
  cases ht : table_Implies.f 20 (a : Int) (b : Int) with
  | none => rw [ht] at h2; cases h2
  | some t =>
    rw [ht] at h2
    refine ⟨t, rfl, fun e => implB_impl ?_⟩
    subst e
    simpa using h2
theorem sess_time {h : List Txn} (g : Good h) {i k : Nat} (hi : i < h.length) (hk : k < h.length) (hs : sess h i k = true) : time h i k = true := by
  unfold sess at hs
  unfold time
  rw [List.getElem?_eq_getElem hi, List.getElem?_eq_getElem hk] at hs ⊢
  simp only [Bool.and_eq_true, decide_eq_true_eq, beq_iff_eq] at hs
  obtain ⟨_, _, h1, _, h2⟩ := g.pair i k hs.1 hk
  have := h2 hs.2
  exact decide_eq_true (by omega)
theorem ahead_trans {row : List Int} {i j k : Int} (h1 : ahead row i j = true) (h2 : ahead row j k = true) : ahead row i k = true := by
  unfold ahead at *
  have h1 := of_decide_eq_true h1
  have h2 := of_decide_eq_true h2
  exact decide_eq_true (by omega)
theorem ahead_ne {row : List Int} {i k : Nat} (h1 : ahead row (i : Int) (k : Int) = true) : i ≠ k := by
  rintro rfl
  unfold ahead at h1
  have := of_decide_eq_true h1
  omega
theorem lr_mono {h : List Txn} (g : Good h) {A B : Int} {row : List Int} (I : Impl A B) (ha : ∀ i k, LR h A row i k → ahead row (i : Int) (k : Int) = true) :
    ∀ i k, LR h B row i k → LR h A row i k := by
  intro i k hl
  have tot : bit A 16 = true → ∀ i k : Nat, i < h.length → k < h.length → ahead row (i : Int) (k : Int) = true → LR h A row i k := fun h16 i k hi hk hah =>
    .base hi hk ⟨ahead_ne hah, by unfold must; rw [hah, h16]; simp⟩
  induction hl with
  | @base i k h1 h2 h3 =>
    have h4 := h3.2
    unfold must at h4
    simp only [Bool.or_eq_true, Bool.and_eq_true] at h4
    rcases h4 with (h4 | h4 | h4) | ⟨h4, h5 | h5⟩
    · exact .base h1 h2 ⟨h3.1, by unfold must; rw [h4]; simp⟩
    · rcases I.ses h4.1 with h6 | h6
      · exact .base h1 h2 ⟨h3.1, by unfold must; rw [h6, h4.2]; simp⟩
      · exact .base h1 h2 ⟨h3.1, by unfold must; rw [h6, sess_time g h1 h2 h4.2]; simp⟩
    · exact .base h1 h2 ⟨h3.1, by unfold must; rw [I.time h4.1, h4.2]; simp⟩
    · exact tot (I.total h5) i k h1 h2 h4
    · rcases I.riv h5.1 with h6 | h6
      · exact .base h1 h2 ⟨h3.1, by unfold must; rw [h4, h6, h5.2]; simp⟩
      · exact tot h6 i k h1 h2 h4
  | tr q1 q2 q3 q4 q5 =>
    rcases I.tr q1 with h6 | h6 | h6
    · exact .tr h6 q4 q5
    · exact .pre h6 q4.lt.1 (ha _ _ q4) q5
    · exact tot h6 _ _ q4.lt.1 q5.lt.2 (ahead_trans (ha _ _ q4) (ha _ _ q5))
  | pre q1 q2 q3 q4 q5 =>
    rcases I.pre q1 with h6 | h6
    · exact .pre h6 q2 q3 q5
    · exact tot h6 _ _ q2 q5.lt.2 (ahead_trans q3 (ha _ _ q5))
theorem lastS_sub (SA SB : Int → Bool) (hs : ∀ y, SB y = true → SA y = true) : ∀ (n : Nat) (row : List Int), row.length = n → (∀ y ∈ row, 0 ≤ y) → ∀ x, lastS row SA = x → (0 ≤ x → SB x = true) → lastS row SB = x := by
  intro n
  induction n with
  | zero =>
    intro row hl _ x hx _
    obtain rfl := List.eq_nil_of_length_eq_zero hl
    exact hx
  | succ n ih =>
    intro row hl hp x hx hb
    obtain ⟨r, y, rfl⟩ : ∃ r y, row = r ++ [y] := ⟨row.dropLast, row.getLast (by intro e; rw [e] at hl; simp at hl), (List.dropLast_concat_getLast _).symm⟩
    rw [lastS_snoc] at hx ⊢
    by_cases h1 : SA y = true
    · rw [if_pos h1] at hx
      subst hx
      rw [if_pos (hb (hp y (by simp)))]
    · rw [if_neg h1] at hx
      rw [if_neg (fun h2 => h1 (hs y h2))]
      exact ih r (by simp at hl; omega) (fun z hz => hp z (by simp [hz])) x hx hb
theorem mem_readsOf {h : List Txn} {i : Nat} (hi : i < h.length) {r : Rd} (hr : r ∈ readsOf h i) : r.f1 ≠ (i : Int) ∧ (r.f1 = -1 ∨ (0 ≤ r.f1 ∧ r.f1 < h.length)) ∧ frm h r.f1 i = true := by
  have hr0 := hr
  rw [readsOf_at h i hi] at hr
  obtain ⟨o, ho, hf⟩ := List.mem_filterMap.1 hr
  unfold rdOf at hf
  split at hf
  · cases hf
  · rename_i hne
    obtain rfl := Option.some.inj hf
    refine ⟨hne, ?_, ?_⟩
    · show fromOf h o = -1 ∨ (0 ≤ fromOf h o ∧ fromOf h o < h.length)
      unfold fromOf
      split
      · exact .inl rfl
      · have := writer_range h o.f1 o.f2
        omega
    · unfold frm
      exact List.any_eq_true.2 ⟨_, hr0, by simp⟩
theorem in_mono {h : List Txn} (g : Good h) {a b : Int} {row : List Int} (hb0 : 0 ≤ b) (hb1 : b ≤ 11) (I : Impl (asksR a) (asksR b)) (H : InP h a row) : InP h b row := by
  obtain ⟨_, _, hs, hr, vis, hv, hright⟩ := H
  have hg := g.len
  have hrl := hr.len
  obtain ⟨vis2, _, hv2, _⟩ := of_ev g (asksR b) row (by unfold Few; omega)
  refine ⟨hb0, hb1, hs, hr, vis2, hv2, ?_⟩
  unfold right at hright ⊢
  simp only [Bool.and_eq_true] at hright ⊢
  obtain ⟨h1, h2, h3⟩ := hright
  have hah : ∀ i k, LR h (asksR a) row i k → ahead row (i : Int) (k : Int) = true := by
    intro i k hl
    obtain ⟨p, hp, e1, e2⟩ := (has_iff _ _ _).1 ((hv (i : Int) (k : Int)).2 ⟨i, k, rfl, rfl, hl.lt.1, hl.lt.2, hl⟩)
    have := List.all_eq_true.1 h2 p hp
    unfold pairIn at this
    rw [e1, e2] at this
    exact decide_eq_true (of_decide_eq_true this).2.2
  have hsub := lr_mono g I hah
  refine ⟨h1, List.all_eq_true.2 fun p hp => ?_, List.all_eq_true.2 fun i hi => List.all_eq_true.2 fun r hr2 => ?_⟩
  · obtain ⟨x, y, e1, e2, hx, hy, hl⟩ := (hv2 p.f0 p.f1).1 ((has_iff _ _ _).2 ⟨p, hp, rfl, rfl⟩)
    have := of_decide_eq_true (hah x y (hsub x y hl))
    unfold pairIn
    rw [e1, e2]
    exact decide_eq_true ⟨place_mem row _ (hr.mem x hx), place_mem row _ (hr.mem y hy), this⟩
  · have hi2 := List.mem_range.1 hi
    have h4 := List.all_eq_true.1 (List.all_eq_true.1 h3 i hi) r hr2
    unfold readIn at h4 ⊢
    have h4 := eq_of_beq h4
    obtain ⟨hne, hrng, hfr⟩ := mem_readsOf hi2 hr2
    refine beq_iff_eq.2 ?_
    unfold lastV at h4 ⊢
    refine lastS_sub _ _ (fun y hy => ?_) row.length row rfl (fun y hy => (hr.rng y hy).1) _ h4 (fun h0 => ?_)
    · rw [Bool.and_eq_true] at hy ⊢
      refine ⟨?_, hy.2⟩
      obtain ⟨x, z, e1, e2, hx, hz, hl⟩ := (hv2 _ _).1 hy.1
      exact (hv _ _).2 ⟨x, z, e1, e2, hx, hz, hsub x z hl⟩
    · -- it is seen in any case, and it was the last one that writes
      have hS : (fun x => has vis x (i : Int) && wrtI h x r.f0) r.f1 = true := by
        have key : ∀ (S : Int → Bool) (n : Nat) (row : List Int), row.length = n → 0 ≤ lastS row S → S (lastS row S) = true := by
          intro S n
          induction n with
          | zero => intro row hl h0; obtain rfl := List.eq_nil_of_length_eq_zero hl; simp [lastS] at h0
          | succ n ih =>
            intro row hl h0
            obtain ⟨r, y, rfl⟩ : ∃ r y, row = r ++ [y] := ⟨row.dropLast, row.getLast (by intro e; rw [e] at hl; simp at hl), (List.dropLast_concat_getLast _).symm⟩
            rw [lastS_snoc] at h0 ⊢
            by_cases h1 : S y = true
            · rw [if_pos h1]; exact h1
            · rw [if_neg h1] at h0 ⊢
              exact ih r (by simp at hl; omega) h0
        have := key (fun x => has vis x (i : Int) && wrtI h x r.f0) row.length row rfl (by rw [h4]; exact h0)
        rwa [h4] at this
      simp only [Bool.and_eq_true] at hS ⊢
      refine ⟨?_, hS.2⟩
      obtain ⟨m, hm⟩ := Int.eq_ofNat_of_zero_le h0
      have hm2 : m < h.length := by omega
      refine (hv2 _ _).2 ⟨m, i, hm, rfl, hm2, hi2, .base hm2 hi2 ⟨by omega, ?_⟩⟩
      rw [hm] at hfr
      unfold must
      rw [hfr]
      simp
theorem acc_mono {h : List Txn} (g : Good h) {a b : Int} (hb0 : 0 ≤ b) (hb1 : b ≤ 11) (I : Impl (asksR a) (asksR b)) : ∀ (d : Nat) (row left : List Int), Acc h a d row left → Acc h b d row left := by
  intro d
  induction d with
  | zero => exact fun row left H => in_mono g hb0 hb1 I H
  | succ d ih =>
    rintro row left ⟨i, hi, H⟩
    exact ⟨i, hi, ih _ _ H⟩
set_option maxRecDepth 100000 in
theorem speaks20 : burgagelaw20_speaks.f 300 = some true := by kernel_rfl
theorem tmod12 (a : Int) (h0 : 0 ≤ a) (h1 : a ≤ 255) : ∃ n : Nat, n < 12 ∧ wrap64 (Int.tmod a 12) = (n : Int) := by
  rw [Int.tmod_eq_emod_of_nonneg h0]
  refine ⟨(a % 12).toNat, by omega, ?_⟩
  rw [wrapI _ (by omega) (by omega)]
  omega
theorem catalogueSound (h : List Txn) (a b : Int) (ho : ∀ t ∈ h, t.f3.length ≤ 7000000000000) (ha0 : 0 ≤ a) (ha1 : a ≤ 255) (hb0 : 0 ≤ b) (hb1 : b ≤ 255) : Ev (fun k => burgagelaw20_CatalogueSound.f k h a b) true := by
  have j1 : Ev (fun k => burgagelaw20_CatalogueSound.j0 k h a b true) true := by
    refine Ev.step (fun k => by rw [burgagelaw20_CatalogueSound.j0]) ?_
    simp only [if_true]
    exact Ev.now _
  unfold burgagelaw20_CatalogueSound.f
  refine Ev.bind (Ev.of burgagelaw20_speaks.mono speaks20) ?_
  simp only [if_true]
  by_cases h1 : (h.length : Int) > 5
  · simp only [if_pos h1]
    exact j1
  · simp only [if_neg h1]
    have hf : FewH h := ⟨by omega, ho⟩
    refine Ev.bind (check_ev h hf) ?_
    by_cases h2 : check h = 0
    · have g := (good_iff h).1 h2
      simp only [if_pos h2]
      obtain ⟨x, hx, ex⟩ := tmod12 a ha0 ha1
      obtain ⟨y, hy, ey⟩ := tmod12 b hb0 hb1
      obtain ⟨t, ht, hI⟩ := table_impl x y hx hy
      rw [ex, ey]
      refine Ev.bind (Ev.of (fun k => table_Implies.mono _ _ k) ht) ?_
      cases t with
      | false => exact j1
      | true =>
        simp only [Bool.not_true]
        refine Ev.step (fun k => by rw [burgagelaw20_CatalogueSound.j0]) ?_
        simp only [Bool.false_eq_true, if_false, ex, ey]
        obtain ⟨p, hp1, hp2⟩ := accepts_ev h g (x : Int)
        obtain ⟨q, hq1, hq2⟩ := accepts_ev h g (y : Int)
        refine Ev.bind hp1 ?_
        cases p with
        | false => simp only [Bool.false_eq_true, if_false]; exact Ev.now _
        | true =>
          simp only [if_true]
          have : q = true := hq2.2 (acc_mono g (by omega) (by omega) (hI rfl) _ _ _ (hp2.1 rfl))
          subst this
          refine Ev.bind hq1 ?_
          exact Ev.now _
    · simp only [if_neg h2]
      exact j1
end Go.Proofs.Ytfocaefnmfkojaa.R
