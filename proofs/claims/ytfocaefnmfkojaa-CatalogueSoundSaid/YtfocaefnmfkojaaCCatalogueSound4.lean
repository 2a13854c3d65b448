/- A part of the proof of catalogueSound_holds: words and contracts that its last text uses. -/
import Derived.Test.YtfocaefnmfkojaaCCatalogueSound3
namespace Go.Proofs.Ytfocaefnmfkojaa.Q
open Go.RowKit Go.Proofs.YtfocaefnmfkojaaW.PrintWords Go.Proofs.YtfocaefnmfkojaaW.PrintLast Go.Proofs.YtfocaefnmfkojaaW.PrintMore
attribute [local go_sem] max2_int min2_int max_two min_two max_three min_three max_four min_four   -- for this text's walks alone
set_option linter.unusedVariables false
set_option linter.unusedSimpArgs false
def ref08_Reads.l0 : Nat → List (S44) → Int → List (S86) → List (S46) → Int → Option ((List (S86)))
 | 0, _, _, _, _, _ => none
 | k + 1, x0, x1, x5, x6, x7 => if x7 < (x6.length : Int) then (if 0 ≤ x7 then (if ((rd_T46 x6 x7).f2) = 0 then (if (-1) = x1 then (ref08_Reads.l0 k x0 x1 x5 x6 (wrap64 (x7 + 1))) else (if x5.length < 8796093022208 then (ref08_Reads.l0 k x0 x1 (x5 ++ [(⟨(rd_T46 x6 x7).f1, (-1)⟩ : S86)]) x6 (wrap64 (x7 + 1))) else (none))) else ((ref06_Writer.f k x0 ((rd_T46 x6 x7).f1) ((rd_T46 x6 x7).f2)).bind fun t115 => (if t115 = x1 then (ref08_Reads.l0 k x0 x1 x5 x6 (wrap64 (x7 + 1))) else (if x5.length < 8796093022208 then (ref08_Reads.l0 k x0 x1 (x5 ++ [(⟨(rd_T46 x6 x7).f1, t115⟩ : S86)]) x6 (wrap64 (x7 + 1))) else (none))))) else (none)) else (some x5)
def ref08_Reads.f (k : Nat) (l0 : List (S44)) (a1 : Int) : Option ((List (S86))) := if 0 ≤ a1 then (if a1 < (l0.length : Int) then ((ref05_Reads.f k ((rd_T44 l0 a1).f3)).bind fun t105 => (ref08_Reads.l0 k l0 a1 (([] : List (S86))) t105 0)) else (none)) else (none)
def ref08_Reads.T8 : Bool × List (List Nat × List Nat) := (true, [([], []), ([], []), ([], []), ([1, 2], [1, 2]), ([3], [3]), ([4], [4]), ([], []), ([], []), ([6, 7], [6, 7]), ([8], [8]), ([9], [9]), ([0, 5, 10], [0, 5, 10]), ([11, 11, 0, 1, 2, 3, 4, 5, 6, 7, 8, 9, 10, 11], [11])])
def ref08_Reads.B8 : List Nat := [0, 0, 0, 6, 14, 30, 0, 0, 192, 448, 960, 2047, 4095]
theorem ref08_Reads.tab8 : rtab .any (opsOf Try.f43 8) = ref08_Reads.T8 := by kernel_rfl
theorem ref08_Reads.bits8 : waitsOk ref08_Reads.T8.2 ref08_Reads.B8 = true := by kernel_rfl
set_option maxHeartbeats 8000000 in
set_option maxRecDepth 100000 in
theorem ref08_Reads.calls (k : Nat) (A0 : Option Addr) (c0 : Nat) (l0 : List (S44)) (a1 : Int) (r : List (S86)) (w : World) (hr0 : Kd.C k44 w A0 l0.length l0) (hc0 : l0.length ≤ c0) (h : ref08_Reads.f k l0 a1 = some r) :
  Calls Try.prog 43 #[.slice A0 l0.length c0, .int .i64 a1] w fun e w' => ∃ v0_ : Value, e = .returned (v0_) ∧ Kd.R k86 86 w' w.heap.size (fun _ => True) v0_ r ∧ Below w.heap.size w w' := by
 have hu86 := Try.underlying86
 have HR0 := Aside0.mk hr0
 have HC0 := Aside0.mk hc0
 clear hr0 hc0
 have HB := Aside0.mk (Below.refl w.heap.size w)
 have H : (if 0 ≤ a1 then (if a1 < (l0.length : Int) then ((ref05_Reads.f k ((rd_T44 l0 a1).f3)).bind fun t105 => (ref08_Reads.l0 k l0 a1 (([] : List (S86))) t105 0)) else (none)) else (none)) = some r := h
 clear h
 obtain ⟨y101, hy101⟩ : ∃ y_ : List (S86), y_ = (([] : List (S86))) := ⟨_, rfl⟩
 replace H : (if 0 ≤ a1 then (if a1 < (l0.length : Int) then ((ref05_Reads.f k ((rd_T44 l0 a1).f3)).bind fun t105 => (ref08_Reads.l0 k l0 a1 y101 t105 0)) else (none)) else (none)) = some r := by first | (rw [hy101]; with_reducible exact H) | (have H2_ := (Option.bind_some _ _).symm.trans H; rw [hy101]; with_reducible exact H2_) | (have H2_ := (Option.bind_some _ _).symm.trans H; with_reducible exact H2_) | with_reducible exact H | (rw [hy101]; exact H) | exact H
 have Ny101 := Aside0.mk hy101
 clear hy101
 by_cases c3 : 0 ≤ a1
 ·rw [if_pos c3] at H
  have c3b0 : decide (0 ≤ a1) = true := decide_eq_true c3
  clear c3
  by_cases c4 : a1 < (l0.length : Int)
  ·rw [if_pos c4] at H
   have c4b0 : decide (a1 < (l0.length : Int)) = true := decide_eq_true c4
   clear c4
   replace H := Option.bind_eq_some_iff.mp H
   obtain ⟨t105, A50, H⟩ := H
   replace H : (ref08_Reads.l0 k l0 a1 y101 t105 0) = some r := H
   have A5 := Aside0.mk A50
   clear A50
   have H' := Aside0.mk H
   clear H
   go_enter Try.func43, Try.ntmps43
   go_wp2_with (first | ((with_reducible refine gate_dst (N := 9) rfl ?_); refine Kd.R_lit k86 _ 86 ?hg (N := 9) ?hd (xs := ([] : List (S86))) (inner := []) (ok := fun _ => True) (okp := fun _ => True) ?hr ?hp (fun _ hk => hk) trivial (Below.refl _ _) (Nat.le_refl _) (by simp) ?_; (case hd => rfl); (case hg => rfl); (case hr => first | (go_simp; done) | (go_simp; rfl)); (case hp => exact (Reps.none _ _)); intro v102 w6 ho7 hb hg_ hnew_; clear hg_ hnew_; (first | rw [← Ny101.out] at ho7 | (simp only [Int.reduceToNat] at ho7; rw [← Ny101.out] at ho7)); have n0_ := Aside0.mk (Kd.R_lower ho7 (below_size (by repeat (first | (with_reducible first | exact HB.out | apply below_alloc | apply pw_below_drewN | apply below_drew1))))); have n1_ := Aside0.mk (below_step (by repeat (first | (with_reducible first | exact HB.out | apply below_alloc | apply pw_below_drewN | apply below_drew1))) hb); clear HB; have HO103 := n0_; have HB := n1_; clear n0_ n1_; clear hb ho7; have p104 : 0 ≤ (a1 : Int) := of_decide_eq_true (by assumption); have q104 : a1 < (l0.length : Int) := of_decide_eq_true (by assumption); obtain ⟨ad104, A104_3, c104_3, e104, hx104_0, hx104_1, hx104_2, hx104_3, hl104_3, hi104_3⟩ := at_T44 HR0.out a1 p104 q104; cases e104; replace hx104_0 := (HB.out.cell (World.block_lt_of_cell? w _ hx104_0)).trans hx104_0; replace hx104_1 := (HB.out.cell (World.block_lt_of_cell? w _ hx104_1)).trans hx104_1; replace hx104_2 := (HB.out.cell (World.block_lt_of_cell? w _ hx104_2)).trans hx104_2; replace hx104_3 := (HB.out.cell (World.block_lt_of_cell? w _ hx104_3)).trans hx104_3; have HR104_3 := Aside0.mk hi104_3; have HC104_3 := Aside0.mk hl104_3; clear hi104_3 hl104_3; replace p104 := eq_true p104; replace q104 := eq_true q104) | ((with_reducible refine gate_callee (f := 77) rfl ?_); refine goesL_ (some 15) rfl rfl Try.func77 (by kernel_rfl) rfl #[.slice A104_3 ((rd_T44 l0 a1).f3).length c104_3] rfl (by (try simp only [List.map_toArray, List.map_cons, List.map_nil]); first | done | rfl | (simp only [List.length_drop, List.length_take]; rfl)) ?_; (with_reducible refine (ref05_Reads.calls k _ _ ((rd_T44 l0 a1).f3) t105 _ ?side1 ?side2 A5.out).mono ?_); (case side1 => repeat (first | exact (Kd.C_below HR104_3.out HB.out) | (with_reducible refine Kd.C_alloc ?_ _) | (with_reducible refine Kd.C_drewN ?_ _) | (with_reducible refine Kd.C_drew ?_))); (case side2 => exact HC104_3.out); rintro e w8 ⟨v106, rfl, ho0, hb⟩; refine ⟨_, rfl, ?_⟩; have n0_ := Aside0.mk (Kd.R_below (by (with_reducible repeat (first | apply Kd.R_alloc | apply Kd.R_drewN | apply Kd.R_drew)); exact HO103.out) hb); have n1_ := Aside0.mk (Kd.R_lower ho0 (below_size (by repeat (first | (with_reducible first | exact HB.out | apply below_alloc | apply pw_below_drewN | apply below_drew1))))); have n2_ := Aside0.mk (below_step (by repeat (first | (with_reducible first | exact HB.out | apply below_alloc | apply pw_below_drewN | apply below_drew1))) hb); clear HO103; clear HB; have HO103 := n0_; have HO107 := n1_; have HB := n2_; clear n0_ n1_ n2_; (try clear hb); (try clear hb2); (try clear hk); (try clear hi); (try clear ho0)))
   go_loopg [5, 7] k (fun kq v5 v7 w' => ∃ (x5_1 : List (S86)) (x7_1 : Int), v7 = .int .i64 x7_1 ∧ Aside0 (ref08_Reads.l0 kq l0 a1 x5_1 t105 x7_1 = some r) ∧ Aside0 (kq ≤ k) ∧ Aside0 (Kd.R k86 86 w' w.heap.size (fun _ => True) v5 x5_1) ∧ Aside0 (Kd.R k46 46 w' w.heap.size (fun _ => True) v106 t105) ∧ Aside0 (Below w.heap.size w w'))
   case atStart => exact ⟨(y101), (0), (by first | rfl | (simp; done) | (simp [*]; done)), H', ⟨Nat.le_refl _⟩, ⟨by (with_reducible repeat (first | apply Kd.R_alloc | apply Kd.R_drewN | apply Kd.R_drew)); exact HO103.out⟩, ⟨by (with_reducible repeat (first | apply Kd.R_alloc | apply Kd.R_drewN | apply Kd.R_drew)); exact HO107.out⟩, ⟨by repeat (first | (with_reducible first | exact HB.out | apply below_alloc | apply pw_below_drewN | apply below_drew1))⟩⟩
   case round =>
    clear H'
    try clear c1
    try clear p1
    try clear q1
    try clear hx1
    try clear p2
    try clear c3
    try clear c3b0
    try clear c4
    try clear c4b0
    try clear c7
    try clear hx104_0
    try clear hx104_1
    try clear hx104_2
    try clear hx104_3
    try clear p104
    try clear q104
    obtain ⟨x5_1, x7_1, rfl, HA, HK1, HO_5, HO_6, HB⟩ := hrel
    cases gk with
    | zero => exact absurd HA.out (by simp [ref08_Reads.l0])
    | succ k1 =>
     have H := HA.out
     clear HA
     simp only [ref08_Reads.l0] at H
     by_cases c9 : x7_1 < (t105.length : Int)
     ·rw [if_pos c9] at H
      have c9b0 : decide (x7_1 < (t105.length : Int)) = true := decide_eq_true c9
      clear c9
      by_cases c10 : 0 ≤ x7_1
      ·rw [if_pos c10] at H
       have c10b0 : decide (0 ≤ x7_1) = true := decide_eq_true c10
       clear c10
       by_cases c11 : ((rd_T46 t105 x7_1).f2) = 0
       ·rw [if_pos c11] at H
        have c11b0 : (((rd_T46 t105 x7_1).f2) == 0) = true := beq_iff_eq.mpr c11
        have c11b1 : (((rd_T46 t105 x7_1).f2) != 0) = false := bne_eq_false_iff_eq.mpr c11
        clear c11
        by_cases c12 : (-1) = a1
        ·rw [if_pos c12] at H
         have c12b0 : ((-1) == a1) = true := beq_iff_eq.mpr c12
         have c12b1 : ((-1) != a1) = false := bne_eq_false_iff_eq.mpr c12
         clear c12
         have H' := Aside0.mk H
         clear H
         obtain ⟨Ao13, co13, eo13⟩ := Kd.R_slice HO_6.out
         subst eo13
         have p108 : 0 ≤ (x7_1 : Int) := of_decide_eq_true (by assumption)
         have q108 : x7_1 < (t105.length : Int) := of_decide_eq_true (by assumption)
         obtain ⟨ad108, e108, hx108_0, hx108_1, hx108_2⟩ := at_T46 (Kd.R_reads' HO_6.out).2.2 x7_1 p108 q108
         cases e108
         replace p108 := eq_true p108
         replace q108 := eq_true q108
         go_wp2
         go_roundg k1
         case measure => have := HK1.out; omega
         case rel => exact ⟨(x5_1), (wrap64 (x7_1 + 1)), (by first | rfl | (simp; done) | (simp [*]; done)), H', ⟨by have := HK1.out; omega⟩, ⟨by (with_reducible repeat (first | apply Kd.R_alloc | apply Kd.R_drewN | apply Kd.R_drew)); exact HO_5.out⟩, ⟨by (with_reducible repeat (first | apply Kd.R_alloc | apply Kd.R_drewN | apply Kd.R_drew)); exact HO_6.out⟩, ⟨by repeat (first | (with_reducible first | exact HB.out | apply below_alloc | apply pw_below_drewN | apply below_drew1))⟩⟩
        ·rw [if_neg c12] at H
         have c12b0 : ((-1) == a1) = false := beq_eq_false_iff_ne.mpr c12
         have c12b1 : ((-1) != a1) = true := bne_iff_ne.mpr c12
         by_cases c14 : x5_1.length < 8796093022208
         ·rw [if_pos c14] at H
          have LMc14 := Aside0.mk c14
          clear c14
          obtain ⟨y110, hy110⟩ : ∃ y_ : List (S86), y_ = (x5_1 ++ [(⟨(rd_T46 t105 x7_1).f1, (-1)⟩ : S86)]) := ⟨_, rfl⟩
          replace H : (ref08_Reads.l0 k1 l0 a1 y110 t105 (wrap64 (x7_1 + 1))) = some r := by first | (rw [hy110]; with_reducible exact H) | (have H2_ := (Option.bind_some _ _).symm.trans H; rw [hy110]; with_reducible exact H2_) | (have H2_ := (Option.bind_some _ _).symm.trans H; with_reducible exact H2_) | with_reducible exact H | (rw [hy110]; exact H) | exact H
          have Ny110 := Aside0.mk hy110
          clear hy110
          have H' := Aside0.mk H
          clear H
          obtain ⟨Ao15, co15, eo15⟩ := Kd.R_slice HO_6.out
          subst eo15
          have p108 : 0 ≤ (x7_1 : Int) := of_decide_eq_true (by assumption)
          have q108 : x7_1 < (t105.length : Int) := of_decide_eq_true (by assumption)
          obtain ⟨ad108, e108, hx108_0, hx108_1, hx108_2⟩ := at_T46 (Kd.R_reads' HO_6.out).2.2 x7_1 p108 q108
          cases e108
          replace p108 := eq_true p108
          replace q108 := eq_true q108
          have p109 : 0 ≤ (x7_1 : Int) := of_decide_eq_true (by assumption)
          have q109 : x7_1 < (t105.length : Int) := of_decide_eq_true (by assumption)
          obtain ⟨ad109, e109, hx109_0, hx109_1, hx109_2⟩ := at_T46 (Kd.R_reads' HO_6.out).2.2 x7_1 p109 q109
          obtain rfl : ad108 = ad109 := (by injection e109)
          replace p109 := eq_true p109
          replace q109 := eq_true q109
          go_wp2_with (first | ((with_reducible refine gate_builtin (b := .append) (xs := #[.tmp 43, .tmp 51]) rfl ?_); at_builtin; refine Kd.R_append k86 (w0 := w) w.heap.size rfl (.tmp 43) (.tmp 51) 81 86 (.agg #[(.int .i64 0), (.int .i64 0)]) 16 rfl Try.underlying81 info86 rfl (by decide) (by omega) u5 x5_1 (⟨(rd_T46 t105 x7_1).f1, (-1)⟩ : S86) [.int .i64 ((rd_T46 t105 x7_1).f1), .int .i64 (-1)] (fun _ => True) (fun _ => False) rfl rfl ?aP (fun _ hk => hk.elim) ?aF ?aO ?aB ?aS ?aL ?_; (case aP => exact k86_mkM _ _ _ (⟨(rd_T46 t105 x7_1).f1, (-1)⟩ : S86)); (case aB => exact (by repeat (first | (with_reducible first | exact HB.out | apply below_alloc | apply pw_below_drewN | apply below_drew1)))); (case aF => exact (fun _ _ => trivial)); (case aO => exact (by (with_reducible repeat (first | apply Kd.R_alloc | apply Kd.R_drewN | apply Kd.R_drew)); exact HO_5.out)); (case aS => exact (below_size (by repeat (first | (with_reducible first | exact HB.out | apply below_alloc | apply pw_below_drewN | apply below_drew1))))); (case aL => have := LMc14.out; omega); intro v111 w16 ho hb hg hat; rw [← Ny110.out] at ho; have n0_ := Aside0.mk (Kd.R_over' (by (with_reducible repeat (first | apply Kd.R_alloc | apply Kd.R_drewN | apply Kd.R_drew)); exact HO_6.out) (Kd.R_typed (by (with_reducible repeat (first | apply Kd.R_alloc | apply Kd.R_drewN | apply Kd.R_drew)); exact HO_5.out)) (by decide) hg); have n1_ := Aside0.mk (hb); have n2_ := Aside0.mk (ho); clear HO_6; clear HB; clear HO_5; have HO_6 := n0_; have HB := n1_; have HO112 := n2_; clear n0_ n1_ n2_; clear ho hb hg hat))
          go_roundg k1
          case measure => have := HK1.out; omega
          case rel => exact ⟨(y110), (wrap64 (x7_1 + 1)), (by first | rfl | (simp; done) | (simp [*]; done)), H', ⟨by have := HK1.out; omega⟩, ⟨by (with_reducible repeat (first | apply Kd.R_alloc | apply Kd.R_drewN | apply Kd.R_drew)); exact HO112.out⟩, ⟨by (with_reducible repeat (first | apply Kd.R_alloc | apply Kd.R_drewN | apply Kd.R_drew)); exact HO_6.out⟩, ⟨by repeat (first | (with_reducible first | exact HB.out | apply below_alloc | apply pw_below_drewN | apply below_drew1))⟩⟩
         ·rw [if_neg c14] at H
          exact absurd H (by simp)
       ·rw [if_neg c11] at H
        have c11b0 : (((rd_T46 t105 x7_1).f2) == 0) = false := beq_eq_false_iff_ne.mpr c11
        have c11b1 : (((rd_T46 t105 x7_1).f2) != 0) = true := bne_iff_ne.mpr c11
        replace H := Option.bind_eq_some_iff.mp H
        obtain ⟨t115, A170, H⟩ := H
        replace H : (if t115 = a1 then (ref08_Reads.l0 k1 l0 a1 x5_1 t105 (wrap64 (x7_1 + 1))) else (if x5_1.length < 8796093022208 then (ref08_Reads.l0 k1 l0 a1 (x5_1 ++ [(⟨(rd_T46 t105 x7_1).f1, t115⟩ : S86)]) t105 (wrap64 (x7_1 + 1))) else (none))) = some r := H
        have A17 := Aside0.mk A170
        clear A170
        by_cases c18 : t115 = a1
        ·rw [if_pos c18] at H
         have c18b0 : (t115 == a1) = true := beq_iff_eq.mpr c18
         have c18b1 : (t115 != a1) = false := bne_eq_false_iff_eq.mpr c18
         clear c18
         have H' := Aside0.mk H
         clear H
         obtain ⟨Ao19, co19, eo19⟩ := Kd.R_slice HO_6.out
         subst eo19
         have p108 : 0 ≤ (x7_1 : Int) := of_decide_eq_true (by assumption)
         have q108 : x7_1 < (t105.length : Int) := of_decide_eq_true (by assumption)
         obtain ⟨ad108, e108, hx108_0, hx108_1, hx108_2⟩ := at_T46 (Kd.R_reads' HO_6.out).2.2 x7_1 p108 q108
         cases e108
         replace p108 := eq_true p108
         replace q108 := eq_true q108
         try go_wp2
         have n0_ := Aside0.mk (Kd.R_drew HO_5.out)
         have n1_ := Aside0.mk (Kd.R_drew HO_6.out)
         have n2_ := Aside0.mk (below_drew1 HB.out)
         clear HO_5
         clear HO_6
         clear HB
         have HO_5 := n0_
         have HO_6 := n1_
         have HB := n2_
         clear n0_ n1_ n2_
         have p113 : 0 ≤ (x7_1 : Int) := of_decide_eq_true (by assumption)
         have q113 : x7_1 < (t105.length : Int) := of_decide_eq_true (by assumption)
         obtain ⟨ad113, e113, hx113_0, hx113_1, hx113_2⟩ := at_T46 (Kd.R_reads' HO_6.out).2.2 x7_1 p113 q113
         obtain rfl : ad108 = ad113 := (by injection e113)
         replace p113 := eq_true p113
         replace q113 := eq_true q113
         have p114 : 0 ≤ (x7_1 : Int) := of_decide_eq_true (by assumption)
         have q114 : x7_1 < (t105.length : Int) := of_decide_eq_true (by assumption)
         obtain ⟨ad114, e114, hx114_0, hx114_1, hx114_2⟩ := at_T46 (Kd.R_reads' HO_6.out).2.2 x7_1 p114 q114
         obtain rfl : ad108 = ad114 := (by injection e114)
         replace p114 := eq_true p114
         replace q114 := eq_true q114
         refine start_ (n := 13) (S := fun w' => w'.cell? (ad108.add ((x7_1).toNat * 3)) = some (.bool ((rd_T46 t105 x7_1).f0)) ∧ w'.cell? ⟨(ad108.add ((x7_1).toNat * 3)).block, (ad108.add ((x7_1).toNat * 3)).off + 1, none⟩ = some (.int .i64 ((rd_T46 t105 x7_1).f1)) ∧ w'.cell? ⟨(ad108.add ((x7_1).toNat * 3)).block, (ad108.add ((x7_1).toNat * 3)).off + 2, none⟩ = some (.int .i64 ((rd_T46 t105 x7_1).f2)) ∧ w'.cell? (ad108.add ((x7_1).toNat * 3)) = some (.bool ((rd_T46 t105 x7_1).f0)) ∧ w'.cell? ⟨(ad108.add ((x7_1).toNat * 3)).block, (ad108.add ((x7_1).toNat * 3)).off + 1, none⟩ = some (.int .i64 ((rd_T46 t105 x7_1).f1)) ∧ w'.cell? ⟨(ad108.add ((x7_1).toNat * 3)).block, (ad108.add ((x7_1).toNat * 3)).off + 2, none⟩ = some (.int .i64 ((rd_T46 t105 x7_1).f2))) (ds := []) #[false, false, false, false, false, false, false, false, false, false, false, false, false] (by kernel_rfl) rfl rfl ⟨hx113_0, hx113_1, hx113_2, hx114_0, hx114_1, hx114_2⟩ (fun hHeld => ?_); refine with_tabW ref08_Reads.tab8 ref08_Reads.bits8 (fun HT_ HW_ => ?_)
         generalize wr.drew = w20 at HO_5 HO_6 HB hx113_0 hx113_1 hx113_2 hx114_0 hx114_1 hx114_2 hHeld ⊢
         refine pure_ (i := 0) (N := some 28) (v := ?_) (a' := ?_) #[true, false, false, false, false, false, false, false, false, false, false, false, false] rfl rfl (any_of HT_.out (by kernel_rfl)) (fun _ _ _ h => h) (Or.inl ⟨by rfl, ?_⟩) ?_ ?_
         rotate_left
         ·intro w'
          go_simp
          with_reducible rfl
         rotate_left
         ·simp only [Act.put, List.setIfInBounds_toArray, List.set_cons_zero, List.set_cons_succ, i64_w, i32_w]
          rfl
         refine pure_ (i := 1) (N := some 29) (v := ?_) (a' := ?_) #[true, true, false, false, false, false, false, false, false, false, false, false, false] rfl rfl (any_of HT_.out (by kernel_rfl)) (fun _ _ _ h => h) (Or.inl ⟨by rfl, ?_⟩) ?_ ?_
         rotate_left
         ·intro w'
          go_simp
          with_reducible rfl
         rotate_left
         ·simp only [Act.put, List.setIfInBounds_toArray, List.set_cons_zero, List.set_cons_succ, i64_w, i32_w]
          rfl
         refine pure_ (i := 2) (N := some 30) (v := ?_) (a' := ?_) #[true, true, true, false, false, false, false, false, false, false, false, false, false] rfl rfl (any_of HT_.out (by kernel_rfl)) (fun _ _ _ h => h) (Or.inl ⟨by rfl, ?_⟩) ?_ ?_
         rotate_left
         ·intro w'
          go_simp
          with_reducible rfl
         rotate_left
         ·simp only [Act.put, List.setIfInBounds_toArray, List.set_cons_zero, List.set_cons_succ, i64_w, i32_w]
          rfl
         refine pure_ (i := 3) (N := some 31) (v := ?_) (a' := ?_) #[true, true, true, true, false, false, false, false, false, false, false, false, false] rfl rfl (any_of HT_.out (by kernel_rfl)) (fun _ _ _ h => h) (Or.inl ⟨by rfl, ?_⟩) ?_ ?_
         rotate_left
         ·intro w'
          go_simp
          with_reducible rfl
         rotate_left
         ·simp only [Act.put, List.setIfInBounds_toArray, List.set_cons_zero, List.set_cons_succ, i64_w, i32_w]
          rfl
         refine pure_ (i := 4) (N := some 32) (v := ?_) (a' := ?_) #[true, true, true, true, true, false, false, false, false, false, false, false, false] rfl rfl (any_of HT_.out (by kernel_rfl)) (fun _ _ _ h => h) (Or.inl ⟨by rfl, ?_⟩) ?_ ?_
         rotate_left
         ·intro w'
          go_simp
          with_reducible rfl
         rotate_left
         ·simp only [Act.put, List.setIfInBounds_toArray, List.set_cons_zero, List.set_cons_succ, i64_w, i32_w]
          rfl
         refine pure_ (i := 6) (N := some 34) (v := ?_) (a' := ?_) #[true, true, true, true, true, false, true, false, false, false, false, false, false] rfl rfl (any_of HT_.out (by kernel_rfl)) (fun _ _ _ h => h) (Or.inl ⟨by rfl, ?_⟩) ?_ ?_
         rotate_left
         ·intro w'
          go_simp
          with_reducible rfl
         rotate_left
         ·simp only [Act.put, List.setIfInBounds_toArray, List.set_cons_zero, List.set_cons_succ, i64_w, i32_w]
          rfl
         refine pure_ (i := 7) (N := some 35) (v := ?_) (a' := ?_) #[true, true, true, true, true, false, true, true, false, false, false, false, false] rfl rfl (any_of HT_.out (by kernel_rfl)) (fun _ _ _ h => h) (Or.inl ⟨by rfl, ?_⟩) ?_ ?_
         rotate_left
         ·intro w'
          go_simp
          with_reducible rfl
         rotate_left
         ·simp only [Act.put, List.setIfInBounds_toArray, List.set_cons_zero, List.set_cons_succ, i64_w, i32_w]
          rfl
         refine pure_ (i := 8) (N := some 36) (v := ?_) (a' := ?_) #[true, true, true, true, true, false, true, true, true, false, false, false, false] rfl rfl (any_of HT_.out (by kernel_rfl)) (fun _ _ _ h => h) (Or.inl ⟨by rfl, ?_⟩) ?_ ?_
         rotate_left
         ·intro w'
          go_simp
          with_reducible rfl
         rotate_left
         ·simp only [Act.put, List.setIfInBounds_toArray, List.set_cons_zero, List.set_cons_succ, i64_w, i32_w]
          rfl
         refine pure_ (i := 9) (N := some 37) (v := ?_) (a' := ?_) #[true, true, true, true, true, false, true, true, true, true, false, false, false] rfl rfl (any_of HT_.out (by kernel_rfl)) (fun _ _ _ h => h) (Or.inl ⟨by rfl, ?_⟩) ?_ ?_
         rotate_left
         ·intro w'
          go_simp
          with_reducible rfl
         rotate_left
         ·simp only [Act.put, List.setIfInBounds_toArray, List.set_cons_zero, List.set_cons_succ, i64_w, i32_w]
          rfl
         refine take_ (i := 5) (N := some 33) (v := ?_) (a' := ?_) #[true, true, true, true, true, true, true, true, true, true, false, false, false] rfl rfl (take_ofW HT_.out HW_.out (by kernel_rfl)) (fun _ _ _ h => h) (Or.inl ⟨by rfl, ?_⟩) hHeld ?_ ?_
         rotate_left
         ·rintro w' ⟨s0, s1, s2, s3, s4, s5⟩
          go_simp
          with_reducible rfl
         rotate_left
         ·simp only [Act.put, List.setIfInBounds_toArray, List.set_cons_zero, List.set_cons_succ, i64_w, i32_w]
          rfl
         refine take_ (i := 10) (N := some 38) (v := ?_) (a' := ?_) #[true, true, true, true, true, true, true, true, true, true, true, false, false] rfl rfl (take_ofW HT_.out HW_.out (by kernel_rfl)) (fun _ _ _ h => h) (Or.inl ⟨by rfl, ?_⟩) hHeld ?_ ?_
         rotate_left
         ·rintro w' ⟨s0, s1, s2, s3, s4, s5⟩
          go_simp
          with_reducible rfl
         rotate_left
         ·simp only [Act.put, List.setIfInBounds_toArray, List.set_cons_zero, List.set_cons_succ, i64_w, i32_w]
          rfl
         refine one_ (i := 11) (N := some 39) #[true, true, true, true, true, true, true, true, true, true, true, true, false] rfl rfl (one_of HT_.out (by kernel_rfl)) (by decide) (fun K hK => ?_)
         refine goes_ Try.func78 (by kernel_rfl) rfl #[.slice (some ad104) l0.length c0, .int .i64 ((rd_T46 t105 x7_1).f1), .int .i64 ((rd_T46 t105 x7_1).f2)] (by rfl) rfl rfl (by (try simp only [List.map_toArray, List.map_cons, List.map_nil]); first | done | rfl | (simp only [List.length_drop, List.length_take]; rfl)) ?_
         with_reducible refine (ref06_Writer.calls k1 _ _ l0 ((rd_T46 t105 x7_1).f1) ((rd_T46 t105 x7_1).f2) t115 _ ?side1 ?side2 A17.out).mono ?_
         (case side1 => repeat (first | exact (Kd.C_below HR0.out HB.out) | (with_reducible refine Kd.C_alloc ?_ _) | (with_reducible refine Kd.C_drewN ?_ _) | (with_reducible refine Kd.C_drew ?_)))
         (case side2 => exact HC0.out)
         rintro e w21 ⟨rfl, hb⟩
         have HS0_ := (hb.cell (World.block_lt_of_cell? _ _ (hHeld.1))).trans (hHeld.1)
         have HS1_ := (hb.cell (World.block_lt_of_cell? _ _ (hHeld.2.1))).trans (hHeld.2.1)
         have HS2_ := (hb.cell (World.block_lt_of_cell? _ _ (hHeld.2.2.1))).trans (hHeld.2.2.1)
         have HS3_ := (hb.cell (World.block_lt_of_cell? _ _ (hHeld.2.2.2.1))).trans (hHeld.2.2.2.1)
         have HS4_ := (hb.cell (World.block_lt_of_cell? _ _ (hHeld.2.2.2.2.1))).trans (hHeld.2.2.2.2.1)
         have HS5_ := (hb.cell (World.block_lt_of_cell? _ _ (hHeld.2.2.2.2.2))).trans (hHeld.2.2.2.2.2)
         refine ⟨_, rfl, ?_⟩
         have n0_ := Aside0.mk (Kd.R_below (by (with_reducible repeat (first | apply Kd.R_alloc | apply Kd.R_drewN | apply Kd.R_drew)); exact HO_5.out) hb)
         have n1_ := Aside0.mk (Kd.R_below (by (with_reducible repeat (first | apply Kd.R_alloc | apply Kd.R_drewN | apply Kd.R_drew)); exact HO_6.out) hb)
         have n2_ := Aside0.mk (below_step (by repeat (first | (with_reducible first | exact HB.out | apply below_alloc | apply pw_below_drewN | apply below_drew1))) hb)
         clear HO_5
         clear HO_6
         clear HB
         have HO_5 := n0_
         have HO_6 := n1_
         have HB := n2_
         clear n0_ n1_ n2_
         (try clear hb)
         (try clear hb2)
         (try clear hk)
         (try clear hi)
         refine hK.out _ _ ⟨HS0_, HS1_, HS2_, HS3_, HS4_, HS5_⟩ (fun hHeld => ?_)
         clear hK K
         refine norm_ (a' := ?_) ?_ ?_
         rotate_left
         ·show Act.put _ (some 39) _ = _
          simp only [Act.put, List.setIfInBounds_toArray, List.set_cons_zero, List.set_cons_succ, i64_w, i32_w]
          rfl
         refine pure_ (i := 12) (N := some 8) (v := ?_) (a' := ?_) #[true, true, true, true, true, true, true, true, true, true, true, true, true] rfl rfl (any_of HT_.out (by kernel_rfl)) (fun _ _ _ h => h) (Or.inl ⟨by rfl, ?_⟩) ?_ ?_
         rotate_left
         ·intro w'
          go_simp
          with_reducible rfl
         rotate_left
         ·simp only [Act.put, List.setIfInBounds_toArray, List.set_cons_zero, List.set_cons_succ, i64_w, i32_w]
          rfl
         refine done_ (done_of HT_.out (by kernel_rfl)) ?_
         try go_wp2
         go_roundg k1
         case measure => have := HK1.out; omega
         case rel => exact ⟨(x5_1), (wrap64 (x7_1 + 1)), (by first | rfl | (simp; done) | (simp [*]; done)), H', ⟨by have := HK1.out; omega⟩, ⟨by (with_reducible repeat (first | apply Kd.R_alloc | apply Kd.R_drewN | apply Kd.R_drew)); exact HO_5.out⟩, ⟨by (with_reducible repeat (first | apply Kd.R_alloc | apply Kd.R_drewN | apply Kd.R_drew)); exact HO_6.out⟩, ⟨by repeat (first | (with_reducible first | exact HB.out | apply below_alloc | apply pw_below_drewN | apply below_drew1))⟩⟩
        ·rw [if_neg c18] at H
         have c18b0 : (t115 == a1) = false := beq_eq_false_iff_ne.mpr c18
         have c18b1 : (t115 != a1) = true := bne_iff_ne.mpr c18
         by_cases c22 : x5_1.length < 8796093022208
         ·rw [if_pos c22] at H
          have LMc22 := Aside0.mk c22
          clear c22
          obtain ⟨y117, hy117⟩ : ∃ y_ : List (S86), y_ = (x5_1 ++ [(⟨(rd_T46 t105 x7_1).f1, t115⟩ : S86)]) := ⟨_, rfl⟩
          replace H : (ref08_Reads.l0 k1 l0 a1 y117 t105 (wrap64 (x7_1 + 1))) = some r := by first | (rw [hy117]; with_reducible exact H) | (have H2_ := (Option.bind_some _ _).symm.trans H; rw [hy117]; with_reducible exact H2_) | (have H2_ := (Option.bind_some _ _).symm.trans H; with_reducible exact H2_) | with_reducible exact H | (rw [hy117]; exact H) | exact H
          have Ny117 := Aside0.mk hy117
          clear hy117
          have H' := Aside0.mk H
          clear H
          obtain ⟨Ao23, co23, eo23⟩ := Kd.R_slice HO_6.out
          subst eo23
          have p108 : 0 ≤ (x7_1 : Int) := of_decide_eq_true (by assumption)
          have q108 : x7_1 < (t105.length : Int) := of_decide_eq_true (by assumption)
          obtain ⟨ad108, e108, hx108_0, hx108_1, hx108_2⟩ := at_T46 (Kd.R_reads' HO_6.out).2.2 x7_1 p108 q108
          cases e108
          replace p108 := eq_true p108
          replace q108 := eq_true q108
          try go_wp2
          have n0_ := Aside0.mk (Kd.R_drew HO_5.out)
          have n1_ := Aside0.mk (Kd.R_drew HO_6.out)
          have n2_ := Aside0.mk (below_drew1 HB.out)
          clear HO_5
          clear HO_6
          clear HB
          have HO_5 := n0_
          have HO_6 := n1_
          have HB := n2_
          clear n0_ n1_ n2_
          have p113 : 0 ≤ (x7_1 : Int) := of_decide_eq_true (by assumption)
          have q113 : x7_1 < (t105.length : Int) := of_decide_eq_true (by assumption)
          obtain ⟨ad113, e113, hx113_0, hx113_1, hx113_2⟩ := at_T46 (Kd.R_reads' HO_6.out).2.2 x7_1 p113 q113
          obtain rfl : ad108 = ad113 := (by injection e113)
          replace p113 := eq_true p113
          replace q113 := eq_true q113
          have p114 : 0 ≤ (x7_1 : Int) := of_decide_eq_true (by assumption)
          have q114 : x7_1 < (t105.length : Int) := of_decide_eq_true (by assumption)
          obtain ⟨ad114, e114, hx114_0, hx114_1, hx114_2⟩ := at_T46 (Kd.R_reads' HO_6.out).2.2 x7_1 p114 q114
          obtain rfl : ad108 = ad114 := (by injection e114)
          replace p114 := eq_true p114
          replace q114 := eq_true q114
          refine start_ (n := 13) (S := fun w' => w'.cell? (ad108.add ((x7_1).toNat * 3)) = some (.bool ((rd_T46 t105 x7_1).f0)) ∧ w'.cell? ⟨(ad108.add ((x7_1).toNat * 3)).block, (ad108.add ((x7_1).toNat * 3)).off + 1, none⟩ = some (.int .i64 ((rd_T46 t105 x7_1).f1)) ∧ w'.cell? ⟨(ad108.add ((x7_1).toNat * 3)).block, (ad108.add ((x7_1).toNat * 3)).off + 2, none⟩ = some (.int .i64 ((rd_T46 t105 x7_1).f2)) ∧ w'.cell? (ad108.add ((x7_1).toNat * 3)) = some (.bool ((rd_T46 t105 x7_1).f0)) ∧ w'.cell? ⟨(ad108.add ((x7_1).toNat * 3)).block, (ad108.add ((x7_1).toNat * 3)).off + 1, none⟩ = some (.int .i64 ((rd_T46 t105 x7_1).f1)) ∧ w'.cell? ⟨(ad108.add ((x7_1).toNat * 3)).block, (ad108.add ((x7_1).toNat * 3)).off + 2, none⟩ = some (.int .i64 ((rd_T46 t105 x7_1).f2))) (ds := []) #[false, false, false, false, false, false, false, false, false, false, false, false, false] (by kernel_rfl) rfl rfl ⟨hx113_0, hx113_1, hx113_2, hx114_0, hx114_1, hx114_2⟩ (fun hHeld => ?_); refine with_tabW ref08_Reads.tab8 ref08_Reads.bits8 (fun HT_ HW_ => ?_)
          generalize wr.drew = w24 at HO_5 HO_6 HB hx113_0 hx113_1 hx113_2 hx114_0 hx114_1 hx114_2 hHeld ⊢
          refine pure_ (i := 0) (N := some 28) (v := ?_) (a' := ?_) #[true, false, false, false, false, false, false, false, false, false, false, false, false] rfl rfl (any_of HT_.out (by kernel_rfl)) (fun _ _ _ h => h) (Or.inl ⟨by rfl, ?_⟩) ?_ ?_
          rotate_left
          ·intro w'
           go_simp
           with_reducible rfl
          rotate_left
          ·simp only [Act.put, List.setIfInBounds_toArray, List.set_cons_zero, List.set_cons_succ, i64_w, i32_w]
           rfl
          refine pure_ (i := 1) (N := some 29) (v := ?_) (a' := ?_) #[true, true, false, false, false, false, false, false, false, false, false, false, false] rfl rfl (any_of HT_.out (by kernel_rfl)) (fun _ _ _ h => h) (Or.inl ⟨by rfl, ?_⟩) ?_ ?_
          rotate_left
          ·intro w'
           go_simp
           with_reducible rfl
          rotate_left
          ·simp only [Act.put, List.setIfInBounds_toArray, List.set_cons_zero, List.set_cons_succ, i64_w, i32_w]
           rfl
          refine pure_ (i := 2) (N := some 30) (v := ?_) (a' := ?_) #[true, true, true, false, false, false, false, false, false, false, false, false, false] rfl rfl (any_of HT_.out (by kernel_rfl)) (fun _ _ _ h => h) (Or.inl ⟨by rfl, ?_⟩) ?_ ?_
          rotate_left
          ·intro w'
           go_simp
           with_reducible rfl
          rotate_left
          ·simp only [Act.put, List.setIfInBounds_toArray, List.set_cons_zero, List.set_cons_succ, i64_w, i32_w]
           rfl
          refine pure_ (i := 3) (N := some 31) (v := ?_) (a' := ?_) #[true, true, true, true, false, false, false, false, false, false, false, false, false] rfl rfl (any_of HT_.out (by kernel_rfl)) (fun _ _ _ h => h) (Or.inl ⟨by rfl, ?_⟩) ?_ ?_
          rotate_left
          ·intro w'
           go_simp
           with_reducible rfl
          rotate_left
          ·simp only [Act.put, List.setIfInBounds_toArray, List.set_cons_zero, List.set_cons_succ, i64_w, i32_w]
           rfl
          refine pure_ (i := 4) (N := some 32) (v := ?_) (a' := ?_) #[true, true, true, true, true, false, false, false, false, false, false, false, false] rfl rfl (any_of HT_.out (by kernel_rfl)) (fun _ _ _ h => h) (Or.inl ⟨by rfl, ?_⟩) ?_ ?_
          rotate_left
          ·intro w'
           go_simp
           with_reducible rfl
          rotate_left
          ·simp only [Act.put, List.setIfInBounds_toArray, List.set_cons_zero, List.set_cons_succ, i64_w, i32_w]
           rfl
          refine pure_ (i := 6) (N := some 34) (v := ?_) (a' := ?_) #[true, true, true, true, true, false, true, false, false, false, false, false, false] rfl rfl (any_of HT_.out (by kernel_rfl)) (fun _ _ _ h => h) (Or.inl ⟨by rfl, ?_⟩) ?_ ?_
          rotate_left
          ·intro w'
           go_simp
           with_reducible rfl
          rotate_left
          ·simp only [Act.put, List.setIfInBounds_toArray, List.set_cons_zero, List.set_cons_succ, i64_w, i32_w]
           rfl
          refine pure_ (i := 7) (N := some 35) (v := ?_) (a' := ?_) #[true, true, true, true, true, false, true, true, false, false, false, false, false] rfl rfl (any_of HT_.out (by kernel_rfl)) (fun _ _ _ h => h) (Or.inl ⟨by rfl, ?_⟩) ?_ ?_
          rotate_left
          ·intro w'
           go_simp
           with_reducible rfl
          rotate_left
          ·simp only [Act.put, List.setIfInBounds_toArray, List.set_cons_zero, List.set_cons_succ, i64_w, i32_w]
           rfl
          refine pure_ (i := 8) (N := some 36) (v := ?_) (a' := ?_) #[true, true, true, true, true, false, true, true, true, false, false, false, false] rfl rfl (any_of HT_.out (by kernel_rfl)) (fun _ _ _ h => h) (Or.inl ⟨by rfl, ?_⟩) ?_ ?_
          rotate_left
          ·intro w'
           go_simp
           with_reducible rfl
          rotate_left
          ·simp only [Act.put, List.setIfInBounds_toArray, List.set_cons_zero, List.set_cons_succ, i64_w, i32_w]
           rfl
          refine pure_ (i := 9) (N := some 37) (v := ?_) (a' := ?_) #[true, true, true, true, true, false, true, true, true, true, false, false, false] rfl rfl (any_of HT_.out (by kernel_rfl)) (fun _ _ _ h => h) (Or.inl ⟨by rfl, ?_⟩) ?_ ?_
          rotate_left
          ·intro w'
           go_simp
           with_reducible rfl
          rotate_left
          ·simp only [Act.put, List.setIfInBounds_toArray, List.set_cons_zero, List.set_cons_succ, i64_w, i32_w]
           rfl
          refine take_ (i := 5) (N := some 33) (v := ?_) (a' := ?_) #[true, true, true, true, true, true, true, true, true, true, false, false, false] rfl rfl (take_ofW HT_.out HW_.out (by kernel_rfl)) (fun _ _ _ h => h) (Or.inl ⟨by rfl, ?_⟩) hHeld ?_ ?_
          rotate_left
          ·rintro w' ⟨s0, s1, s2, s3, s4, s5⟩
           go_simp
           with_reducible rfl
          rotate_left
          ·simp only [Act.put, List.setIfInBounds_toArray, List.set_cons_zero, List.set_cons_succ, i64_w, i32_w]
           rfl
          refine take_ (i := 10) (N := some 38) (v := ?_) (a' := ?_) #[true, true, true, true, true, true, true, true, true, true, true, false, false] rfl rfl (take_ofW HT_.out HW_.out (by kernel_rfl)) (fun _ _ _ h => h) (Or.inl ⟨by rfl, ?_⟩) hHeld ?_ ?_
          rotate_left
          ·rintro w' ⟨s0, s1, s2, s3, s4, s5⟩
           go_simp
           with_reducible rfl
          rotate_left
          ·simp only [Act.put, List.setIfInBounds_toArray, List.set_cons_zero, List.set_cons_succ, i64_w, i32_w]
           rfl
          refine one_ (i := 11) (N := some 39) #[true, true, true, true, true, true, true, true, true, true, true, true, false] rfl rfl (one_of HT_.out (by kernel_rfl)) (by decide) (fun K hK => ?_)
          refine goes_ Try.func78 (by kernel_rfl) rfl #[.slice (some ad104) l0.length c0, .int .i64 ((rd_T46 t105 x7_1).f1), .int .i64 ((rd_T46 t105 x7_1).f2)] (by rfl) rfl rfl (by (try simp only [List.map_toArray, List.map_cons, List.map_nil]); first | done | rfl | (simp only [List.length_drop, List.length_take]; rfl)) ?_
          with_reducible refine (ref06_Writer.calls k1 _ _ l0 ((rd_T46 t105 x7_1).f1) ((rd_T46 t105 x7_1).f2) t115 _ ?side1 ?side2 A17.out).mono ?_
          (case side1 => repeat (first | exact (Kd.C_below HR0.out HB.out) | (with_reducible refine Kd.C_alloc ?_ _) | (with_reducible refine Kd.C_drewN ?_ _) | (with_reducible refine Kd.C_drew ?_)))
          (case side2 => exact HC0.out)
          rintro e w25 ⟨rfl, hb⟩
          have HS0_ := (hb.cell (World.block_lt_of_cell? _ _ (hHeld.1))).trans (hHeld.1)
          have HS1_ := (hb.cell (World.block_lt_of_cell? _ _ (hHeld.2.1))).trans (hHeld.2.1)
          have HS2_ := (hb.cell (World.block_lt_of_cell? _ _ (hHeld.2.2.1))).trans (hHeld.2.2.1)
          have HS3_ := (hb.cell (World.block_lt_of_cell? _ _ (hHeld.2.2.2.1))).trans (hHeld.2.2.2.1)
          have HS4_ := (hb.cell (World.block_lt_of_cell? _ _ (hHeld.2.2.2.2.1))).trans (hHeld.2.2.2.2.1)
          have HS5_ := (hb.cell (World.block_lt_of_cell? _ _ (hHeld.2.2.2.2.2))).trans (hHeld.2.2.2.2.2)
          refine ⟨_, rfl, ?_⟩
          have n0_ := Aside0.mk (Kd.R_below (by (with_reducible repeat (first | apply Kd.R_alloc | apply Kd.R_drewN | apply Kd.R_drew)); exact HO_5.out) hb)
          have n1_ := Aside0.mk (Kd.R_below (by (with_reducible repeat (first | apply Kd.R_alloc | apply Kd.R_drewN | apply Kd.R_drew)); exact HO_6.out) hb)
          have n2_ := Aside0.mk (below_step (by repeat (first | (with_reducible first | exact HB.out | apply below_alloc | apply pw_below_drewN | apply below_drew1))) hb)
          clear HO_5
          clear HO_6
          clear HB
          have HO_5 := n0_
          have HO_6 := n1_
          have HB := n2_
          clear n0_ n1_ n2_
          (try clear hb)
          (try clear hb2)
          (try clear hk)
          (try clear hi)
          refine hK.out _ _ ⟨HS0_, HS1_, HS2_, HS3_, HS4_, HS5_⟩ (fun hHeld => ?_)
          clear hK K
          refine norm_ (a' := ?_) ?_ ?_
          rotate_left
          ·show Act.put _ (some 39) _ = _
           simp only [Act.put, List.setIfInBounds_toArray, List.set_cons_zero, List.set_cons_succ, i64_w, i32_w]
           rfl
          refine pure_ (i := 12) (N := some 8) (v := ?_) (a' := ?_) #[true, true, true, true, true, true, true, true, true, true, true, true, true] rfl rfl (any_of HT_.out (by kernel_rfl)) (fun _ _ _ h => h) (Or.inl ⟨by rfl, ?_⟩) ?_ ?_
          rotate_left
          ·intro w'
           go_simp
           with_reducible rfl
          rotate_left
          ·simp only [Act.put, List.setIfInBounds_toArray, List.set_cons_zero, List.set_cons_succ, i64_w, i32_w]
           rfl
          refine done_ (done_of HT_.out (by kernel_rfl)) ?_
          have p116 : 0 ≤ (x7_1 : Int) := of_decide_eq_true (by assumption)
          have q116 : x7_1 < (t105.length : Int) := of_decide_eq_true (by assumption)
          obtain ⟨ad116, e116, hx116_0, hx116_1, hx116_2⟩ := at_T46 (Kd.R_reads' HO_6.out).2.2 x7_1 p116 q116
          obtain rfl : ad108 = ad116 := (by injection e116)
          replace p116 := eq_true p116
          replace q116 := eq_true q116
          try go_wp2_with (first | ((with_reducible refine gate_builtin (b := .append) (xs := #[.tmp 43, .tmp 51]) rfl ?_); at_builtin; refine Kd.R_append k86 (w0 := w) w.heap.size rfl (.tmp 43) (.tmp 51) 81 86 (.agg #[(.int .i64 0), (.int .i64 0)]) 16 rfl Try.underlying81 info86 rfl (by decide) (by omega) u5 x5_1 (⟨(rd_T46 t105 x7_1).f1, t115⟩ : S86) [.int .i64 ((rd_T46 t105 x7_1).f1), .int .i64 t115] (fun _ => True) (fun _ => False) rfl rfl ?aP (fun _ hk => hk.elim) ?aF ?aO ?aB ?aS ?aL ?_; (case aP => exact k86_mkM _ _ _ (⟨(rd_T46 t105 x7_1).f1, t115⟩ : S86)); (case aB => exact (by repeat (first | (with_reducible first | exact HB.out | apply below_alloc | apply pw_below_drewN | apply below_drew1)))); (case aF => exact (fun _ _ => trivial)); (case aO => exact (by (with_reducible repeat (first | apply Kd.R_alloc | apply Kd.R_drewN | apply Kd.R_drew)); exact HO_5.out)); (case aS => exact (below_size (by repeat (first | (with_reducible first | exact HB.out | apply below_alloc | apply pw_below_drewN | apply below_drew1))))); (case aL => have := LMc22.out; omega); intro v118 w26 ho hb hg hat; rw [← Ny117.out] at ho; have n0_ := Aside0.mk (Kd.R_over' (by (with_reducible repeat (first | apply Kd.R_alloc | apply Kd.R_drewN | apply Kd.R_drew)); exact HO_6.out) (Kd.R_typed (by (with_reducible repeat (first | apply Kd.R_alloc | apply Kd.R_drewN | apply Kd.R_drew)); exact HO_5.out)) (by decide) hg); have n1_ := Aside0.mk (hb); have n2_ := Aside0.mk (ho); clear HO_6; clear HB; clear HO_5; have HO_6 := n0_; have HB := n1_; have HO119 := n2_; clear n0_ n1_ n2_; clear ho hb hg hat))
          go_roundg k1
          case measure => have := HK1.out; omega
          case rel => exact ⟨(y117), (wrap64 (x7_1 + 1)), (by first | rfl | (simp; done) | (simp [*]; done)), H', ⟨by have := HK1.out; omega⟩, ⟨by (with_reducible repeat (first | apply Kd.R_alloc | apply Kd.R_drewN | apply Kd.R_drew)); exact HO119.out⟩, ⟨by (with_reducible repeat (first | apply Kd.R_alloc | apply Kd.R_drewN | apply Kd.R_drew)); exact HO_6.out⟩, ⟨by repeat (first | (with_reducible first | exact HB.out | apply below_alloc | apply pw_below_drewN | apply below_drew1))⟩⟩
         ·rw [if_neg c22] at H
          exact absurd H (by simp)
      ·rw [if_neg c10] at H
       exact absurd H (by simp)
     ·rw [if_neg c9] at H
      have c9b0 : decide (x7_1 < (t105.length : Int)) = false := decide_eq_false c9
      clear c9
      obtain rfl := Option.some.inj H
      obtain ⟨Ao27, co27, eo27⟩ := Kd.R_slice HO_6.out
      subst eo27
      go_wp2
      go_ret
      exact ⟨_, by first | rfl | (simp <;> rfl) | (simp [*] <;> rfl), by (with_reducible repeat (first | apply Kd.R_alloc | apply Kd.R_drewN | apply Kd.R_drew)); exact HO_5.out, by repeat (first | (with_reducible first | exact HB.out | apply below_alloc | apply pw_below_drewN | apply below_drew1))⟩
  ·rw [if_neg c4] at H
   exact absurd H (by simp)
 ·rw [if_neg c3] at H
  exact absurd H (by simp)
end Go.Proofs.Ytfocaefnmfkojaa.Q
namespace Go.Proofs.Ytfocaefnmfkojaa.Q
open Go.RowKit Go.Proofs.YtfocaefnmfkojaaW.PrintWords Go.Proofs.YtfocaefnmfkojaaW.PrintLast Go.Proofs.YtfocaefnmfkojaaW.PrintMore
attribute [local go_sem] max2_int min2_int max_two min_two max_three min_three max_four min_four   -- for this text's walks alone
set_option linter.unusedVariables false
set_option linter.unusedSimpArgs false
def ref08_From.l0 : Nat → Int → List (S86) → Int → Option (Bool)
 | 0, _, _, _ => none
 | k + 1, x1, x7, x8 => if x8 < (x7.length : Int) then (if 0 ≤ x8 then (if ((rd_T86 x7 x8).f1) = x1 then (some true) else (ref08_From.l0 k x1 x7 (wrap64 (x8 + 1)))) else (none)) else (some false)
def ref08_From.f (k : Nat) (l0 : List (S44)) (a1 : Int) (a2 : Int) : Option (Bool) := (ref08_Reads.f k l0 a2).bind fun t101 => (ref08_From.l0 k a1 t101 0)
set_option maxHeartbeats 8000000 in
set_option maxRecDepth 100000 in
theorem ref08_From.calls (k : Nat) (A0 : Option Addr) (c0 : Nat) (l0 : List (S44)) (a1 : Int) (a2 : Int) (r : Bool) (w : World) (hr0 : Kd.C k44 w A0 l0.length l0) (hc0 : l0.length ≤ c0) (h : ref08_From.f k l0 a1 a2 = some r) :
  Calls Try.prog 37 #[.slice A0 l0.length c0, .int .i64 a1, .int .i64 a2] w fun e w' => e = .returned (.bool r) ∧ Below w.heap.size w w' := by
 have HR0 := Aside0.mk hr0
 have HC0 := Aside0.mk hc0
 clear hr0 hc0
 have HB := Aside0.mk (Below.refl w.heap.size w)
 have H : ((ref08_Reads.f k l0 a2).bind fun t101 => (ref08_From.l0 k a1 t101 0)) = some r := h
 clear h
 replace H := Option.bind_eq_some_iff.mp H
 obtain ⟨t101, A40, H⟩ := H
 replace H : (ref08_From.l0 k a1 t101 0) = some r := H
 have A4 := Aside0.mk A40
 clear A40
 have H' := Aside0.mk H
 clear H
 go_enter Try.func37, Try.ntmps37
 go_wp2_with (first | ((with_reducible refine gate_callee (f := 43) rfl ?_); refine goesL_ (some 11) rfl rfl Try.func43 (by kernel_rfl) rfl #[.slice A0 l0.length c0, .int .i64 a2] rfl (by (try simp only [List.map_toArray, List.map_cons, List.map_nil]); first | done | rfl | (simp only [List.length_drop, List.length_take]; rfl)) ?_; (with_reducible refine (ref08_Reads.calls k _ _ l0 a2 t101 _ ?side1 ?side2 A4.out).mono ?_); (case side1 => repeat (first | exact HR0.out | (with_reducible refine Kd.C_alloc ?_ _) | (with_reducible refine Kd.C_drewN ?_ _) | (with_reducible refine Kd.C_drew ?_))); (case side2 => exact HC0.out); rintro e w5 ⟨v102, rfl, ho0, hb⟩; refine ⟨_, rfl, ?_⟩; have n0_ := Aside0.mk (Kd.R_lower ho0 (below_size (by repeat (first | (with_reducible first | exact HB.out | apply below_alloc | apply pw_below_drewN | apply below_drew1))))); have n1_ := Aside0.mk (below_step (by repeat (first | (with_reducible first | exact HB.out | apply below_alloc | apply pw_below_drewN | apply below_drew1))) hb); clear HB; have HO103 := n0_; have HB := n1_; clear n0_ n1_; (try clear hb); (try clear hb2); (try clear hk); (try clear hi); (try clear ho0)))
 go_loopg [8] k (fun kq v8 w' => ∃ (x8_1 : Int), v8 = .int .i64 x8_1 ∧ Aside0 (ref08_From.l0 kq a1 t101 x8_1 = some r) ∧ Aside0 (kq ≤ k) ∧ Aside0 (Kd.R k86 86 w' w.heap.size (fun _ => True) v102 t101) ∧ Aside0 (Below w.heap.size w w'))
 case atStart => exact ⟨(0), (by first | rfl | (simp; done) | (simp [*]; done)), H', ⟨Nat.le_refl _⟩, ⟨by (with_reducible repeat (first | apply Kd.R_alloc | apply Kd.R_drewN | apply Kd.R_drew)); exact HO103.out⟩, ⟨by repeat (first | (with_reducible first | exact HB.out | apply below_alloc | apply pw_below_drewN | apply below_drew1))⟩⟩
 case round =>
  clear H'
  try clear p2
  try clear c3
  try clear c4
  obtain ⟨x8_1, rfl, HA, HK1, HO_7, HB⟩ := hrel
  cases gk with
  | zero => exact absurd HA.out (by simp [ref08_From.l0])
  | succ k1 =>
   have H := HA.out
   clear HA
   simp only [ref08_From.l0] at H
   by_cases c6 : x8_1 < (t101.length : Int)
   ·rw [if_pos c6] at H
    have c6b0 : decide (x8_1 < (t101.length : Int)) = true := decide_eq_true c6
    clear c6
    by_cases c7 : 0 ≤ x8_1
    ·rw [if_pos c7] at H
     have c7b0 : decide (0 ≤ x8_1) = true := decide_eq_true c7
     clear c7
     by_cases c8 : ((rd_T86 t101 x8_1).f1) = a1
     ·rw [if_pos c8] at H
      have c8b0 : (((rd_T86 t101 x8_1).f1) == a1) = true := beq_iff_eq.mpr c8
      have c8b1 : (((rd_T86 t101 x8_1).f1) != a1) = false := bne_eq_false_iff_eq.mpr c8
      clear c8
      obtain rfl := Option.some.inj H
      obtain ⟨Ao9, co9, eo9⟩ := Kd.R_slice HO_7.out
      subst eo9
      have p104 : 0 ≤ (x8_1 : Int) := of_decide_eq_true (by assumption)
      have q104 : x8_1 < (t101.length : Int) := of_decide_eq_true (by assumption)
      obtain ⟨ad104, e104, hx104_0, hx104_1⟩ := at_T86 (Kd.R_reads' HO_7.out).2.2 x8_1 p104 q104
      cases e104
      replace p104 := eq_true p104
      replace q104 := eq_true q104
      go_wp2
      go_ret
      exact ⟨by first | rfl | (simp <;> rfl) | (simp [*] <;> rfl), by repeat (first | (with_reducible first | exact HB.out | apply below_alloc | apply pw_below_drewN | apply below_drew1))⟩
     ·rw [if_neg c8] at H
      have c8b0 : (((rd_T86 t101 x8_1).f1) == a1) = false := beq_eq_false_iff_ne.mpr c8
      have c8b1 : (((rd_T86 t101 x8_1).f1) != a1) = true := bne_iff_ne.mpr c8
      have H' := Aside0.mk H
      clear H
      obtain ⟨Ao10, co10, eo10⟩ := Kd.R_slice HO_7.out
      subst eo10
      have p104 : 0 ≤ (x8_1 : Int) := of_decide_eq_true (by assumption)
      have q104 : x8_1 < (t101.length : Int) := of_decide_eq_true (by assumption)
      obtain ⟨ad104, e104, hx104_0, hx104_1⟩ := at_T86 (Kd.R_reads' HO_7.out).2.2 x8_1 p104 q104
      cases e104
      replace p104 := eq_true p104
      replace q104 := eq_true q104
      go_wp2
      go_roundg k1
      case measure => have := HK1.out; omega
      case rel => exact ⟨(wrap64 (x8_1 + 1)), (by first | rfl | (simp; done) | (simp [*]; done)), H', ⟨by have := HK1.out; omega⟩, ⟨by (with_reducible repeat (first | apply Kd.R_alloc | apply Kd.R_drewN | apply Kd.R_drew)); exact HO_7.out⟩, ⟨by repeat (first | (with_reducible first | exact HB.out | apply below_alloc | apply pw_below_drewN | apply below_drew1))⟩⟩
    ·rw [if_neg c7] at H
     exact absurd H (by simp)
   ·rw [if_neg c6] at H
    have c6b0 : decide (x8_1 < (t101.length : Int)) = false := decide_eq_false c6
    clear c6
    obtain rfl := Option.some.inj H
    obtain ⟨Ao11, co11, eo11⟩ := Kd.R_slice HO_7.out
    subst eo11
    go_wp2
    go_ret
    exact ⟨by first | rfl | (simp <;> rfl) | (simp [*] <;> rfl), by repeat (first | (with_reducible first | exact HB.out | apply below_alloc | apply pw_below_drewN | apply below_drew1))⟩
end Go.Proofs.Ytfocaefnmfkojaa.Q
namespace Go.Proofs.Ytfocaefnmfkojaa.Q
open Go.RowKit Go.Proofs.YtfocaefnmfkojaaW.PrintWords Go.Proofs.YtfocaefnmfkojaaW.PrintLast Go.Proofs.YtfocaefnmfkojaaW.PrintMore
attribute [local go_sem] max2_int min2_int max_two min_two max_three min_three max_four min_four   -- for this text's walks alone
set_option linter.unusedVariables false
set_option linter.unusedSimpArgs false
def ref08_Session.f (l0 : List (S44)) (a1 : Int) (a2 : Int) : Option (Bool) := if a1 < a2 then (if 0 ≤ a1 then (if a1 < (l0.length : Int) then (if 0 ≤ a2 then (if a2 < (l0.length : Int) then (some (((rd_T44 l0 a1).f0) == ((rd_T44 l0 a2).f0))) else (none)) else (none)) else (none)) else (none)) else (some false)
set_option maxHeartbeats 8000000 in
set_option maxRecDepth 100000 in
theorem ref08_Session.calls (A0 : Option Addr) (c0 : Nat) (l0 : List (S44)) (a1 : Int) (a2 : Int) (r : Bool) (w : World) (hr0 : Kd.C k44 w A0 l0.length l0) (hc0 : l0.length ≤ c0) (h : ref08_Session.f l0 a1 a2 = some r) :
  Calls Try.prog 49 #[.slice A0 l0.length c0, .int .i64 a1, .int .i64 a2] w fun e w' => e = .returned (.bool r) ∧ Drawn0 w w' := by
 have HR0 := Aside0.mk hr0
 have HC0 := Aside0.mk hc0
 clear hr0 hc0
 have H : (if a1 < a2 then (if 0 ≤ a1 then (if a1 < (l0.length : Int) then (if 0 ≤ a2 then (if a2 < (l0.length : Int) then (some (((rd_T44 l0 a1).f0) == ((rd_T44 l0 a2).f0))) else (none)) else (none)) else (none)) else (none)) else (some false)) = some r := h
 clear h
 by_cases c4 : a1 < a2
 ·rw [if_pos c4] at H
  have c4b0 : decide (a1 < a2) = true := decide_eq_true c4
  clear c4
  by_cases c5 : 0 ≤ a1
  ·rw [if_pos c5] at H
   have c5b0 : decide (0 ≤ a1) = true := decide_eq_true c5
   clear c5
   by_cases c6 : a1 < (l0.length : Int)
   ·rw [if_pos c6] at H
    have c6b0 : decide (a1 < (l0.length : Int)) = true := decide_eq_true c6
    clear c6
    by_cases c7 : 0 ≤ a2
    ·rw [if_pos c7] at H
     have c7b0 : decide (0 ≤ a2) = true := decide_eq_true c7
     clear c7
     by_cases c8 : a2 < (l0.length : Int)
     ·rw [if_pos c8] at H
      have c8b0 : decide (a2 < (l0.length : Int)) = true := decide_eq_true c8
      clear c8
      obtain rfl := Option.some.inj H
      have p101 : 0 ≤ (a1 : Int) := of_decide_eq_true (by assumption)
      have q101 : a1 < (l0.length : Int) := of_decide_eq_true (by assumption)
      obtain ⟨ad101, A101_3, c101_3, e101, hx101_0, hx101_1, hx101_2, hx101_3, hl101_3, hi101_3⟩ := at_T44 HR0.out a1 p101 q101
      cases e101
      have HR101_3 := Aside0.mk hi101_3
      have HC101_3 := Aside0.mk hl101_3
      clear hi101_3 hl101_3
      replace p101 := eq_true p101
      replace q101 := eq_true q101
      have p102 : 0 ≤ (a2 : Int) := of_decide_eq_true (by assumption)
      have q102 : a2 < (l0.length : Int) := of_decide_eq_true (by assumption)
      obtain ⟨ad102, A102_3, c102_3, e102, hx102_0, hx102_1, hx102_2, hx102_3, hl102_3, hi102_3⟩ := at_T44 HR0.out a2 p102 q102
      obtain rfl : ad101 = ad102 := (by injection e102)
      have HR102_3 := Aside0.mk hi102_3
      have HC102_3 := Aside0.mk hl102_3
      clear hi102_3 hl102_3
      replace p102 := eq_true p102
      replace q102 := eq_true q102
      go_enter Try.func49, Try.ntmps49
      go_wp2
      repeat (go_quiet (fail); try go_wp2)
      go_ret
      exact ⟨by first | rfl | (simp; done) | (simp [*]; done), by repeat (first | exact Drawn0.refl _ | apply Drawn0.step)⟩
     ·rw [if_neg c8] at H
      exact absurd H (by simp)
    ·rw [if_neg c7] at H
     exact absurd H (by simp)
   ·rw [if_neg c6] at H
    exact absurd H (by simp)
  ·rw [if_neg c5] at H
   exact absurd H (by simp)
 ·rw [if_neg c4] at H
  have c4b0 : decide (a1 < a2) = false := decide_eq_false c4
  clear c4
  obtain rfl := Option.some.inj H
  go_enter Try.func49, Try.ntmps49
  go_wp2
  repeat (go_quiet (fail); try go_wp2)
  go_ret
  exact ⟨by first | rfl | (simp; done) | (simp [*]; done), by repeat (first | exact Drawn0.refl _ | apply Drawn0.step)⟩
end Go.Proofs.Ytfocaefnmfkojaa.Q
namespace Go.Proofs.Ytfocaefnmfkojaa.Q
open Go.RowKit Go.Proofs.YtfocaefnmfkojaaW.PrintWords Go.Proofs.YtfocaefnmfkojaaW.PrintLast Go.Proofs.YtfocaefnmfkojaaW.PrintMore
attribute [local go_sem] max2_int min2_int max_two min_two max_three min_three max_four min_four   -- for this text's walks alone
set_option linter.unusedVariables false
set_option linter.unusedSimpArgs false
def ref08_Time.f (l0 : List (S44)) (a1 : Int) (a2 : Int) : Option (Bool) := if 0 ≤ a1 then (if a1 < (l0.length : Int) then (if 0 ≤ a2 then (if a2 < (l0.length : Int) then (some (decide (((rd_T44 l0 a1).f2) < ((rd_T44 l0 a2).f1)))) else (none)) else (none)) else (none)) else (none)
set_option maxHeartbeats 8000000 in
set_option maxRecDepth 100000 in
theorem ref08_Time.calls (A0 : Option Addr) (c0 : Nat) (l0 : List (S44)) (a1 : Int) (a2 : Int) (r : Bool) (w : World) (hr0 : Kd.C k44 w A0 l0.length l0) (hc0 : l0.length ≤ c0) (h : ref08_Time.f l0 a1 a2 = some r) :
  Calls Try.prog 50 #[.slice A0 l0.length c0, .int .i64 a1, .int .i64 a2] w fun e w' => e = .returned (.bool r) ∧ Drawn0 w w' := by
 have HR0 := Aside0.mk hr0
 have HC0 := Aside0.mk hc0
 clear hr0 hc0
 have H : (if 0 ≤ a1 then (if a1 < (l0.length : Int) then (if 0 ≤ a2 then (if a2 < (l0.length : Int) then (some (decide (((rd_T44 l0 a1).f2) < ((rd_T44 l0 a2).f1)))) else (none)) else (none)) else (none)) else (none)) = some r := h
 clear h
 by_cases c4 : 0 ≤ a1
 ·rw [if_pos c4] at H
  have c4b0 : decide (0 ≤ a1) = true := decide_eq_true c4
  clear c4
  by_cases c5 : a1 < (l0.length : Int)
  ·rw [if_pos c5] at H
   have c5b0 : decide (a1 < (l0.length : Int)) = true := decide_eq_true c5
   clear c5
   by_cases c6 : 0 ≤ a2
   ·rw [if_pos c6] at H
    have c6b0 : decide (0 ≤ a2) = true := decide_eq_true c6
    clear c6
    by_cases c7 : a2 < (l0.length : Int)
    ·rw [if_pos c7] at H
     have c7b0 : decide (a2 < (l0.length : Int)) = true := decide_eq_true c7
     clear c7
     obtain rfl := Option.some.inj H
     have p101 : 0 ≤ (a1 : Int) := of_decide_eq_true (by assumption)
     have q101 : a1 < (l0.length : Int) := of_decide_eq_true (by assumption)
     obtain ⟨ad101, A101_3, c101_3, e101, hx101_0, hx101_1, hx101_2, hx101_3, hl101_3, hi101_3⟩ := at_T44 HR0.out a1 p101 q101
     cases e101
     have HR101_3 := Aside0.mk hi101_3
     have HC101_3 := Aside0.mk hl101_3
     clear hi101_3 hl101_3
     replace p101 := eq_true p101
     replace q101 := eq_true q101
     have p102 : 0 ≤ (a2 : Int) := of_decide_eq_true (by assumption)
     have q102 : a2 < (l0.length : Int) := of_decide_eq_true (by assumption)
     obtain ⟨ad102, A102_3, c102_3, e102, hx102_0, hx102_1, hx102_2, hx102_3, hl102_3, hi102_3⟩ := at_T44 HR0.out a2 p102 q102
     obtain rfl : ad101 = ad102 := (by injection e102)
     have HR102_3 := Aside0.mk hi102_3
     have HC102_3 := Aside0.mk hl102_3
     clear hi102_3 hl102_3
     replace p102 := eq_true p102
     replace q102 := eq_true q102
     go_enter Try.func50, Try.ntmps50
     go_wp2
     repeat (go_quiet (fail); try go_wp2)
     go_ret
     exact ⟨by first | rfl | (simp; done) | (simp [*]; done), by repeat (first | exact Drawn0.refl _ | apply Drawn0.step)⟩
    ·rw [if_neg c7] at H
     exact absurd H (by simp)
   ·rw [if_neg c6] at H
    exact absurd H (by simp)
  ·rw [if_neg c5] at H
   exact absurd H (by simp)
 ·rw [if_neg c4] at H
  exact absurd H (by simp)
end Go.Proofs.Ytfocaefnmfkojaa.Q
namespace Go.Proofs.Ytfocaefnmfkojaa.Q
open Go.RowKit Go.Proofs.YtfocaefnmfkojaaW.PrintWords Go.Proofs.YtfocaefnmfkojaaW.PrintLast Go.Proofs.YtfocaefnmfkojaaW.PrintMore
attribute [local go_sem] max2_int min2_int max_two min_two max_three min_three max_four min_four   -- for this text's walks alone
set_option linter.unusedVariables false
set_option linter.unusedSimpArgs false
def ref08_Writes.f (k : Nat) (l0 : List (S44)) (a1 : Int) (a2 : Int) : Option (Bool) := if 0 ≤ a1 then (if a1 < (l0.length : Int) then ((ref05_Value.f k ((rd_T44 l0 a1).f3) a2).bind fun t102 => (some (t102 != 0))) else (none)) else (none)
set_option maxHeartbeats 8000000 in
set_option maxRecDepth 100000 in
theorem ref08_Writes.calls (k : Nat) (A0 : Option Addr) (c0 : Nat) (l0 : List (S44)) (a1 : Int) (a2 : Int) (r : Bool) (w : World) (hr0 : Kd.C k44 w A0 l0.length l0) (hc0 : l0.length ≤ c0) (h : ref08_Writes.f k l0 a1 a2 = some r) :
  Calls Try.prog 82 #[.slice A0 l0.length c0, .int .i64 a1, .int .i64 a2] w fun e w' => e = .returned (.bool r) ∧ Below w.heap.size w w' := by
 have HR0 := Aside0.mk hr0
 have HC0 := Aside0.mk hc0
 clear hr0 hc0
 have HB := Aside0.mk (Below.refl w.heap.size w)
 have H : (if 0 ≤ a1 then (if a1 < (l0.length : Int) then ((ref05_Value.f k ((rd_T44 l0 a1).f3) a2).bind fun t102 => (some (t102 != 0))) else (none)) else (none)) = some r := h
 clear h
 by_cases c4 : 0 ≤ a1
 ·rw [if_pos c4] at H
  have c4b0 : decide (0 ≤ a1) = true := decide_eq_true c4
  clear c4
  by_cases c5 : a1 < (l0.length : Int)
  ·rw [if_pos c5] at H
   have c5b0 : decide (a1 < (l0.length : Int)) = true := decide_eq_true c5
   clear c5
   replace H := Option.bind_eq_some_iff.mp H
   obtain ⟨t102, A60, H⟩ := H
   replace H : (some (t102 != 0)) = some r := H
   have A6 := Aside0.mk A60
   clear A60
   obtain rfl := Option.some.inj H
   have p101 : 0 ≤ (a1 : Int) := of_decide_eq_true (by assumption)
   have q101 : a1 < (l0.length : Int) := of_decide_eq_true (by assumption)
   obtain ⟨ad101, A101_3, c101_3, e101, hx101_0, hx101_1, hx101_2, hx101_3, hl101_3, hi101_3⟩ := at_T44 HR0.out a1 p101 q101
   cases e101
   have HR101_3 := Aside0.mk hi101_3
   have HC101_3 := Aside0.mk hl101_3
   clear hi101_3 hl101_3
   replace p101 := eq_true p101
   replace q101 := eq_true q101
   go_enter Try.func82, Try.ntmps82
   go_wp2_with (first | ((with_reducible refine gate_callee (f := 64) rfl ?_); refine goesL_ (some 13) rfl rfl Try.func64 (by kernel_rfl) rfl #[.slice A101_3 ((rd_T44 l0 a1).f3).length c101_3, .int .i64 a2] rfl (by (try simp only [List.map_toArray, List.map_cons, List.map_nil]); first | done | rfl | (simp only [List.length_drop, List.length_take]; rfl)) ?_; (with_reducible refine (ref05_Value.calls k _ _ ((rd_T44 l0 a1).f3) a2 t102 _ ?side1 ?side2 A6.out).mono ?_); (case side1 => repeat (first | exact HR101_3.out | (with_reducible refine Kd.C_alloc ?_ _) | (with_reducible refine Kd.C_drewN ?_ _) | (with_reducible refine Kd.C_drew ?_))); (case side2 => exact HC101_3.out); rintro e w7 ⟨rfl, hb⟩; refine ⟨_, rfl, ?_⟩; have n0_ := Aside0.mk (below_step (by repeat (first | (with_reducible first | exact HB.out | apply below_alloc | apply pw_below_drewN | apply below_drew1))) hb); clear HB; have HB := n0_; clear n0_; (try clear hb); (try clear hb2); (try clear hk); (try clear hi)))
   go_ret
   exact ⟨by first | rfl | (simp <;> rfl) | (simp [*] <;> rfl), by repeat (first | (with_reducible first | exact HB.out | apply below_alloc | apply pw_below_drewN | apply below_drew1))⟩
  ·rw [if_neg c5] at H
   exact absurd H (by simp)
 ·rw [if_neg c4] at H
  exact absurd H (by simp)
end Go.Proofs.Ytfocaefnmfkojaa.Q
namespace Go.Proofs.Ytfocaefnmfkojaa.Q
open Go.RowKit Go.Proofs.YtfocaefnmfkojaaW.PrintWords Go.Proofs.YtfocaefnmfkojaaW.PrintLast Go.Proofs.YtfocaefnmfkojaaW.PrintMore
attribute [local go_sem] max2_int min2_int max_two min_two max_three min_three max_four min_four   -- for this text's walks alone
set_option linter.unusedVariables false
set_option linter.unusedSimpArgs false
def ref08_Rivals.l0 : Nat → List (S44) → Int → Int → Int → Option (Bool)
 | 0, _, _, _, _ => none
 | k + 1, x0, x1, x2, x7 => if x7 < 64 then ((ref08_Writes.f k x0 x1 x7).bind fun t101 => (if t101 = true then ((ref08_Writes.f k x0 x2 x7).bind fun t102 => (if t102 = true then (some true) else (ref08_Rivals.l0 k x0 x1 x2 (wrap64 (x7 + 1))))) else (ref08_Rivals.l0 k x0 x1 x2 (wrap64 (x7 + 1))))) else (some false)
def ref08_Rivals.f (k : Nat) (l0 : List (S44)) (a1 : Int) (a2 : Int) : Option (Bool) := if a1 = a2 then (some false) else (ref08_Rivals.l0 k l0 a1 a2 0)
set_option maxHeartbeats 8000000 in
set_option maxRecDepth 100000 in
theorem ref08_Rivals.calls (k : Nat) (A0 : Option Addr) (c0 : Nat) (l0 : List (S44)) (a1 : Int) (a2 : Int) (r : Bool) (w : World) (hr0 : Kd.C k44 w A0 l0.length l0) (hc0 : l0.length ≤ c0) (h : ref08_Rivals.f k l0 a1 a2 = some r) :
  Calls Try.prog 51 #[.slice A0 l0.length c0, .int .i64 a1, .int .i64 a2] w fun e w' => e = .returned (.bool r) ∧ Below w.heap.size w w' := by
 have HR0 := Aside0.mk hr0
 have HC0 := Aside0.mk hc0
 clear hr0 hc0
 have HB := Aside0.mk (Below.refl w.heap.size w)
 have H : (if a1 = a2 then (some false) else (ref08_Rivals.l0 k l0 a1 a2 0)) = some r := h
 clear h
 by_cases c4 : a1 = a2
 ·rw [if_pos c4] at H
  have c4b0 : (a1 == a2) = true := beq_iff_eq.mpr c4
  have c4b1 : (a1 != a2) = false := bne_eq_false_iff_eq.mpr c4
  clear c4
  obtain rfl := Option.some.inj H
  go_enter Try.func51, Try.ntmps51
  go_wp2
  go_ret
  exact ⟨by first | rfl | (simp <;> rfl) | (simp [*] <;> rfl), by repeat (first | (with_reducible first | exact HB.out | apply below_alloc | apply pw_below_drewN | apply below_drew1))⟩
 ·rw [if_neg c4] at H
  have c4b0 : (a1 == a2) = false := beq_eq_false_iff_ne.mpr c4
  have c4b1 : (a1 != a2) = true := bne_iff_ne.mpr c4
  have H' := Aside0.mk H
  clear H
  go_enter Try.func51, Try.ntmps51
  go_wp2
  go_loopg [7] k (fun kq v7 w' => ∃ (x7_1 : Int), v7 = .int .i64 x7_1 ∧ Aside0 (ref08_Rivals.l0 kq l0 a1 a2 x7_1 = some r) ∧ Aside0 (kq ≤ k) ∧ Aside0 (Below w.heap.size w w'))
  case atStart => exact ⟨(0), (by first | rfl | (simp; done) | (simp [*]; done)), H', ⟨Nat.le_refl _⟩, ⟨by repeat (first | (with_reducible first | exact HB.out | apply below_alloc | apply pw_below_drewN | apply below_drew1))⟩⟩
  case round =>
   clear H'
   try clear p2
   try clear c4
   try clear c4b0
   try clear c4b1
   obtain ⟨x7_1, rfl, HA, HK1, HB⟩ := hrel
   cases gk with
   | zero => exact absurd HA.out (by simp [ref08_Rivals.l0])
   | succ k1 =>
    have H := HA.out
    clear HA
    simp only [ref08_Rivals.l0] at H
    by_cases c5 : x7_1 < 64
    ·rw [if_pos c5] at H
     have c5b0 : decide (x7_1 < 64) = true := decide_eq_true c5
     clear c5
     replace H := Option.bind_eq_some_iff.mp H
     obtain ⟨t101, A60, H⟩ := H
     replace H : (if t101 = true then ((ref08_Writes.f k1 l0 a2 x7_1).bind fun t102 => (if t102 = true then (some true) else (ref08_Rivals.l0 k1 l0 a1 a2 (wrap64 (x7_1 + 1))))) else (ref08_Rivals.l0 k1 l0 a1 a2 (wrap64 (x7_1 + 1)))) = some r := H
     have A6 := Aside0.mk A60
     clear A60
     by_cases c7 : t101 = true
     ·subst c7
      have H1 : ((ref08_Writes.f k1 l0 a2 x7_1).bind fun t102 => (if t102 = true then (some true) else (ref08_Rivals.l0 k1 l0 a1 a2 (wrap64 (x7_1 + 1))))) = some r := by rw [if_pos rfl] at H; exact H
      clear H
      have H := H1
      clear H1
      replace H := Option.bind_eq_some_iff.mp H
      obtain ⟨t102, A80, H⟩ := H
      replace H : (if t102 = true then (some true) else (ref08_Rivals.l0 k1 l0 a1 a2 (wrap64 (x7_1 + 1)))) = some r := H
      have A8 := Aside0.mk A80
      clear A80
      by_cases c9 : t102 = true
      ·subst c9
       have H1 : (some true) = some r := by rw [if_pos rfl] at H; exact H
       clear H
       have H := H1
       clear H1
       obtain rfl := Option.some.inj H
       go_wp2_with (first | ((with_reducible refine gate_callee (f := 82) rfl ?_); refine goesL_ (some 18) rfl rfl Try.func82 (by kernel_rfl) rfl #[.slice A0 l0.length c0, .int .i64 a1, .int .i64 x7_1] rfl (by (try simp only [List.map_toArray, List.map_cons, List.map_nil]); first | done | rfl | (simp only [List.length_drop, List.length_take]; rfl)) ?_; (with_reducible refine (ref08_Writes.calls k1 _ _ l0 a1 x7_1 true _ ?side1 ?side2 A6.out).mono ?_); (case side1 => repeat (first | exact (Kd.C_below HR0.out HB.out) | (with_reducible refine Kd.C_alloc ?_ _) | (with_reducible refine Kd.C_drewN ?_ _) | (with_reducible refine Kd.C_drew ?_))); (case side2 => exact HC0.out); rintro e w10 ⟨rfl, hb⟩; refine ⟨_, rfl, ?_⟩; have n0_ := Aside0.mk (below_step (by repeat (first | (with_reducible first | exact HB.out | apply below_alloc | apply pw_below_drewN | apply below_drew1))) hb); clear HB; have HB := n0_; clear n0_; (try clear hb); (try clear hb2); (try clear hk); (try clear hi)) | (go_at_call 82; (with_reducible refine (ref08_Writes.calls k1 _ _ l0 a2 x7_1 true _ ?side1 ?side2 A8.out).mono ?_); (case side1 => repeat (first | exact (Kd.C_below HR0.out HB.out) | (with_reducible refine Kd.C_alloc ?_ _) | (with_reducible refine Kd.C_drewN ?_ _) | (with_reducible refine Kd.C_drew ?_))); (case side2 => exact HC0.out); rintro e w11 ⟨rfl, hb⟩; have n0_ := Aside0.mk (below_step (by repeat (first | (with_reducible first | exact HB.out | apply below_alloc | apply pw_below_drewN | apply below_drew1))) hb); clear HB; have HB := n0_; clear n0_; (try clear hb); (try clear hb2); (try clear hk); (try clear hi)))
       go_ret
       exact ⟨by first | rfl | (simp <;> rfl) | (simp [*] <;> rfl), by repeat (first | (with_reducible first | exact HB.out | apply below_alloc | apply pw_below_drewN | apply below_drew1))⟩
      ·replace c9 := Bool.eq_false_iff.mpr c9
       subst c9
       have H1 : (ref08_Rivals.l0 k1 l0 a1 a2 (wrap64 (x7_1 + 1))) = some r := by rw [if_neg (show ¬ (false = true) by decide)] at H; exact H
       clear H
       have H := H1
       clear H1
       have H' := Aside0.mk H
       clear H
       go_wp2_with (first | ((with_reducible refine gate_callee (f := 82) rfl ?_); refine goesL_ (some 18) rfl rfl Try.func82 (by kernel_rfl) rfl #[.slice A0 l0.length c0, .int .i64 a1, .int .i64 x7_1] rfl (by (try simp only [List.map_toArray, List.map_cons, List.map_nil]); first | done | rfl | (simp only [List.length_drop, List.length_take]; rfl)) ?_; (with_reducible refine (ref08_Writes.calls k1 _ _ l0 a1 x7_1 true _ ?side1 ?side2 A6.out).mono ?_); (case side1 => repeat (first | exact (Kd.C_below HR0.out HB.out) | (with_reducible refine Kd.C_alloc ?_ _) | (with_reducible refine Kd.C_drewN ?_ _) | (with_reducible refine Kd.C_drew ?_))); (case side2 => exact HC0.out); rintro e w12 ⟨rfl, hb⟩; refine ⟨_, rfl, ?_⟩; have n0_ := Aside0.mk (below_step (by repeat (first | (with_reducible first | exact HB.out | apply below_alloc | apply pw_below_drewN | apply below_drew1))) hb); clear HB; have HB := n0_; clear n0_; (try clear hb); (try clear hb2); (try clear hk); (try clear hi)) | (go_at_call 82; (with_reducible refine (ref08_Writes.calls k1 _ _ l0 a2 x7_1 false _ ?side1 ?side2 A8.out).mono ?_); (case side1 => repeat (first | exact (Kd.C_below HR0.out HB.out) | (with_reducible refine Kd.C_alloc ?_ _) | (with_reducible refine Kd.C_drewN ?_ _) | (with_reducible refine Kd.C_drew ?_))); (case side2 => exact HC0.out); rintro e w13 ⟨rfl, hb⟩; have n0_ := Aside0.mk (below_step (by repeat (first | (with_reducible first | exact HB.out | apply below_alloc | apply pw_below_drewN | apply below_drew1))) hb); clear HB; have HB := n0_; clear n0_; (try clear hb); (try clear hb2); (try clear hk); (try clear hi)))
       go_roundg k1
       case measure => have := HK1.out; omega
       case rel => exact ⟨(wrap64 (x7_1 + 1)), (by first | rfl | (simp; done) | (simp [*]; done)), H', ⟨by have := HK1.out; omega⟩, ⟨by repeat (first | (with_reducible first | exact HB.out | apply below_alloc | apply pw_below_drewN | apply below_drew1))⟩⟩
     ·replace c7 := Bool.eq_false_iff.mpr c7
      subst c7
      have H1 : (ref08_Rivals.l0 k1 l0 a1 a2 (wrap64 (x7_1 + 1))) = some r := by rw [if_neg (show ¬ (false = true) by decide)] at H; exact H
      clear H
      have H := H1
      clear H1
      have H' := Aside0.mk H
      clear H
      go_wp2_with (first | ((with_reducible refine gate_callee (f := 82) rfl ?_); refine goesL_ (some 18) rfl rfl Try.func82 (by kernel_rfl) rfl #[.slice A0 l0.length c0, .int .i64 a1, .int .i64 x7_1] rfl (by (try simp only [List.map_toArray, List.map_cons, List.map_nil]); first | done | rfl | (simp only [List.length_drop, List.length_take]; rfl)) ?_; (with_reducible refine (ref08_Writes.calls k1 _ _ l0 a1 x7_1 false _ ?side1 ?side2 A6.out).mono ?_); (case side1 => repeat (first | exact (Kd.C_below HR0.out HB.out) | (with_reducible refine Kd.C_alloc ?_ _) | (with_reducible refine Kd.C_drewN ?_ _) | (with_reducible refine Kd.C_drew ?_))); (case side2 => exact HC0.out); rintro e w14 ⟨rfl, hb⟩; refine ⟨_, rfl, ?_⟩; have n0_ := Aside0.mk (below_step (by repeat (first | (with_reducible first | exact HB.out | apply below_alloc | apply pw_below_drewN | apply below_drew1))) hb); clear HB; have HB := n0_; clear n0_; (try clear hb); (try clear hb2); (try clear hk); (try clear hi)))
      go_roundg k1
      case measure => have := HK1.out; omega
      case rel => exact ⟨(wrap64 (x7_1 + 1)), (by first | rfl | (simp; done) | (simp [*]; done)), H', ⟨by have := HK1.out; omega⟩, ⟨by repeat (first | (with_reducible first | exact HB.out | apply below_alloc | apply pw_below_drewN | apply below_drew1))⟩⟩
    ·rw [if_neg c5] at H
     have c5b0 : decide (x7_1 < 64) = false := decide_eq_false c5
     clear c5
     obtain rfl := Option.some.inj H
     go_wp2
     go_ret
     exact ⟨by first | rfl | (simp <;> rfl) | (simp [*] <;> rfl), by repeat (first | (with_reducible first | exact HB.out | apply below_alloc | apply pw_below_drewN | apply below_drew1))⟩
end Go.Proofs.Ytfocaefnmfkojaa.Q
namespace Go.Proofs.Ytfocaefnmfkojaa.Q
open Go.RowKit Go.Proofs.YtfocaefnmfkojaaW.PrintWords Go.Proofs.YtfocaefnmfkojaaW.PrintLast Go.Proofs.YtfocaefnmfkojaaW.PrintMore
attribute [local go_sem] max2_int min2_int max_two min_two max_three min_three max_four min_four   -- for this text's walks alone
set_option linter.unusedVariables false
set_option linter.unusedSimpArgs false
def ref11_Ahead.f (k : Nat) (l0 : List Int) (a1 : Int) (a2 : Int) : Option (Bool) := (ref11_Place.f k l0 a1).bind fun t101 => ((ref11_Place.f k l0 a2).bind fun t102 => (some (decide (t101 < t102))))
set_option maxHeartbeats 8000000 in
set_option maxRecDepth 100000 in
theorem ref11_Ahead.calls (k : Nat) (A0 : Option Addr) (c0 : Nat) (l0 : List Int) (a1 : Int) (a2 : Int) (r : Bool) (w : World) (hr0 : Kd.C (Kd.int .i64) w A0 l0.length l0) (hc0 : l0.length ≤ c0) (h : ref11_Ahead.f k l0 a1 a2 = some r) :
  Calls Try.prog 118 #[.slice A0 l0.length c0, .int .i64 a1, .int .i64 a2] w fun e w' => e = .returned (.bool r) ∧ Drawn0 w w' := by
 have HR0 := Aside0.mk hr0
 have HC0 := Aside0.mk hc0
 clear hr0 hc0
 have H : ((ref11_Place.f k l0 a1).bind fun t101 => ((ref11_Place.f k l0 a2).bind fun t102 => (some (decide (t101 < t102))))) = some r := h
 clear h
 replace H := Option.bind_eq_some_iff.mp H
 obtain ⟨t101, A40, H⟩ := H
 replace H : ((ref11_Place.f k l0 a2).bind fun t102 => (some (decide (t101 < t102)))) = some r := H
 have A4 := Aside0.mk A40
 clear A40
 replace H := Option.bind_eq_some_iff.mp H
 obtain ⟨t102, A50, H⟩ := H
 replace H : (some (decide (t101 < t102))) = some r := H
 have A5 := Aside0.mk A50
 clear A50
 obtain rfl := Option.some.inj H
 go_enter Try.func118, Try.ntmps118
 go_wp2_with (first | ((with_reducible refine gate_callee (f := 110) rfl ?_); refine goesL_ (some 9) rfl rfl Try.func110 (by kernel_rfl) rfl #[.slice A0 l0.length c0, .int .i64 a1] rfl (by (try simp only [List.map_toArray, List.map_cons, List.map_nil]); first | done | rfl | (simp only [List.length_drop, List.length_take]; rfl)) ?_; (with_reducible refine (ref11_Place.calls k _ _ l0 a1 t101 _ ?side1 ?side2 A4.out).mono ?_); (case side1 => repeat (first | exact HR0.out | (with_reducible refine Kd.C_alloc ?_ _) | (with_reducible refine Kd.C_drewN ?_ _) | (with_reducible refine Kd.C_drew ?_))); (case side2 => exact HC0.out); rintro e w' ⟨rfl, ⟨nd, rfl⟩⟩; refine ⟨_, rfl, ?_⟩) | ((with_reducible refine gate_callee (f := 110) rfl ?_); refine goesL_ (some 12) rfl rfl Try.func110 (by kernel_rfl) rfl #[.slice A0 l0.length c0, .int .i64 a2] rfl (by (try simp only [List.map_toArray, List.map_cons, List.map_nil]); first | done | rfl | (simp only [List.length_drop, List.length_take]; rfl)) ?_; (with_reducible refine (ref11_Place.calls k _ _ l0 a2 t102 _ ?side1 ?side2 A5.out).mono ?_); (case side1 => repeat (first | exact HR0.out | (with_reducible refine Kd.C_alloc ?_ _) | (with_reducible refine Kd.C_drewN ?_ _) | (with_reducible refine Kd.C_drew ?_))); (case side2 => exact HC0.out); rintro e w' ⟨rfl, ⟨nd, rfl⟩⟩; refine ⟨_, rfl, ?_⟩))
 go_ret
 exact ⟨by first | rfl | (simp; done) | (simp [*]; done), by repeat (first | exact Drawn0.refl _ | apply Drawn0.step)⟩
end Go.Proofs.Ytfocaefnmfkojaa.Q
namespace Go.Proofs.Ytfocaefnmfkojaa.Q
open Go.RowKit Go.Proofs.YtfocaefnmfkojaaW.PrintWords Go.Proofs.YtfocaefnmfkojaaW.PrintLast Go.Proofs.YtfocaefnmfkojaaW.PrintMore
attribute [local go_sem] max2_int min2_int max_two min_two max_three min_three max_four min_four   -- for this text's walks alone
set_option linter.unusedVariables false
set_option linter.unusedSimpArgs false
def ref11_must.j0 : Nat → List (S44) → Int → List Int → Int → Int → Bool → Option (Bool)
 | 0, _, _, _, _, _, _ => none
 | k + 1, x0, x1, x2, x3, x4, x34 => if x34 = true then (some true) else ((ref11_Ahead.f k x2 x3 x4).bind fun t108 => (if t108 = true then ((ref09_Has.f x1 16).bind fun t109 => (if t109 = true then (some true) else ((ref09_Has.f x1 8).bind fun t110 => (if t110 = true then ((ref08_Rivals.f k x0 x3 x4).bind fun t111 => (some t111)) else (some false))))) else (some false)))
def ref11_must.f (k : Nat) (l0 : List (S44)) (a1 : Int) (l2 : List Int) (a3 : Int) (a4 : Int) : Option (Bool) := (ref08_From.f k l0 a3 a4).bind fun t101 => (if t101 = true then (ref11_must.j0 k l0 a1 l2 a3 a4 true) else ((ref09_Has.f a1 1).bind fun t102 => (if t102 = true then ((ref08_Session.f l0 a3 a4).bind fun t103 => (if t103 = true then (ref11_must.j0 k l0 a1 l2 a3 a4 true) else ((ref09_Has.f a1 32).bind fun t104 => (if t104 = true then ((ref08_Time.f l0 a3 a4).bind fun t105 => (ref11_must.j0 k l0 a1 l2 a3 a4 t105)) else (ref11_must.j0 k l0 a1 l2 a3 a4 false))))) else ((ref09_Has.f a1 32).bind fun t106 => (if t106 = true then ((ref08_Time.f l0 a3 a4).bind fun t107 => (ref11_must.j0 k l0 a1 l2 a3 a4 t107)) else (ref11_must.j0 k l0 a1 l2 a3 a4 false))))))
set_option maxHeartbeats 8000000 in
set_option maxRecDepth 100000 in
theorem ref11_must.calls (k : Nat) (A0 : Option Addr) (c0 : Nat) (l0 : List (S44)) (a1 : Int) (A2 : Option Addr) (c2 : Nat) (l2 : List Int) (a3 : Int) (a4 : Int) (r : Bool) (w : World) (hr0 : Kd.C k44 w A0 l0.length l0) (hc0 : l0.length ≤ c0) (hr2 : Kd.C (Kd.int .i64) w A2 l2.length l2) (hc2 : l2.length ≤ c2) (h : ref11_must.f k l0 a1 l2 a3 a4 = some r) :
  Calls Try.prog 111 #[.slice A0 l0.length c0, .int .i64 a1, .slice A2 l2.length c2, .int .i64 a3, .int .i64 a4] w fun e w' => e = .returned (.bool r) ∧ Below w.heap.size w w' := by
 have HR0 := Aside0.mk hr0
 have HC0 := Aside0.mk hc0
 clear hr0 hc0
 have HR2 := Aside0.mk hr2
 have HC2 := Aside0.mk hc2
 clear hr2 hc2
 have HB := Aside0.mk (Below.refl w.heap.size w)
 have H : ((ref08_From.f k l0 a3 a4).bind fun t101 => (if t101 = true then (ref11_must.j0 k l0 a1 l2 a3 a4 true) else ((ref09_Has.f a1 1).bind fun t102 => (if t102 = true then ((ref08_Session.f l0 a3 a4).bind fun t103 => (if t103 = true then (ref11_must.j0 k l0 a1 l2 a3 a4 true) else ((ref09_Has.f a1 32).bind fun t104 => (if t104 = true then ((ref08_Time.f l0 a3 a4).bind fun t105 => (ref11_must.j0 k l0 a1 l2 a3 a4 t105)) else (ref11_must.j0 k l0 a1 l2 a3 a4 false))))) else ((ref09_Has.f a1 32).bind fun t106 => (if t106 = true then ((ref08_Time.f l0 a3 a4).bind fun t107 => (ref11_must.j0 k l0 a1 l2 a3 a4 t107)) else (ref11_must.j0 k l0 a1 l2 a3 a4 false))))))) = some r := h
 clear h
 have HC6 := Aside0.mk H
 clear H
 go_enter Try.func111, Try.ntmps111
 go_upto_region 1 with (fail)
 go_cut [34] (fun v34 wc => ∃ (kq : Nat) (x34_5 : Bool), v34 = .bool x34_5 ∧ Aside0 (ref11_must.j0 kq l0 a1 l2 a3 a4 x34_5 = some r) ∧ Aside0 (kq ≤ k) ∧ Aside0 (Below w.heap.size w wc))
 case first =>
  have H := HC6.out
  clear HC6
  replace H := Option.bind_eq_some_iff.mp H
  obtain ⟨t101, A70, H⟩ := H
  replace H : (if t101 = true then (ref11_must.j0 k l0 a1 l2 a3 a4 true) else ((ref09_Has.f a1 1).bind fun t102 => (if t102 = true then ((ref08_Session.f l0 a3 a4).bind fun t103 => (if t103 = true then (ref11_must.j0 k l0 a1 l2 a3 a4 true) else ((ref09_Has.f a1 32).bind fun t104 => (if t104 = true then ((ref08_Time.f l0 a3 a4).bind fun t105 => (ref11_must.j0 k l0 a1 l2 a3 a4 t105)) else (ref11_must.j0 k l0 a1 l2 a3 a4 false))))) else ((ref09_Has.f a1 32).bind fun t106 => (if t106 = true then ((ref08_Time.f l0 a3 a4).bind fun t107 => (ref11_must.j0 k l0 a1 l2 a3 a4 t107)) else (ref11_must.j0 k l0 a1 l2 a3 a4 false)))))) = some r := H
  have A7 := Aside0.mk A70
  clear A70
  by_cases c8 : t101 = true
  ·subst c8
   have H1 : (ref11_must.j0 k l0 a1 l2 a3 a4 true) = some r := by rw [if_pos rfl] at H; exact H
   clear H
   have H := H1
   clear H1
   have H' := Aside0.mk H
   clear H
   go_wp2_with (first | ((with_reducible refine gate_callee (f := 37) rfl ?_); refine goesL_ (some 14) rfl rfl Try.func37 (by kernel_rfl) rfl #[.slice A0 l0.length c0, .int .i64 a3, .int .i64 a4] rfl (by (try simp only [List.map_toArray, List.map_cons, List.map_nil]); first | done | rfl | (simp only [List.length_drop, List.length_take]; rfl)) ?_; (with_reducible refine (ref08_From.calls k _ _ l0 a3 a4 true _ ?side1 ?side2 A7.out).mono ?_); (case side1 => repeat (first | exact (Kd.C_below HR0.out HB.out) | (with_reducible refine Kd.C_alloc ?_ _) | (with_reducible refine Kd.C_drewN ?_ _) | (with_reducible refine Kd.C_drew ?_))); (case side2 => exact HC0.out); rintro e w9 ⟨rfl, hb⟩; refine ⟨_, rfl, ?_⟩; have n0_ := Aside0.mk (below_step (by repeat (first | (with_reducible first | exact HB.out | apply below_alloc | apply pw_below_drewN | apply below_drew1))) hb); clear HB; have HB := n0_; clear n0_; (try clear hb); (try clear hb2); (try clear hk); (try clear hi)))
   go_meet
   case rel => exact ⟨_, (true), (by first | rfl | (simp; done) | (simp [*]; done)), H', ⟨by first | omega | exact Nat.le_refl _⟩, ⟨by repeat (first | (with_reducible first | exact HB.out | apply below_alloc | apply pw_below_drewN | apply below_drew1))⟩⟩
  ·replace c8 := Bool.eq_false_iff.mpr c8
   subst c8
   have H1 : ((ref09_Has.f a1 1).bind fun t102 => (if t102 = true then ((ref08_Session.f l0 a3 a4).bind fun t103 => (if t103 = true then (ref11_must.j0 k l0 a1 l2 a3 a4 true) else ((ref09_Has.f a1 32).bind fun t104 => (if t104 = true then ((ref08_Time.f l0 a3 a4).bind fun t105 => (ref11_must.j0 k l0 a1 l2 a3 a4 t105)) else (ref11_must.j0 k l0 a1 l2 a3 a4 false))))) else ((ref09_Has.f a1 32).bind fun t106 => (if t106 = true then ((ref08_Time.f l0 a3 a4).bind fun t107 => (ref11_must.j0 k l0 a1 l2 a3 a4 t107)) else (ref11_must.j0 k l0 a1 l2 a3 a4 false))))) = some r := by rw [if_neg (show ¬ (false = true) by decide)] at H; exact H
   clear H
   have H := H1
   clear H1
   replace H := Option.bind_eq_some_iff.mp H
   obtain ⟨t102, A100, H⟩ := H
   replace H : (if t102 = true then ((ref08_Session.f l0 a3 a4).bind fun t103 => (if t103 = true then (ref11_must.j0 k l0 a1 l2 a3 a4 true) else ((ref09_Has.f a1 32).bind fun t104 => (if t104 = true then ((ref08_Time.f l0 a3 a4).bind fun t105 => (ref11_must.j0 k l0 a1 l2 a3 a4 t105)) else (ref11_must.j0 k l0 a1 l2 a3 a4 false))))) else ((ref09_Has.f a1 32).bind fun t106 => (if t106 = true then ((ref08_Time.f l0 a3 a4).bind fun t107 => (ref11_must.j0 k l0 a1 l2 a3 a4 t107)) else (ref11_must.j0 k l0 a1 l2 a3 a4 false)))) = some r := H
   have A10 := Aside0.mk A100
   clear A100
   by_cases c11 : t102 = true
   ·subst c11
    have H1 : ((ref08_Session.f l0 a3 a4).bind fun t103 => (if t103 = true then (ref11_must.j0 k l0 a1 l2 a3 a4 true) else ((ref09_Has.f a1 32).bind fun t104 => (if t104 = true then ((ref08_Time.f l0 a3 a4).bind fun t105 => (ref11_must.j0 k l0 a1 l2 a3 a4 t105)) else (ref11_must.j0 k l0 a1 l2 a3 a4 false))))) = some r := by rw [if_pos rfl] at H; exact H
    clear H
    have H := H1
    clear H1
    replace H := Option.bind_eq_some_iff.mp H
    obtain ⟨t103, A120, H⟩ := H
    replace H : (if t103 = true then (ref11_must.j0 k l0 a1 l2 a3 a4 true) else ((ref09_Has.f a1 32).bind fun t104 => (if t104 = true then ((ref08_Time.f l0 a3 a4).bind fun t105 => (ref11_must.j0 k l0 a1 l2 a3 a4 t105)) else (ref11_must.j0 k l0 a1 l2 a3 a4 false)))) = some r := H
    have A12 := Aside0.mk A120
    clear A120
    by_cases c13 : t103 = true
    ·subst c13
     have H1 : (ref11_must.j0 k l0 a1 l2 a3 a4 true) = some r := by rw [if_pos rfl] at H; exact H
     clear H
     have H := H1
     clear H1
     have H' := Aside0.mk H
     clear H
     go_wp2_with (first | ((with_reducible refine gate_callee (f := 37) rfl ?_); refine goesL_ (some 14) rfl rfl Try.func37 (by kernel_rfl) rfl #[.slice A0 l0.length c0, .int .i64 a3, .int .i64 a4] rfl (by (try simp only [List.map_toArray, List.map_cons, List.map_nil]); first | done | rfl | (simp only [List.length_drop, List.length_take]; rfl)) ?_; (with_reducible refine (ref08_From.calls k _ _ l0 a3 a4 false _ ?side1 ?side2 A7.out).mono ?_); (case side1 => repeat (first | exact (Kd.C_below HR0.out HB.out) | (with_reducible refine Kd.C_alloc ?_ _) | (with_reducible refine Kd.C_drewN ?_ _) | (with_reducible refine Kd.C_drew ?_))); (case side2 => exact HC0.out); rintro e w14 ⟨rfl, hb⟩; refine ⟨_, rfl, ?_⟩; have n0_ := Aside0.mk (below_step (by repeat (first | (with_reducible first | exact HB.out | apply below_alloc | apply pw_below_drewN | apply below_drew1))) hb); clear HB; have HB := n0_; clear n0_; (try clear hb); (try clear hb2); (try clear hk); (try clear hi)) | (go_at_call 18; (with_reducible refine (ref09_Has.calls a1 1 true _ A10.out).mono ?_); rintro e w' ⟨rfl, ⟨nd, rfl⟩⟩) | (go_at_call 49; (with_reducible refine (ref08_Session.calls _ _ l0 a3 a4 true _ ?side1 ?side2 A12.out).mono ?_); (case side1 => repeat (first | exact (Kd.C_below HR0.out (by repeat (first | (with_reducible first | exact HB.out | apply below_alloc | apply pw_below_drewN | apply below_drew1)))) | (with_reducible refine Kd.C_alloc ?_ _) | (with_reducible refine Kd.C_drewN ?_ _) | (with_reducible refine Kd.C_drew ?_))); (case side2 => exact HC0.out); rintro e w' ⟨rfl, ⟨nd, rfl⟩⟩))
     go_meet
     case rel => exact ⟨_, (true), (by first | rfl | (simp; done) | (simp [*]; done)), H', ⟨by first | omega | exact Nat.le_refl _⟩, ⟨by repeat (first | (with_reducible first | exact HB.out | apply below_alloc | apply pw_below_drewN | apply below_drew1))⟩⟩
    ·replace c13 := Bool.eq_false_iff.mpr c13
     subst c13
     have H1 : ((ref09_Has.f a1 32).bind fun t104 => (if t104 = true then ((ref08_Time.f l0 a3 a4).bind fun t105 => (ref11_must.j0 k l0 a1 l2 a3 a4 t105)) else (ref11_must.j0 k l0 a1 l2 a3 a4 false))) = some r := by rw [if_neg (show ¬ (false = true) by decide)] at H; exact H
     clear H
     have H := H1
     clear H1
     replace H := Option.bind_eq_some_iff.mp H
     obtain ⟨t104, A150, H⟩ := H
     replace H : (if t104 = true then ((ref08_Time.f l0 a3 a4).bind fun t105 => (ref11_must.j0 k l0 a1 l2 a3 a4 t105)) else (ref11_must.j0 k l0 a1 l2 a3 a4 false)) = some r := H
     have A15 := Aside0.mk A150
     clear A150
     by_cases c16 : t104 = true
     ·subst c16
      have H1 : ((ref08_Time.f l0 a3 a4).bind fun t105 => (ref11_must.j0 k l0 a1 l2 a3 a4 t105)) = some r := by rw [if_pos rfl] at H; exact H
      clear H
      have H := H1
      clear H1
      replace H := Option.bind_eq_some_iff.mp H
      obtain ⟨t105, A170, H⟩ := H
      replace H : (ref11_must.j0 k l0 a1 l2 a3 a4 t105) = some r := H
      have A17 := Aside0.mk A170
      clear A170
      have H' := Aside0.mk H
      clear H
      go_wp2_with (first | ((with_reducible refine gate_callee (f := 37) rfl ?_); refine goesL_ (some 14) rfl rfl Try.func37 (by kernel_rfl) rfl #[.slice A0 l0.length c0, .int .i64 a3, .int .i64 a4] rfl (by (try simp only [List.map_toArray, List.map_cons, List.map_nil]); first | done | rfl | (simp only [List.length_drop, List.length_take]; rfl)) ?_; (with_reducible refine (ref08_From.calls k _ _ l0 a3 a4 false _ ?side1 ?side2 A7.out).mono ?_); (case side1 => repeat (first | exact (Kd.C_below HR0.out HB.out) | (with_reducible refine Kd.C_alloc ?_ _) | (with_reducible refine Kd.C_drewN ?_ _) | (with_reducible refine Kd.C_drew ?_))); (case side2 => exact HC0.out); rintro e w18 ⟨rfl, hb⟩; refine ⟨_, rfl, ?_⟩; have n0_ := Aside0.mk (below_step (by repeat (first | (with_reducible first | exact HB.out | apply below_alloc | apply pw_below_drewN | apply below_drew1))) hb); clear HB; have HB := n0_; clear n0_; (try clear hb); (try clear hb2); (try clear hk); (try clear hi)) | (go_at_call 18; (with_reducible refine (ref09_Has.calls a1 1 true _ A10.out).mono ?_); rintro e w' ⟨rfl, ⟨nd, rfl⟩⟩) | (go_at_call 49; (with_reducible refine (ref08_Session.calls _ _ l0 a3 a4 false _ ?side1 ?side2 A12.out).mono ?_); (case side1 => repeat (first | exact (Kd.C_below HR0.out (by repeat (first | (with_reducible first | exact HB.out | apply below_alloc | apply pw_below_drewN | apply below_drew1)))) | (with_reducible refine Kd.C_alloc ?_ _) | (with_reducible refine Kd.C_drewN ?_ _) | (with_reducible refine Kd.C_drew ?_))); (case side2 => exact HC0.out); rintro e w' ⟨rfl, ⟨nd, rfl⟩⟩) | (go_at_call 18; (with_reducible refine (ref09_Has.calls a1 32 true _ A15.out).mono ?_); rintro e w' ⟨rfl, ⟨nd, rfl⟩⟩) | (go_at_call 50; (with_reducible refine (ref08_Time.calls _ _ l0 a3 a4 t105 _ ?side1 ?side2 A17.out).mono ?_); (case side1 => repeat (first | exact (Kd.C_below HR0.out (by repeat (first | (with_reducible first | exact HB.out | apply below_alloc | apply pw_below_drewN | apply below_drew1)))) | (with_reducible refine Kd.C_alloc ?_ _) | (with_reducible refine Kd.C_drewN ?_ _) | (with_reducible refine Kd.C_drew ?_))); (case side2 => exact HC0.out); rintro e w' ⟨rfl, ⟨nd, rfl⟩⟩))
      go_meet
      case rel => exact ⟨_, (t105), (by first | rfl | (simp; done) | (simp [*]; done)), H', ⟨by first | omega | exact Nat.le_refl _⟩, ⟨by repeat (first | (with_reducible first | exact HB.out | apply below_alloc | apply pw_below_drewN | apply below_drew1))⟩⟩
     ·replace c16 := Bool.eq_false_iff.mpr c16
      subst c16
      have H1 : (ref11_must.j0 k l0 a1 l2 a3 a4 false) = some r := by rw [if_neg (show ¬ (false = true) by decide)] at H; exact H
      clear H
      have H := H1
      clear H1
      have H' := Aside0.mk H
      clear H
      go_wp2_with (first | ((with_reducible refine gate_callee (f := 37) rfl ?_); refine goesL_ (some 14) rfl rfl Try.func37 (by kernel_rfl) rfl #[.slice A0 l0.length c0, .int .i64 a3, .int .i64 a4] rfl (by (try simp only [List.map_toArray, List.map_cons, List.map_nil]); first | done | rfl | (simp only [List.length_drop, List.length_take]; rfl)) ?_; (with_reducible refine (ref08_From.calls k _ _ l0 a3 a4 false _ ?side1 ?side2 A7.out).mono ?_); (case side1 => repeat (first | exact (Kd.C_below HR0.out HB.out) | (with_reducible refine Kd.C_alloc ?_ _) | (with_reducible refine Kd.C_drewN ?_ _) | (with_reducible refine Kd.C_drew ?_))); (case side2 => exact HC0.out); rintro e w19 ⟨rfl, hb⟩; refine ⟨_, rfl, ?_⟩; have n0_ := Aside0.mk (below_step (by repeat (first | (with_reducible first | exact HB.out | apply below_alloc | apply pw_below_drewN | apply below_drew1))) hb); clear HB; have HB := n0_; clear n0_; (try clear hb); (try clear hb2); (try clear hk); (try clear hi)) | (go_at_call 18; (with_reducible refine (ref09_Has.calls a1 1 true _ A10.out).mono ?_); rintro e w' ⟨rfl, ⟨nd, rfl⟩⟩) | (go_at_call 49; (with_reducible refine (ref08_Session.calls _ _ l0 a3 a4 false _ ?side1 ?side2 A12.out).mono ?_); (case side1 => repeat (first | exact (Kd.C_below HR0.out (by repeat (first | (with_reducible first | exact HB.out | apply below_alloc | apply pw_below_drewN | apply below_drew1)))) | (with_reducible refine Kd.C_alloc ?_ _) | (with_reducible refine Kd.C_drewN ?_ _) | (with_reducible refine Kd.C_drew ?_))); (case side2 => exact HC0.out); rintro e w' ⟨rfl, ⟨nd, rfl⟩⟩) | (go_at_call 18; (with_reducible refine (ref09_Has.calls a1 32 false _ A15.out).mono ?_); rintro e w' ⟨rfl, ⟨nd, rfl⟩⟩))
      go_meet
      case rel => exact ⟨_, (false), (by first | rfl | (simp; done) | (simp [*]; done)), H', ⟨by first | omega | exact Nat.le_refl _⟩, ⟨by repeat (first | (with_reducible first | exact HB.out | apply below_alloc | apply pw_below_drewN | apply below_drew1))⟩⟩
   ·replace c11 := Bool.eq_false_iff.mpr c11
    subst c11
    have H1 : ((ref09_Has.f a1 32).bind fun t106 => (if t106 = true then ((ref08_Time.f l0 a3 a4).bind fun t107 => (ref11_must.j0 k l0 a1 l2 a3 a4 t107)) else (ref11_must.j0 k l0 a1 l2 a3 a4 false))) = some r := by rw [if_neg (show ¬ (false = true) by decide)] at H; exact H
    clear H
    have H := H1
    clear H1
    replace H := Option.bind_eq_some_iff.mp H
    obtain ⟨t106, A200, H⟩ := H
    replace H : (if t106 = true then ((ref08_Time.f l0 a3 a4).bind fun t107 => (ref11_must.j0 k l0 a1 l2 a3 a4 t107)) else (ref11_must.j0 k l0 a1 l2 a3 a4 false)) = some r := H
    have A20 := Aside0.mk A200
    clear A200
    by_cases c21 : t106 = true
    ·subst c21
     have H1 : ((ref08_Time.f l0 a3 a4).bind fun t107 => (ref11_must.j0 k l0 a1 l2 a3 a4 t107)) = some r := by rw [if_pos rfl] at H; exact H
     clear H
     have H := H1
     clear H1
     replace H := Option.bind_eq_some_iff.mp H
     obtain ⟨t107, A220, H⟩ := H
     replace H : (ref11_must.j0 k l0 a1 l2 a3 a4 t107) = some r := H
     have A22 := Aside0.mk A220
     clear A220
     have H' := Aside0.mk H
     clear H
     go_wp2_with (first | ((with_reducible refine gate_callee (f := 37) rfl ?_); refine goesL_ (some 14) rfl rfl Try.func37 (by kernel_rfl) rfl #[.slice A0 l0.length c0, .int .i64 a3, .int .i64 a4] rfl (by (try simp only [List.map_toArray, List.map_cons, List.map_nil]); first | done | rfl | (simp only [List.length_drop, List.length_take]; rfl)) ?_; (with_reducible refine (ref08_From.calls k _ _ l0 a3 a4 false _ ?side1 ?side2 A7.out).mono ?_); (case side1 => repeat (first | exact (Kd.C_below HR0.out HB.out) | (with_reducible refine Kd.C_alloc ?_ _) | (with_reducible refine Kd.C_drewN ?_ _) | (with_reducible refine Kd.C_drew ?_))); (case side2 => exact HC0.out); rintro e w23 ⟨rfl, hb⟩; refine ⟨_, rfl, ?_⟩; have n0_ := Aside0.mk (below_step (by repeat (first | (with_reducible first | exact HB.out | apply below_alloc | apply pw_below_drewN | apply below_drew1))) hb); clear HB; have HB := n0_; clear n0_; (try clear hb); (try clear hb2); (try clear hk); (try clear hi)) | (go_at_call 18; (with_reducible refine (ref09_Has.calls a1 1 false _ A10.out).mono ?_); rintro e w' ⟨rfl, ⟨nd, rfl⟩⟩) | (go_at_call 18; (with_reducible refine (ref09_Has.calls a1 32 true _ A20.out).mono ?_); rintro e w' ⟨rfl, ⟨nd, rfl⟩⟩) | (go_at_call 50; (with_reducible refine (ref08_Time.calls _ _ l0 a3 a4 t107 _ ?side1 ?side2 A22.out).mono ?_); (case side1 => repeat (first | exact (Kd.C_below HR0.out (by repeat (first | (with_reducible first | exact HB.out | apply below_alloc | apply pw_below_drewN | apply below_drew1)))) | (with_reducible refine Kd.C_alloc ?_ _) | (with_reducible refine Kd.C_drewN ?_ _) | (with_reducible refine Kd.C_drew ?_))); (case side2 => exact HC0.out); rintro e w' ⟨rfl, ⟨nd, rfl⟩⟩))
     go_meet
     case rel => exact ⟨_, (t107), (by first | rfl | (simp; done) | (simp [*]; done)), H', ⟨by first | omega | exact Nat.le_refl _⟩, ⟨by repeat (first | (with_reducible first | exact HB.out | apply below_alloc | apply pw_below_drewN | apply below_drew1))⟩⟩
    ·replace c21 := Bool.eq_false_iff.mpr c21
     subst c21
     have H1 : (ref11_must.j0 k l0 a1 l2 a3 a4 false) = some r := by rw [if_neg (show ¬ (false = true) by decide)] at H; exact H
     clear H
     have H := H1
     clear H1
     have H' := Aside0.mk H
     clear H
     go_wp2_with (first | ((with_reducible refine gate_callee (f := 37) rfl ?_); refine goesL_ (some 14) rfl rfl Try.func37 (by kernel_rfl) rfl #[.slice A0 l0.length c0, .int .i64 a3, .int .i64 a4] rfl (by (try simp only [List.map_toArray, List.map_cons, List.map_nil]); first | done | rfl | (simp only [List.length_drop, List.length_take]; rfl)) ?_; (with_reducible refine (ref08_From.calls k _ _ l0 a3 a4 false _ ?side1 ?side2 A7.out).mono ?_); (case side1 => repeat (first | exact (Kd.C_below HR0.out HB.out) | (with_reducible refine Kd.C_alloc ?_ _) | (with_reducible refine Kd.C_drewN ?_ _) | (with_reducible refine Kd.C_drew ?_))); (case side2 => exact HC0.out); rintro e w24 ⟨rfl, hb⟩; refine ⟨_, rfl, ?_⟩; have n0_ := Aside0.mk (below_step (by repeat (first | (with_reducible first | exact HB.out | apply below_alloc | apply pw_below_drewN | apply below_drew1))) hb); clear HB; have HB := n0_; clear n0_; (try clear hb); (try clear hb2); (try clear hk); (try clear hi)) | (go_at_call 18; (with_reducible refine (ref09_Has.calls a1 1 false _ A10.out).mono ?_); rintro e w' ⟨rfl, ⟨nd, rfl⟩⟩) | (go_at_call 18; (with_reducible refine (ref09_Has.calls a1 32 false _ A20.out).mono ?_); rintro e w' ⟨rfl, ⟨nd, rfl⟩⟩))
     go_meet
     case rel => exact ⟨_, (false), (by first | rfl | (simp; done) | (simp [*]; done)), H', ⟨by first | omega | exact Nat.le_refl _⟩, ⟨by repeat (first | (with_reducible first | exact HB.out | apply below_alloc | apply pw_below_drewN | apply below_drew1))⟩⟩
 case rest =>
  clear HC6
  try clear c1
  try clear c2
  try clear p2
  try clear c3
  try clear c8
  try clear c11
  try clear c13
  try clear c16
  try clear c21
  obtain ⟨kq, x34_5, rfl, HA, HJ5, HB⟩ := hcut
  cases kq with
  | zero => exact absurd HA.out (by simp [ref11_must.j0])
  | succ kj5 =>
   have H := HA.out
   clear HA
   simp only [ref11_must.j0] at H
   by_cases c25 : x34_5 = true
   ·subst c25
    have H1 : (some true) = some r := by rw [if_pos rfl] at H; exact H
    clear H
    have H := H1
    clear H1
    obtain rfl := Option.some.inj H
    go_wp2
    go_ret
    exact ⟨by first | rfl | (simp <;> rfl) | (simp [*] <;> rfl), by repeat (first | (with_reducible first | exact HB.out | apply below_alloc | apply pw_below_drewN | apply below_drew1))⟩
   ·replace c25 := Bool.eq_false_iff.mpr c25
    subst c25
    have H1 : ((ref11_Ahead.f kj5 l2 a3 a4).bind fun t108 => (if t108 = true then ((ref09_Has.f a1 16).bind fun t109 => (if t109 = true then (some true) else ((ref09_Has.f a1 8).bind fun t110 => (if t110 = true then ((ref08_Rivals.f kj5 l0 a3 a4).bind fun t111 => (some t111)) else (some false))))) else (some false))) = some r := by rw [if_neg (show ¬ (false = true) by decide)] at H; exact H
    clear H
    have H := H1
    clear H1
    replace H := Option.bind_eq_some_iff.mp H
    obtain ⟨t108, A260, H⟩ := H
    replace H : (if t108 = true then ((ref09_Has.f a1 16).bind fun t109 => (if t109 = true then (some true) else ((ref09_Has.f a1 8).bind fun t110 => (if t110 = true then ((ref08_Rivals.f kj5 l0 a3 a4).bind fun t111 => (some t111)) else (some false))))) else (some false)) = some r := H
    have A26 := Aside0.mk A260
    clear A260
    by_cases c27 : t108 = true
    ·subst c27
     have H1 : ((ref09_Has.f a1 16).bind fun t109 => (if t109 = true then (some true) else ((ref09_Has.f a1 8).bind fun t110 => (if t110 = true then ((ref08_Rivals.f kj5 l0 a3 a4).bind fun t111 => (some t111)) else (some false))))) = some r := by rw [if_pos rfl] at H; exact H
     clear H
     have H := H1
     clear H1
     replace H := Option.bind_eq_some_iff.mp H
     obtain ⟨t109, A280, H⟩ := H
     replace H : (if t109 = true then (some true) else ((ref09_Has.f a1 8).bind fun t110 => (if t110 = true then ((ref08_Rivals.f kj5 l0 a3 a4).bind fun t111 => (some t111)) else (some false)))) = some r := H
     have A28 := Aside0.mk A280
     clear A280
     by_cases c29 : t109 = true
     ·subst c29
      have H1 : (some true) = some r := by rw [if_pos rfl] at H; exact H
      clear H
      have H := H1
      clear H1
      obtain rfl := Option.some.inj H
      go_wp2_with (first | ((with_reducible refine gate_callee (f := 118) rfl ?_); refine goesL_ (some 38) rfl rfl Try.func118 (by kernel_rfl) rfl #[.slice A2 l2.length c2, .int .i64 a3, .int .i64 a4] rfl (by (try simp only [List.map_toArray, List.map_cons, List.map_nil]); first | done | rfl | (simp only [List.length_drop, List.length_take]; rfl)) ?_; (with_reducible refine (ref11_Ahead.calls kj5 _ _ l2 a3 a4 true _ ?side1 ?side2 A26.out).mono ?_); (case side1 => repeat (first | exact (Kd.C_below HR2.out HB.out) | (with_reducible refine Kd.C_alloc ?_ _) | (with_reducible refine Kd.C_drewN ?_ _) | (with_reducible refine Kd.C_drew ?_))); (case side2 => exact HC2.out); rintro e w' ⟨rfl, ⟨nd, rfl⟩⟩; refine ⟨_, rfl, ?_⟩) | ((with_reducible refine gate_callee (f := 18) rfl ?_); refine goesL_ (some 41) rfl rfl Try.func18 (by kernel_rfl) rfl #[.int .i64 a1, .int .i64 16] rfl (by (try simp only [List.map_toArray, List.map_cons, List.map_nil]); first | done | rfl | (simp only [List.length_drop, List.length_take]; rfl)) ?_; (with_reducible refine (ref09_Has.calls a1 16 true _ A28.out).mono ?_); rintro e w' ⟨rfl, ⟨nd, rfl⟩⟩; refine ⟨_, rfl, ?_⟩))
      go_ret
      exact ⟨by first | rfl | (simp <;> rfl) | (simp [*] <;> rfl), by repeat (first | (with_reducible first | exact HB.out | apply below_alloc | apply pw_below_drewN | apply below_drew1))⟩
     ·replace c29 := Bool.eq_false_iff.mpr c29
      subst c29
      have H1 : ((ref09_Has.f a1 8).bind fun t110 => (if t110 = true then ((ref08_Rivals.f kj5 l0 a3 a4).bind fun t111 => (some t111)) else (some false))) = some r := by rw [if_neg (show ¬ (false = true) by decide)] at H; exact H
      clear H
      have H := H1
      clear H1
      replace H := Option.bind_eq_some_iff.mp H
      obtain ⟨t110, A300, H⟩ := H
      replace H : (if t110 = true then ((ref08_Rivals.f kj5 l0 a3 a4).bind fun t111 => (some t111)) else (some false)) = some r := H
      have A30 := Aside0.mk A300
      clear A300
      by_cases c31 : t110 = true
      ·subst c31
       have H1 : ((ref08_Rivals.f kj5 l0 a3 a4).bind fun t111 => (some t111)) = some r := by rw [if_pos rfl] at H; exact H
       clear H
       have H := H1
       clear H1
       replace H := Option.bind_eq_some_iff.mp H
       obtain ⟨t111, A320, H⟩ := H
       replace H : (some t111) = some r := H
       have A32 := Aside0.mk A320
       clear A320
       obtain rfl := Option.some.inj H
       go_wp2_with (first | ((with_reducible refine gate_callee (f := 118) rfl ?_); refine goesL_ (some 38) rfl rfl Try.func118 (by kernel_rfl) rfl #[.slice A2 l2.length c2, .int .i64 a3, .int .i64 a4] rfl (by (try simp only [List.map_toArray, List.map_cons, List.map_nil]); first | done | rfl | (simp only [List.length_drop, List.length_take]; rfl)) ?_; (with_reducible refine (ref11_Ahead.calls kj5 _ _ l2 a3 a4 true _ ?side1 ?side2 A26.out).mono ?_); (case side1 => repeat (first | exact (Kd.C_below HR2.out HB.out) | (with_reducible refine Kd.C_alloc ?_ _) | (with_reducible refine Kd.C_drewN ?_ _) | (with_reducible refine Kd.C_drew ?_))); (case side2 => exact HC2.out); rintro e w' ⟨rfl, ⟨nd, rfl⟩⟩; refine ⟨_, rfl, ?_⟩) | ((with_reducible refine gate_callee (f := 18) rfl ?_); refine goesL_ (some 41) rfl rfl Try.func18 (by kernel_rfl) rfl #[.int .i64 a1, .int .i64 16] rfl (by (try simp only [List.map_toArray, List.map_cons, List.map_nil]); first | done | rfl | (simp only [List.length_drop, List.length_take]; rfl)) ?_; (with_reducible refine (ref09_Has.calls a1 16 false _ A28.out).mono ?_); rintro e w' ⟨rfl, ⟨nd, rfl⟩⟩; refine ⟨_, rfl, ?_⟩) | (go_at_call 18; (with_reducible refine (ref09_Has.calls a1 8 true _ A30.out).mono ?_); rintro e w' ⟨rfl, ⟨nd, rfl⟩⟩) | (go_at_call 51; (with_reducible refine (ref08_Rivals.calls kj5 _ _ l0 a3 a4 t111 _ ?side1 ?side2 A32.out).mono ?_); (case side1 => repeat (first | exact (Kd.C_below HR0.out (by repeat (first | (with_reducible first | exact HB.out | apply below_alloc | apply pw_below_drewN | apply below_drew1)))) | (with_reducible refine Kd.C_alloc ?_ _) | (with_reducible refine Kd.C_drewN ?_ _) | (with_reducible refine Kd.C_drew ?_))); (case side2 => exact HC0.out); rintro e w33 ⟨rfl, hb⟩; have n0_ := Aside0.mk (below_step (by repeat (first | (with_reducible first | exact HB.out | apply below_alloc | apply pw_below_drewN | apply below_drew1))) hb); clear HB; have HB := n0_; clear n0_; (try clear hb); (try clear hb2); (try clear hk); (try clear hi)))
       go_ret
       exact ⟨by first | rfl | (simp <;> rfl) | (simp [*] <;> rfl), by repeat (first | (with_reducible first | exact HB.out | apply below_alloc | apply pw_below_drewN | apply below_drew1))⟩
      ·replace c31 := Bool.eq_false_iff.mpr c31
       subst c31
       have H1 : (some false) = some r := by rw [if_neg (show ¬ (false = true) by decide)] at H; exact H
       clear H
       have H := H1
       clear H1
       obtain rfl := Option.some.inj H
       go_wp2_with (first | ((with_reducible refine gate_callee (f := 118) rfl ?_); refine goesL_ (some 38) rfl rfl Try.func118 (by kernel_rfl) rfl #[.slice A2 l2.length c2, .int .i64 a3, .int .i64 a4] rfl (by (try simp only [List.map_toArray, List.map_cons, List.map_nil]); first | done | rfl | (simp only [List.length_drop, List.length_take]; rfl)) ?_; (with_reducible refine (ref11_Ahead.calls kj5 _ _ l2 a3 a4 true _ ?side1 ?side2 A26.out).mono ?_); (case side1 => repeat (first | exact (Kd.C_below HR2.out HB.out) | (with_reducible refine Kd.C_alloc ?_ _) | (with_reducible refine Kd.C_drewN ?_ _) | (with_reducible refine Kd.C_drew ?_))); (case side2 => exact HC2.out); rintro e w' ⟨rfl, ⟨nd, rfl⟩⟩; refine ⟨_, rfl, ?_⟩) | ((with_reducible refine gate_callee (f := 18) rfl ?_); refine goesL_ (some 41) rfl rfl Try.func18 (by kernel_rfl) rfl #[.int .i64 a1, .int .i64 16] rfl (by (try simp only [List.map_toArray, List.map_cons, List.map_nil]); first | done | rfl | (simp only [List.length_drop, List.length_take]; rfl)) ?_; (with_reducible refine (ref09_Has.calls a1 16 false _ A28.out).mono ?_); rintro e w' ⟨rfl, ⟨nd, rfl⟩⟩; refine ⟨_, rfl, ?_⟩) | (go_at_call 18; (with_reducible refine (ref09_Has.calls a1 8 false _ A30.out).mono ?_); rintro e w' ⟨rfl, ⟨nd, rfl⟩⟩))
       go_ret
       exact ⟨by first | rfl | (simp <;> rfl) | (simp [*] <;> rfl), by repeat (first | (with_reducible first | exact HB.out | apply below_alloc | apply pw_below_drewN | apply below_drew1))⟩
    ·replace c27 := Bool.eq_false_iff.mpr c27
     subst c27
     have H1 : (some false) = some r := by rw [if_neg (show ¬ (false = true) by decide)] at H; exact H
     clear H
     have H := H1
     clear H1
     obtain rfl := Option.some.inj H
     go_wp2_with (first | ((with_reducible refine gate_callee (f := 118) rfl ?_); refine goesL_ (some 38) rfl rfl Try.func118 (by kernel_rfl) rfl #[.slice A2 l2.length c2, .int .i64 a3, .int .i64 a4] rfl (by (try simp only [List.map_toArray, List.map_cons, List.map_nil]); first | done | rfl | (simp only [List.length_drop, List.length_take]; rfl)) ?_; (with_reducible refine (ref11_Ahead.calls kj5 _ _ l2 a3 a4 false _ ?side1 ?side2 A26.out).mono ?_); (case side1 => repeat (first | exact (Kd.C_below HR2.out HB.out) | (with_reducible refine Kd.C_alloc ?_ _) | (with_reducible refine Kd.C_drewN ?_ _) | (with_reducible refine Kd.C_drew ?_))); (case side2 => exact HC2.out); rintro e w' ⟨rfl, ⟨nd, rfl⟩⟩; refine ⟨_, rfl, ?_⟩))
     go_ret
     exact ⟨by first | rfl | (simp <;> rfl) | (simp [*] <;> rfl), by repeat (first | (with_reducible first | exact HB.out | apply below_alloc | apply pw_below_drewN | apply below_drew1))⟩
end Go.Proofs.Ytfocaefnmfkojaa.Q
namespace Go.Proofs.Ytfocaefnmfkojaa.Q
open Go.RowKit Go.Proofs.YtfocaefnmfkojaaW.PrintWords Go.Proofs.YtfocaefnmfkojaaW.PrintLast Go.Proofs.YtfocaefnmfkojaaW.PrintMore
attribute [local go_sem] max2_int min2_int max_two min_two max_three min_three max_four min_four   -- for this text's walks alone
set_option linter.unusedVariables false
set_option linter.unusedSimpArgs false
def ref02_Has.l0 : Nat → List (S154) → Int → Int → Int → Option (Bool)
 | 0, _, _, _, _ => none
 | k + 1, x0, x1, x2, x7 => if x7 < (x0.length : Int) then (if 0 ≤ x7 then (if ((rd_T154 x0 x7).f0) = x1 then (if ((rd_T154 x0 x7).f1) = x2 then (some true) else (ref02_Has.l0 k x0 x1 x2 (wrap64 (x7 + 1)))) else (ref02_Has.l0 k x0 x1 x2 (wrap64 (x7 + 1)))) else (none)) else (some false)
def ref02_Has.f (k : Nat) (l0 : List (S154)) (a1 : Int) (a2 : Int) : Option (Bool) := ref02_Has.l0 k l0 a1 a2 0
set_option maxHeartbeats 8000000 in
set_option maxRecDepth 100000 in
theorem ref02_Has.calls (k : Nat) (A0 : Option Addr) (c0 : Nat) (l0 : List (S154)) (a1 : Int) (a2 : Int) (r : Bool) (w : World) (hr0 : Kd.C k154 w A0 l0.length l0) (hc0 : l0.length ≤ c0) (h : ref02_Has.f k l0 a1 a2 = some r) :
  Calls Try.prog 113 #[.slice A0 l0.length c0, .int .i64 a1, .int .i64 a2] w fun e w' => e = .returned (.bool r) ∧ Drawn0 w w' := by
 have HR0 := Aside0.mk hr0
 have HC0 := Aside0.mk hc0
 clear hr0 hc0
 have H : (ref02_Has.l0 k l0 a1 a2 0) = some r := h
 clear h
 have H' := Aside0.mk H
 clear H
 go_enter Try.func113, Try.ntmps113
 go_wp2
 go_loopg [7] k (fun kq v7 w' => ∃ (x7_1 : Int), v7 = .int .i64 x7_1 ∧ Aside0 (ref02_Has.l0 kq l0 a1 a2 x7_1 = some r) ∧ Aside0 (kq ≤ k) ∧ Drawn0 w w')
 case atStart => exact ⟨(0), (by first | rfl | (simp; done) | (simp [*]; done)), H', ⟨Nat.le_refl _⟩, by repeat (first | exact Drawn0.refl _ | apply Drawn0.step)⟩
 case round =>
  clear H'
  try clear c1
  try clear p2
  obtain ⟨x7_1, rfl, HA, HK1, ⟨m1, rfl⟩⟩ := hrel
  cases gk with
  | zero => exact absurd HA.out (by simp [ref02_Has.l0])
  | succ k1 =>
   have H := HA.out
   clear HA
   simp only [ref02_Has.l0] at H
   by_cases c4 : x7_1 < (l0.length : Int)
   ·rw [if_pos c4] at H
    have c4b0 : decide (x7_1 < (l0.length : Int)) = true := decide_eq_true c4
    clear c4
    by_cases c5 : 0 ≤ x7_1
    ·rw [if_pos c5] at H
     have c5b0 : decide (0 ≤ x7_1) = true := decide_eq_true c5
     clear c5
     by_cases c6 : ((rd_T154 l0 x7_1).f0) = a1
     ·rw [if_pos c6] at H
      have c6b0 : (((rd_T154 l0 x7_1).f0) == a1) = true := beq_iff_eq.mpr c6
      have c6b1 : (((rd_T154 l0 x7_1).f0) != a1) = false := bne_eq_false_iff_eq.mpr c6
      clear c6
      by_cases c7 : ((rd_T154 l0 x7_1).f1) = a2
      ·rw [if_pos c7] at H
       have c7b0 : (((rd_T154 l0 x7_1).f1) == a2) = true := beq_iff_eq.mpr c7
       have c7b1 : (((rd_T154 l0 x7_1).f1) != a2) = false := bne_eq_false_iff_eq.mpr c7
       clear c7
       obtain rfl := Option.some.inj H
       have p101 : 0 ≤ (x7_1 : Int) := of_decide_eq_true (by assumption)
       have q101 : x7_1 < (l0.length : Int) := of_decide_eq_true (by assumption)
       obtain ⟨ad101, e101, hx101_0, hx101_1⟩ := at_T154 HR0.out x7_1 p101 q101
       cases e101
       replace p101 := eq_true p101
       replace q101 := eq_true q101
       have p102 : 0 ≤ (x7_1 : Int) := of_decide_eq_true (by assumption)
       have q102 : x7_1 < (l0.length : Int) := of_decide_eq_true (by assumption)
       obtain ⟨ad102, e102, hx102_0, hx102_1⟩ := at_T154 HR0.out x7_1 p102 q102
       obtain rfl : ad101 = ad102 := (by injection e102)
       replace p102 := eq_true p102
       replace q102 := eq_true q102
       go_wp2
       go_ret
       exact ⟨by first | rfl | (simp; done) | (simp [*]; done), by repeat (first | exact Drawn0.refl _ | apply Drawn0.step)⟩
      ·rw [if_neg c7] at H
       have c7b0 : (((rd_T154 l0 x7_1).f1) == a2) = false := beq_eq_false_iff_ne.mpr c7
       have c7b1 : (((rd_T154 l0 x7_1).f1) != a2) = true := bne_iff_ne.mpr c7
       have H' := Aside0.mk H
       clear H
       have p101 : 0 ≤ (x7_1 : Int) := of_decide_eq_true (by assumption)
       have q101 : x7_1 < (l0.length : Int) := of_decide_eq_true (by assumption)
       obtain ⟨ad101, e101, hx101_0, hx101_1⟩ := at_T154 HR0.out x7_1 p101 q101
       cases e101
       replace p101 := eq_true p101
       replace q101 := eq_true q101
       have p102 : 0 ≤ (x7_1 : Int) := of_decide_eq_true (by assumption)
       have q102 : x7_1 < (l0.length : Int) := of_decide_eq_true (by assumption)
       obtain ⟨ad102, e102, hx102_0, hx102_1⟩ := at_T154 HR0.out x7_1 p102 q102
       obtain rfl : ad101 = ad102 := (by injection e102)
       replace p102 := eq_true p102
       replace q102 := eq_true q102
       go_wp2
       go_roundg k1
       case measure => have := HK1.out; omega
       case rel => exact ⟨(wrap64 (x7_1 + 1)), (by first | rfl | (simp; done) | (simp [*]; done)), H', ⟨by have := HK1.out; omega⟩, by repeat (first | exact Drawn0.refl _ | apply Drawn0.step)⟩
     ·rw [if_neg c6] at H
      have c6b0 : (((rd_T154 l0 x7_1).f0) == a1) = false := beq_eq_false_iff_ne.mpr c6
      have c6b1 : (((rd_T154 l0 x7_1).f0) != a1) = true := bne_iff_ne.mpr c6
      have H' := Aside0.mk H
      clear H
      have p101 : 0 ≤ (x7_1 : Int) := of_decide_eq_true (by assumption)
      have q101 : x7_1 < (l0.length : Int) := of_decide_eq_true (by assumption)
      obtain ⟨ad101, e101, hx101_0, hx101_1⟩ := at_T154 HR0.out x7_1 p101 q101
      cases e101
      replace p101 := eq_true p101
      replace q101 := eq_true q101
      go_wp2
      go_roundg k1
      case measure => have := HK1.out; omega
      case rel => exact ⟨(wrap64 (x7_1 + 1)), (by first | rfl | (simp; done) | (simp [*]; done)), H', ⟨by have := HK1.out; omega⟩, by repeat (first | exact Drawn0.refl _ | apply Drawn0.step)⟩
    ·rw [if_neg c5] at H
     exact absurd H (by simp)
   ·rw [if_neg c4] at H
    have c4b0 : decide (x7_1 < (l0.length : Int)) = false := decide_eq_false c4
    clear c4
    obtain rfl := Option.some.inj H
    go_wp2
    go_ret
    exact ⟨by first | rfl | (simp; done) | (simp [*]; done), by repeat (first | exact Drawn0.refl _ | apply Drawn0.step)⟩
end Go.Proofs.Ytfocaefnmfkojaa.Q
namespace Go.Proofs.Ytfocaefnmfkojaa.Q
open Go.RowKit Go.Proofs.YtfocaefnmfkojaaW.PrintWords Go.Proofs.YtfocaefnmfkojaaW.PrintLast Go.Proofs.YtfocaefnmfkojaaW.PrintMore
attribute [local go_sem] max2_int min2_int max_two min_two max_three min_three max_four min_four   -- for this text's walks alone
set_option linter.unusedVariables false
set_option linter.unusedSimpArgs false
def ref02_Put.f (k : Nat) (l0 : List (S154)) (a1 : Int) (a2 : Int) : Option ((List (S154))) := (ref02_Has.f k l0 a1 a2).bind fun t101 => (if t101 = true then (some l0) else ((some (([] : List (S154)) : List (S154))).bind fun y102 => (if y102.length + l0.length < 8796093022208 then ((some (y102 ++ l0 : List (S154))).bind fun y105 => (if y105.length < 8796093022208 then (some (y105 ++ [(⟨a1, a2⟩ : S154)])) else (none))) else (none))))
set_option maxHeartbeats 8000000 in
set_option maxRecDepth 100000 in
theorem ref02_Put.calls (k : Nat) (P0_ : Nat → Prop) (u9000_ : Value) (l0 : List (S154)) (a1 : Int) (a2 : Int) (r : List (S154)) (w0 w : World) (hB : Below w0.heap.size w0 w) (ho0 : Kd.R k154 154 w w0.heap.size P0_ u9000_ l0) (h : ref02_Put.f k l0 a1 a2 = some r) :
  Calls Try.prog 112 #[u9000_, .int .i64 a1, .int .i64 a2] w fun e w' => ∃ v0_ : Value, e = .returned (v0_) ∧ Kd.R k154 154 w' w0.heap.size (fun k_ => (P0_ k_ ∨ w.heap.size ≤ k_)) v0_ r ∧ Below w0.heap.size w0 w' ∧ Kept w w' (fun k_ => P0_ k_) := by
 have hu154 := Try.underlying154
 have HO0 := Aside0.mk (show Kd.R k154 154 w w0.heap.size (fun k_ => (P0_ k_ ∨ w.heap.size ≤ k_)) u9000_ l0 from Kd.R_mono ho0 (fun k_ hk => (.inl hk)))
 have HK := Aside0.mk (Kept.refl w (fun k_ => P0_ k_))
 have HW0 := Aside0.mk hB.size
 have HB := Aside0.mk hB
 clear hB
 have H : ((ref02_Has.f k l0 a1 a2).bind fun t101 => (if t101 = true then (some l0) else ((some (([] : List (S154)) : List (S154))).bind fun y102 => (if y102.length + l0.length < 8796093022208 then ((some (y102 ++ l0 : List (S154))).bind fun y105 => (if y105.length < 8796093022208 then (some (y105 ++ [(⟨a1, a2⟩ : S154)])) else (none))) else (none))))) = some r := h
 clear h
 replace H := Option.bind_eq_some_iff.mp H
 obtain ⟨t101, A40, H⟩ := H
 replace H : (if t101 = true then (some l0) else ((some (([] : List (S154)) : List (S154))).bind fun y102 => (if y102.length + l0.length < 8796093022208 then ((some (y102 ++ l0 : List (S154))).bind fun y105 => (if y105.length < 8796093022208 then (some (y105 ++ [(⟨a1, a2⟩ : S154)])) else (none))) else (none)))) = some r := H
 have A4 := Aside0.mk A40
 clear A40
 by_cases c5 : t101 = true
 ·subst c5
  have H1 : (some l0) = some r := by rw [if_pos rfl] at H; exact H
  clear H
  have H := H1
  clear H1
  obtain rfl := Option.some.inj H
  obtain ⟨Ao6, co6, eo6⟩ := Kd.R_slice HO0.out
  subst eo6
  go_enter Try.func112, Try.ntmps112
  go_wp2_with (first | ((with_reducible refine gate_callee (f := 113) rfl ?_); refine goesL_ (some 10) rfl rfl Try.func113 (by kernel_rfl) rfl #[.slice Ao6 l0.length co6, .int .i64 a1, .int .i64 a2] rfl (by (try simp only [List.map_toArray, List.map_cons, List.map_nil]); first | done | rfl | (simp only [List.length_drop, List.length_take]; rfl)) ?_; (with_reducible refine (ref02_Has.calls k _ _ l0 a1 a2 true _ ?side1 ?side2 A4.out).mono ?_); (case side1 => repeat (first | exact (Kd.R_reads' HO0.out).2.2 | (with_reducible refine Kd.C_alloc ?_ _) | (with_reducible refine Kd.C_drewN ?_ _) | (with_reducible refine Kd.C_drew ?_))); (case side2 => exact (Kd.R_reads' HO0.out).2.1); rintro e w' ⟨rfl, ⟨nd, rfl⟩⟩; refine ⟨_, rfl, ?_⟩))
  go_ret
  exact ⟨_, by first | rfl | (simp <;> rfl) | (simp [*] <;> rfl), by (with_reducible repeat (first | apply Kd.R_alloc | apply Kd.R_drewN | apply Kd.R_drew)); exact HO0.out, by repeat (first | (with_reducible first | exact HB.out | apply below_alloc | apply pw_below_drewN | apply below_drew1)), by repeat (first | (with_reducible first | exact HK.out | apply Kept.alloc | apply Kept.drewN | apply Kept.drew) | exact HK.out)⟩
 ·replace c5 := Bool.eq_false_iff.mpr c5
  subst c5
  have H1 : ((some (([] : List (S154)) : List (S154))).bind fun y102 => (if y102.length + l0.length < 8796093022208 then ((some (y102 ++ l0 : List (S154))).bind fun y105 => (if y105.length < 8796093022208 then (some (y105 ++ [(⟨a1, a2⟩ : S154)])) else (none))) else (none))) = some r := by rw [if_neg (show ¬ (false = true) by decide)] at H; exact H
  clear H
  have H := H1
  clear H1
  obtain ⟨y102, hy102⟩ : ∃ y_ : List (S154), y_ = (([] : List (S154))) := ⟨_, rfl⟩
  replace H : (if y102.length + l0.length < 8796093022208 then ((some (y102 ++ l0 : List (S154))).bind fun y105 => (if y105.length < 8796093022208 then (some (y105 ++ [(⟨a1, a2⟩ : S154)])) else (none))) else (none)) = some r := by first | (rw [hy102]; with_reducible exact H) | (have H2_ := (Option.bind_some _ _).symm.trans H; rw [hy102]; with_reducible exact H2_) | (have H2_ := (Option.bind_some _ _).symm.trans H; with_reducible exact H2_) | with_reducible exact H | (rw [hy102]; exact H) | exact H
  have Ny102 := Aside0.mk hy102
  clear hy102
  by_cases c7 : y102.length + l0.length < 8796093022208
  ·rw [if_pos c7] at H
   have LMc7 := Aside0.mk c7
   clear c7
   obtain ⟨y105, hy105⟩ : ∃ y_ : List (S154), y_ = (y102 ++ l0) := ⟨_, rfl⟩
   replace H : (if y105.length < 8796093022208 then (some (y105 ++ [(⟨a1, a2⟩ : S154)])) else (none)) = some r := by first | (rw [hy105]; with_reducible exact H) | (have H2_ := (Option.bind_some _ _).symm.trans H; rw [hy105]; with_reducible exact H2_) | (have H2_ := (Option.bind_some _ _).symm.trans H; with_reducible exact H2_) | with_reducible exact H | (rw [hy105]; exact H) | exact H
   have Ny105 := Aside0.mk hy105
   clear hy105
   by_cases c8 : y105.length < 8796093022208
   ·rw [if_pos c8] at H
    have LMc8 := Aside0.mk c8
    clear c8
    obtain ⟨y108, hy108⟩ : ∃ y_ : List (S154), y_ = (y105 ++ [(⟨a1, a2⟩ : S154)]) := ⟨_, rfl⟩
    replace H : (some y108) = some r := by first | (rw [hy108]; with_reducible exact H) | (have H2_ := (Option.bind_some _ _).symm.trans H; rw [hy108]; with_reducible exact H2_) | (have H2_ := (Option.bind_some _ _).symm.trans H; with_reducible exact H2_) | with_reducible exact H | (rw [hy108]; exact H) | exact H
    have Ny108 := Aside0.mk hy108
    clear hy108
    obtain rfl := Option.some.inj H
    obtain ⟨Ao9, co9, eo9⟩ := Kd.R_slice HO0.out
    subst eo9
    go_enter Try.func112, Try.ntmps112
    go_wp2_with (first | ((with_reducible refine gate_callee (f := 113) rfl ?_); refine goesL_ (some 10) rfl rfl Try.func113 (by kernel_rfl) rfl #[.slice Ao9 l0.length co9, .int .i64 a1, .int .i64 a2] rfl (by (try simp only [List.map_toArray, List.map_cons, List.map_nil]); first | done | rfl | (simp only [List.length_drop, List.length_take]; rfl)) ?_; (with_reducible refine (ref02_Has.calls k _ _ l0 a1 a2 false _ ?side1 ?side2 A4.out).mono ?_); (case side1 => repeat (first | exact (Kd.R_reads' HO0.out).2.2 | (with_reducible refine Kd.C_alloc ?_ _) | (with_reducible refine Kd.C_drewN ?_ _) | (with_reducible refine Kd.C_drew ?_))); (case side2 => exact (Kd.R_reads' HO0.out).2.1); rintro e w' ⟨rfl, ⟨nd, rfl⟩⟩; refine ⟨_, rfl, ?_⟩) | ((with_reducible refine gate_dst (N := 12) rfl ?_); refine Kd.R_lit k154 _ 154 ?hg (N := 12) ?hd (xs := ([] : List (S154))) (inner := []) (ok := fun _ => True) (okp := fun _ => True) ?hr ?hp (fun _ hk => hk) trivial (Below.refl _ _) (Nat.le_refl _) (by simp) ?_; (case hd => rfl); (case hg => rfl); (case hr => first | (go_simp; done) | (go_simp; rfl)); (case hp => exact (Reps.none _ _)); intro v103 w10 ho11 hb hg_ hnew_; clear hg_ hnew_; (first | rw [← Ny102.out] at ho11 | (simp only [Int.reduceToNat] at ho11; rw [← Ny102.out] at ho11)); have n0_ := Aside0.mk (Kd.R_elder' (by (with_reducible repeat (first | apply Kd.R_alloc | apply Kd.R_drewN | apply Kd.R_drew)); exact HO0.out) (Kd.R_base ho11) hb); have n1_ := Aside0.mk (Kd.R_lower (Kd.R_new' (Kd.R_newM (M := fun k_ => (P0_ k_ ∨ w.heap.size ≤ k_)) ho11 (by first | exact HK.out.1 | exact (show Kept w _ (fun k_ => P0_ k_) from by repeat (first | (with_reducible first | exact HK.out | apply Kept.alloc | apply Kept.drewN | apply Kept.drew) | exact HK.out)).1) (fun k_ h_ => .inr h_)) (Kd.R_lt (by (with_reducible repeat (first | apply Kd.R_alloc | apply Kd.R_drewN | apply Kd.R_drew)); exact HO0.out))) (below_size (by repeat (first | (with_reducible first | exact HB.out | apply below_alloc | apply pw_below_drewN | apply below_drew1))))); have n2_ := Aside0.mk (Kept.below (S := (fun k_ => P0_ k_)) (by repeat (first | (with_reducible first | exact HK.out | apply Kept.alloc | apply Kept.drewN | apply Kept.drew) | exact HK.out)) hb); have n3_ := Aside0.mk (below_step (by repeat (first | (with_reducible first | exact HB.out | apply below_alloc | apply pw_below_drewN | apply below_drew1))) hb); clear HO0; clear HK; clear HB; have HO0 := n0_; have HO104 := n1_; have HK := n2_; have HB := n3_; clear n0_ n1_ n2_ n3_; clear hb ho11) | ((with_reducible refine gate_builtin (b := .append) (xs := #[.tmp 12, .tmp 13]) rfl ?_); at_builtin; refine Kd.R_append_rows k154 (w0 := w0) w0.heap.size rfl (.tmp 12) (.tmp 13) 123 154 (.agg #[(.int .i64 0), (.int .i64 0)]) 16 rfl Try.underlying123 info154 rfl (by decide) (by omega) v103 y102 l0 _ _ _ (fun k_ => (P0_ k_ ∨ w.heap.size ≤ k_) ∧ some k_ ≠ (.slice Ao9 l0.length co9 : Value).ownBlock) (fun _ => False) rfl rfl ?aO ?aR (fun _ _ h => h) (fun _ h => h.elim) ?aF ?aB ?aS ?aL ?_; (case aR => repeat (first | exact (Kd.R_reads' HO0.out).2.2 | (with_reducible refine Kd.C_alloc ?_ _) | (with_reducible refine Kd.C_drewN ?_ _) | (with_reducible refine Kd.C_drew ?_))); (case aB => exact (by repeat (first | (with_reducible first | exact HB.out | apply below_alloc | apply pw_below_drewN | apply below_drew1)))); (case aF => exact (fun k_ hk => ⟨(.inr (Nat.le_trans (by first | exact HK.out.1 | exact (show Kept w _ (fun k_ => P0_ k_) from by repeat (first | (with_reducible first | exact HK.out | apply Kept.alloc | apply Kept.drewN | apply Kept.drew) | exact HK.out)).1) hk)), Kd.fresh' (Kd.R_lt (by (with_reducible repeat (first | apply Kd.R_alloc | apply Kd.R_drewN | apply Kd.R_drew)); exact HO0.out)) k_ hk⟩)); (case aO => exact (by (with_reducible repeat (first | apply Kd.R_alloc | apply Kd.R_drewN | apply Kd.R_drew)); exact Kd.R_mono HO104.out (fun _ hk => ⟨hk.1.1, hk.2⟩))); (case aS => exact (below_size (by repeat (first | (with_reducible first | exact HB.out | apply below_alloc | apply pw_below_drewN | apply below_drew1))))); (case aL => have := LMc7.out; omega); intro v106 w12 ho hb hg hat; rw [← Ny105.out] at ho; have n0_ := Aside0.mk (Kd.R_after (ok := (fun k_ => (P0_ k_ ∨ w.heap.size ≤ k_))) (by (with_reducible repeat (first | apply Kd.R_alloc | apply Kd.R_drewN | apply Kd.R_drew)); exact HO0.out) hg hat); have n1_ := Aside0.mk (hb); have n2_ := Aside0.mk (Kept.of_grown (S := (fun k_ => P0_ k_)) hg (by repeat (first | (with_reducible first | exact HK.out | apply Kept.alloc | apply Kept.drewN | apply Kept.drew) | exact HK.out)) (fun k_ e_ => (HO104.out.1 k_ e_).1.1)); have n3_ := Aside0.mk (ho); clear HO0; clear HB; clear HK; clear HO104; have HO0 := n0_; have HB := n1_; have HK := n2_; have HO107 := n3_; clear n0_ n1_ n2_ n3_; clear ho hb hg hat) | ((with_reducible refine gate_builtin (b := .append) (xs := #[.tmp 14, .tmp 18]) rfl ?_); at_builtin; refine Kd.R_append k154 (w0 := w0) w0.heap.size rfl (.tmp 14) (.tmp 18) 123 154 (.agg #[(.int .i64 0), (.int .i64 0)]) 16 rfl Try.underlying123 info154 rfl (by decide) (by omega) v106 y105 (⟨a1, a2⟩ : S154) [.int .i64 a1, .int .i64 a2] (fun k_ => (P0_ k_ ∨ w.heap.size ≤ k_) ∧ some k_ ≠ (.slice Ao9 l0.length co9 : Value).ownBlock) (fun _ => False) rfl rfl ?aP (fun _ hk => hk.elim) ?aF ?aO ?aB ?aS ?aL ?_; (case aP => exact k154_mkM _ _ _ (⟨a1, a2⟩ : S154)); (case aB => exact (by repeat (first | (with_reducible first | exact HB.out | apply below_alloc | apply pw_below_drewN | apply below_drew1)))); (case aF => exact (fun k_ hk => ⟨(.inr (Nat.le_trans (by first | exact HK.out.1 | exact (show Kept w _ (fun k_ => P0_ k_) from by repeat (first | (with_reducible first | exact HK.out | apply Kept.alloc | apply Kept.drewN | apply Kept.drew) | exact HK.out)).1) hk)), Kd.fresh' (Kd.R_lt (by (with_reducible repeat (first | apply Kd.R_alloc | apply Kd.R_drewN | apply Kd.R_drew)); exact HO0.out)) k_ hk⟩)); (case aO => exact (by (with_reducible repeat (first | apply Kd.R_alloc | apply Kd.R_drewN | apply Kd.R_drew)); exact HO107.out)); (case aS => exact (below_size (by repeat (first | (with_reducible first | exact HB.out | apply below_alloc | apply pw_below_drewN | apply below_drew1))))); (case aL => have := LMc8.out; omega); intro v109 w13 ho hb hg hat; rw [← Ny108.out] at ho; have n0_ := Aside0.mk (Kd.R_after (ok := (fun k_ => (P0_ k_ ∨ w.heap.size ≤ k_))) (by (with_reducible repeat (first | apply Kd.R_alloc | apply Kd.R_drewN | apply Kd.R_drew)); exact HO0.out) hg hat); have n1_ := Aside0.mk (hb); have n2_ := Aside0.mk (Kept.of_grown (S := (fun k_ => P0_ k_)) hg (by repeat (first | (with_reducible first | exact HK.out | apply Kept.alloc | apply Kept.drewN | apply Kept.drew) | exact HK.out)) (fun k_ e_ => (HO107.out.1 k_ e_).1)); have n3_ := Aside0.mk (ho); clear HO0; clear HB; clear HK; clear HO107; have HO0 := n0_; have HB := n1_; have HK := n2_; have HO110 := n3_; clear n0_ n1_ n2_ n3_; clear ho hb hg hat))
    go_ret
    exact ⟨_, by first | rfl | (simp <;> rfl) | (simp [*] <;> rfl), by (with_reducible repeat (first | apply Kd.R_alloc | apply Kd.R_drewN | apply Kd.R_drew)); exact Kd.R_mono HO110.out (fun _ hk => hk.1), by repeat (first | (with_reducible first | exact HB.out | apply below_alloc | apply pw_below_drewN | apply below_drew1)), by repeat (first | (with_reducible first | exact HK.out | apply Kept.alloc | apply Kept.drewN | apply Kept.drew) | exact HK.out)⟩
   ·rw [if_neg c8] at H
    exact absurd H (by simp)
  ·rw [if_neg c7] at H
   exact absurd H (by simp)
end Go.Proofs.Ytfocaefnmfkojaa.Q
namespace Go.Proofs.Ytfocaefnmfkojaa.Q
open Go.RowKit Go.Proofs.YtfocaefnmfkojaaW.PrintWords Go.Proofs.YtfocaefnmfkojaaW.PrintLast Go.Proofs.YtfocaefnmfkojaaW.PrintMore
attribute [local go_sem] max2_int min2_int max_two min_two max_three min_three max_four min_four   -- for this text's walks alone
set_option linter.unusedVariables false
set_option linter.unusedSimpArgs false
def ref11_follows.l0 : Nat → List (S154) → Int → Int → List Int → Int → Int → Int → Option (Bool)
 | 0, _, _, _, _, _, _, _ => none
 | k + 1, x0, x1, x2, x3, x4, x5, x13 => if x13 < x1 then ((ref02_Has.f k x0 x13 x5).bind fun t101 => (if t101 = true then ((ref09_Has.f x2 2).bind fun t102 => (if t102 = true then ((ref02_Has.f k x0 x4 x13).bind fun t103 => (if t103 = true then (some true) else ((ref09_Has.f x2 4).bind fun t104 => (if t104 = true then ((ref11_Ahead.f k x3 x4 x13).bind fun t105 => (if t105 = true then (some true) else (ref11_follows.l0 k x0 x1 x2 x3 x4 x5 (wrap64 (x13 + 1))))) else (ref11_follows.l0 k x0 x1 x2 x3 x4 x5 (wrap64 (x13 + 1))))))) else ((ref09_Has.f x2 4).bind fun t106 => (if t106 = true then ((ref11_Ahead.f k x3 x4 x13).bind fun t107 => (if t107 = true then (some true) else (ref11_follows.l0 k x0 x1 x2 x3 x4 x5 (wrap64 (x13 + 1))))) else (ref11_follows.l0 k x0 x1 x2 x3 x4 x5 (wrap64 (x13 + 1))))))) else (ref11_follows.l0 k x0 x1 x2 x3 x4 x5 (wrap64 (x13 + 1))))) else (some false)
def ref11_follows.f (k : Nat) (l0 : List (S154)) (a1 : Int) (a2 : Int) (l3 : List Int) (a4 : Int) (a5 : Int) : Option (Bool) := ref11_follows.l0 k l0 a1 a2 l3 a4 a5 0
set_option maxHeartbeats 8000000 in
set_option maxRecDepth 100000 in
theorem ref11_follows.calls (k : Nat) (A0 : Option Addr) (c0 : Nat) (l0 : List (S154)) (a1 : Int) (a2 : Int) (A3 : Option Addr) (c3 : Nat) (l3 : List Int) (a4 : Int) (a5 : Int) (r : Bool) (w : World) (hr0 : Kd.C k154 w A0 l0.length l0) (hc0 : l0.length ≤ c0) (hr3 : Kd.C (Kd.int .i64) w A3 l3.length l3) (hc3 : l3.length ≤ c3) (h : ref11_follows.f k l0 a1 a2 l3 a4 a5 = some r) :
  Calls Try.prog 114 #[.slice A0 l0.length c0, .int .i64 a1, .int .i64 a2, .slice A3 l3.length c3, .int .i64 a4, .int .i64 a5] w fun e w' => e = .returned (.bool r) ∧ Drawn0 w w' := by
 have HR0 := Aside0.mk hr0
 have HC0 := Aside0.mk hc0
 clear hr0 hc0
 have HR3 := Aside0.mk hr3
 have HC3 := Aside0.mk hc3
 clear hr3 hc3
 have H : (ref11_follows.l0 k l0 a1 a2 l3 a4 a5 0) = some r := h
 clear h
 have H' := Aside0.mk H
 clear H
 go_enter Try.func114, Try.ntmps114
 go_wp2
 go_loopg [13] k (fun kq v13 w' => ∃ (x13_1 : Int), v13 = .int .i64 x13_1 ∧ Aside0 (ref11_follows.l0 kq l0 a1 a2 l3 a4 a5 x13_1 = some r) ∧ Aside0 (kq ≤ k) ∧ Drawn0 w w')
 case atStart => exact ⟨(0), (by first | rfl | (simp; done) | (simp [*]; done)), H', ⟨Nat.le_refl _⟩, by repeat (first | exact Drawn0.refl _ | apply Drawn0.step)⟩
 case round =>
  clear H'
  try clear c1
  try clear p2
  try clear c3
  obtain ⟨x13_1, rfl, HA, HK1, ⟨m1, rfl⟩⟩ := hrel
  cases gk with
  | zero => exact absurd HA.out (by simp [ref11_follows.l0])
  | succ k1 =>
   have H := HA.out
   clear HA
   simp only [ref11_follows.l0] at H
   by_cases c7 : x13_1 < a1
   ·rw [if_pos c7] at H
    have c7b0 : decide (x13_1 < a1) = true := decide_eq_true c7
    clear c7
    replace H := Option.bind_eq_some_iff.mp H
    obtain ⟨t101, A80, H⟩ := H
    replace H : (if t101 = true then ((ref09_Has.f a2 2).bind fun t102 => (if t102 = true then ((ref02_Has.f k1 l0 a4 x13_1).bind fun t103 => (if t103 = true then (some true) else ((ref09_Has.f a2 4).bind fun t104 => (if t104 = true then ((ref11_Ahead.f k1 l3 a4 x13_1).bind fun t105 => (if t105 = true then (some true) else (ref11_follows.l0 k1 l0 a1 a2 l3 a4 a5 (wrap64 (x13_1 + 1))))) else (ref11_follows.l0 k1 l0 a1 a2 l3 a4 a5 (wrap64 (x13_1 + 1))))))) else ((ref09_Has.f a2 4).bind fun t106 => (if t106 = true then ((ref11_Ahead.f k1 l3 a4 x13_1).bind fun t107 => (if t107 = true then (some true) else (ref11_follows.l0 k1 l0 a1 a2 l3 a4 a5 (wrap64 (x13_1 + 1))))) else (ref11_follows.l0 k1 l0 a1 a2 l3 a4 a5 (wrap64 (x13_1 + 1))))))) else (ref11_follows.l0 k1 l0 a1 a2 l3 a4 a5 (wrap64 (x13_1 + 1)))) = some r := H
    have A8 := Aside0.mk A80
    clear A80
    by_cases c9 : t101 = true
    ·subst c9
     have H1 : ((ref09_Has.f a2 2).bind fun t102 => (if t102 = true then ((ref02_Has.f k1 l0 a4 x13_1).bind fun t103 => (if t103 = true then (some true) else ((ref09_Has.f a2 4).bind fun t104 => (if t104 = true then ((ref11_Ahead.f k1 l3 a4 x13_1).bind fun t105 => (if t105 = true then (some true) else (ref11_follows.l0 k1 l0 a1 a2 l3 a4 a5 (wrap64 (x13_1 + 1))))) else (ref11_follows.l0 k1 l0 a1 a2 l3 a4 a5 (wrap64 (x13_1 + 1))))))) else ((ref09_Has.f a2 4).bind fun t106 => (if t106 = true then ((ref11_Ahead.f k1 l3 a4 x13_1).bind fun t107 => (if t107 = true then (some true) else (ref11_follows.l0 k1 l0 a1 a2 l3 a4 a5 (wrap64 (x13_1 + 1))))) else (ref11_follows.l0 k1 l0 a1 a2 l3 a4 a5 (wrap64 (x13_1 + 1))))))) = some r := by rw [if_pos rfl] at H; exact H
     clear H
     have H := H1
     clear H1
     replace H := Option.bind_eq_some_iff.mp H
     obtain ⟨t102, A100, H⟩ := H
     replace H : (if t102 = true then ((ref02_Has.f k1 l0 a4 x13_1).bind fun t103 => (if t103 = true then (some true) else ((ref09_Has.f a2 4).bind fun t104 => (if t104 = true then ((ref11_Ahead.f k1 l3 a4 x13_1).bind fun t105 => (if t105 = true then (some true) else (ref11_follows.l0 k1 l0 a1 a2 l3 a4 a5 (wrap64 (x13_1 + 1))))) else (ref11_follows.l0 k1 l0 a1 a2 l3 a4 a5 (wrap64 (x13_1 + 1))))))) else ((ref09_Has.f a2 4).bind fun t106 => (if t106 = true then ((ref11_Ahead.f k1 l3 a4 x13_1).bind fun t107 => (if t107 = true then (some true) else (ref11_follows.l0 k1 l0 a1 a2 l3 a4 a5 (wrap64 (x13_1 + 1))))) else (ref11_follows.l0 k1 l0 a1 a2 l3 a4 a5 (wrap64 (x13_1 + 1)))))) = some r := H
     have A10 := Aside0.mk A100
     clear A100
     by_cases c11 : t102 = true
     ·subst c11
      have H1 : ((ref02_Has.f k1 l0 a4 x13_1).bind fun t103 => (if t103 = true then (some true) else ((ref09_Has.f a2 4).bind fun t104 => (if t104 = true then ((ref11_Ahead.f k1 l3 a4 x13_1).bind fun t105 => (if t105 = true then (some true) else (ref11_follows.l0 k1 l0 a1 a2 l3 a4 a5 (wrap64 (x13_1 + 1))))) else (ref11_follows.l0 k1 l0 a1 a2 l3 a4 a5 (wrap64 (x13_1 + 1))))))) = some r := by rw [if_pos rfl] at H; exact H
      clear H
      have H := H1
      clear H1
      replace H := Option.bind_eq_some_iff.mp H
      obtain ⟨t103, A120, H⟩ := H
      replace H : (if t103 = true then (some true) else ((ref09_Has.f a2 4).bind fun t104 => (if t104 = true then ((ref11_Ahead.f k1 l3 a4 x13_1).bind fun t105 => (if t105 = true then (some true) else (ref11_follows.l0 k1 l0 a1 a2 l3 a4 a5 (wrap64 (x13_1 + 1))))) else (ref11_follows.l0 k1 l0 a1 a2 l3 a4 a5 (wrap64 (x13_1 + 1)))))) = some r := H
      have A12 := Aside0.mk A120
      clear A120
      by_cases c13 : t103 = true
      ·subst c13
       have H1 : (some true) = some r := by rw [if_pos rfl] at H; exact H
       clear H
       have H := H1
       clear H1
       obtain rfl := Option.some.inj H
       go_wp2_with (first | ((with_reducible refine gate_callee (f := 113) rfl ?_); refine goesL_ (some 22) rfl rfl Try.func113 (by kernel_rfl) rfl #[.slice A0 l0.length c0, .int .i64 x13_1, .int .i64 a5] rfl (by (try simp only [List.map_toArray, List.map_cons, List.map_nil]); first | done | rfl | (simp only [List.length_drop, List.length_take]; rfl)) ?_; (with_reducible refine (ref02_Has.calls k1 _ _ l0 x13_1 a5 true _ ?side1 ?side2 A8.out).mono ?_); (case side1 => repeat (first | exact HR0.out | (with_reducible refine Kd.C_alloc ?_ _) | (with_reducible refine Kd.C_drewN ?_ _) | (with_reducible refine Kd.C_drew ?_))); (case side2 => exact HC0.out); rintro e w' ⟨rfl, ⟨nd, rfl⟩⟩; refine ⟨_, rfl, ?_⟩) | ((with_reducible refine gate_callee (f := 18) rfl ?_); refine goesL_ (some 24) rfl rfl Try.func18 (by kernel_rfl) rfl #[.int .i64 a2, .int .i64 2] rfl (by (try simp only [List.map_toArray, List.map_cons, List.map_nil]); first | done | rfl | (simp only [List.length_drop, List.length_take]; rfl)) ?_; (with_reducible refine (ref09_Has.calls a2 2 true _ A10.out).mono ?_); rintro e w' ⟨rfl, ⟨nd, rfl⟩⟩; refine ⟨_, rfl, ?_⟩) | (go_at_call 113; (with_reducible refine (ref02_Has.calls k1 _ _ l0 a4 x13_1 true _ ?side1 ?side2 A12.out).mono ?_); (case side1 => repeat (first | exact HR0.out | (with_reducible refine Kd.C_alloc ?_ _) | (with_reducible refine Kd.C_drewN ?_ _) | (with_reducible refine Kd.C_drew ?_))); (case side2 => exact HC0.out); rintro e w' ⟨rfl, ⟨nd, rfl⟩⟩))
       go_ret
       exact ⟨by first | rfl | (simp; done) | (simp [*]; done), by repeat (first | exact Drawn0.refl _ | apply Drawn0.step)⟩
      ·replace c13 := Bool.eq_false_iff.mpr c13
       subst c13
       have H1 : ((ref09_Has.f a2 4).bind fun t104 => (if t104 = true then ((ref11_Ahead.f k1 l3 a4 x13_1).bind fun t105 => (if t105 = true then (some true) else (ref11_follows.l0 k1 l0 a1 a2 l3 a4 a5 (wrap64 (x13_1 + 1))))) else (ref11_follows.l0 k1 l0 a1 a2 l3 a4 a5 (wrap64 (x13_1 + 1))))) = some r := by rw [if_neg (show ¬ (false = true) by decide)] at H; exact H
       clear H
       have H := H1
       clear H1
       replace H := Option.bind_eq_some_iff.mp H
       obtain ⟨t104, A140, H⟩ := H
       replace H : (if t104 = true then ((ref11_Ahead.f k1 l3 a4 x13_1).bind fun t105 => (if t105 = true then (some true) else (ref11_follows.l0 k1 l0 a1 a2 l3 a4 a5 (wrap64 (x13_1 + 1))))) else (ref11_follows.l0 k1 l0 a1 a2 l3 a4 a5 (wrap64 (x13_1 + 1)))) = some r := H
       have A14 := Aside0.mk A140
       clear A140
       by_cases c15 : t104 = true
       ·subst c15
        have H1 : ((ref11_Ahead.f k1 l3 a4 x13_1).bind fun t105 => (if t105 = true then (some true) else (ref11_follows.l0 k1 l0 a1 a2 l3 a4 a5 (wrap64 (x13_1 + 1))))) = some r := by rw [if_pos rfl] at H; exact H
        clear H
        have H := H1
        clear H1
        replace H := Option.bind_eq_some_iff.mp H
        obtain ⟨t105, A160, H⟩ := H
        replace H : (if t105 = true then (some true) else (ref11_follows.l0 k1 l0 a1 a2 l3 a4 a5 (wrap64 (x13_1 + 1)))) = some r := H
        have A16 := Aside0.mk A160
        clear A160
        by_cases c17 : t105 = true
        ·subst c17
         have H1 : (some true) = some r := by rw [if_pos rfl] at H; exact H
         clear H
         have H := H1
         clear H1
         obtain rfl := Option.some.inj H
         go_wp2_with (first | ((with_reducible refine gate_callee (f := 113) rfl ?_); refine goesL_ (some 22) rfl rfl Try.func113 (by kernel_rfl) rfl #[.slice A0 l0.length c0, .int .i64 x13_1, .int .i64 a5] rfl (by (try simp only [List.map_toArray, List.map_cons, List.map_nil]); first | done | rfl | (simp only [List.length_drop, List.length_take]; rfl)) ?_; (with_reducible refine (ref02_Has.calls k1 _ _ l0 x13_1 a5 true _ ?side1 ?side2 A8.out).mono ?_); (case side1 => repeat (first | exact HR0.out | (with_reducible refine Kd.C_alloc ?_ _) | (with_reducible refine Kd.C_drewN ?_ _) | (with_reducible refine Kd.C_drew ?_))); (case side2 => exact HC0.out); rintro e w' ⟨rfl, ⟨nd, rfl⟩⟩; refine ⟨_, rfl, ?_⟩) | ((with_reducible refine gate_callee (f := 18) rfl ?_); refine goesL_ (some 24) rfl rfl Try.func18 (by kernel_rfl) rfl #[.int .i64 a2, .int .i64 2] rfl (by (try simp only [List.map_toArray, List.map_cons, List.map_nil]); first | done | rfl | (simp only [List.length_drop, List.length_take]; rfl)) ?_; (with_reducible refine (ref09_Has.calls a2 2 true _ A10.out).mono ?_); rintro e w' ⟨rfl, ⟨nd, rfl⟩⟩; refine ⟨_, rfl, ?_⟩) | (go_at_call 113; (with_reducible refine (ref02_Has.calls k1 _ _ l0 a4 x13_1 false _ ?side1 ?side2 A12.out).mono ?_); (case side1 => repeat (first | exact HR0.out | (with_reducible refine Kd.C_alloc ?_ _) | (with_reducible refine Kd.C_drewN ?_ _) | (with_reducible refine Kd.C_drew ?_))); (case side2 => exact HC0.out); rintro e w' ⟨rfl, ⟨nd, rfl⟩⟩) | (go_at_call 18; (with_reducible refine (ref09_Has.calls a2 4 true _ A14.out).mono ?_); rintro e w' ⟨rfl, ⟨nd, rfl⟩⟩) | (go_at_call 118; (with_reducible refine (ref11_Ahead.calls k1 _ _ l3 a4 x13_1 true _ ?side1 ?side2 A16.out).mono ?_); (case side1 => repeat (first | exact HR3.out | (with_reducible refine Kd.C_alloc ?_ _) | (with_reducible refine Kd.C_drewN ?_ _) | (with_reducible refine Kd.C_drew ?_))); (case side2 => exact HC3.out); rintro e w' ⟨rfl, ⟨nd, rfl⟩⟩))
         go_ret
         exact ⟨by first | rfl | (simp; done) | (simp [*]; done), by repeat (first | exact Drawn0.refl _ | apply Drawn0.step)⟩
        ·replace c17 := Bool.eq_false_iff.mpr c17
         subst c17
         have H1 : (ref11_follows.l0 k1 l0 a1 a2 l3 a4 a5 (wrap64 (x13_1 + 1))) = some r := by rw [if_neg (show ¬ (false = true) by decide)] at H; exact H
         clear H
         have H := H1
         clear H1
         have H' := Aside0.mk H
         clear H
         go_wp2_with (first | ((with_reducible refine gate_callee (f := 113) rfl ?_); refine goesL_ (some 22) rfl rfl Try.func113 (by kernel_rfl) rfl #[.slice A0 l0.length c0, .int .i64 x13_1, .int .i64 a5] rfl (by (try simp only [List.map_toArray, List.map_cons, List.map_nil]); first | done | rfl | (simp only [List.length_drop, List.length_take]; rfl)) ?_; (with_reducible refine (ref02_Has.calls k1 _ _ l0 x13_1 a5 true _ ?side1 ?side2 A8.out).mono ?_); (case side1 => repeat (first | exact HR0.out | (with_reducible refine Kd.C_alloc ?_ _) | (with_reducible refine Kd.C_drewN ?_ _) | (with_reducible refine Kd.C_drew ?_))); (case side2 => exact HC0.out); rintro e w' ⟨rfl, ⟨nd, rfl⟩⟩; refine ⟨_, rfl, ?_⟩) | ((with_reducible refine gate_callee (f := 18) rfl ?_); refine goesL_ (some 24) rfl rfl Try.func18 (by kernel_rfl) rfl #[.int .i64 a2, .int .i64 2] rfl (by (try simp only [List.map_toArray, List.map_cons, List.map_nil]); first | done | rfl | (simp only [List.length_drop, List.length_take]; rfl)) ?_; (with_reducible refine (ref09_Has.calls a2 2 true _ A10.out).mono ?_); rintro e w' ⟨rfl, ⟨nd, rfl⟩⟩; refine ⟨_, rfl, ?_⟩) | (go_at_call 113; (with_reducible refine (ref02_Has.calls k1 _ _ l0 a4 x13_1 false _ ?side1 ?side2 A12.out).mono ?_); (case side1 => repeat (first | exact HR0.out | (with_reducible refine Kd.C_alloc ?_ _) | (with_reducible refine Kd.C_drewN ?_ _) | (with_reducible refine Kd.C_drew ?_))); (case side2 => exact HC0.out); rintro e w' ⟨rfl, ⟨nd, rfl⟩⟩) | (go_at_call 18; (with_reducible refine (ref09_Has.calls a2 4 true _ A14.out).mono ?_); rintro e w' ⟨rfl, ⟨nd, rfl⟩⟩) | (go_at_call 118; (with_reducible refine (ref11_Ahead.calls k1 _ _ l3 a4 x13_1 false _ ?side1 ?side2 A16.out).mono ?_); (case side1 => repeat (first | exact HR3.out | (with_reducible refine Kd.C_alloc ?_ _) | (with_reducible refine Kd.C_drewN ?_ _) | (with_reducible refine Kd.C_drew ?_))); (case side2 => exact HC3.out); rintro e w' ⟨rfl, ⟨nd, rfl⟩⟩))
         go_roundg k1
         case measure => have := HK1.out; omega
         case rel => exact ⟨(wrap64 (x13_1 + 1)), (by first | rfl | (simp; done) | (simp [*]; done)), H', ⟨by have := HK1.out; omega⟩, by repeat (first | exact Drawn0.refl _ | apply Drawn0.step)⟩
       ·replace c15 := Bool.eq_false_iff.mpr c15
        subst c15
        have H1 : (ref11_follows.l0 k1 l0 a1 a2 l3 a4 a5 (wrap64 (x13_1 + 1))) = some r := by rw [if_neg (show ¬ (false = true) by decide)] at H; exact H
        clear H
        have H := H1
        clear H1
        have H' := Aside0.mk H
        clear H
        go_wp2_with (first | ((with_reducible refine gate_callee (f := 113) rfl ?_); refine goesL_ (some 22) rfl rfl Try.func113 (by kernel_rfl) rfl #[.slice A0 l0.length c0, .int .i64 x13_1, .int .i64 a5] rfl (by (try simp only [List.map_toArray, List.map_cons, List.map_nil]); first | done | rfl | (simp only [List.length_drop, List.length_take]; rfl)) ?_; (with_reducible refine (ref02_Has.calls k1 _ _ l0 x13_1 a5 true _ ?side1 ?side2 A8.out).mono ?_); (case side1 => repeat (first | exact HR0.out | (with_reducible refine Kd.C_alloc ?_ _) | (with_reducible refine Kd.C_drewN ?_ _) | (with_reducible refine Kd.C_drew ?_))); (case side2 => exact HC0.out); rintro e w' ⟨rfl, ⟨nd, rfl⟩⟩; refine ⟨_, rfl, ?_⟩) | ((with_reducible refine gate_callee (f := 18) rfl ?_); refine goesL_ (some 24) rfl rfl Try.func18 (by kernel_rfl) rfl #[.int .i64 a2, .int .i64 2] rfl (by (try simp only [List.map_toArray, List.map_cons, List.map_nil]); first | done | rfl | (simp only [List.length_drop, List.length_take]; rfl)) ?_; (with_reducible refine (ref09_Has.calls a2 2 true _ A10.out).mono ?_); rintro e w' ⟨rfl, ⟨nd, rfl⟩⟩; refine ⟨_, rfl, ?_⟩) | (go_at_call 113; (with_reducible refine (ref02_Has.calls k1 _ _ l0 a4 x13_1 false _ ?side1 ?side2 A12.out).mono ?_); (case side1 => repeat (first | exact HR0.out | (with_reducible refine Kd.C_alloc ?_ _) | (with_reducible refine Kd.C_drewN ?_ _) | (with_reducible refine Kd.C_drew ?_))); (case side2 => exact HC0.out); rintro e w' ⟨rfl, ⟨nd, rfl⟩⟩) | (go_at_call 18; (with_reducible refine (ref09_Has.calls a2 4 false _ A14.out).mono ?_); rintro e w' ⟨rfl, ⟨nd, rfl⟩⟩))
        go_roundg k1
        case measure => have := HK1.out; omega
        case rel => exact ⟨(wrap64 (x13_1 + 1)), (by first | rfl | (simp; done) | (simp [*]; done)), H', ⟨by have := HK1.out; omega⟩, by repeat (first | exact Drawn0.refl _ | apply Drawn0.step)⟩
     ·replace c11 := Bool.eq_false_iff.mpr c11
      subst c11
      have H1 : ((ref09_Has.f a2 4).bind fun t106 => (if t106 = true then ((ref11_Ahead.f k1 l3 a4 x13_1).bind fun t107 => (if t107 = true then (some true) else (ref11_follows.l0 k1 l0 a1 a2 l3 a4 a5 (wrap64 (x13_1 + 1))))) else (ref11_follows.l0 k1 l0 a1 a2 l3 a4 a5 (wrap64 (x13_1 + 1))))) = some r := by rw [if_neg (show ¬ (false = true) by decide)] at H; exact H
      clear H
      have H := H1
      clear H1
      replace H := Option.bind_eq_some_iff.mp H
      obtain ⟨t106, A180, H⟩ := H
      replace H : (if t106 = true then ((ref11_Ahead.f k1 l3 a4 x13_1).bind fun t107 => (if t107 = true then (some true) else (ref11_follows.l0 k1 l0 a1 a2 l3 a4 a5 (wrap64 (x13_1 + 1))))) else (ref11_follows.l0 k1 l0 a1 a2 l3 a4 a5 (wrap64 (x13_1 + 1)))) = some r := H
      have A18 := Aside0.mk A180
      clear A180
      by_cases c19 : t106 = true
      ·subst c19
       have H1 : ((ref11_Ahead.f k1 l3 a4 x13_1).bind fun t107 => (if t107 = true then (some true) else (ref11_follows.l0 k1 l0 a1 a2 l3 a4 a5 (wrap64 (x13_1 + 1))))) = some r := by rw [if_pos rfl] at H; exact H
       clear H
       have H := H1
       clear H1
       replace H := Option.bind_eq_some_iff.mp H
       obtain ⟨t107, A200, H⟩ := H
       replace H : (if t107 = true then (some true) else (ref11_follows.l0 k1 l0 a1 a2 l3 a4 a5 (wrap64 (x13_1 + 1)))) = some r := H
       have A20 := Aside0.mk A200
       clear A200
       by_cases c21 : t107 = true
       ·subst c21
        have H1 : (some true) = some r := by rw [if_pos rfl] at H; exact H
        clear H
        have H := H1
        clear H1
        obtain rfl := Option.some.inj H
        go_wp2_with (first | ((with_reducible refine gate_callee (f := 113) rfl ?_); refine goesL_ (some 22) rfl rfl Try.func113 (by kernel_rfl) rfl #[.slice A0 l0.length c0, .int .i64 x13_1, .int .i64 a5] rfl (by (try simp only [List.map_toArray, List.map_cons, List.map_nil]); first | done | rfl | (simp only [List.length_drop, List.length_take]; rfl)) ?_; (with_reducible refine (ref02_Has.calls k1 _ _ l0 x13_1 a5 true _ ?side1 ?side2 A8.out).mono ?_); (case side1 => repeat (first | exact HR0.out | (with_reducible refine Kd.C_alloc ?_ _) | (with_reducible refine Kd.C_drewN ?_ _) | (with_reducible refine Kd.C_drew ?_))); (case side2 => exact HC0.out); rintro e w' ⟨rfl, ⟨nd, rfl⟩⟩; refine ⟨_, rfl, ?_⟩) | ((with_reducible refine gate_callee (f := 18) rfl ?_); refine goesL_ (some 24) rfl rfl Try.func18 (by kernel_rfl) rfl #[.int .i64 a2, .int .i64 2] rfl (by (try simp only [List.map_toArray, List.map_cons, List.map_nil]); first | done | rfl | (simp only [List.length_drop, List.length_take]; rfl)) ?_; (with_reducible refine (ref09_Has.calls a2 2 false _ A10.out).mono ?_); rintro e w' ⟨rfl, ⟨nd, rfl⟩⟩; refine ⟨_, rfl, ?_⟩) | (go_at_call 18; (with_reducible refine (ref09_Has.calls a2 4 true _ A18.out).mono ?_); rintro e w' ⟨rfl, ⟨nd, rfl⟩⟩) | (go_at_call 118; (with_reducible refine (ref11_Ahead.calls k1 _ _ l3 a4 x13_1 true _ ?side1 ?side2 A20.out).mono ?_); (case side1 => repeat (first | exact HR3.out | (with_reducible refine Kd.C_alloc ?_ _) | (with_reducible refine Kd.C_drewN ?_ _) | (with_reducible refine Kd.C_drew ?_))); (case side2 => exact HC3.out); rintro e w' ⟨rfl, ⟨nd, rfl⟩⟩))
        go_ret
        exact ⟨by first | rfl | (simp; done) | (simp [*]; done), by repeat (first | exact Drawn0.refl _ | apply Drawn0.step)⟩
       ·replace c21 := Bool.eq_false_iff.mpr c21
        subst c21
        have H1 : (ref11_follows.l0 k1 l0 a1 a2 l3 a4 a5 (wrap64 (x13_1 + 1))) = some r := by rw [if_neg (show ¬ (false = true) by decide)] at H; exact H
        clear H
        have H := H1
        clear H1
        have H' := Aside0.mk H
        clear H
        go_wp2_with (first | ((with_reducible refine gate_callee (f := 113) rfl ?_); refine goesL_ (some 22) rfl rfl Try.func113 (by kernel_rfl) rfl #[.slice A0 l0.length c0, .int .i64 x13_1, .int .i64 a5] rfl (by (try simp only [List.map_toArray, List.map_cons, List.map_nil]); first | done | rfl | (simp only [List.length_drop, List.length_take]; rfl)) ?_; (with_reducible refine (ref02_Has.calls k1 _ _ l0 x13_1 a5 true _ ?side1 ?side2 A8.out).mono ?_); (case side1 => repeat (first | exact HR0.out | (with_reducible refine Kd.C_alloc ?_ _) | (with_reducible refine Kd.C_drewN ?_ _) | (with_reducible refine Kd.C_drew ?_))); (case side2 => exact HC0.out); rintro e w' ⟨rfl, ⟨nd, rfl⟩⟩; refine ⟨_, rfl, ?_⟩) | ((with_reducible refine gate_callee (f := 18) rfl ?_); refine goesL_ (some 24) rfl rfl Try.func18 (by kernel_rfl) rfl #[.int .i64 a2, .int .i64 2] rfl (by (try simp only [List.map_toArray, List.map_cons, List.map_nil]); first | done | rfl | (simp only [List.length_drop, List.length_take]; rfl)) ?_; (with_reducible refine (ref09_Has.calls a2 2 false _ A10.out).mono ?_); rintro e w' ⟨rfl, ⟨nd, rfl⟩⟩; refine ⟨_, rfl, ?_⟩) | (go_at_call 18; (with_reducible refine (ref09_Has.calls a2 4 true _ A18.out).mono ?_); rintro e w' ⟨rfl, ⟨nd, rfl⟩⟩) | (go_at_call 118; (with_reducible refine (ref11_Ahead.calls k1 _ _ l3 a4 x13_1 false _ ?side1 ?side2 A20.out).mono ?_); (case side1 => repeat (first | exact HR3.out | (with_reducible refine Kd.C_alloc ?_ _) | (with_reducible refine Kd.C_drewN ?_ _) | (with_reducible refine Kd.C_drew ?_))); (case side2 => exact HC3.out); rintro e w' ⟨rfl, ⟨nd, rfl⟩⟩))
        go_roundg k1
        case measure => have := HK1.out; omega
        case rel => exact ⟨(wrap64 (x13_1 + 1)), (by first | rfl | (simp; done) | (simp [*]; done)), H', ⟨by have := HK1.out; omega⟩, by repeat (first | exact Drawn0.refl _ | apply Drawn0.step)⟩
      ·replace c19 := Bool.eq_false_iff.mpr c19
       subst c19
       have H1 : (ref11_follows.l0 k1 l0 a1 a2 l3 a4 a5 (wrap64 (x13_1 + 1))) = some r := by rw [if_neg (show ¬ (false = true) by decide)] at H; exact H
       clear H
       have H := H1
       clear H1
       have H' := Aside0.mk H
       clear H
       go_wp2_with (first | ((with_reducible refine gate_callee (f := 113) rfl ?_); refine goesL_ (some 22) rfl rfl Try.func113 (by kernel_rfl) rfl #[.slice A0 l0.length c0, .int .i64 x13_1, .int .i64 a5] rfl (by (try simp only [List.map_toArray, List.map_cons, List.map_nil]); first | done | rfl | (simp only [List.length_drop, List.length_take]; rfl)) ?_; (with_reducible refine (ref02_Has.calls k1 _ _ l0 x13_1 a5 true _ ?side1 ?side2 A8.out).mono ?_); (case side1 => repeat (first | exact HR0.out | (with_reducible refine Kd.C_alloc ?_ _) | (with_reducible refine Kd.C_drewN ?_ _) | (with_reducible refine Kd.C_drew ?_))); (case side2 => exact HC0.out); rintro e w' ⟨rfl, ⟨nd, rfl⟩⟩; refine ⟨_, rfl, ?_⟩) | ((with_reducible refine gate_callee (f := 18) rfl ?_); refine goesL_ (some 24) rfl rfl Try.func18 (by kernel_rfl) rfl #[.int .i64 a2, .int .i64 2] rfl (by (try simp only [List.map_toArray, List.map_cons, List.map_nil]); first | done | rfl | (simp only [List.length_drop, List.length_take]; rfl)) ?_; (with_reducible refine (ref09_Has.calls a2 2 false _ A10.out).mono ?_); rintro e w' ⟨rfl, ⟨nd, rfl⟩⟩; refine ⟨_, rfl, ?_⟩) | (go_at_call 18; (with_reducible refine (ref09_Has.calls a2 4 false _ A18.out).mono ?_); rintro e w' ⟨rfl, ⟨nd, rfl⟩⟩))
       go_roundg k1
       case measure => have := HK1.out; omega
       case rel => exact ⟨(wrap64 (x13_1 + 1)), (by first | rfl | (simp; done) | (simp [*]; done)), H', ⟨by have := HK1.out; omega⟩, by repeat (first | exact Drawn0.refl _ | apply Drawn0.step)⟩
    ·replace c9 := Bool.eq_false_iff.mpr c9
     subst c9
     have H1 : (ref11_follows.l0 k1 l0 a1 a2 l3 a4 a5 (wrap64 (x13_1 + 1))) = some r := by rw [if_neg (show ¬ (false = true) by decide)] at H; exact H
     clear H
     have H := H1
     clear H1
     have H' := Aside0.mk H
     clear H
     go_wp2_with (first | ((with_reducible refine gate_callee (f := 113) rfl ?_); refine goesL_ (some 22) rfl rfl Try.func113 (by kernel_rfl) rfl #[.slice A0 l0.length c0, .int .i64 x13_1, .int .i64 a5] rfl (by (try simp only [List.map_toArray, List.map_cons, List.map_nil]); first | done | rfl | (simp only [List.length_drop, List.length_take]; rfl)) ?_; (with_reducible refine (ref02_Has.calls k1 _ _ l0 x13_1 a5 false _ ?side1 ?side2 A8.out).mono ?_); (case side1 => repeat (first | exact HR0.out | (with_reducible refine Kd.C_alloc ?_ _) | (with_reducible refine Kd.C_drewN ?_ _) | (with_reducible refine Kd.C_drew ?_))); (case side2 => exact HC0.out); rintro e w' ⟨rfl, ⟨nd, rfl⟩⟩; refine ⟨_, rfl, ?_⟩))
     go_roundg k1
     case measure => have := HK1.out; omega
     case rel => exact ⟨(wrap64 (x13_1 + 1)), (by first | rfl | (simp; done) | (simp [*]; done)), H', ⟨by have := HK1.out; omega⟩, by repeat (first | exact Drawn0.refl _ | apply Drawn0.step)⟩
   ·rw [if_neg c7] at H
    have c7b0 : decide (x13_1 < a1) = false := decide_eq_false c7
    clear c7
    obtain rfl := Option.some.inj H
    go_wp2
    go_ret
    exact ⟨by first | rfl | (simp; done) | (simp [*]; done), by repeat (first | exact Drawn0.refl _ | apply Drawn0.step)⟩
end Go.Proofs.Ytfocaefnmfkojaa.Q
namespace Go.Proofs.Ytfocaefnmfkojaa.Q
open Go.RowKit Go.Proofs.YtfocaefnmfkojaaW.PrintWords Go.Proofs.YtfocaefnmfkojaaW.PrintLast Go.Proofs.YtfocaefnmfkojaaW.PrintMore
attribute [local go_sem] max2_int min2_int max_two min_two max_three min_three max_four min_four   -- for this text's walks alone
set_option linter.unusedVariables false
set_option linter.unusedSimpArgs false
mutual
def ref11_Of.l0 : Nat → List (S44) → Int → List Int → List (S154) → Int → Option ((List (S154)))
 | 0, _, _, _, _, _ => none
 | k + 1, x0, x1, x2, x7, x8 => if x8 < (x0.length : Int) then (ref11_Of.l1 k x0 x1 x2 x7 x8 0) else (ref11_Of.l2 k x0 x1 x2 x7 true)
def ref11_Of.l1 : Nat → List (S44) → Int → List Int → List (S154) → Int → Int → Option ((List (S154)))
 | 0, _, _, _, _, _, _ => none
 | k + 1, x0, x1, x2, x7, x8, x9 => if x9 < (x0.length : Int) then (if x8 = x9 then (ref11_Of.l1 k x0 x1 x2 x7 x8 (wrap64 (x9 + 1))) else ((ref11_must.f k x0 x1 x2 x8 x9).bind fun t104 => (if t104 = true then ((ref02_Put.f k x7 x8 x9).bind fun t105 => (ref11_Of.l1 k x0 x1 x2 t105 x8 (wrap64 (x9 + 1)))) else (ref11_Of.l1 k x0 x1 x2 x7 x8 (wrap64 (x9 + 1)))))) else (ref11_Of.l0 k x0 x1 x2 x7 (wrap64 (x8 + 1)))
def ref11_Of.l2 : Nat → List (S44) → Int → List Int → List (S154) → Bool → Option ((List (S154)))
 | 0, _, _, _, _, _ => none
 | k + 1, x0, x1, x2, x7, x10 => if x10 = true then (ref11_Of.l3 k x0 x1 x2 x7 false 0) else (some x7)
def ref11_Of.l3 : Nat → List (S44) → Int → List Int → List (S154) → Bool → Int → Option ((List (S154)))
 | 0, _, _, _, _, _, _ => none
 | k + 1, x0, x1, x2, x7, x10, x11 => if x11 < (x0.length : Int) then (ref11_Of.l4 k x0 x1 x2 x7 x10 x11 0) else (ref11_Of.l2 k x0 x1 x2 x7 x10)
def ref11_Of.l4 : Nat → List (S44) → Int → List Int → List (S154) → Bool → Int → Int → Option ((List (S154)))
 | 0, _, _, _, _, _, _, _ => none
 | k + 1, x0, x1, x2, x7, x10, x11, x12 => if x12 < (x0.length : Int) then ((ref02_Has.f k x7 x11 x12).bind fun t108 => (if t108 = true then (ref11_Of.l4 k x0 x1 x2 x7 x10 x11 (wrap64 (x12 + 1))) else ((ref11_follows.f k x7 (x0.length : Int) x1 x2 x11 x12).bind fun t109 => (if t109 = true then ((ref02_Put.f k x7 x11 x12).bind fun t110 => (ref11_Of.l4 k x0 x1 x2 t110 true x11 (wrap64 (x12 + 1)))) else (ref11_Of.l4 k x0 x1 x2 x7 x10 x11 (wrap64 (x12 + 1))))))) else (ref11_Of.l3 k x0 x1 x2 x7 x10 (wrap64 (x11 + 1)))
end
def ref11_Of.f (k : Nat) (l0 : List (S44)) (a1 : Int) (l2 : List Int) : Option ((List (S154))) := ref11_Of.l0 k l0 a1 l2 (([] : List (S154))) 0
set_option maxHeartbeats 8000000 in
set_option maxRecDepth 100000 in
theorem ref11_Of.calls (k : Nat) (A0 : Option Addr) (c0 : Nat) (l0 : List (S44)) (a1 : Int) (A2 : Option Addr) (c2 : Nat) (l2 : List Int) (r : List (S154)) (w : World) (hr0 : Kd.C k44 w A0 l0.length l0) (hc0 : l0.length ≤ c0) (hr2 : Kd.C (Kd.int .i64) w A2 l2.length l2) (hc2 : l2.length ≤ c2) (h : ref11_Of.f k l0 a1 l2 = some r) :
  Calls Try.prog 105 #[.slice A0 l0.length c0, .int .i64 a1, .slice A2 l2.length c2] w fun e w' => ∃ v0_ : Value, e = .returned (v0_) ∧ Kd.R k154 154 w' w.heap.size (fun _ => True) v0_ r ∧ Below w.heap.size w w' := by
 have HR0 := Aside0.mk hr0
 have HC0 := Aside0.mk hc0
 clear hr0 hc0
 have HR2 := Aside0.mk hr2
 have HC2 := Aside0.mk hc2
 clear hr2 hc2
 have HB := Aside0.mk (Below.refl w.heap.size w)
 have H : (ref11_Of.l0 k l0 a1 l2 (([] : List (S154))) 0) = some r := h
 clear h
 obtain ⟨y101, hy101⟩ : ∃ y_ : List (S154), y_ = (([] : List (S154))) := ⟨_, rfl⟩
 replace H : (ref11_Of.l0 k l0 a1 l2 y101 0) = some r := by first | (rw [hy101]; with_reducible exact H) | (have H2_ := (Option.bind_some _ _).symm.trans H; rw [hy101]; with_reducible exact H2_) | (have H2_ := (Option.bind_some _ _).symm.trans H; with_reducible exact H2_) | with_reducible exact H | (rw [hy101]; exact H) | exact H
 have Ny101 := Aside0.mk hy101
 clear hy101
 have H' := Aside0.mk H
 clear H
 go_enter Try.func105, Try.ntmps105
 go_wp2_with (first | ((with_reducible refine gate_dst (N := 13) rfl ?_); (try (refine gate_guard (by rfl) ?_; dsimp only)); refine Kd.R_lit k154 _ 154 ?hg (N := 13) ?hd (xs := ([] : List (S154))) (inner := []) (ok := fun _ => True) (okp := fun _ => True) ?hr ?hp (fun _ hk => hk) trivial (Below.refl _ _) (Nat.le_refl _) (by simp) ?_; (case hd => rfl); (case hg => rfl); (case hr => first | (go_simp; done) | (go_simp; rfl)); (case hp => exact (Reps.none _ _)); intro v102 w4 ho5 hb hg_ hnew_; clear hg_ hnew_; (first | rw [← Ny101.out] at ho5 | (simp only [Int.reduceToNat] at ho5; rw [← Ny101.out] at ho5)); have n0_ := Aside0.mk (Kd.R_lower ho5 (below_size (by repeat (first | (with_reducible first | exact HB.out | apply below_alloc | apply pw_below_drewN | apply below_drew1))))); have n1_ := Aside0.mk (below_step (by repeat (first | (with_reducible first | exact HB.out | apply below_alloc | apply pw_below_drewN | apply below_drew1))) hb); clear HB; have HO103 := n0_; have HB := n1_; clear n0_ n1_; clear hb ho5))
 go_loopg [7, 8] k (fun kq v7 v8 w' => ∃ (x7_1 : List (S154)) (x8_1 : Int), v8 = .int .i64 x8_1 ∧ Aside0 (ref11_Of.l0 kq l0 a1 l2 x7_1 x8_1 = some r) ∧ Aside0 (kq ≤ k) ∧ Aside0 (Kd.R k154 154 w' w.heap.size (fun _ => True) v7 x7_1) ∧ Aside0 (Below w.heap.size w w'))
 case atStart => exact ⟨(y101), (0), (by first | rfl | (simp; done) | (simp [*]; done)), H', ⟨Nat.le_refl _⟩, ⟨by (with_reducible repeat (first | apply Kd.R_alloc | apply Kd.R_drewN | apply Kd.R_drew)); exact HO103.out⟩, ⟨by repeat (first | (with_reducible first | exact HB.out | apply below_alloc | apply pw_below_drewN | apply below_drew1))⟩⟩
 case round =>
  clear H'
  try clear c1
  try clear c2
  try clear p2
  obtain ⟨x7_1, x8_1, rfl, HA, HK1, HO_7, HB⟩ := hrel
  cases gk with
  | zero => exact absurd HA.out (by simp [ref11_Of.l0])
  | succ k1 =>
   have H := HA.out
   clear HA
   simp only [ref11_Of.l0] at H
   by_cases c6 : x8_1 < (l0.length : Int)
   ·rw [if_pos c6] at H
    have c6b0 : decide (x8_1 < (l0.length : Int)) = true := decide_eq_true c6
    clear c6
    have H' := Aside0.mk H
    clear H
    go_wp2
    go_loopg [7, 9] k1 (fun kq v7 v9 w' => ∃ (x7_2 : List (S154)) (x9_2 : Int), v9 = .int .i64 x9_2 ∧ Aside0 (ref11_Of.l1 kq l0 a1 l2 x7_2 x8_1 x9_2 = some r) ∧ Aside0 (kq ≤ k1) ∧ Aside0 (Kd.R k154 154 w' w.heap.size (fun _ => True) v7 x7_2) ∧ Aside0 (Below w.heap.size w w'))
    case atStart => exact ⟨(x7_1), (0), (by first | rfl | (simp; done) | (simp [*]; done)), H', ⟨Nat.le_refl _⟩, ⟨by (with_reducible repeat (first | apply Kd.R_alloc | apply Kd.R_drewN | apply Kd.R_drew)); exact HO_7.out⟩, ⟨by repeat (first | (with_reducible first | exact HB.out | apply below_alloc | apply pw_below_drewN | apply below_drew1))⟩⟩
    case round =>
     clear H'
     try clear c1
     try clear c2
     try clear p2
     try clear c6
     try clear c6b0
     try clear p2
     obtain ⟨x7_2, x9_2, rfl, HA, HK2, HO_7, HB⟩ := hrel
     cases gk with
     | zero => exact absurd HA.out (by simp [ref11_Of.l1])
     | succ k2 =>
      have H := HA.out
      clear HA
      simp only [ref11_Of.l1] at H
      by_cases c7 : x9_2 < (l0.length : Int)
      ·rw [if_pos c7] at H
       have c7b0 : decide (x9_2 < (l0.length : Int)) = true := decide_eq_true c7
       clear c7
       by_cases c8 : x8_1 = x9_2
       ·rw [if_pos c8] at H
        have c8b0 : (x8_1 == x9_2) = true := beq_iff_eq.mpr c8
        have c8b1 : (x8_1 != x9_2) = false := bne_eq_false_iff_eq.mpr c8
        clear c8
        have H' := Aside0.mk H
        clear H
        go_wp2
        go_roundg k2
        case measure => have := HK1.out; have := HK2.out; omega
        case rel => exact ⟨(x7_2), (wrap64 (x9_2 + 1)), (by first | rfl | (simp; done) | (simp [*]; done)), H', ⟨by have := HK1.out; have := HK2.out; omega⟩, ⟨by (with_reducible repeat (first | apply Kd.R_alloc | apply Kd.R_drewN | apply Kd.R_drew)); exact HO_7.out⟩, ⟨by repeat (first | (with_reducible first | exact HB.out | apply below_alloc | apply pw_below_drewN | apply below_drew1))⟩⟩
       ·rw [if_neg c8] at H
        have c8b0 : (x8_1 == x9_2) = false := beq_eq_false_iff_ne.mpr c8
        have c8b1 : (x8_1 != x9_2) = true := bne_iff_ne.mpr c8
        replace H := Option.bind_eq_some_iff.mp H
        obtain ⟨t104, A90, H⟩ := H
        replace H : (if t104 = true then ((ref02_Put.f k2 x7_2 x8_1 x9_2).bind fun t105 => (ref11_Of.l1 k2 l0 a1 l2 t105 x8_1 (wrap64 (x9_2 + 1)))) else (ref11_Of.l1 k2 l0 a1 l2 x7_2 x8_1 (wrap64 (x9_2 + 1)))) = some r := H
        have A9 := Aside0.mk A90
        clear A90
        by_cases c10 : t104 = true
        ·subst c10
         have H1 : ((ref02_Put.f k2 x7_2 x8_1 x9_2).bind fun t105 => (ref11_Of.l1 k2 l0 a1 l2 t105 x8_1 (wrap64 (x9_2 + 1)))) = some r := by rw [if_pos rfl] at H; exact H
         clear H
         have H := H1
         clear H1
         replace H := Option.bind_eq_some_iff.mp H
         obtain ⟨t105, A110, H⟩ := H
         replace H : (ref11_Of.l1 k2 l0 a1 l2 t105 x8_1 (wrap64 (x9_2 + 1))) = some r := H
         have A11 := Aside0.mk A110
         clear A110
         have H' := Aside0.mk H
         clear H
         go_wp2_with (first | (go_at_call 111; (with_reducible refine (ref11_must.calls k2 _ _ l0 a1 _ _ l2 x8_1 x9_2 true _ ?side1 ?side2 ?side3 ?side4 A9.out).mono ?_); (case side1 => repeat (first | exact (Kd.C_below HR0.out HB.out) | (with_reducible refine Kd.C_alloc ?_ _) | (with_reducible refine Kd.C_drewN ?_ _) | (with_reducible refine Kd.C_drew ?_))); (case side2 => exact HC0.out); (case side3 => repeat (first | exact (Kd.C_below HR2.out HB.out) | (with_reducible refine Kd.C_alloc ?_ _) | (with_reducible refine Kd.C_drewN ?_ _) | (with_reducible refine Kd.C_drew ?_))); (case side4 => exact HC2.out); rintro e w12 ⟨rfl, hb⟩; have n0_ := Aside0.mk (Kd.R_below (by (with_reducible repeat (first | apply Kd.R_alloc | apply Kd.R_drewN | apply Kd.R_drew)); exact HO_7.out) hb); have n1_ := Aside0.mk (below_step (by repeat (first | (with_reducible first | exact HB.out | apply below_alloc | apply pw_below_drewN | apply below_drew1))) hb); clear HO_7; clear HB; have HO_7 := n0_; have HB := n1_; clear n0_ n1_; (try clear hb); (try clear hb2); (try clear hk); (try clear hi); obtain ⟨Ao13, co13, eo13⟩ := Kd.R_slice HO_7.out; subst eo13) | ((with_reducible refine gate_callee (f := 112) rfl ?_); refine goesL_ (some 40) rfl rfl Try.func112 (by kernel_rfl) rfl #[.slice Ao13 x7_2.length co13, .int .i64 x8_1, .int .i64 x9_2] rfl (by (try simp only [List.map_toArray, List.map_cons, List.map_nil]); first | done | rfl | (simp only [List.length_drop, List.length_take]; rfl)) ?_; (with_reducible refine (ref02_Put.calls k2 (fun k_ => some k_ = (.slice Ao13 x7_2.length co13 : Value).ownBlock) (.slice Ao13 x7_2.length co13) x7_2 x8_1 x9_2 t105 w _ ?side1 ?side2 A11.out).mono ?_); (case side1 => repeat (first | (with_reducible first | exact HB.out | apply below_alloc | apply pw_below_drewN | apply below_drew1))); (case side2 => exact Kd.R_tight rfl HO_7.out); rintro e w14 ⟨v106, rfl, ho0, hb, hkp⟩; refine ⟨_, rfl, ?_⟩; have n0_ := Aside0.mk (Kd.R_mono (ok' := fun k_ => True) ho0 (fun k_ hk_ => trivial)); have n1_ := Aside0.mk (hb); clear HB; clear HO_7; have HO107 := n0_; have HB := n1_; clear n0_ n1_; (try clear hb); (try clear hkp); (try clear ho0)))
         go_roundg k2
         case measure => have := HK1.out; have := HK2.out; omega
         case rel => exact ⟨(t105), (wrap64 (x9_2 + 1)), (by first | rfl | (simp; done) | (simp [*]; done)), H', ⟨by have := HK1.out; have := HK2.out; omega⟩, ⟨by (with_reducible repeat (first | apply Kd.R_alloc | apply Kd.R_drewN | apply Kd.R_drew)); exact HO107.out⟩, ⟨by repeat (first | (with_reducible first | exact HB.out | apply below_alloc | apply pw_below_drewN | apply below_drew1))⟩⟩
        ·replace c10 := Bool.eq_false_iff.mpr c10
         subst c10
         have H1 : (ref11_Of.l1 k2 l0 a1 l2 x7_2 x8_1 (wrap64 (x9_2 + 1))) = some r := by rw [if_neg (show ¬ (false = true) by decide)] at H; exact H
         clear H
         have H := H1
         clear H1
         have H' := Aside0.mk H
         clear H
         go_wp2_with (first | (go_at_call 111; (with_reducible refine (ref11_must.calls k2 _ _ l0 a1 _ _ l2 x8_1 x9_2 false _ ?side1 ?side2 ?side3 ?side4 A9.out).mono ?_); (case side1 => repeat (first | exact (Kd.C_below HR0.out HB.out) | (with_reducible refine Kd.C_alloc ?_ _) | (with_reducible refine Kd.C_drewN ?_ _) | (with_reducible refine Kd.C_drew ?_))); (case side2 => exact HC0.out); (case side3 => repeat (first | exact (Kd.C_below HR2.out HB.out) | (with_reducible refine Kd.C_alloc ?_ _) | (with_reducible refine Kd.C_drewN ?_ _) | (with_reducible refine Kd.C_drew ?_))); (case side4 => exact HC2.out); rintro e w15 ⟨rfl, hb⟩; have n0_ := Aside0.mk (Kd.R_below (by (with_reducible repeat (first | apply Kd.R_alloc | apply Kd.R_drewN | apply Kd.R_drew)); exact HO_7.out) hb); have n1_ := Aside0.mk (below_step (by repeat (first | (with_reducible first | exact HB.out | apply below_alloc | apply pw_below_drewN | apply below_drew1))) hb); clear HO_7; clear HB; have HO_7 := n0_; have HB := n1_; clear n0_ n1_; (try clear hb); (try clear hb2); (try clear hk); (try clear hi)))
         go_roundg k2
         case measure => have := HK1.out; have := HK2.out; omega
         case rel => exact ⟨(x7_2), (wrap64 (x9_2 + 1)), (by first | rfl | (simp; done) | (simp [*]; done)), H', ⟨by have := HK1.out; have := HK2.out; omega⟩, ⟨by (with_reducible repeat (first | apply Kd.R_alloc | apply Kd.R_drewN | apply Kd.R_drew)); exact HO_7.out⟩, ⟨by repeat (first | (with_reducible first | exact HB.out | apply below_alloc | apply pw_below_drewN | apply below_drew1))⟩⟩
      ·rw [if_neg c7] at H
       have c7b0 : decide (x9_2 < (l0.length : Int)) = false := decide_eq_false c7
       clear c7
       have H' := Aside0.mk H
       clear H
       go_wp2
       go_roundg k2
       case measure => have := HK1.out; have := HK2.out; omega
       case rel => exact ⟨(x7_2), (wrap64 (x8_1 + 1)), (by first | rfl | (simp; done) | (simp [*]; done)), H', ⟨by have := HK1.out; have := HK2.out; omega⟩, ⟨by (with_reducible repeat (first | apply Kd.R_alloc | apply Kd.R_drewN | apply Kd.R_drew)); exact HO_7.out⟩, ⟨by repeat (first | (with_reducible first | exact HB.out | apply below_alloc | apply pw_below_drewN | apply below_drew1))⟩⟩
   ·rw [if_neg c6] at H
    have c6b0 : decide (x8_1 < (l0.length : Int)) = false := decide_eq_false c6
    clear c6
    have H' := Aside0.mk H
    clear H
    go_wp2
    go_loopg [7, 10] k1 (fun kq v7 v10 w' => ∃ (x7_2 : List (S154)) (x10_2 : Bool), v10 = .bool x10_2 ∧ Aside0 (ref11_Of.l2 kq l0 a1 l2 x7_2 x10_2 = some r) ∧ Aside0 (kq ≤ k1) ∧ Aside0 (Kd.R k154 154 w' w.heap.size (fun _ => True) v7 x7_2) ∧ Aside0 (Below w.heap.size w w'))
    case atStart => exact ⟨(x7_1), (true), (by first | rfl | (simp; done) | (simp [*]; done)), H', ⟨Nat.le_refl _⟩, ⟨by (with_reducible repeat (first | apply Kd.R_alloc | apply Kd.R_drewN | apply Kd.R_drew)); exact HO_7.out⟩, ⟨by repeat (first | (with_reducible first | exact HB.out | apply below_alloc | apply pw_below_drewN | apply below_drew1))⟩⟩
    case round =>
     clear H'
     try clear c1
     try clear c2
     try clear p2
     try clear c6
     try clear c6b0
     try clear p6
     try clear c7
     try clear c7b0
     try clear c8
     try clear c8b0
     try clear c8b1
     try clear c10
     try clear c11
     try clear p2
     obtain ⟨x7_2, x10_2, rfl, HA, HK2, HO_7, HB⟩ := hrel
     cases gk with
     | zero => exact absurd HA.out (by simp [ref11_Of.l2])
     | succ k2 =>
      have H := HA.out
      clear HA
      simp only [ref11_Of.l2] at H
      by_cases c16 : x10_2 = true
      ·subst c16
       have H1 : (ref11_Of.l3 k2 l0 a1 l2 x7_2 false 0) = some r := by rw [if_pos rfl] at H; exact H
       clear H
       have H := H1
       clear H1
       have H' := Aside0.mk H
       clear H
       go_wp2
       go_loopg [7, 10, 11] k2 (fun kq v7 v10 v11 w' => ∃ (x7_3 : List (S154)) (x10_3 : Bool) (x11_3 : Int), v10 = .bool x10_3 ∧ v11 = .int .i64 x11_3 ∧ Aside0 (ref11_Of.l3 kq l0 a1 l2 x7_3 x10_3 x11_3 = some r) ∧ Aside0 (kq ≤ k2) ∧ Aside0 (Kd.R k154 154 w' w.heap.size (fun _ => True) v7 x7_3) ∧ Aside0 (Below w.heap.size w w'))
       case atStart => exact ⟨(x7_2), (false), (0), (by first | rfl | (simp; done) | (simp [*]; done)), (by first | rfl | (simp; done) | (simp [*]; done)), H', ⟨Nat.le_refl _⟩, ⟨by (with_reducible repeat (first | apply Kd.R_alloc | apply Kd.R_drewN | apply Kd.R_drew)); exact HO_7.out⟩, ⟨by repeat (first | (with_reducible first | exact HB.out | apply below_alloc | apply pw_below_drewN | apply below_drew1))⟩⟩
       case round =>
        clear H'
        try clear c1
        try clear c2
        try clear p2
        try clear c6
        try clear c6b0
        try clear p6
        try clear c7
        try clear c7b0
        try clear c8
        try clear c8b0
        try clear c8b1
        try clear c10
        try clear c11
        try clear c16
        try clear p2
        try clear p6
        obtain ⟨x7_3, x10_3, x11_3, rfl, rfl, HA, HK3, HO_7, HB⟩ := hrel
        cases gk with
        | zero => exact absurd HA.out (by simp [ref11_Of.l3])
        | succ k3 =>
         have H := HA.out
         clear HA
         simp only [ref11_Of.l3] at H
         by_cases c17 : x11_3 < (l0.length : Int)
         ·rw [if_pos c17] at H
          have c17b0 : decide (x11_3 < (l0.length : Int)) = true := decide_eq_true c17
          clear c17
          have H' := Aside0.mk H
          clear H
          go_wp2
          go_loopg [7, 10, 12] k3 (fun kq v7 v10 v12 w' => ∃ (x7_4 : List (S154)) (x10_4 : Bool) (x12_4 : Int), v10 = .bool x10_4 ∧ v12 = .int .i64 x12_4 ∧ Aside0 (ref11_Of.l4 kq l0 a1 l2 x7_4 x10_4 x11_3 x12_4 = some r) ∧ Aside0 (kq ≤ k3) ∧ Aside0 (Kd.R k154 154 w' w.heap.size (fun _ => True) v7 x7_4) ∧ Aside0 (Below w.heap.size w w'))
          case atStart => exact ⟨(x7_3), (x10_3), (0), (by first | rfl | (simp; done) | (simp [*]; done)), (by first | rfl | (simp; done) | (simp [*]; done)), H', ⟨Nat.le_refl _⟩, ⟨by (with_reducible repeat (first | apply Kd.R_alloc | apply Kd.R_drewN | apply Kd.R_drew)); exact HO_7.out⟩, ⟨by repeat (first | (with_reducible first | exact HB.out | apply below_alloc | apply pw_below_drewN | apply below_drew1))⟩⟩
          case round =>
           clear H'
           try clear c1
           try clear c2
           try clear p2
           try clear c6
           try clear c6b0
           try clear p6
           try clear c7
           try clear c7b0
           try clear c8
           try clear c8b0
           try clear c8b1
           try clear c10
           try clear c11
           try clear c16
           try clear c17
           try clear c17b0
           try clear p2
           try clear p6
           obtain ⟨x7_4, x10_4, x12_4, rfl, rfl, HA, HK4, HO_7, HB⟩ := hrel
           cases gk with
           | zero => exact absurd HA.out (by simp [ref11_Of.l4])
           | succ k4 =>
            have H := HA.out
            clear HA
            simp only [ref11_Of.l4] at H
            by_cases c18 : x12_4 < (l0.length : Int)
            ·rw [if_pos c18] at H
             have c18b0 : decide (x12_4 < (l0.length : Int)) = true := decide_eq_true c18
             clear c18
             replace H := Option.bind_eq_some_iff.mp H
             obtain ⟨t108, A190, H⟩ := H
             replace H : (if t108 = true then (ref11_Of.l4 k4 l0 a1 l2 x7_4 x10_4 x11_3 (wrap64 (x12_4 + 1))) else ((ref11_follows.f k4 x7_4 (l0.length : Int) a1 l2 x11_3 x12_4).bind fun t109 => (if t109 = true then ((ref02_Put.f k4 x7_4 x11_3 x12_4).bind fun t110 => (ref11_Of.l4 k4 l0 a1 l2 t110 true x11_3 (wrap64 (x12_4 + 1)))) else (ref11_Of.l4 k4 l0 a1 l2 x7_4 x10_4 x11_3 (wrap64 (x12_4 + 1)))))) = some r := H
             have A19 := Aside0.mk A190
             clear A190
             by_cases c20 : t108 = true
             ·subst c20
              have H1 : (ref11_Of.l4 k4 l0 a1 l2 x7_4 x10_4 x11_3 (wrap64 (x12_4 + 1))) = some r := by rw [if_pos rfl] at H; exact H
              clear H
              have H := H1
              clear H1
              have H' := Aside0.mk H
              clear H
              obtain ⟨Ao21, co21, eo21⟩ := Kd.R_slice HO_7.out
              subst eo21
              go_wp2_with (first | ((with_reducible refine gate_callee (f := 113) rfl ?_); refine goesL_ (some 57) rfl rfl Try.func113 (by kernel_rfl) rfl #[.slice Ao21 x7_4.length co21, .int .i64 x11_3, .int .i64 x12_4] rfl (by (try simp only [List.map_toArray, List.map_cons, List.map_nil]); first | done | rfl | (simp only [List.length_drop, List.length_take]; rfl)) ?_; (with_reducible refine (ref02_Has.calls k4 _ _ x7_4 x11_3 x12_4 true _ ?side1 ?side2 A19.out).mono ?_); (case side1 => repeat (first | exact (Kd.R_reads' HO_7.out).2.2 | (with_reducible refine Kd.C_alloc ?_ _) | (with_reducible refine Kd.C_drewN ?_ _) | (with_reducible refine Kd.C_drew ?_))); (case side2 => exact (Kd.R_reads' HO_7.out).2.1); rintro e w' ⟨rfl, ⟨nd, rfl⟩⟩; refine ⟨_, rfl, ?_⟩))
              go_roundg k4
              case measure => have := HK1.out; have := HK2.out; have := HK3.out; have := HK4.out; omega
              case rel => exact ⟨(x7_4), (x10_4), (wrap64 (x12_4 + 1)), (by first | rfl | (simp; done) | (simp [*]; done)), (by first | rfl | (simp; done) | (simp [*]; done)), H', ⟨by have := HK1.out; have := HK2.out; have := HK3.out; have := HK4.out; omega⟩, ⟨by (with_reducible repeat (first | apply Kd.R_alloc | apply Kd.R_drewN | apply Kd.R_drew)); exact HO_7.out⟩, ⟨by repeat (first | (with_reducible first | exact HB.out | apply below_alloc | apply pw_below_drewN | apply below_drew1))⟩⟩
             ·replace c20 := Bool.eq_false_iff.mpr c20
              subst c20
              have H1 : ((ref11_follows.f k4 x7_4 (l0.length : Int) a1 l2 x11_3 x12_4).bind fun t109 => (if t109 = true then ((ref02_Put.f k4 x7_4 x11_3 x12_4).bind fun t110 => (ref11_Of.l4 k4 l0 a1 l2 t110 true x11_3 (wrap64 (x12_4 + 1)))) else (ref11_Of.l4 k4 l0 a1 l2 x7_4 x10_4 x11_3 (wrap64 (x12_4 + 1))))) = some r := by rw [if_neg (show ¬ (false = true) by decide)] at H; exact H
              clear H
              have H := H1
              clear H1
              replace H := Option.bind_eq_some_iff.mp H
              obtain ⟨t109, A220, H⟩ := H
              replace H : (if t109 = true then ((ref02_Put.f k4 x7_4 x11_3 x12_4).bind fun t110 => (ref11_Of.l4 k4 l0 a1 l2 t110 true x11_3 (wrap64 (x12_4 + 1)))) else (ref11_Of.l4 k4 l0 a1 l2 x7_4 x10_4 x11_3 (wrap64 (x12_4 + 1)))) = some r := H
              have A22 := Aside0.mk A220
              clear A220
              by_cases c23 : t109 = true
              ·subst c23
               have H1 : ((ref02_Put.f k4 x7_4 x11_3 x12_4).bind fun t110 => (ref11_Of.l4 k4 l0 a1 l2 t110 true x11_3 (wrap64 (x12_4 + 1)))) = some r := by rw [if_pos rfl] at H; exact H
               clear H
               have H := H1
               clear H1
               replace H := Option.bind_eq_some_iff.mp H
               obtain ⟨t110, A240, H⟩ := H
               replace H : (ref11_Of.l4 k4 l0 a1 l2 t110 true x11_3 (wrap64 (x12_4 + 1))) = some r := H
               have A24 := Aside0.mk A240
               clear A240
               have H' := Aside0.mk H
               clear H
               obtain ⟨Ao25, co25, eo25⟩ := Kd.R_slice HO_7.out
               subst eo25
               go_wp2_with (first | ((with_reducible refine gate_callee (f := 113) rfl ?_); refine goesL_ (some 57) rfl rfl Try.func113 (by kernel_rfl) rfl #[.slice Ao25 x7_4.length co25, .int .i64 x11_3, .int .i64 x12_4] rfl (by (try simp only [List.map_toArray, List.map_cons, List.map_nil]); first | done | rfl | (simp only [List.length_drop, List.length_take]; rfl)) ?_; (with_reducible refine (ref02_Has.calls k4 _ _ x7_4 x11_3 x12_4 false _ ?side1 ?side2 A19.out).mono ?_); (case side1 => repeat (first | exact (Kd.R_reads' HO_7.out).2.2 | (with_reducible refine Kd.C_alloc ?_ _) | (with_reducible refine Kd.C_drewN ?_ _) | (with_reducible refine Kd.C_drew ?_))); (case side2 => exact (Kd.R_reads' HO_7.out).2.1); rintro e w' ⟨rfl, ⟨nd, rfl⟩⟩; refine ⟨_, rfl, ?_⟩) | (go_at_call 114; (with_reducible refine (ref11_follows.calls k4 _ _ x7_4 (l0.length : Int) a1 _ _ l2 x11_3 x12_4 true _ ?side1 ?side2 ?side3 ?side4 A22.out).mono ?_); (case side1 => repeat (first | exact (Kd.R_reads' HO_7.out).2.2 | (with_reducible refine Kd.C_alloc ?_ _) | (with_reducible refine Kd.C_drewN ?_ _) | (with_reducible refine Kd.C_drew ?_))); (case side2 => exact (Kd.R_reads' HO_7.out).2.1); (case side3 => repeat (first | exact (Kd.C_below HR2.out (by repeat (first | (with_reducible first | exact HB.out | apply below_alloc | apply pw_below_drewN | apply below_drew1)))) | (with_reducible refine Kd.C_alloc ?_ _) | (with_reducible refine Kd.C_drewN ?_ _) | (with_reducible refine Kd.C_drew ?_))); (case side4 => exact HC2.out); rintro e w' ⟨rfl, ⟨nd, rfl⟩⟩) | ((with_reducible refine gate_callee (f := 112) rfl ?_); refine goesL_ (some 72) rfl rfl Try.func112 (by kernel_rfl) rfl #[.slice Ao25 x7_4.length co25, .int .i64 x11_3, .int .i64 x12_4] rfl (by (try simp only [List.map_toArray, List.map_cons, List.map_nil]); first | done | rfl | (simp only [List.length_drop, List.length_take]; rfl)) ?_; (with_reducible refine (ref02_Put.calls k4 (fun k_ => some k_ = (.slice Ao25 x7_4.length co25 : Value).ownBlock) (.slice Ao25 x7_4.length co25) x7_4 x11_3 x12_4 t110 w _ ?side1 ?side2 A24.out).mono ?_); (case side1 => repeat (first | (with_reducible first | exact HB.out | apply below_alloc | apply pw_below_drewN | apply below_drew1))); (case side2 => exact Kd.R_tight rfl HO_7.out); rintro e w26 ⟨v111, rfl, ho0, hb, hkp⟩; refine ⟨_, rfl, ?_⟩; have n0_ := Aside0.mk (Kd.R_mono (ok' := fun k_ => True) ho0 (fun k_ hk_ => trivial)); have n1_ := Aside0.mk (hb); clear HB; clear HO_7; have HO112 := n0_; have HB := n1_; clear n0_ n1_; (try clear hb); (try clear hkp); (try clear ho0)))
               go_roundg k4
               case measure => have := HK1.out; have := HK2.out; have := HK3.out; have := HK4.out; omega
               case rel => exact ⟨(t110), (true), (wrap64 (x12_4 + 1)), (by first | rfl | (simp; done) | (simp [*]; done)), (by first | rfl | (simp; done) | (simp [*]; done)), H', ⟨by have := HK1.out; have := HK2.out; have := HK3.out; have := HK4.out; omega⟩, ⟨by (with_reducible repeat (first | apply Kd.R_alloc | apply Kd.R_drewN | apply Kd.R_drew)); exact HO112.out⟩, ⟨by repeat (first | (with_reducible first | exact HB.out | apply below_alloc | apply pw_below_drewN | apply below_drew1))⟩⟩
              ·replace c23 := Bool.eq_false_iff.mpr c23
               subst c23
               have H1 : (ref11_Of.l4 k4 l0 a1 l2 x7_4 x10_4 x11_3 (wrap64 (x12_4 + 1))) = some r := by rw [if_neg (show ¬ (false = true) by decide)] at H; exact H
               clear H
               have H := H1
               clear H1
               have H' := Aside0.mk H
               clear H
               obtain ⟨Ao27, co27, eo27⟩ := Kd.R_slice HO_7.out
               subst eo27
               go_wp2_with (first | ((with_reducible refine gate_callee (f := 113) rfl ?_); refine goesL_ (some 57) rfl rfl Try.func113 (by kernel_rfl) rfl #[.slice Ao27 x7_4.length co27, .int .i64 x11_3, .int .i64 x12_4] rfl (by (try simp only [List.map_toArray, List.map_cons, List.map_nil]); first | done | rfl | (simp only [List.length_drop, List.length_take]; rfl)) ?_; (with_reducible refine (ref02_Has.calls k4 _ _ x7_4 x11_3 x12_4 false _ ?side1 ?side2 A19.out).mono ?_); (case side1 => repeat (first | exact (Kd.R_reads' HO_7.out).2.2 | (with_reducible refine Kd.C_alloc ?_ _) | (with_reducible refine Kd.C_drewN ?_ _) | (with_reducible refine Kd.C_drew ?_))); (case side2 => exact (Kd.R_reads' HO_7.out).2.1); rintro e w' ⟨rfl, ⟨nd, rfl⟩⟩; refine ⟨_, rfl, ?_⟩) | (go_at_call 114; (with_reducible refine (ref11_follows.calls k4 _ _ x7_4 (l0.length : Int) a1 _ _ l2 x11_3 x12_4 false _ ?side1 ?side2 ?side3 ?side4 A22.out).mono ?_); (case side1 => repeat (first | exact (Kd.R_reads' HO_7.out).2.2 | (with_reducible refine Kd.C_alloc ?_ _) | (with_reducible refine Kd.C_drewN ?_ _) | (with_reducible refine Kd.C_drew ?_))); (case side2 => exact (Kd.R_reads' HO_7.out).2.1); (case side3 => repeat (first | exact (Kd.C_below HR2.out (by repeat (first | (with_reducible first | exact HB.out | apply below_alloc | apply pw_below_drewN | apply below_drew1)))) | (with_reducible refine Kd.C_alloc ?_ _) | (with_reducible refine Kd.C_drewN ?_ _) | (with_reducible refine Kd.C_drew ?_))); (case side4 => exact HC2.out); rintro e w' ⟨rfl, ⟨nd, rfl⟩⟩))
               go_roundg k4
               case measure => have := HK1.out; have := HK2.out; have := HK3.out; have := HK4.out; omega
               case rel => exact ⟨(x7_4), (x10_4), (wrap64 (x12_4 + 1)), (by first | rfl | (simp; done) | (simp [*]; done)), (by first | rfl | (simp; done) | (simp [*]; done)), H', ⟨by have := HK1.out; have := HK2.out; have := HK3.out; have := HK4.out; omega⟩, ⟨by (with_reducible repeat (first | apply Kd.R_alloc | apply Kd.R_drewN | apply Kd.R_drew)); exact HO_7.out⟩, ⟨by repeat (first | (with_reducible first | exact HB.out | apply below_alloc | apply pw_below_drewN | apply below_drew1))⟩⟩
            ·rw [if_neg c18] at H
             have c18b0 : decide (x12_4 < (l0.length : Int)) = false := decide_eq_false c18
             clear c18
             have H' := Aside0.mk H
             clear H
             go_wp2
             go_roundg k4
             case measure => have := HK1.out; have := HK2.out; have := HK3.out; have := HK4.out; omega
             case rel => exact ⟨(x7_4), (x10_4), (wrap64 (x11_3 + 1)), (by first | rfl | (simp; done) | (simp [*]; done)), (by first | rfl | (simp; done) | (simp [*]; done)), H', ⟨by have := HK1.out; have := HK2.out; have := HK3.out; have := HK4.out; omega⟩, ⟨by (with_reducible repeat (first | apply Kd.R_alloc | apply Kd.R_drewN | apply Kd.R_drew)); exact HO_7.out⟩, ⟨by repeat (first | (with_reducible first | exact HB.out | apply below_alloc | apply pw_below_drewN | apply below_drew1))⟩⟩
         ·rw [if_neg c17] at H
          have c17b0 : decide (x11_3 < (l0.length : Int)) = false := decide_eq_false c17
          clear c17
          have H' := Aside0.mk H
          clear H
          go_wp2
          go_roundg k3
          case measure => have := HK1.out; have := HK2.out; have := HK3.out; omega
          case rel => exact ⟨(x7_3), (x10_3), (by first | rfl | (simp; done) | (simp [*]; done)), H', ⟨by have := HK1.out; have := HK2.out; have := HK3.out; omega⟩, ⟨by (with_reducible repeat (first | apply Kd.R_alloc | apply Kd.R_drewN | apply Kd.R_drew)); exact HO_7.out⟩, ⟨by repeat (first | (with_reducible first | exact HB.out | apply below_alloc | apply pw_below_drewN | apply below_drew1))⟩⟩
      ·replace c16 := Bool.eq_false_iff.mpr c16
       subst c16
       have H1 : (some x7_2) = some r := by rw [if_neg (show ¬ (false = true) by decide)] at H; exact H
       clear H
       have H := H1
       clear H1
       obtain rfl := Option.some.inj H
       go_wp2
       go_ret
       exact ⟨_, by first | rfl | (simp <;> rfl) | (simp [*] <;> rfl), by (with_reducible repeat (first | apply Kd.R_alloc | apply Kd.R_drewN | apply Kd.R_drew)); exact HO_7.out, by repeat (first | (with_reducible first | exact HB.out | apply below_alloc | apply pw_below_drewN | apply below_drew1))⟩
end Go.Proofs.Ytfocaefnmfkojaa.Q
namespace Go.Proofs.Ytfocaefnmfkojaa.Q
open Go.RowKit Go.Proofs.YtfocaefnmfkojaaW.PrintWords Go.Proofs.YtfocaefnmfkojaaW.PrintLast Go.Proofs.YtfocaefnmfkojaaW.PrintMore
attribute [local go_sem] max2_int min2_int max_two min_two max_three min_three max_four min_four   -- for this text's walks alone
set_option linter.unusedVariables false
set_option linter.unusedSimpArgs false
def ref12_last.l0 : Nat → List (S44) → List Int → List (S154) → Int → Int → Int → Int → Option (Int)
 | 0, _, _, _, _, _, _, _ => none
 | k + 1, x0, x1, x2, x3, x4, x11, x12 => if x12 < (x1.length : Int) then (if 0 ≤ x12 then ((ref02_Has.f k x2 (rd x1 x12) x3).bind fun t102 => (if t102 = true then ((ref08_Writes.f k x0 (rd x1 x12) x4).bind fun t104 => (if t104 = true then (ref12_last.l0 k x0 x1 x2 x3 x4 (rd x1 x12) (wrap64 (x12 + 1))) else (ref12_last.l0 k x0 x1 x2 x3 x4 x11 (wrap64 (x12 + 1))))) else (ref12_last.l0 k x0 x1 x2 x3 x4 x11 (wrap64 (x12 + 1))))) else (none)) else (some x11)
def ref12_last.f (k : Nat) (l0 : List (S44)) (l1 : List Int) (l2 : List (S154)) (a3 : Int) (a4 : Int) : Option (Int) := ref12_last.l0 k l0 l1 l2 a3 a4 (-1) 0
set_option maxHeartbeats 8000000 in
set_option maxRecDepth 100000 in
theorem ref12_last.calls (k : Nat) (A0 : Option Addr) (c0 : Nat) (l0 : List (S44)) (A1 : Option Addr) (c1 : Nat) (l1 : List Int) (A2 : Option Addr) (c2 : Nat) (l2 : List (S154)) (a3 : Int) (a4 : Int) (r : Int) (w : World) (hr0 : Kd.C k44 w A0 l0.length l0) (hc0 : l0.length ≤ c0) (hr1 : Kd.C (Kd.int .i64) w A1 l1.length l1) (hc1 : l1.length ≤ c1) (hr2 : Kd.C k154 w A2 l2.length l2) (hc2 : l2.length ≤ c2) (h : ref12_last.f k l0 l1 l2 a3 a4 = some r) :
  Calls Try.prog 115 #[.slice A0 l0.length c0, .slice A1 l1.length c1, .slice A2 l2.length c2, .int .i64 a3, .int .i64 a4] w fun e w' => e = .returned (.int .i64 r) ∧ Below w.heap.size w w' := by
 have HR0 := Aside0.mk hr0
 have HC0 := Aside0.mk hc0
 clear hr0 hc0
 have HR1 := Aside0.mk hr1
 have HC1 := Aside0.mk hc1
 clear hr1 hc1
 have HR2 := Aside0.mk hr2
 have HC2 := Aside0.mk hc2
 clear hr2 hc2
 have HB := Aside0.mk (Below.refl w.heap.size w)
 have H : (ref12_last.l0 k l0 l1 l2 a3 a4 (-1) 0) = some r := h
 clear h
 have H' := Aside0.mk H
 clear H
 go_enter Try.func115, Try.ntmps115
 go_wp2
 go_loopg [11, 12] k (fun kq v11 v12 w' => ∃ (x11_1 : Int) (x12_1 : Int), v11 = .int .i64 x11_1 ∧ v12 = .int .i64 x12_1 ∧ Aside0 (ref12_last.l0 kq l0 l1 l2 a3 a4 x11_1 x12_1 = some r) ∧ Aside0 (kq ≤ k) ∧ Aside0 (Below w.heap.size w w'))
 case atStart => exact ⟨((-1)), (0), (by first | rfl | (simp; done) | (simp [*]; done)), (by first | rfl | (simp; done) | (simp [*]; done)), H', ⟨Nat.le_refl _⟩, ⟨by repeat (first | (with_reducible first | exact HB.out | apply below_alloc | apply pw_below_drewN | apply below_drew1))⟩⟩
 case round =>
  clear H'
  try clear c1
  try clear c2
  try clear p2
  obtain ⟨x11_1, x12_1, rfl, rfl, HA, HK1, HB⟩ := hrel
  cases gk with
  | zero => exact absurd HA.out (by simp [ref12_last.l0])
  | succ k1 =>
   have H := HA.out
   clear HA
   simp only [ref12_last.l0] at H
   by_cases c6 : x12_1 < (l1.length : Int)
   ·rw [if_pos c6] at H
    have c6b0 : decide (x12_1 < (l1.length : Int)) = true := decide_eq_true c6
    clear c6
    by_cases c7 : 0 ≤ x12_1
    ·rw [if_pos c7] at H
     have c7b0 : decide (0 ≤ x12_1) = true := decide_eq_true c7
     clear c7
     replace H := Option.bind_eq_some_iff.mp H
     obtain ⟨t102, A80, H⟩ := H
     replace H : (if t102 = true then ((ref08_Writes.f k1 l0 (rd l1 x12_1) a4).bind fun t104 => (if t104 = true then (ref12_last.l0 k1 l0 l1 l2 a3 a4 (rd l1 x12_1) (wrap64 (x12_1 + 1))) else (ref12_last.l0 k1 l0 l1 l2 a3 a4 x11_1 (wrap64 (x12_1 + 1))))) else (ref12_last.l0 k1 l0 l1 l2 a3 a4 x11_1 (wrap64 (x12_1 + 1)))) = some r := H
     have A8 := Aside0.mk A80
     clear A80
     by_cases c9 : t102 = true
     ·subst c9
      have H1 : ((ref08_Writes.f k1 l0 (rd l1 x12_1) a4).bind fun t104 => (if t104 = true then (ref12_last.l0 k1 l0 l1 l2 a3 a4 (rd l1 x12_1) (wrap64 (x12_1 + 1))) else (ref12_last.l0 k1 l0 l1 l2 a3 a4 x11_1 (wrap64 (x12_1 + 1))))) = some r := by rw [if_pos rfl] at H; exact H
      clear H
      have H := H1
      clear H1
      replace H := Option.bind_eq_some_iff.mp H
      obtain ⟨t104, A100, H⟩ := H
      replace H : (if t104 = true then (ref12_last.l0 k1 l0 l1 l2 a3 a4 (rd l1 x12_1) (wrap64 (x12_1 + 1))) else (ref12_last.l0 k1 l0 l1 l2 a3 a4 x11_1 (wrap64 (x12_1 + 1)))) = some r := H
      have A10 := Aside0.mk A100
      clear A100
      by_cases c11 : t104 = true
      ·subst c11
       have H1 : (ref12_last.l0 k1 l0 l1 l2 a3 a4 (rd l1 x12_1) (wrap64 (x12_1 + 1))) = some r := by rw [if_pos rfl] at H; exact H
       clear H
       have H := H1
       clear H1
       have H' := Aside0.mk H
       clear H
       have p101 : 0 ≤ (x12_1 : Int) := of_decide_eq_true (by assumption)
       have q101 : x12_1 < (l1.length : Int) := of_decide_eq_true (by assumption)
       obtain ⟨ad101, e101, hx101_0⟩ := Kd.at_int HR1.out x12_1 p101 q101
       cases e101
       replace hx101_0 := (HB.out.cell (World.block_lt_of_cell? w _ hx101_0)).trans hx101_0
       replace p101 := eq_true p101
       replace q101 := eq_true q101
       go_wp2_with (first | ((with_reducible refine gate_callee (f := 113) rfl ?_); refine goesL_ (some 25) rfl rfl Try.func113 (by kernel_rfl) rfl #[.slice A2 l2.length c2, .int .i64 (rd l1 x12_1), .int .i64 a3] rfl (by (try simp only [List.map_toArray, List.map_cons, List.map_nil]); first | done | rfl | (simp only [List.length_drop, List.length_take]; rfl)) ?_; (with_reducible refine (ref02_Has.calls k1 _ _ l2 (rd l1 x12_1) a3 true _ ?side1 ?side2 A8.out).mono ?_); (case side1 => repeat (first | exact (Kd.C_below HR2.out HB.out) | (with_reducible refine Kd.C_alloc ?_ _) | (with_reducible refine Kd.C_drewN ?_ _) | (with_reducible refine Kd.C_drew ?_))); (case side2 => exact HC2.out); rintro e w' ⟨rfl, ⟨nd, rfl⟩⟩; refine ⟨_, rfl, ?_⟩; have p103 : 0 ≤ (x12_1 : Int) := of_decide_eq_true (by assumption); have q103 : x12_1 < (l1.length : Int) := of_decide_eq_true (by assumption); obtain ⟨ad103, e103, hx103_0⟩ := Kd.at_int HR1.out x12_1 p103 q103; obtain rfl : ad101 = ad103 := (by injection e103); replace hx103_0 := (HB.out.cell (World.block_lt_of_cell? w _ hx103_0)).trans hx103_0; replace p103 := eq_true p103; replace q103 := eq_true q103) | (go_at_call 82; (with_reducible refine (ref08_Writes.calls k1 _ _ l0 (rd l1 x12_1) a4 true _ ?side1 ?side2 A10.out).mono ?_); (case side1 => repeat (first | exact (Kd.C_below HR0.out (by repeat (first | (with_reducible first | exact HB.out | apply below_alloc | apply pw_below_drewN | apply below_drew1)))) | (with_reducible refine Kd.C_alloc ?_ _) | (with_reducible refine Kd.C_drewN ?_ _) | (with_reducible refine Kd.C_drew ?_))); (case side2 => exact HC0.out); rintro e w12 ⟨rfl, hb⟩; have n0_ := Aside0.mk (below_step (by repeat (first | (with_reducible first | exact HB.out | apply below_alloc | apply pw_below_drewN | apply below_drew1))) hb); clear HB; have HB := n0_; clear n0_; (try clear hb); (try clear hb2); (try clear hk); (try clear hi); have p105 : 0 ≤ (x12_1 : Int) := of_decide_eq_true (by assumption); have q105 : x12_1 < (l1.length : Int) := of_decide_eq_true (by assumption); obtain ⟨ad105, e105, hx105_0⟩ := Kd.at_int HR1.out x12_1 p105 q105; obtain rfl : ad101 = ad105 := (by injection e105); replace hx105_0 := (HB.out.cell (World.block_lt_of_cell? w _ hx105_0)).trans hx105_0; replace p105 := eq_true p105; replace q105 := eq_true q105))
       go_roundg k1
       case measure => have := HK1.out; omega
       case rel => exact ⟨(rd l1 x12_1), (wrap64 (x12_1 + 1)), (by first | rfl | (simp; done) | (simp [*]; done)), (by first | rfl | (simp; done) | (simp [*]; done)), H', ⟨by have := HK1.out; omega⟩, ⟨by repeat (first | (with_reducible first | exact HB.out | apply below_alloc | apply pw_below_drewN | apply below_drew1))⟩⟩
      ·replace c11 := Bool.eq_false_iff.mpr c11
       subst c11
       have H1 : (ref12_last.l0 k1 l0 l1 l2 a3 a4 x11_1 (wrap64 (x12_1 + 1))) = some r := by rw [if_neg (show ¬ (false = true) by decide)] at H; exact H
       clear H
       have H := H1
       clear H1
       have H' := Aside0.mk H
       clear H
       have p101 : 0 ≤ (x12_1 : Int) := of_decide_eq_true (by assumption)
       have q101 : x12_1 < (l1.length : Int) := of_decide_eq_true (by assumption)
       obtain ⟨ad101, e101, hx101_0⟩ := Kd.at_int HR1.out x12_1 p101 q101
       cases e101
       replace hx101_0 := (HB.out.cell (World.block_lt_of_cell? w _ hx101_0)).trans hx101_0
       replace p101 := eq_true p101
       replace q101 := eq_true q101
       go_wp2_with (first | ((with_reducible refine gate_callee (f := 113) rfl ?_); refine goesL_ (some 25) rfl rfl Try.func113 (by kernel_rfl) rfl #[.slice A2 l2.length c2, .int .i64 (rd l1 x12_1), .int .i64 a3] rfl (by (try simp only [List.map_toArray, List.map_cons, List.map_nil]); first | done | rfl | (simp only [List.length_drop, List.length_take]; rfl)) ?_; (with_reducible refine (ref02_Has.calls k1 _ _ l2 (rd l1 x12_1) a3 true _ ?side1 ?side2 A8.out).mono ?_); (case side1 => repeat (first | exact (Kd.C_below HR2.out HB.out) | (with_reducible refine Kd.C_alloc ?_ _) | (with_reducible refine Kd.C_drewN ?_ _) | (with_reducible refine Kd.C_drew ?_))); (case side2 => exact HC2.out); rintro e w' ⟨rfl, ⟨nd, rfl⟩⟩; refine ⟨_, rfl, ?_⟩; have p103 : 0 ≤ (x12_1 : Int) := of_decide_eq_true (by assumption); have q103 : x12_1 < (l1.length : Int) := of_decide_eq_true (by assumption); obtain ⟨ad103, e103, hx103_0⟩ := Kd.at_int HR1.out x12_1 p103 q103; obtain rfl : ad101 = ad103 := (by injection e103); replace hx103_0 := (HB.out.cell (World.block_lt_of_cell? w _ hx103_0)).trans hx103_0; replace p103 := eq_true p103; replace q103 := eq_true q103) | (go_at_call 82; (with_reducible refine (ref08_Writes.calls k1 _ _ l0 (rd l1 x12_1) a4 false _ ?side1 ?side2 A10.out).mono ?_); (case side1 => repeat (first | exact (Kd.C_below HR0.out (by repeat (first | (with_reducible first | exact HB.out | apply below_alloc | apply pw_below_drewN | apply below_drew1)))) | (with_reducible refine Kd.C_alloc ?_ _) | (with_reducible refine Kd.C_drewN ?_ _) | (with_reducible refine Kd.C_drew ?_))); (case side2 => exact HC0.out); rintro e w13 ⟨rfl, hb⟩; have n0_ := Aside0.mk (below_step (by repeat (first | (with_reducible first | exact HB.out | apply below_alloc | apply pw_below_drewN | apply below_drew1))) hb); clear HB; have HB := n0_; clear n0_; (try clear hb); (try clear hb2); (try clear hk); (try clear hi)))
       go_roundg k1
       case measure => have := HK1.out; omega
       case rel => exact ⟨(x11_1), (wrap64 (x12_1 + 1)), (by first | rfl | (simp; done) | (simp [*]; done)), (by first | rfl | (simp; done) | (simp [*]; done)), H', ⟨by have := HK1.out; omega⟩, ⟨by repeat (first | (with_reducible first | exact HB.out | apply below_alloc | apply pw_below_drewN | apply below_drew1))⟩⟩
     ·replace c9 := Bool.eq_false_iff.mpr c9
      subst c9
      have H1 : (ref12_last.l0 k1 l0 l1 l2 a3 a4 x11_1 (wrap64 (x12_1 + 1))) = some r := by rw [if_neg (show ¬ (false = true) by decide)] at H; exact H
      clear H
      have H := H1
      clear H1
      have H' := Aside0.mk H
      clear H
      have p101 : 0 ≤ (x12_1 : Int) := of_decide_eq_true (by assumption)
      have q101 : x12_1 < (l1.length : Int) := of_decide_eq_true (by assumption)
      obtain ⟨ad101, e101, hx101_0⟩ := Kd.at_int HR1.out x12_1 p101 q101
      cases e101
      replace hx101_0 := (HB.out.cell (World.block_lt_of_cell? w _ hx101_0)).trans hx101_0
      replace p101 := eq_true p101
      replace q101 := eq_true q101
      go_wp2_with (first | ((with_reducible refine gate_callee (f := 113) rfl ?_); refine goesL_ (some 25) rfl rfl Try.func113 (by kernel_rfl) rfl #[.slice A2 l2.length c2, .int .i64 (rd l1 x12_1), .int .i64 a3] rfl (by (try simp only [List.map_toArray, List.map_cons, List.map_nil]); first | done | rfl | (simp only [List.length_drop, List.length_take]; rfl)) ?_; (with_reducible refine (ref02_Has.calls k1 _ _ l2 (rd l1 x12_1) a3 false _ ?side1 ?side2 A8.out).mono ?_); (case side1 => repeat (first | exact (Kd.C_below HR2.out HB.out) | (with_reducible refine Kd.C_alloc ?_ _) | (with_reducible refine Kd.C_drewN ?_ _) | (with_reducible refine Kd.C_drew ?_))); (case side2 => exact HC2.out); rintro e w' ⟨rfl, ⟨nd, rfl⟩⟩; refine ⟨_, rfl, ?_⟩))
      go_roundg k1
      case measure => have := HK1.out; omega
      case rel => exact ⟨(x11_1), (wrap64 (x12_1 + 1)), (by first | rfl | (simp; done) | (simp [*]; done)), (by first | rfl | (simp; done) | (simp [*]; done)), H', ⟨by have := HK1.out; omega⟩, ⟨by repeat (first | (with_reducible first | exact HB.out | apply below_alloc | apply pw_below_drewN | apply below_drew1))⟩⟩
    ·rw [if_neg c7] at H
     exact absurd H (by simp)
   ·rw [if_neg c6] at H
    have c6b0 : decide (x12_1 < (l1.length : Int)) = false := decide_eq_false c6
    clear c6
    obtain rfl := Option.some.inj H
    go_wp2
    go_ret
    exact ⟨by first | rfl | (simp <;> rfl) | (simp [*] <;> rfl), by repeat (first | (with_reducible first | exact HB.out | apply below_alloc | apply pw_below_drewN | apply below_drew1))⟩
end Go.Proofs.Ytfocaefnmfkojaa.Q
namespace Go.Proofs.Ytfocaefnmfkojaa.Q
open Go.RowKit Go.Proofs.YtfocaefnmfkojaaW.PrintWords Go.Proofs.YtfocaefnmfkojaaW.PrintLast Go.Proofs.YtfocaefnmfkojaaW.PrintMore
attribute [local go_sem] max2_int min2_int max_two min_two max_three min_three max_four min_four   -- for this text's walks alone
set_option linter.unusedVariables false
set_option linter.unusedSimpArgs false
mutual
def ref12_Right.l0 : Nat → List (S44) → List Int → List (S154) → Int → Option (Bool)
 | 0, _, _, _, _ => none
 | k + 1, x0, x1, x2, x7 => if x7 < (x2.length : Int) then (if 0 ≤ x7 then ((ref11_Place.f k x1 ((rd_T154 x2 x7).f0)).bind fun t103 => ((ref11_Place.f k x1 ((rd_T154 x2 x7).f1)).bind fun t105 => (if t103 < 0 then (some false) else (if t105 < 0 then (some false) else (if t103 ≥ t105 then (some false) else (ref12_Right.l0 k x0 x1 x2 (wrap64 (x7 + 1)))))))) else (none)) else (ref12_Right.l1 k x0 x1 x2 0)
def ref12_Right.l1 : Nat → List (S44) → List Int → List (S154) → Int → Option (Bool)
 | 0, _, _, _, _ => none
 | k + 1, x0, x1, x2, x10 => if x10 < (x0.length : Int) then ((ref08_Reads.f k x0 x10).bind fun t106 => (ref12_Right.l2 k x0 x1 x2 x10 t106 0)) else (some true)
def ref12_Right.l2 : Nat → List (S44) → List Int → List (S154) → Int → List (S86) → Int → Option (Bool)
 | 0, _, _, _, _, _, _ => none
 | k + 1, x0, x1, x2, x10, x11, x12 => if x12 < (x11.length : Int) then (if 0 ≤ x12 then ((ref12_last.f k x0 x1 x2 x10 ((rd_T86 x11 x12).f0)).bind fun t110 => (if t110 = ((rd_T86 x11 x12).f1) then (ref12_Right.l2 k x0 x1 x2 x10 x11 (wrap64 (x12 + 1))) else (some false))) else (none)) else (ref12_Right.l1 k x0 x1 x2 (wrap64 (x10 + 1)))
end
def ref12_Right.f (k : Nat) (l0 : List (S44)) (l1 : List Int) (l2 : List (S154)) : Option (Bool) := (ref12_Row.f k (l0.length : Int) l1).bind fun t101 => (if t101 = true then (ref12_Right.l0 k l0 l1 l2 0) else (some false))
def ref12_Right.T17 : Bool × List (List Nat × List Nat) := (true, [([], []), ([], []), ([], []), ([], []), ([], []), ([], []), ([4, 5], [4, 5]), ([6], [6]), ([7], [7]), ([0, 1, 2, 3, 8], [0, 1, 2, 3, 8]), ([], []), ([], []), ([10, 11], [10, 11]), ([12], [12]), ([13], [13]), ([9, 14], [9, 14])])
def ref12_Right.B17 : List Nat := [0, 0, 0, 0, 0, 0, 48, 112, 240, 511, 0, 0, 3072, 7168, 15360, 32767]
theorem ref12_Right.tab17 : rtab .any (opsOf Try.f106 17) = ref12_Right.T17 := by kernel_rfl
theorem ref12_Right.bits17 : waitsOk ref12_Right.T17.2 ref12_Right.B17 = true := by kernel_rfl
set_option maxHeartbeats 8000000 in
set_option maxRecDepth 100000 in
theorem ref12_Right.calls (k : Nat) (A0 : Option Addr) (c0 : Nat) (l0 : List (S44)) (A1 : Option Addr) (c1 : Nat) (l1 : List Int) (A2 : Option Addr) (c2 : Nat) (l2 : List (S154)) (r : Bool) (w : World) (hr0 : Kd.C k44 w A0 l0.length l0) (hc0 : l0.length ≤ c0) (hr1 : Kd.C (Kd.int .i64) w A1 l1.length l1) (hc1 : l1.length ≤ c1) (hr2 : Kd.C k154 w A2 l2.length l2) (hc2 : l2.length ≤ c2) (h : ref12_Right.f k l0 l1 l2 = some r) :
  Calls Try.prog 106 #[.slice A0 l0.length c0, .slice A1 l1.length c1, .slice A2 l2.length c2] w fun e w' => e = .returned (.bool r) ∧ Below w.heap.size w w' := by
 have HR0 := Aside0.mk hr0
 have HC0 := Aside0.mk hc0
 clear hr0 hc0
 have HR1 := Aside0.mk hr1
 have HC1 := Aside0.mk hc1
 clear hr1 hc1
 have HR2 := Aside0.mk hr2
 have HC2 := Aside0.mk hc2
 clear hr2 hc2
 have HB := Aside0.mk (Below.refl w.heap.size w)
 have H : ((ref12_Row.f k (l0.length : Int) l1).bind fun t101 => (if t101 = true then (ref12_Right.l0 k l0 l1 l2 0) else (some false))) = some r := h
 clear h
 replace H := Option.bind_eq_some_iff.mp H
 obtain ⟨t101, A40, H⟩ := H
 replace H : (if t101 = true then (ref12_Right.l0 k l0 l1 l2 0) else (some false)) = some r := H
 have A4 := Aside0.mk A40
 clear A40
 by_cases c5 : t101 = true
 ·subst c5
  have H1 : (ref12_Right.l0 k l0 l1 l2 0) = some r := by rw [if_pos rfl] at H; exact H
  clear H
  have H := H1
  clear H1
  have H' := Aside0.mk H
  clear H
  go_enter Try.func106, Try.ntmps106
  go_wp2_with (first | ((with_reducible refine gate_callee (f := 104) rfl ?_); refine goesL_ (some 16) rfl rfl Try.func104 (by kernel_rfl) rfl #[.int .i64 (l0.length : Int), .slice A1 l1.length c1] rfl (by (try simp only [List.map_toArray, List.map_cons, List.map_nil]); first | done | rfl | (simp only [List.length_drop, List.length_take]; rfl)) ?_; (with_reducible refine (ref12_Row.calls k (l0.length : Int) _ _ l1 true _ ?side1 ?side2 A4.out).mono ?_); (case side1 => repeat (first | exact HR1.out | (with_reducible refine Kd.C_alloc ?_ _) | (with_reducible refine Kd.C_drewN ?_ _) | (with_reducible refine Kd.C_drew ?_))); (case side2 => exact HC1.out); rintro e w' ⟨rfl, ⟨nd, rfl⟩⟩; refine ⟨_, rfl, ?_⟩))
  go_loopg [7] k (fun kq v7 w' => ∃ (x7_1 : Int), v7 = .int .i64 x7_1 ∧ Aside0 (ref12_Right.l0 kq l0 l1 l2 x7_1 = some r) ∧ Aside0 (kq ≤ k) ∧ Aside0 (Below w.heap.size w w'))
  case atStart => exact ⟨(0), (by first | rfl | (simp; done) | (simp [*]; done)), H', ⟨Nat.le_refl _⟩, ⟨by repeat (first | (with_reducible first | exact HB.out | apply below_alloc | apply pw_below_drewN | apply below_drew1))⟩⟩
  case round =>
   clear H'
   try clear c1
   try clear c2
   try clear p2
   try clear c5
   obtain ⟨x7_1, rfl, HA, HK1, HB⟩ := hrel
   cases gk with
   | zero => exact absurd HA.out (by simp [ref12_Right.l0])
   | succ k1 =>
    have H := HA.out
    clear HA
    simp only [ref12_Right.l0] at H
    by_cases c6 : x7_1 < (l2.length : Int)
    ·rw [if_pos c6] at H
     have c6b0 : decide (x7_1 < (l2.length : Int)) = true := decide_eq_true c6
     clear c6
     by_cases c7 : 0 ≤ x7_1
     ·rw [if_pos c7] at H
      have c7b0 : decide (0 ≤ x7_1) = true := decide_eq_true c7
      clear c7
      replace H := Option.bind_eq_some_iff.mp H
      obtain ⟨t103, A80, H⟩ := H
      replace H : ((ref11_Place.f k1 l1 ((rd_T154 l2 x7_1).f1)).bind fun t105 => (if t103 < 0 then (some false) else (if t105 < 0 then (some false) else (if t103 ≥ t105 then (some false) else (ref12_Right.l0 k1 l0 l1 l2 (wrap64 (x7_1 + 1))))))) = some r := H
      have A8 := Aside0.mk A80
      clear A80
      replace H := Option.bind_eq_some_iff.mp H
      obtain ⟨t105, A90, H⟩ := H
      replace H : (if t103 < 0 then (some false) else (if t105 < 0 then (some false) else (if t103 ≥ t105 then (some false) else (ref12_Right.l0 k1 l0 l1 l2 (wrap64 (x7_1 + 1)))))) = some r := H
      have A9 := Aside0.mk A90
      clear A90
      by_cases c10 : t103 < 0
      ·rw [if_pos c10] at H
       have c10b0 : decide (t103 < 0) = true := decide_eq_true c10
       clear c10
       obtain rfl := Option.some.inj H
       have p102 : 0 ≤ (x7_1 : Int) := of_decide_eq_true (by assumption)
       have q102 : x7_1 < (l2.length : Int) := of_decide_eq_true (by assumption)
       obtain ⟨ad102, e102, hx102_0, hx102_1⟩ := at_T154 HR2.out x7_1 p102 q102
       cases e102
       replace hx102_0 := (HB.out.cell (World.block_lt_of_cell? w _ hx102_0)).trans hx102_0
       replace hx102_1 := (HB.out.cell (World.block_lt_of_cell? w _ hx102_1)).trans hx102_1
       replace p102 := eq_true p102
       replace q102 := eq_true q102
       go_wp2_with (first | ((with_reducible refine gate_callee (f := 110) rfl ?_); refine goesL_ (some 30) rfl rfl Try.func110 (by kernel_rfl) rfl #[.slice A1 l1.length c1, .int .i64 ((rd_T154 l2 x7_1).f0)] rfl (by (try simp only [List.map_toArray, List.map_cons, List.map_nil]); first | done | rfl | (simp only [List.length_drop, List.length_take]; rfl)) ?_; (with_reducible refine (ref11_Place.calls k1 _ _ l1 ((rd_T154 l2 x7_1).f0) t103 _ ?side1 ?side2 A8.out).mono ?_); (case side1 => repeat (first | exact (Kd.C_below HR1.out HB.out) | (with_reducible refine Kd.C_alloc ?_ _) | (with_reducible refine Kd.C_drewN ?_ _) | (with_reducible refine Kd.C_drew ?_))); (case side2 => exact HC1.out); rintro e w' ⟨rfl, ⟨nd, rfl⟩⟩; refine ⟨_, rfl, ?_⟩; have p104 : 0 ≤ (x7_1 : Int) := of_decide_eq_true (by assumption); have q104 : x7_1 < (l2.length : Int) := of_decide_eq_true (by assumption); obtain ⟨ad104, e104, hx104_0, hx104_1⟩ := at_T154 HR2.out x7_1 p104 q104; obtain rfl : ad102 = ad104 := (by injection e104); replace hx104_0 := (HB.out.cell (World.block_lt_of_cell? w _ hx104_0)).trans hx104_0; replace hx104_1 := (HB.out.cell (World.block_lt_of_cell? w _ hx104_1)).trans hx104_1; replace p104 := eq_true p104; replace q104 := eq_true q104) | ((with_reducible refine gate_callee (f := 110) rfl ?_); refine goesL_ (some 37) rfl rfl Try.func110 (by kernel_rfl) rfl #[.slice A1 l1.length c1, .int .i64 ((rd_T154 l2 x7_1).f1)] rfl (by (try simp only [List.map_toArray, List.map_cons, List.map_nil]); first | done | rfl | (simp only [List.length_drop, List.length_take]; rfl)) ?_; (with_reducible refine (ref11_Place.calls k1 _ _ l1 ((rd_T154 l2 x7_1).f1) t105 _ ?side1 ?side2 A9.out).mono ?_); (case side1 => repeat (first | exact (Kd.C_below HR1.out (by repeat (first | (with_reducible first | exact HB.out | apply below_alloc | apply pw_below_drewN | apply below_drew1)))) | (with_reducible refine Kd.C_alloc ?_ _) | (with_reducible refine Kd.C_drewN ?_ _) | (with_reducible refine Kd.C_drew ?_))); (case side2 => exact HC1.out); rintro e w' ⟨rfl, ⟨nd, rfl⟩⟩; refine ⟨_, rfl, ?_⟩))
       go_ret
       exact ⟨by first | rfl | (simp <;> rfl) | (simp [*] <;> rfl), by repeat (first | (with_reducible first | exact HB.out | apply below_alloc | apply pw_below_drewN | apply below_drew1))⟩
      ·rw [if_neg c10] at H
       have c10b0 : decide (t103 < 0) = false := decide_eq_false c10
       clear c10
       by_cases c11 : t105 < 0
       ·rw [if_pos c11] at H
        have c11b0 : decide (t105 < 0) = true := decide_eq_true c11
        clear c11
        obtain rfl := Option.some.inj H
        have p102 : 0 ≤ (x7_1 : Int) := of_decide_eq_true (by assumption)
        have q102 : x7_1 < (l2.length : Int) := of_decide_eq_true (by assumption)
        obtain ⟨ad102, e102, hx102_0, hx102_1⟩ := at_T154 HR2.out x7_1 p102 q102
        cases e102
        replace hx102_0 := (HB.out.cell (World.block_lt_of_cell? w _ hx102_0)).trans hx102_0
        replace hx102_1 := (HB.out.cell (World.block_lt_of_cell? w _ hx102_1)).trans hx102_1
        replace p102 := eq_true p102
        replace q102 := eq_true q102
        go_wp2_with (first | ((with_reducible refine gate_callee (f := 110) rfl ?_); refine goesL_ (some 30) rfl rfl Try.func110 (by kernel_rfl) rfl #[.slice A1 l1.length c1, .int .i64 ((rd_T154 l2 x7_1).f0)] rfl (by (try simp only [List.map_toArray, List.map_cons, List.map_nil]); first | done | rfl | (simp only [List.length_drop, List.length_take]; rfl)) ?_; (with_reducible refine (ref11_Place.calls k1 _ _ l1 ((rd_T154 l2 x7_1).f0) t103 _ ?side1 ?side2 A8.out).mono ?_); (case side1 => repeat (first | exact (Kd.C_below HR1.out HB.out) | (with_reducible refine Kd.C_alloc ?_ _) | (with_reducible refine Kd.C_drewN ?_ _) | (with_reducible refine Kd.C_drew ?_))); (case side2 => exact HC1.out); rintro e w' ⟨rfl, ⟨nd, rfl⟩⟩; refine ⟨_, rfl, ?_⟩; have p104 : 0 ≤ (x7_1 : Int) := of_decide_eq_true (by assumption); have q104 : x7_1 < (l2.length : Int) := of_decide_eq_true (by assumption); obtain ⟨ad104, e104, hx104_0, hx104_1⟩ := at_T154 HR2.out x7_1 p104 q104; obtain rfl : ad102 = ad104 := (by injection e104); replace hx104_0 := (HB.out.cell (World.block_lt_of_cell? w _ hx104_0)).trans hx104_0; replace hx104_1 := (HB.out.cell (World.block_lt_of_cell? w _ hx104_1)).trans hx104_1; replace p104 := eq_true p104; replace q104 := eq_true q104) | ((with_reducible refine gate_callee (f := 110) rfl ?_); refine goesL_ (some 37) rfl rfl Try.func110 (by kernel_rfl) rfl #[.slice A1 l1.length c1, .int .i64 ((rd_T154 l2 x7_1).f1)] rfl (by (try simp only [List.map_toArray, List.map_cons, List.map_nil]); first | done | rfl | (simp only [List.length_drop, List.length_take]; rfl)) ?_; (with_reducible refine (ref11_Place.calls k1 _ _ l1 ((rd_T154 l2 x7_1).f1) t105 _ ?side1 ?side2 A9.out).mono ?_); (case side1 => repeat (first | exact (Kd.C_below HR1.out (by repeat (first | (with_reducible first | exact HB.out | apply below_alloc | apply pw_below_drewN | apply below_drew1)))) | (with_reducible refine Kd.C_alloc ?_ _) | (with_reducible refine Kd.C_drewN ?_ _) | (with_reducible refine Kd.C_drew ?_))); (case side2 => exact HC1.out); rintro e w' ⟨rfl, ⟨nd, rfl⟩⟩; refine ⟨_, rfl, ?_⟩))
        go_ret
        exact ⟨by first | rfl | (simp <;> rfl) | (simp [*] <;> rfl), by repeat (first | (with_reducible first | exact HB.out | apply below_alloc | apply pw_below_drewN | apply below_drew1))⟩
       ·rw [if_neg c11] at H
        have c11b0 : decide (t105 < 0) = false := decide_eq_false c11
        clear c11
        by_cases c12 : t103 ≥ t105
        ·rw [if_pos c12] at H
         have c12b0 : decide (t105 ≤ t103) = true := decide_eq_true c12
         clear c12
         obtain rfl := Option.some.inj H
         have p102 : 0 ≤ (x7_1 : Int) := of_decide_eq_true (by assumption)
         have q102 : x7_1 < (l2.length : Int) := of_decide_eq_true (by assumption)
         obtain ⟨ad102, e102, hx102_0, hx102_1⟩ := at_T154 HR2.out x7_1 p102 q102
         cases e102
         replace hx102_0 := (HB.out.cell (World.block_lt_of_cell? w _ hx102_0)).trans hx102_0
         replace hx102_1 := (HB.out.cell (World.block_lt_of_cell? w _ hx102_1)).trans hx102_1
         replace p102 := eq_true p102
         replace q102 := eq_true q102
         go_wp2_with (first | ((with_reducible refine gate_callee (f := 110) rfl ?_); refine goesL_ (some 30) rfl rfl Try.func110 (by kernel_rfl) rfl #[.slice A1 l1.length c1, .int .i64 ((rd_T154 l2 x7_1).f0)] rfl (by (try simp only [List.map_toArray, List.map_cons, List.map_nil]); first | done | rfl | (simp only [List.length_drop, List.length_take]; rfl)) ?_; (with_reducible refine (ref11_Place.calls k1 _ _ l1 ((rd_T154 l2 x7_1).f0) t103 _ ?side1 ?side2 A8.out).mono ?_); (case side1 => repeat (first | exact (Kd.C_below HR1.out HB.out) | (with_reducible refine Kd.C_alloc ?_ _) | (with_reducible refine Kd.C_drewN ?_ _) | (with_reducible refine Kd.C_drew ?_))); (case side2 => exact HC1.out); rintro e w' ⟨rfl, ⟨nd, rfl⟩⟩; refine ⟨_, rfl, ?_⟩; have p104 : 0 ≤ (x7_1 : Int) := of_decide_eq_true (by assumption); have q104 : x7_1 < (l2.length : Int) := of_decide_eq_true (by assumption); obtain ⟨ad104, e104, hx104_0, hx104_1⟩ := at_T154 HR2.out x7_1 p104 q104; obtain rfl : ad102 = ad104 := (by injection e104); replace hx104_0 := (HB.out.cell (World.block_lt_of_cell? w _ hx104_0)).trans hx104_0; replace hx104_1 := (HB.out.cell (World.block_lt_of_cell? w _ hx104_1)).trans hx104_1; replace p104 := eq_true p104; replace q104 := eq_true q104) | ((with_reducible refine gate_callee (f := 110) rfl ?_); refine goesL_ (some 37) rfl rfl Try.func110 (by kernel_rfl) rfl #[.slice A1 l1.length c1, .int .i64 ((rd_T154 l2 x7_1).f1)] rfl (by (try simp only [List.map_toArray, List.map_cons, List.map_nil]); first | done | rfl | (simp only [List.length_drop, List.length_take]; rfl)) ?_; (with_reducible refine (ref11_Place.calls k1 _ _ l1 ((rd_T154 l2 x7_1).f1) t105 _ ?side1 ?side2 A9.out).mono ?_); (case side1 => repeat (first | exact (Kd.C_below HR1.out (by repeat (first | (with_reducible first | exact HB.out | apply below_alloc | apply pw_below_drewN | apply below_drew1)))) | (with_reducible refine Kd.C_alloc ?_ _) | (with_reducible refine Kd.C_drewN ?_ _) | (with_reducible refine Kd.C_drew ?_))); (case side2 => exact HC1.out); rintro e w' ⟨rfl, ⟨nd, rfl⟩⟩; refine ⟨_, rfl, ?_⟩))
         go_ret
         exact ⟨by first | rfl | (simp <;> rfl) | (simp [*] <;> rfl), by repeat (first | (with_reducible first | exact HB.out | apply below_alloc | apply pw_below_drewN | apply below_drew1))⟩
        ·rw [if_neg c12] at H
         have c12b0 : decide (t105 ≤ t103) = false := decide_eq_false c12
         clear c12
         have H' := Aside0.mk H
         clear H
         have p102 : 0 ≤ (x7_1 : Int) := of_decide_eq_true (by assumption)
         have q102 : x7_1 < (l2.length : Int) := of_decide_eq_true (by assumption)
         obtain ⟨ad102, e102, hx102_0, hx102_1⟩ := at_T154 HR2.out x7_1 p102 q102
         cases e102
         replace hx102_0 := (HB.out.cell (World.block_lt_of_cell? w _ hx102_0)).trans hx102_0
         replace hx102_1 := (HB.out.cell (World.block_lt_of_cell? w _ hx102_1)).trans hx102_1
         replace p102 := eq_true p102
         replace q102 := eq_true q102
         go_wp2_with (first | ((with_reducible refine gate_callee (f := 110) rfl ?_); refine goesL_ (some 30) rfl rfl Try.func110 (by kernel_rfl) rfl #[.slice A1 l1.length c1, .int .i64 ((rd_T154 l2 x7_1).f0)] rfl (by (try simp only [List.map_toArray, List.map_cons, List.map_nil]); first | done | rfl | (simp only [List.length_drop, List.length_take]; rfl)) ?_; (with_reducible refine (ref11_Place.calls k1 _ _ l1 ((rd_T154 l2 x7_1).f0) t103 _ ?side1 ?side2 A8.out).mono ?_); (case side1 => repeat (first | exact (Kd.C_below HR1.out HB.out) | (with_reducible refine Kd.C_alloc ?_ _) | (with_reducible refine Kd.C_drewN ?_ _) | (with_reducible refine Kd.C_drew ?_))); (case side2 => exact HC1.out); rintro e w' ⟨rfl, ⟨nd, rfl⟩⟩; refine ⟨_, rfl, ?_⟩; have p104 : 0 ≤ (x7_1 : Int) := of_decide_eq_true (by assumption); have q104 : x7_1 < (l2.length : Int) := of_decide_eq_true (by assumption); obtain ⟨ad104, e104, hx104_0, hx104_1⟩ := at_T154 HR2.out x7_1 p104 q104; obtain rfl : ad102 = ad104 := (by injection e104); replace hx104_0 := (HB.out.cell (World.block_lt_of_cell? w _ hx104_0)).trans hx104_0; replace hx104_1 := (HB.out.cell (World.block_lt_of_cell? w _ hx104_1)).trans hx104_1; replace p104 := eq_true p104; replace q104 := eq_true q104) | ((with_reducible refine gate_callee (f := 110) rfl ?_); refine goesL_ (some 37) rfl rfl Try.func110 (by kernel_rfl) rfl #[.slice A1 l1.length c1, .int .i64 ((rd_T154 l2 x7_1).f1)] rfl (by (try simp only [List.map_toArray, List.map_cons, List.map_nil]); first | done | rfl | (simp only [List.length_drop, List.length_take]; rfl)) ?_; (with_reducible refine (ref11_Place.calls k1 _ _ l1 ((rd_T154 l2 x7_1).f1) t105 _ ?side1 ?side2 A9.out).mono ?_); (case side1 => repeat (first | exact (Kd.C_below HR1.out (by repeat (first | (with_reducible first | exact HB.out | apply below_alloc | apply pw_below_drewN | apply below_drew1)))) | (with_reducible refine Kd.C_alloc ?_ _) | (with_reducible refine Kd.C_drewN ?_ _) | (with_reducible refine Kd.C_drew ?_))); (case side2 => exact HC1.out); rintro e w' ⟨rfl, ⟨nd, rfl⟩⟩; refine ⟨_, rfl, ?_⟩))
         go_roundg k1
         case measure => have := HK1.out; omega
         case rel => exact ⟨(wrap64 (x7_1 + 1)), (by first | rfl | (simp; done) | (simp [*]; done)), H', ⟨by have := HK1.out; omega⟩, ⟨by repeat (first | (with_reducible first | exact HB.out | apply below_alloc | apply pw_below_drewN | apply below_drew1))⟩⟩
     ·rw [if_neg c7] at H
      exact absurd H (by simp)
    ·rw [if_neg c6] at H
     have c6b0 : decide (x7_1 < (l2.length : Int)) = false := decide_eq_false c6
     clear c6
     have H' := Aside0.mk H
     clear H
     go_wp2
     go_loopg [10] k1 (fun kq v10 w' => ∃ (x10_2 : Int), v10 = .int .i64 x10_2 ∧ Aside0 (ref12_Right.l1 kq l0 l1 l2 x10_2 = some r) ∧ Aside0 (kq ≤ k1) ∧ Aside0 (Below w.heap.size w w'))
     case atStart => exact ⟨(0), (by first | rfl | (simp; done) | (simp [*]; done)), H', ⟨Nat.le_refl _⟩, ⟨by repeat (first | (with_reducible first | exact HB.out | apply below_alloc | apply pw_below_drewN | apply below_drew1))⟩⟩
     case round =>
      clear H'
      try clear c1
      try clear p1
      try clear q1
      try clear hx1
      try clear c2
      try clear p2
      try clear c5
      try clear c6
      try clear c6b0
      try clear p6
      try clear c7
      try clear c7b0
      try clear c10
      try clear c10b0
      try clear p10
      try clear q10
      try clear hx10
      try clear c11
      try clear c11b0
      try clear c12
      try clear c12b0
      try clear hx102_0
      try clear hx102_1
      try clear hx104_0
      try clear hx104_1
      try clear p102
      try clear p104
      try clear p2
      try clear q102
      try clear q104
      obtain ⟨x10_2, rfl, HA, HK2, HB⟩ := hrel
      cases gk with
      | zero => exact absurd HA.out (by simp [ref12_Right.l1])
      | succ k2 =>
       have H := HA.out
       clear HA
       simp only [ref12_Right.l1] at H
       by_cases c13 : x10_2 < (l0.length : Int)
       ·rw [if_pos c13] at H
        have c13b0 : decide (x10_2 < (l0.length : Int)) = true := decide_eq_true c13
        clear c13
        replace H := Option.bind_eq_some_iff.mp H
        obtain ⟨t106, A140, H⟩ := H
        replace H : (ref12_Right.l2 k2 l0 l1 l2 x10_2 t106 0) = some r := H
        have A14 := Aside0.mk A140
        clear A140
        have H' := Aside0.mk H
        clear H
        go_wp2_with (first | ((with_reducible refine gate_callee (f := 43) rfl ?_); refine goesL_ (some 57) rfl rfl Try.func43 (by kernel_rfl) rfl #[.slice A0 l0.length c0, .int .i64 x10_2] rfl (by (try simp only [List.map_toArray, List.map_cons, List.map_nil]); first | done | rfl | (simp only [List.length_drop, List.length_take]; rfl)) ?_; (with_reducible refine (ref08_Reads.calls k2 _ _ l0 x10_2 t106 _ ?side1 ?side2 A14.out).mono ?_); (case side1 => repeat (first | exact (Kd.C_below HR0.out HB.out) | (with_reducible refine Kd.C_alloc ?_ _) | (with_reducible refine Kd.C_drewN ?_ _) | (with_reducible refine Kd.C_drew ?_))); (case side2 => exact HC0.out); rintro e w15 ⟨v107, rfl, ho0, hb⟩; refine ⟨_, rfl, ?_⟩; have n0_ := Aside0.mk (Kd.R_lower ho0 (below_size (by repeat (first | (with_reducible first | exact HB.out | apply below_alloc | apply pw_below_drewN | apply below_drew1))))); have n1_ := Aside0.mk (below_step (by repeat (first | (with_reducible first | exact HB.out | apply below_alloc | apply pw_below_drewN | apply below_drew1))) hb); clear HB; have HO108 := n0_; have HB := n1_; clear n0_ n1_; (try clear hb); (try clear hb2); (try clear hk); (try clear hi); (try clear ho0)))
        go_loopg [12] k2 (fun kq v12 w' => ∃ (x12_3 : Int), v12 = .int .i64 x12_3 ∧ Aside0 (ref12_Right.l2 kq l0 l1 l2 x10_2 t106 x12_3 = some r) ∧ Aside0 (kq ≤ k2) ∧ Aside0 (Kd.R k86 86 w' w.heap.size (fun _ => True) v107 t106) ∧ Aside0 (Below w.heap.size w w'))
        case atStart => exact ⟨(0), (by first | rfl | (simp; done) | (simp [*]; done)), H', ⟨Nat.le_refl _⟩, ⟨by (with_reducible repeat (first | apply Kd.R_alloc | apply Kd.R_drewN | apply Kd.R_drew)); exact HO108.out⟩, ⟨by repeat (first | (with_reducible first | exact HB.out | apply below_alloc | apply pw_below_drewN | apply below_drew1))⟩⟩
        case round =>
         clear H'
         try clear c1
         try clear p1
         try clear q1
         try clear hx1
         try clear c2
         try clear p2
         try clear c4
         try clear c5
         try clear c6
         try clear c6b0
         try clear p6
         try clear c7
         try clear c7b0
         try clear c10
         try clear c10b0
         try clear p10
         try clear q10
         try clear hx10
         try clear c11
         try clear c11b0
         try clear c12
         try clear c12b0
         try clear c13
         try clear c13b0
         try clear hx102_0
         try clear hx102_1
         try clear hx104_0
         try clear hx104_1
         try clear p1
         try clear p10
         try clear p102
         try clear p104
         try clear p2
         try clear p6
         try clear q1
         try clear q10
         try clear q102
         try clear q104
         obtain ⟨x12_3, rfl, HA, HK3, HO_11, HB⟩ := hrel
         cases gk with
         | zero => exact absurd HA.out (by simp [ref12_Right.l2])
         | succ k3 =>
          have H := HA.out
          clear HA
          simp only [ref12_Right.l2] at H
          by_cases c16 : x12_3 < (t106.length : Int)
          ·rw [if_pos c16] at H
           have c16b0 : decide (x12_3 < (t106.length : Int)) = true := decide_eq_true c16
           clear c16
           by_cases c17 : 0 ≤ x12_3
           ·rw [if_pos c17] at H
            have c17b0 : decide (0 ≤ x12_3) = true := decide_eq_true c17
            clear c17
            replace H := Option.bind_eq_some_iff.mp H
            obtain ⟨t110, A180, H⟩ := H
            replace H : (if t110 = ((rd_T86 t106 x12_3).f1) then (ref12_Right.l2 k3 l0 l1 l2 x10_2 t106 (wrap64 (x12_3 + 1))) else (some false)) = some r := H
            have A18 := Aside0.mk A180
            clear A180
            by_cases c19 : t110 = ((rd_T86 t106 x12_3).f1)
            ·rw [if_pos c19] at H
             have c19b0 : (t110 == ((rd_T86 t106 x12_3).f1)) = true := beq_iff_eq.mpr c19
             have c19b1 : (t110 != ((rd_T86 t106 x12_3).f1)) = false := bne_eq_false_iff_eq.mpr c19
             clear c19
             have H' := Aside0.mk H
             clear H
             obtain ⟨Ao20, co20, eo20⟩ := Kd.R_slice HO_11.out
             subst eo20
             try go_wp2
             have n0_ := Aside0.mk (Kd.R_drew HO_11.out)
             have n1_ := Aside0.mk (below_drew1 HB.out)
             clear HO_11
             clear HB
             have HO_11 := n0_
             have HB := n1_
             clear n0_ n1_
             have p109 : 0 ≤ (x12_3 : Int) := of_decide_eq_true (by assumption)
             have q109 : x12_3 < (t106.length : Int) := of_decide_eq_true (by assumption)
             obtain ⟨ad109, e109, hx109_0, hx109_1⟩ := at_T86 (Kd.R_reads' HO_11.out).2.2 x12_3 p109 q109
             cases e109
             replace p109 := eq_true p109
             replace q109 := eq_true q109
             have p111 : 0 ≤ (x12_3 : Int) := of_decide_eq_true (by assumption)
             have q111 : x12_3 < (t106.length : Int) := of_decide_eq_true (by assumption)
             obtain ⟨ad111, e111, hx111_0, hx111_1⟩ := at_T86 (Kd.R_reads' HO_11.out).2.2 x12_3 p111 q111
             obtain rfl : ad109 = ad111 := (by injection e111)
             replace p111 := eq_true p111
             replace q111 := eq_true q111
             refine start_ (n := 16) (S := fun w' => w'.cell? (ad109.add ((x12_3).toNat * 2)) = some (.int .i64 ((rd_T86 t106 x12_3).f0)) ∧ w'.cell? ⟨(ad109.add ((x12_3).toNat * 2)).block, (ad109.add ((x12_3).toNat * 2)).off + 1, none⟩ = some (.int .i64 ((rd_T86 t106 x12_3).f1)) ∧ w'.cell? (ad109.add ((x12_3).toNat * 2)) = some (.int .i64 ((rd_T86 t106 x12_3).f0)) ∧ w'.cell? ⟨(ad109.add ((x12_3).toNat * 2)).block, (ad109.add ((x12_3).toNat * 2)).off + 1, none⟩ = some (.int .i64 ((rd_T86 t106 x12_3).f1))) (ds := []) #[false, false, false, false, false, false, false, false, false, false, false, false, false, false, false, false] (by kernel_rfl) rfl rfl ⟨hx109_0, hx109_1, hx111_0, hx111_1⟩ (fun hHeld => ?_); refine with_tabW ref12_Right.tab17 ref12_Right.bits17 (fun HT_ HW_ => ?_)
             generalize wr.drew = w21 at HO_11 HB hx109_0 hx109_1 hx111_0 hx111_1 hHeld ⊢
             refine pure_ (i := 0) (N := some 64) (v := ?_) (a' := ?_) #[true, false, false, false, false, false, false, false, false, false, false, false, false, false, false, false] rfl rfl (any_of HT_.out (by kernel_rfl)) (fun _ _ _ h => h) (Or.inl ⟨by rfl, ?_⟩) ?_ ?_
             rotate_left
             ·intro w'
              go_simp
              with_reducible rfl
             rotate_left
             ·simp only [Act.put, List.setIfInBounds_toArray, List.set_cons_zero, List.set_cons_succ, i64_w, i32_w]
              rfl
             refine pure_ (i := 1) (N := some 65) (v := ?_) (a' := ?_) #[true, true, false, false, false, false, false, false, false, false, false, false, false, false, false, false] rfl rfl (any_of HT_.out (by kernel_rfl)) (fun _ _ _ h => h) (Or.inl ⟨by rfl, ?_⟩) ?_ ?_
             rotate_left
             ·intro w'
              go_simp
              with_reducible rfl
             rotate_left
             ·simp only [Act.put, List.setIfInBounds_toArray, List.set_cons_zero, List.set_cons_succ, i64_w, i32_w]
              rfl
             refine pure_ (i := 2) (N := some 66) (v := ?_) (a' := ?_) #[true, true, true, false, false, false, false, false, false, false, false, false, false, false, false, false] rfl rfl (any_of HT_.out (by kernel_rfl)) (fun _ _ _ h => h) (Or.inl ⟨by rfl, ?_⟩) ?_ ?_
             rotate_left
             ·intro w'
              go_simp
              with_reducible rfl
             rotate_left
             ·simp only [Act.put, List.setIfInBounds_toArray, List.set_cons_zero, List.set_cons_succ, i64_w, i32_w]
              rfl
             refine pure_ (i := 3) (N := some 67) (v := ?_) (a' := ?_) #[true, true, true, true, false, false, false, false, false, false, false, false, false, false, false, false] rfl rfl (any_of HT_.out (by kernel_rfl)) (fun _ _ _ h => h) (Or.inl ⟨by rfl, ?_⟩) ?_ ?_
             rotate_left
             ·intro w'
              go_simp
              with_reducible rfl
             rotate_left
             ·simp only [Act.put, List.setIfInBounds_toArray, List.set_cons_zero, List.set_cons_succ, i64_w, i32_w]
              rfl
             refine pure_ (i := 4) (N := some 68) (v := ?_) (a' := ?_) #[true, true, true, true, true, false, false, false, false, false, false, false, false, false, false, false] rfl rfl (any_of HT_.out (by kernel_rfl)) (fun _ _ _ h => h) (Or.inl ⟨by rfl, ?_⟩) ?_ ?_
             rotate_left
             ·intro w'
              go_simp
              with_reducible rfl
             rotate_left
             ·simp only [Act.put, List.setIfInBounds_toArray, List.set_cons_zero, List.set_cons_succ, i64_w, i32_w]
              rfl
             refine pure_ (i := 5) (N := some 69) (v := ?_) (a' := ?_) #[true, true, true, true, true, true, false, false, false, false, false, false, false, false, false, false] rfl rfl (any_of HT_.out (by kernel_rfl)) (fun _ _ _ h => h) (Or.inl ⟨by rfl, ?_⟩) ?_ ?_
             rotate_left
             ·intro w'
              go_simp
              with_reducible rfl
             rotate_left
             ·simp only [Act.put, List.setIfInBounds_toArray, List.set_cons_zero, List.set_cons_succ, i64_w, i32_w]
              rfl
             refine pure_ (i := 6) (N := some 70) (v := ?_) (a' := ?_) #[true, true, true, true, true, true, true, false, false, false, false, false, false, false, false, false] rfl rfl (any_of HT_.out (by kernel_rfl)) (fun _ _ _ h => h) (Or.inl ⟨by rfl, ?_⟩) ?_ ?_
             rotate_left
             ·intro w'
              go_simp
              with_reducible rfl
             rotate_left
             ·simp only [Act.put, List.setIfInBounds_toArray, List.set_cons_zero, List.set_cons_succ, i64_w, i32_w]
              rfl
             refine pure_ (i := 7) (N := some 71) (v := ?_) (a' := ?_) #[true, true, true, true, true, true, true, true, false, false, false, false, false, false, false, false] rfl rfl (any_of HT_.out (by kernel_rfl)) (fun _ _ _ h => h) (Or.inl ⟨by rfl, ?_⟩) ?_ ?_
             rotate_left
             ·intro w'
              go_simp
              with_reducible rfl
             rotate_left
             ·simp only [Act.put, List.setIfInBounds_toArray, List.set_cons_zero, List.set_cons_succ, i64_w, i32_w]
              rfl
             refine pure_ (i := 10) (N := some 74) (v := ?_) (a' := ?_) #[true, true, true, true, true, true, true, true, false, false, true, false, false, false, false, false] rfl rfl (any_of HT_.out (by kernel_rfl)) (fun _ _ _ h => h) (Or.inl ⟨by rfl, ?_⟩) ?_ ?_
             rotate_left
             ·intro w'
              go_simp
              with_reducible rfl
             rotate_left
             ·simp only [Act.put, List.setIfInBounds_toArray, List.set_cons_zero, List.set_cons_succ, i64_w, i32_w]
              rfl
             refine pure_ (i := 11) (N := some 75) (v := ?_) (a' := ?_) #[true, true, true, true, true, true, true, true, false, false, true, true, false, false, false, false] rfl rfl (any_of HT_.out (by kernel_rfl)) (fun _ _ _ h => h) (Or.inl ⟨by rfl, ?_⟩) ?_ ?_
             rotate_left
             ·intro w'
              go_simp
              with_reducible rfl
             rotate_left
             ·simp only [Act.put, List.setIfInBounds_toArray, List.set_cons_zero, List.set_cons_succ, i64_w, i32_w]
              rfl
             refine pure_ (i := 12) (N := some 76) (v := ?_) (a' := ?_) #[true, true, true, true, true, true, true, true, false, false, true, true, true, false, false, false] rfl rfl (any_of HT_.out (by kernel_rfl)) (fun _ _ _ h => h) (Or.inl ⟨by rfl, ?_⟩) ?_ ?_
             rotate_left
             ·intro w'
              go_simp
              with_reducible rfl
             rotate_left
             ·simp only [Act.put, List.setIfInBounds_toArray, List.set_cons_zero, List.set_cons_succ, i64_w, i32_w]
              rfl
             refine pure_ (i := 13) (N := some 77) (v := ?_) (a' := ?_) #[true, true, true, true, true, true, true, true, false, false, true, true, true, true, false, false] rfl rfl (any_of HT_.out (by kernel_rfl)) (fun _ _ _ h => h) (Or.inl ⟨by rfl, ?_⟩) ?_ ?_
             rotate_left
             ·intro w'
              go_simp
              with_reducible rfl
             rotate_left
             ·simp only [Act.put, List.setIfInBounds_toArray, List.set_cons_zero, List.set_cons_succ, i64_w, i32_w]
              rfl
             refine take_ (i := 8) (N := some 72) (v := ?_) (a' := ?_) #[true, true, true, true, true, true, true, true, true, false, true, true, true, true, false, false] rfl rfl (take_ofW HT_.out HW_.out (by kernel_rfl)) (fun _ _ _ h => h) (Or.inl ⟨by rfl, ?_⟩) hHeld ?_ ?_
             rotate_left
             ·rintro w' ⟨s0, s1, s2, s3⟩
              go_simp
              with_reducible rfl
             rotate_left
             ·simp only [Act.put, List.setIfInBounds_toArray, List.set_cons_zero, List.set_cons_succ, i64_w, i32_w]
              rfl
             refine take_ (i := 14) (N := some 78) (v := ?_) (a' := ?_) #[true, true, true, true, true, true, true, true, true, false, true, true, true, true, true, false] rfl rfl (take_ofW HT_.out HW_.out (by kernel_rfl)) (fun _ _ _ h => h) (Or.inl ⟨by rfl, ?_⟩) hHeld ?_ ?_
             rotate_left
             ·rintro w' ⟨s0, s1, s2, s3⟩
              go_simp
              with_reducible rfl
             rotate_left
             ·simp only [Act.put, List.setIfInBounds_toArray, List.set_cons_zero, List.set_cons_succ, i64_w, i32_w]
              rfl
             refine one_ (i := 9) (N := some 73) #[true, true, true, true, true, true, true, true, true, true, true, true, true, true, true, false] rfl rfl (one_of HT_.out (by kernel_rfl)) (by decide) (fun K hK => ?_)
             refine goes_ Try.func115 (by kernel_rfl) rfl #[.slice A0 l0.length c0, .slice A1 l1.length c1, .slice A2 l2.length c2, .int .i64 x10_2, .int .i64 ((rd_T86 t106 x12_3).f0)] (by rfl) rfl rfl (by (try simp only [List.map_toArray, List.map_cons, List.map_nil]); first | done | rfl | (simp only [List.length_drop, List.length_take]; rfl)) ?_
             with_reducible refine (ref12_last.calls k3 _ _ l0 _ _ l1 _ _ l2 x10_2 ((rd_T86 t106 x12_3).f0) t110 _ ?side1 ?side2 ?side3 ?side4 ?side5 ?side6 A18.out).mono ?_
             (case side1 => repeat (first | exact (Kd.C_below HR0.out HB.out) | (with_reducible refine Kd.C_alloc ?_ _) | (with_reducible refine Kd.C_drewN ?_ _) | (with_reducible refine Kd.C_drew ?_)))
             (case side2 => exact HC0.out)
             (case side3 => repeat (first | exact (Kd.C_below HR1.out HB.out) | (with_reducible refine Kd.C_alloc ?_ _) | (with_reducible refine Kd.C_drewN ?_ _) | (with_reducible refine Kd.C_drew ?_)))
             (case side4 => exact HC1.out)
             (case side5 => repeat (first | exact (Kd.C_below HR2.out HB.out) | (with_reducible refine Kd.C_alloc ?_ _) | (with_reducible refine Kd.C_drewN ?_ _) | (with_reducible refine Kd.C_drew ?_)))
             (case side6 => exact HC2.out)
             rintro e w22 ⟨rfl, hb⟩
             have HS0_ := (hb.cell (World.block_lt_of_cell? _ _ (hHeld.1))).trans (hHeld.1)
             have HS1_ := (hb.cell (World.block_lt_of_cell? _ _ (hHeld.2.1))).trans (hHeld.2.1)
             have HS2_ := (hb.cell (World.block_lt_of_cell? _ _ (hHeld.2.2.1))).trans (hHeld.2.2.1)
             have HS3_ := (hb.cell (World.block_lt_of_cell? _ _ (hHeld.2.2.2))).trans (hHeld.2.2.2)
             refine ⟨_, rfl, ?_⟩
             have n0_ := Aside0.mk (Kd.R_below (by (with_reducible repeat (first | apply Kd.R_alloc | apply Kd.R_drewN | apply Kd.R_drew)); exact HO_11.out) hb)
             have n1_ := Aside0.mk (below_step (by repeat (first | (with_reducible first | exact HB.out | apply below_alloc | apply pw_below_drewN | apply below_drew1))) hb)
             clear HO_11
             clear HB
             have HO_11 := n0_
             have HB := n1_
             clear n0_ n1_
             (try clear hb)
             (try clear hb2)
             (try clear hk)
             (try clear hi)
             refine hK.out _ _ ⟨HS0_, HS1_, HS2_, HS3_⟩ (fun hHeld => ?_)
             clear hK K
             refine norm_ (a' := ?_) ?_ ?_
             rotate_left
             ·show Act.put _ (some 73) _ = _
              simp only [Act.put, List.setIfInBounds_toArray, List.set_cons_zero, List.set_cons_succ, i64_w, i32_w]
              rfl
             refine pure_ (i := 15) (N := some 79) (v := ?_) (a' := ?_) #[true, true, true, true, true, true, true, true, true, true, true, true, true, true, true, true] rfl rfl (any_of HT_.out (by kernel_rfl)) (fun _ _ _ h => h) (Or.inl ⟨by rfl, ?_⟩) ?_ ?_
             rotate_left
             ·intro w'
              go_simp
              with_reducible rfl
             rotate_left
             ·simp only [Act.put, List.setIfInBounds_toArray, List.set_cons_zero, List.set_cons_succ, i64_w, i32_w]
              rfl
             refine done_ (done_of HT_.out (by kernel_rfl)) ?_
             try go_wp2
             go_roundg k3
             case measure => have := HK1.out; have := HK2.out; have := HK3.out; omega
             case rel => exact ⟨(wrap64 (x12_3 + 1)), (by first | rfl | (simp; done) | (simp [*]; done)), H', ⟨by have := HK1.out; have := HK2.out; have := HK3.out; omega⟩, ⟨by (with_reducible repeat (first | apply Kd.R_alloc | apply Kd.R_drewN | apply Kd.R_drew)); exact HO_11.out⟩, ⟨by repeat (first | (with_reducible first | exact HB.out | apply below_alloc | apply pw_below_drewN | apply below_drew1))⟩⟩
            ·rw [if_neg c19] at H
             have c19b0 : (t110 == ((rd_T86 t106 x12_3).f1)) = false := beq_eq_false_iff_ne.mpr c19
             have c19b1 : (t110 != ((rd_T86 t106 x12_3).f1)) = true := bne_iff_ne.mpr c19
             obtain rfl := Option.some.inj H
             obtain ⟨Ao23, co23, eo23⟩ := Kd.R_slice HO_11.out
             subst eo23
             try go_wp2
             have n0_ := Aside0.mk (Kd.R_drew HO_11.out)
             have n1_ := Aside0.mk (below_drew1 HB.out)
             clear HO_11
             clear HB
             have HO_11 := n0_
             have HB := n1_
             clear n0_ n1_
             have p109 : 0 ≤ (x12_3 : Int) := of_decide_eq_true (by assumption)
             have q109 : x12_3 < (t106.length : Int) := of_decide_eq_true (by assumption)
             obtain ⟨ad109, e109, hx109_0, hx109_1⟩ := at_T86 (Kd.R_reads' HO_11.out).2.2 x12_3 p109 q109
             cases e109
             replace p109 := eq_true p109
             replace q109 := eq_true q109
             have p111 : 0 ≤ (x12_3 : Int) := of_decide_eq_true (by assumption)
             have q111 : x12_3 < (t106.length : Int) := of_decide_eq_true (by assumption)
             obtain ⟨ad111, e111, hx111_0, hx111_1⟩ := at_T86 (Kd.R_reads' HO_11.out).2.2 x12_3 p111 q111
             obtain rfl : ad109 = ad111 := (by injection e111)
             replace p111 := eq_true p111
             replace q111 := eq_true q111
             refine start_ (n := 16) (S := fun w' => w'.cell? (ad109.add ((x12_3).toNat * 2)) = some (.int .i64 ((rd_T86 t106 x12_3).f0)) ∧ w'.cell? ⟨(ad109.add ((x12_3).toNat * 2)).block, (ad109.add ((x12_3).toNat * 2)).off + 1, none⟩ = some (.int .i64 ((rd_T86 t106 x12_3).f1)) ∧ w'.cell? (ad109.add ((x12_3).toNat * 2)) = some (.int .i64 ((rd_T86 t106 x12_3).f0)) ∧ w'.cell? ⟨(ad109.add ((x12_3).toNat * 2)).block, (ad109.add ((x12_3).toNat * 2)).off + 1, none⟩ = some (.int .i64 ((rd_T86 t106 x12_3).f1))) (ds := []) #[false, false, false, false, false, false, false, false, false, false, false, false, false, false, false, false] (by kernel_rfl) rfl rfl ⟨hx109_0, hx109_1, hx111_0, hx111_1⟩ (fun hHeld => ?_); refine with_tabW ref12_Right.tab17 ref12_Right.bits17 (fun HT_ HW_ => ?_)
             generalize wr.drew = w24 at HO_11 HB hx109_0 hx109_1 hx111_0 hx111_1 hHeld ⊢
             refine pure_ (i := 0) (N := some 64) (v := ?_) (a' := ?_) #[true, false, false, false, false, false, false, false, false, false, false, false, false, false, false, false] rfl rfl (any_of HT_.out (by kernel_rfl)) (fun _ _ _ h => h) (Or.inl ⟨by rfl, ?_⟩) ?_ ?_
             rotate_left
             ·intro w'
              go_simp
              with_reducible rfl
             rotate_left
             ·simp only [Act.put, List.setIfInBounds_toArray, List.set_cons_zero, List.set_cons_succ, i64_w, i32_w]
              rfl
             refine pure_ (i := 1) (N := some 65) (v := ?_) (a' := ?_) #[true, true, false, false, false, false, false, false, false, false, false, false, false, false, false, false] rfl rfl (any_of HT_.out (by kernel_rfl)) (fun _ _ _ h => h) (Or.inl ⟨by rfl, ?_⟩) ?_ ?_
             rotate_left
             ·intro w'
              go_simp
              with_reducible rfl
             rotate_left
             ·simp only [Act.put, List.setIfInBounds_toArray, List.set_cons_zero, List.set_cons_succ, i64_w, i32_w]
              rfl
             refine pure_ (i := 2) (N := some 66) (v := ?_) (a' := ?_) #[true, true, true, false, false, false, false, false, false, false, false, false, false, false, false, false] rfl rfl (any_of HT_.out (by kernel_rfl)) (fun _ _ _ h => h) (Or.inl ⟨by rfl, ?_⟩) ?_ ?_
             rotate_left
             ·intro w'
              go_simp
              with_reducible rfl
             rotate_left
             ·simp only [Act.put, List.setIfInBounds_toArray, List.set_cons_zero, List.set_cons_succ, i64_w, i32_w]
              rfl
             refine pure_ (i := 3) (N := some 67) (v := ?_) (a' := ?_) #[true, true, true, true, false, false, false, false, false, false, false, false, false, false, false, false] rfl rfl (any_of HT_.out (by kernel_rfl)) (fun _ _ _ h => h) (Or.inl ⟨by rfl, ?_⟩) ?_ ?_
             rotate_left
             ·intro w'
              go_simp
              with_reducible rfl
             rotate_left
             ·simp only [Act.put, List.setIfInBounds_toArray, List.set_cons_zero, List.set_cons_succ, i64_w, i32_w]
              rfl
             refine pure_ (i := 4) (N := some 68) (v := ?_) (a' := ?_) #[true, true, true, true, true, false, false, false, false, false, false, false, false, false, false, false] rfl rfl (any_of HT_.out (by kernel_rfl)) (fun _ _ _ h => h) (Or.inl ⟨by rfl, ?_⟩) ?_ ?_
             rotate_left
             ·intro w'
              go_simp
              with_reducible rfl
             rotate_left
             ·simp only [Act.put, List.setIfInBounds_toArray, List.set_cons_zero, List.set_cons_succ, i64_w, i32_w]
              rfl
             refine pure_ (i := 5) (N := some 69) (v := ?_) (a' := ?_) #[true, true, true, true, true, true, false, false, false, false, false, false, false, false, false, false] rfl rfl (any_of HT_.out (by kernel_rfl)) (fun _ _ _ h => h) (Or.inl ⟨by rfl, ?_⟩) ?_ ?_
             rotate_left
             ·intro w'
              go_simp
              with_reducible rfl
             rotate_left
             ·simp only [Act.put, List.setIfInBounds_toArray, List.set_cons_zero, List.set_cons_succ, i64_w, i32_w]
              rfl
             refine pure_ (i := 6) (N := some 70) (v := ?_) (a' := ?_) #[true, true, true, true, true, true, true, false, false, false, false, false, false, false, false, false] rfl rfl (any_of HT_.out (by kernel_rfl)) (fun _ _ _ h => h) (Or.inl ⟨by rfl, ?_⟩) ?_ ?_
             rotate_left
             ·intro w'
              go_simp
              with_reducible rfl
             rotate_left
             ·simp only [Act.put, List.setIfInBounds_toArray, List.set_cons_zero, List.set_cons_succ, i64_w, i32_w]
              rfl
             refine pure_ (i := 7) (N := some 71) (v := ?_) (a' := ?_) #[true, true, true, true, true, true, true, true, false, false, false, false, false, false, false, false] rfl rfl (any_of HT_.out (by kernel_rfl)) (fun _ _ _ h => h) (Or.inl ⟨by rfl, ?_⟩) ?_ ?_
             rotate_left
             ·intro w'
              go_simp
              with_reducible rfl
             rotate_left
             ·simp only [Act.put, List.setIfInBounds_toArray, List.set_cons_zero, List.set_cons_succ, i64_w, i32_w]
              rfl
             refine pure_ (i := 10) (N := some 74) (v := ?_) (a' := ?_) #[true, true, true, true, true, true, true, true, false, false, true, false, false, false, false, false] rfl rfl (any_of HT_.out (by kernel_rfl)) (fun _ _ _ h => h) (Or.inl ⟨by rfl, ?_⟩) ?_ ?_
             rotate_left
             ·intro w'
              go_simp
              with_reducible rfl
             rotate_left
             ·simp only [Act.put, List.setIfInBounds_toArray, List.set_cons_zero, List.set_cons_succ, i64_w, i32_w]
              rfl
             refine pure_ (i := 11) (N := some 75) (v := ?_) (a' := ?_) #[true, true, true, true, true, true, true, true, false, false, true, true, false, false, false, false] rfl rfl (any_of HT_.out (by kernel_rfl)) (fun _ _ _ h => h) (Or.inl ⟨by rfl, ?_⟩) ?_ ?_
             rotate_left
             ·intro w'
              go_simp
              with_reducible rfl
             rotate_left
             ·simp only [Act.put, List.setIfInBounds_toArray, List.set_cons_zero, List.set_cons_succ, i64_w, i32_w]
              rfl
             refine pure_ (i := 12) (N := some 76) (v := ?_) (a' := ?_) #[true, true, true, true, true, true, true, true, false, false, true, true, true, false, false, false] rfl rfl (any_of HT_.out (by kernel_rfl)) (fun _ _ _ h => h) (Or.inl ⟨by rfl, ?_⟩) ?_ ?_
             rotate_left
             ·intro w'
              go_simp
              with_reducible rfl
             rotate_left
             ·simp only [Act.put, List.setIfInBounds_toArray, List.set_cons_zero, List.set_cons_succ, i64_w, i32_w]
              rfl
             refine pure_ (i := 13) (N := some 77) (v := ?_) (a' := ?_) #[true, true, true, true, true, true, true, true, false, false, true, true, true, true, false, false] rfl rfl (any_of HT_.out (by kernel_rfl)) (fun _ _ _ h => h) (Or.inl ⟨by rfl, ?_⟩) ?_ ?_
             rotate_left
             ·intro w'
              go_simp
              with_reducible rfl
             rotate_left
             ·simp only [Act.put, List.setIfInBounds_toArray, List.set_cons_zero, List.set_cons_succ, i64_w, i32_w]
              rfl
             refine take_ (i := 8) (N := some 72) (v := ?_) (a' := ?_) #[true, true, true, true, true, true, true, true, true, false, true, true, true, true, false, false] rfl rfl (take_ofW HT_.out HW_.out (by kernel_rfl)) (fun _ _ _ h => h) (Or.inl ⟨by rfl, ?_⟩) hHeld ?_ ?_
             rotate_left
             ·rintro w' ⟨s0, s1, s2, s3⟩
              go_simp
              with_reducible rfl
             rotate_left
             ·simp only [Act.put, List.setIfInBounds_toArray, List.set_cons_zero, List.set_cons_succ, i64_w, i32_w]
              rfl
             refine take_ (i := 14) (N := some 78) (v := ?_) (a' := ?_) #[true, true, true, true, true, true, true, true, true, false, true, true, true, true, true, false] rfl rfl (take_ofW HT_.out HW_.out (by kernel_rfl)) (fun _ _ _ h => h) (Or.inl ⟨by rfl, ?_⟩) hHeld ?_ ?_
             rotate_left
             ·rintro w' ⟨s0, s1, s2, s3⟩
              go_simp
              with_reducible rfl
             rotate_left
             ·simp only [Act.put, List.setIfInBounds_toArray, List.set_cons_zero, List.set_cons_succ, i64_w, i32_w]
              rfl
             refine one_ (i := 9) (N := some 73) #[true, true, true, true, true, true, true, true, true, true, true, true, true, true, true, false] rfl rfl (one_of HT_.out (by kernel_rfl)) (by decide) (fun K hK => ?_)
             refine goes_ Try.func115 (by kernel_rfl) rfl #[.slice A0 l0.length c0, .slice A1 l1.length c1, .slice A2 l2.length c2, .int .i64 x10_2, .int .i64 ((rd_T86 t106 x12_3).f0)] (by rfl) rfl rfl (by (try simp only [List.map_toArray, List.map_cons, List.map_nil]); first | done | rfl | (simp only [List.length_drop, List.length_take]; rfl)) ?_
             with_reducible refine (ref12_last.calls k3 _ _ l0 _ _ l1 _ _ l2 x10_2 ((rd_T86 t106 x12_3).f0) t110 _ ?side1 ?side2 ?side3 ?side4 ?side5 ?side6 A18.out).mono ?_
             (case side1 => repeat (first | exact (Kd.C_below HR0.out HB.out) | (with_reducible refine Kd.C_alloc ?_ _) | (with_reducible refine Kd.C_drewN ?_ _) | (with_reducible refine Kd.C_drew ?_)))
             (case side2 => exact HC0.out)
             (case side3 => repeat (first | exact (Kd.C_below HR1.out HB.out) | (with_reducible refine Kd.C_alloc ?_ _) | (with_reducible refine Kd.C_drewN ?_ _) | (with_reducible refine Kd.C_drew ?_)))
             (case side4 => exact HC1.out)
             (case side5 => repeat (first | exact (Kd.C_below HR2.out HB.out) | (with_reducible refine Kd.C_alloc ?_ _) | (with_reducible refine Kd.C_drewN ?_ _) | (with_reducible refine Kd.C_drew ?_)))
             (case side6 => exact HC2.out)
             rintro e w25 ⟨rfl, hb⟩
             have HS0_ := (hb.cell (World.block_lt_of_cell? _ _ (hHeld.1))).trans (hHeld.1)
             have HS1_ := (hb.cell (World.block_lt_of_cell? _ _ (hHeld.2.1))).trans (hHeld.2.1)
             have HS2_ := (hb.cell (World.block_lt_of_cell? _ _ (hHeld.2.2.1))).trans (hHeld.2.2.1)
             have HS3_ := (hb.cell (World.block_lt_of_cell? _ _ (hHeld.2.2.2))).trans (hHeld.2.2.2)
             refine ⟨_, rfl, ?_⟩
             have n0_ := Aside0.mk (Kd.R_below (by (with_reducible repeat (first | apply Kd.R_alloc | apply Kd.R_drewN | apply Kd.R_drew)); exact HO_11.out) hb)
             have n1_ := Aside0.mk (below_step (by repeat (first | (with_reducible first | exact HB.out | apply below_alloc | apply pw_below_drewN | apply below_drew1))) hb)
             clear HO_11
             clear HB
             have HO_11 := n0_
             have HB := n1_
             clear n0_ n1_
             (try clear hb)
             (try clear hb2)
             (try clear hk)
             (try clear hi)
             refine hK.out _ _ ⟨HS0_, HS1_, HS2_, HS3_⟩ (fun hHeld => ?_)
             clear hK K
             refine norm_ (a' := ?_) ?_ ?_
             rotate_left
             ·show Act.put _ (some 73) _ = _
              simp only [Act.put, List.setIfInBounds_toArray, List.set_cons_zero, List.set_cons_succ, i64_w, i32_w]
              rfl
             refine pure_ (i := 15) (N := some 79) (v := ?_) (a' := ?_) #[true, true, true, true, true, true, true, true, true, true, true, true, true, true, true, true] rfl rfl (any_of HT_.out (by kernel_rfl)) (fun _ _ _ h => h) (Or.inl ⟨by rfl, ?_⟩) ?_ ?_
             rotate_left
             ·intro w'
              go_simp
              with_reducible rfl
             rotate_left
             ·simp only [Act.put, List.setIfInBounds_toArray, List.set_cons_zero, List.set_cons_succ, i64_w, i32_w]
              rfl
             refine done_ (done_of HT_.out (by kernel_rfl)) ?_
             try go_wp2
             go_ret
             exact ⟨by first | rfl | (simp <;> rfl) | (simp [*] <;> rfl), by repeat (first | (with_reducible first | exact HB.out | apply below_alloc | apply pw_below_drewN | apply below_drew1))⟩
           ·rw [if_neg c17] at H
            exact absurd H (by simp)
          ·rw [if_neg c16] at H
           have c16b0 : decide (x12_3 < (t106.length : Int)) = false := decide_eq_false c16
           clear c16
           have H' := Aside0.mk H
           clear H
           obtain ⟨Ao26, co26, eo26⟩ := Kd.R_slice HO_11.out
           subst eo26
           go_wp2
           go_roundg k3
           case measure => have := HK1.out; have := HK2.out; have := HK3.out; omega
           case rel => exact ⟨(wrap64 (x10_2 + 1)), (by first | rfl | (simp; done) | (simp [*]; done)), H', ⟨by have := HK1.out; have := HK2.out; have := HK3.out; omega⟩, ⟨by repeat (first | (with_reducible first | exact HB.out | apply below_alloc | apply pw_below_drewN | apply below_drew1))⟩⟩
       ·rw [if_neg c13] at H
        have c13b0 : decide (x10_2 < (l0.length : Int)) = false := decide_eq_false c13
        clear c13
        obtain rfl := Option.some.inj H
        go_wp2
        go_ret
        exact ⟨by first | rfl | (simp <;> rfl) | (simp [*] <;> rfl), by repeat (first | (with_reducible first | exact HB.out | apply below_alloc | apply pw_below_drewN | apply below_drew1))⟩
 ·replace c5 := Bool.eq_false_iff.mpr c5
  subst c5
  have H1 : (some false) = some r := by rw [if_neg (show ¬ (false = true) by decide)] at H; exact H
  clear H
  have H := H1
  clear H1
  obtain rfl := Option.some.inj H
  go_enter Try.func106, Try.ntmps106
  go_wp2_with (first | ((with_reducible refine gate_callee (f := 104) rfl ?_); refine goesL_ (some 16) rfl rfl Try.func104 (by kernel_rfl) rfl #[.int .i64 (l0.length : Int), .slice A1 l1.length c1] rfl (by (try simp only [List.map_toArray, List.map_cons, List.map_nil]); first | done | rfl | (simp only [List.length_drop, List.length_take]; rfl)) ?_; (with_reducible refine (ref12_Row.calls k (l0.length : Int) _ _ l1 false _ ?side1 ?side2 A4.out).mono ?_); (case side1 => repeat (first | exact HR1.out | (with_reducible refine Kd.C_alloc ?_ _) | (with_reducible refine Kd.C_drewN ?_ _) | (with_reducible refine Kd.C_drew ?_))); (case side2 => exact HC1.out); rintro e w' ⟨rfl, ⟨nd, rfl⟩⟩; refine ⟨_, rfl, ?_⟩))
  go_ret
  exact ⟨by first | rfl | (simp <;> rfl) | (simp [*] <;> rfl), by repeat (first | (with_reducible first | exact HB.out | apply below_alloc | apply pw_below_drewN | apply below_drew1))⟩
end Go.Proofs.Ytfocaefnmfkojaa.Q
namespace Go.Proofs.Ytfocaefnmfkojaa.Q
open Go.RowKit Go.Proofs.YtfocaefnmfkojaaW.PrintWords Go.Proofs.YtfocaefnmfkojaaW.PrintLast Go.Proofs.YtfocaefnmfkojaaW.PrintMore
attribute [local go_sem] max2_int min2_int max_two min_two max_three min_three max_four min_four   -- for this text's walks alone
set_option linter.unusedVariables false
set_option linter.unusedSimpArgs false
def ref13_In.j0 : Nat → List (S44) → Int → List Int → Bool → Option ((List (S154)) × Bool)
 | 0, _, _, _, _ => none
 | k + 1, x0, x1, x2, x26 => if x26 = true then (some (([] : List (S154)), false)) else ((ref09_Asks.f x1).bind fun t103 => ((ref11_Of.f k x0 t103 x2).bind fun t104 => ((ref12_Right.f k x0 x2 t104).bind fun t107 => (some (t104, t107)))))
def ref13_In.f (k : Nat) (l0 : List (S44)) (a1 : Int) (l2 : List Int) : Option ((List (S154)) × Bool) := if a1 < 0 then (ref13_In.j0 k l0 a1 l2 true) else (if a1 > 11 then (ref13_In.j0 k l0 a1 l2 true) else ((ref12_Row.f k (l0.length : Int) l2).bind fun t101 => (if t101 = true then ((ref08_Sound.f k l0).bind fun t102 => (ref13_In.j0 k l0 a1 l2 (!t102))) else (ref13_In.j0 k l0 a1 l2 true))))
set_option maxHeartbeats 8000000 in
set_option maxRecDepth 100000 in
theorem ref13_In.calls (k : Nat) (A0 : Option Addr) (c0 : Nat) (l0 : List (S44)) (a1 : Int) (A2 : Option Addr) (c2 : Nat) (l2 : List Int) (r1 : List (S154)) (r2 : Bool) (w : World) (hr0 : Kd.C k44 w A0 l0.length l0) (hc0 : l0.length ≤ c0) (hr2 : Kd.C (Kd.int .i64) w A2 l2.length l2) (hc2 : l2.length ≤ c2) (h : ref13_In.f k l0 a1 l2 = some (r1, r2)) :
  Calls Try.prog 92 #[.slice A0 l0.length c0, .int .i64 a1, .slice A2 l2.length c2] w fun e w' => ∃ v0_ : Value, e = .returned (.tuple #[v0_, .bool r2]) ∧ Kd.R k154 154 w' w.heap.size (fun _ => True) v0_ r1 ∧ Below w.heap.size w w' := by
 have HR0 := Aside0.mk hr0
 have HC0 := Aside0.mk hc0
 clear hr0 hc0
 have HR2 := Aside0.mk hr2
 have HC2 := Aside0.mk hc2
 clear hr2 hc2
 have HB := Aside0.mk (Below.refl w.heap.size w)
 have H : (if a1 < 0 then (ref13_In.j0 k l0 a1 l2 true) else (if a1 > 11 then (ref13_In.j0 k l0 a1 l2 true) else ((ref12_Row.f k (l0.length : Int) l2).bind fun t101 => (if t101 = true then ((ref08_Sound.f k l0).bind fun t102 => (ref13_In.j0 k l0 a1 l2 (!t102))) else (ref13_In.j0 k l0 a1 l2 true))))) = some (r1, r2) := h
 clear h
 have HC4 := Aside0.mk H
 clear H
 go_enter Try.func92, Try.ntmps92
 go_upto_region 1 with (fail)
 go_cut [26] (fun v26 wc => ∃ (kq : Nat) (x26_3 : Bool), v26 = .bool x26_3 ∧ Aside0 (ref13_In.j0 kq l0 a1 l2 x26_3 = some (r1, r2)) ∧ Aside0 (kq ≤ k) ∧ Aside0 (Below w.heap.size w wc))
 case first =>
  have H := HC4.out
  clear HC4
  by_cases c5 : a1 < 0
  ·rw [if_pos c5] at H
   have c5b0 : decide (a1 < 0) = true := decide_eq_true c5
   clear c5
   (first | rw [c5b0] | (simp only [i64_w, i32_w]; rw [c5b0]) | skip)
   have H' := Aside0.mk H
   clear H
   go_wp2
   go_meet
   case rel => exact ⟨_, (true), (by first | rfl | (simp; done) | (simp [*]; done)), H', ⟨by first | omega | exact Nat.le_refl _⟩, ⟨by repeat (first | (with_reducible first | exact HB.out | apply below_alloc | apply pw_below_drewN | apply below_drew1))⟩⟩
  ·rw [if_neg c5] at H
   have c5b0 : decide (a1 < 0) = false := decide_eq_false c5
   clear c5
   (first | rw [c5b0] | (simp only [i64_w, i32_w]; rw [c5b0]) | skip)
   by_cases c6 : a1 > 11
   ·rw [if_pos c6] at H
    have c6b0 : decide (11 < a1) = true := decide_eq_true c6
    clear c6
    have H' := Aside0.mk H
    clear H
    go_wp2
    go_meet
    case rel => exact ⟨_, (true), (by first | rfl | (simp; done) | (simp [*]; done)), H', ⟨by first | omega | exact Nat.le_refl _⟩, ⟨by repeat (first | (with_reducible first | exact HB.out | apply below_alloc | apply pw_below_drewN | apply below_drew1))⟩⟩
   ·rw [if_neg c6] at H
    have c6b0 : decide (11 < a1) = false := decide_eq_false c6
    clear c6
    replace H := Option.bind_eq_some_iff.mp H
    obtain ⟨t101, A70, H⟩ := H
    replace H : (if t101 = true then ((ref08_Sound.f k l0).bind fun t102 => (ref13_In.j0 k l0 a1 l2 (!t102))) else (ref13_In.j0 k l0 a1 l2 true)) = some (r1, r2) := H
    have A7 := Aside0.mk A70
    clear A70
    by_cases c8 : t101 = true
    ·subst c8
     have H1 : ((ref08_Sound.f k l0).bind fun t102 => (ref13_In.j0 k l0 a1 l2 (!t102))) = some (r1, r2) := by rw [if_pos rfl] at H; exact H
     clear H
     have H := H1
     clear H1
     replace H := Option.bind_eq_some_iff.mp H
     obtain ⟨t102, A90, H⟩ := H
     replace H : (ref13_In.j0 k l0 a1 l2 (!t102)) = some (r1, r2) := H
     have A9 := Aside0.mk A90
     clear A90
     have H' := Aside0.mk H
     clear H
     go_wp2_with (first | (go_at_call 104; (with_reducible refine (ref12_Row.calls k (l0.length : Int) _ _ l2 true _ ?side1 ?side2 A7.out).mono ?_); (case side1 => repeat (first | exact (Kd.C_below HR2.out HB.out) | (with_reducible refine Kd.C_alloc ?_ _) | (with_reducible refine Kd.C_drewN ?_ _) | (with_reducible refine Kd.C_drew ?_))); (case side2 => exact HC2.out); rintro e w' ⟨rfl, ⟨nd, rfl⟩⟩) | (go_at_call 42; (with_reducible refine (ref08_Sound.calls k _ _ l0 t102 _ ?side1 ?side2 A9.out).mono ?_); (case side1 => repeat (first | exact (Kd.C_below HR0.out (by repeat (first | (with_reducible first | exact HB.out | apply below_alloc | apply pw_below_drewN | apply below_drew1)))) | (with_reducible refine Kd.C_alloc ?_ _) | (with_reducible refine Kd.C_drewN ?_ _) | (with_reducible refine Kd.C_drew ?_))); (case side2 => exact HC0.out); rintro e w10 ⟨rfl, hb⟩; have n0_ := Aside0.mk (below_step (by repeat (first | (with_reducible first | exact HB.out | apply below_alloc | apply pw_below_drewN | apply below_drew1))) hb); clear HB; have HB := n0_; clear n0_; (try clear hb); (try clear hb2); (try clear hk); (try clear hi)))
     go_meet
     case rel => exact ⟨_, (!t102), (by first | rfl | (simp; done) | (simp [*]; done)), H', ⟨by first | omega | exact Nat.le_refl _⟩, ⟨by repeat (first | (with_reducible first | exact HB.out | apply below_alloc | apply pw_below_drewN | apply below_drew1))⟩⟩
    ·replace c8 := Bool.eq_false_iff.mpr c8
     subst c8
     have H1 : (ref13_In.j0 k l0 a1 l2 true) = some (r1, r2) := by rw [if_neg (show ¬ (false = true) by decide)] at H; exact H
     clear H
     have H := H1
     clear H1
     have H' := Aside0.mk H
     clear H
     go_wp2_with (first | (go_at_call 104; (with_reducible refine (ref12_Row.calls k (l0.length : Int) _ _ l2 false _ ?side1 ?side2 A7.out).mono ?_); (case side1 => repeat (first | exact (Kd.C_below HR2.out HB.out) | (with_reducible refine Kd.C_alloc ?_ _) | (with_reducible refine Kd.C_drewN ?_ _) | (with_reducible refine Kd.C_drew ?_))); (case side2 => exact HC2.out); rintro e w' ⟨rfl, ⟨nd, rfl⟩⟩))
     go_meet
     case rel => exact ⟨_, (true), (by first | rfl | (simp; done) | (simp [*]; done)), H', ⟨by first | omega | exact Nat.le_refl _⟩, ⟨by repeat (first | (with_reducible first | exact HB.out | apply below_alloc | apply pw_below_drewN | apply below_drew1))⟩⟩
 case rest =>
  clear HC4
  try clear c2
  try clear p2
  try clear c5
  try clear c5b0
  try clear c6
  try clear c6b0
  try clear c8
  try clear c9
  obtain ⟨kq, x26_3, rfl, HA, HJ3, HB⟩ := hcut
  cases kq with
  | zero => exact absurd HA.out (by simp [ref13_In.j0])
  | succ kj3 =>
   have H := HA.out
   clear HA
   simp only [ref13_In.j0] at H
   by_cases c11 : x26_3 = true
   ·subst c11
    have H1 : (some (([] : List (S154)), false)) = some (r1, r2) := by rw [if_pos rfl] at H; exact H
    clear H
    have H := H1
    clear H1
    simp only [Option.some.injEq, Prod.mk.injEq] at H
    obtain ⟨rfl, rfl⟩ := H
    go_wp2
    go_ret2
    exact ⟨_, by first | rfl | (simp <;> rfl) | (simp [*] <;> rfl), by first | exact Kd.R_nil _ _ _ _ _ | exact Kd.N_nil _ _ _ _ _ | exact Kd.V_nil _ _ _ _ _ | exact Kd.Q_nil _ _ _ _ _ | exact Kd.S_nil _ _ _ _ _, by repeat (first | (with_reducible first | exact HB.out | apply below_alloc | apply pw_below_drewN | apply below_drew1))⟩
   ·replace c11 := Bool.eq_false_iff.mpr c11
    subst c11
    have H1 : ((ref09_Asks.f a1).bind fun t103 => ((ref11_Of.f kj3 l0 t103 l2).bind fun t104 => ((ref12_Right.f kj3 l0 l2 t104).bind fun t107 => (some (t104, t107))))) = some (r1, r2) := by rw [if_neg (show ¬ (false = true) by decide)] at H; exact H
    clear H
    have H := H1
    clear H1
    replace H := Option.bind_eq_some_iff.mp H
    obtain ⟨t103, A120, H⟩ := H
    replace H : ((ref11_Of.f kj3 l0 t103 l2).bind fun t104 => ((ref12_Right.f kj3 l0 l2 t104).bind fun t107 => (some (t104, t107)))) = some (r1, r2) := H
    have A12 := Aside0.mk A120
    clear A120
    replace H := Option.bind_eq_some_iff.mp H
    obtain ⟨t104, A130, H⟩ := H
    replace H : ((ref12_Right.f kj3 l0 l2 t104).bind fun t107 => (some (t104, t107))) = some (r1, r2) := H
    have A13 := Aside0.mk A130
    clear A130
    replace H := Option.bind_eq_some_iff.mp H
    obtain ⟨t107, A140, H⟩ := H
    replace H : (some (t104, t107)) = some (r1, r2) := H
    have A14 := Aside0.mk A140
    clear A140
    simp only [Option.some.injEq, Prod.mk.injEq] at H
    obtain ⟨rfl, rfl⟩ := H
    go_wp2_with (first | ((with_reducible refine gate_callee (f := 19) rfl ?_); refine goesL_ (some 29) rfl rfl Try.func19 (by kernel_rfl) rfl #[.int .i64 a1] rfl (by (try simp only [List.map_toArray, List.map_cons, List.map_nil]); first | done | rfl | (simp only [List.length_drop, List.length_take]; rfl)) ?_; (with_reducible refine (ref09_Asks.calls a1 t103 _ A12.out).mono ?_); rintro e w' ⟨rfl, ⟨nd, rfl⟩⟩; refine ⟨_, rfl, ?_⟩) | ((with_reducible refine gate_callee (f := 105) rfl ?_); refine goesL_ (some 31) rfl rfl Try.func105 (by kernel_rfl) rfl #[.slice A0 l0.length c0, .int .i64 t103, .slice A2 l2.length c2] rfl (by (try simp only [List.map_toArray, List.map_cons, List.map_nil]); first | done | rfl | (simp only [List.length_drop, List.length_take]; rfl)) ?_; (with_reducible refine (ref11_Of.calls kj3 _ _ l0 t103 _ _ l2 t104 _ ?side1 ?side2 ?side3 ?side4 A13.out).mono ?_); (case side1 => repeat (first | exact (Kd.C_below HR0.out (by repeat (first | (with_reducible first | exact HB.out | apply below_alloc | apply pw_below_drewN | apply below_drew1)))) | (with_reducible refine Kd.C_alloc ?_ _) | (with_reducible refine Kd.C_drewN ?_ _) | (with_reducible refine Kd.C_drew ?_))); (case side2 => exact HC0.out); (case side3 => repeat (first | exact (Kd.C_below HR2.out (by repeat (first | (with_reducible first | exact HB.out | apply below_alloc | apply pw_below_drewN | apply below_drew1)))) | (with_reducible refine Kd.C_alloc ?_ _) | (with_reducible refine Kd.C_drewN ?_ _) | (with_reducible refine Kd.C_drew ?_))); (case side4 => exact HC2.out); rintro e w15 ⟨v105, rfl, ho0, hb⟩; refine ⟨_, rfl, ?_⟩; have n0_ := Aside0.mk (Kd.R_lower ho0 (below_size (by repeat (first | (with_reducible first | exact HB.out | apply below_alloc | apply pw_below_drewN | apply below_drew1))))); have n1_ := Aside0.mk (below_step (by repeat (first | (with_reducible first | exact HB.out | apply below_alloc | apply pw_below_drewN | apply below_drew1))) hb); clear HB; have HO106 := n0_; have HB := n1_; clear n0_ n1_; (try clear hb); (try clear hb2); (try clear hk); (try clear hi); (try clear ho0); obtain ⟨Ao16, co16, eo16⟩ := Kd.R_slice HO106.out; subst eo16) | ((with_reducible refine gate_callee (f := 106) rfl ?_); refine goesL_ (some 36) rfl rfl Try.func106 (by kernel_rfl) rfl #[.slice A0 l0.length c0, .slice A2 l2.length c2, .slice Ao16 t104.length co16] rfl (by (try simp only [List.map_toArray, List.map_cons, List.map_nil]); first | done | rfl | (simp only [List.length_drop, List.length_take]; rfl)) ?_; (with_reducible refine (ref12_Right.calls kj3 _ _ l0 _ _ l2 _ _ t104 t107 _ ?side1 ?side2 ?side3 ?side4 ?side5 ?side6 A14.out).mono ?_); (case side1 => repeat (first | exact (Kd.C_below HR0.out HB.out) | (with_reducible refine Kd.C_alloc ?_ _) | (with_reducible refine Kd.C_drewN ?_ _) | (with_reducible refine Kd.C_drew ?_))); (case side2 => exact HC0.out); (case side3 => repeat (first | exact (Kd.C_below HR2.out HB.out) | (with_reducible refine Kd.C_alloc ?_ _) | (with_reducible refine Kd.C_drewN ?_ _) | (with_reducible refine Kd.C_drew ?_))); (case side4 => exact HC2.out); (case side5 => repeat (first | exact (Kd.R_reads' HO106.out).2.2 | (with_reducible refine Kd.C_alloc ?_ _) | (with_reducible refine Kd.C_drewN ?_ _) | (with_reducible refine Kd.C_drew ?_))); (case side6 => exact (Kd.R_reads' HO106.out).2.1); rintro e w17 ⟨rfl, hb⟩; refine ⟨_, rfl, ?_⟩; have n0_ := Aside0.mk (Kd.R_below (by (with_reducible repeat (first | apply Kd.R_alloc | apply Kd.R_drewN | apply Kd.R_drew)); exact HO106.out) hb); have n1_ := Aside0.mk (below_step (by repeat (first | (with_reducible first | exact HB.out | apply below_alloc | apply pw_below_drewN | apply below_drew1))) hb); clear HO106; clear HB; have HO106 := n0_; have HB := n1_; clear n0_ n1_; (try clear hb); (try clear hb2); (try clear hk); (try clear hi)))
    go_ret2
    exact ⟨_, by first | rfl | (simp <;> rfl) | (simp [*] <;> rfl), by (with_reducible repeat (first | apply Kd.R_alloc | apply Kd.R_drewN | apply Kd.R_drew)); exact HO106.out, by repeat (first | (with_reducible first | exact HB.out | apply below_alloc | apply pw_below_drewN | apply below_drew1))⟩
end Go.Proofs.Ytfocaefnmfkojaa.Q
