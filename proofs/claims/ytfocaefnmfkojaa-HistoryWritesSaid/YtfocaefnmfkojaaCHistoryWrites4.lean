/- A part of the proof of historyWrites_holds: words and contracts that its last text uses. -/
import Derived.Test.YtfocaefnmfkojaaCHistoryWrites3
import Derived.Deep.MidRow
import Derived.Maps.OwnSet
import Derived.Maps.RangeWalk
import Derived.Outline
namespace Go.Proofs.Ytfocaefnmfkojaa.R
open Go.RowKit Go.Proofs.Ytfocaefnmfkojaa.Q Go.Proofs.YtfocaefnmfkojaaW.PrintWords Go.Proofs.YtfocaefnmfkojaaW.PrintLast
set_option linter.unusedVariables false
set_option linter.unusedSimpArgs false
namespace Srt
theorem midE (x y : Int) (h0 : 0 ≤ x) (h1 : 0 ≤ y) (h2 : x ≤ 4000000000000) (h3 : y ≤ 4000000000000) : wrap64 ((IntKind.u64.wrap (wrap64 (x + y))) / 2) = (x + y) / 2 := by
  rw [wrapI (x + y) (by omega) (by omega)]
  have : IntKind.u64.wrap (x + y) = x + y := by
    simp only [IntKind.wrap, IntKind.bits, IntKind.signed]
    first | omega | (simp; omega)
  rw [this, wrapI _ (by omega) (by omega)]
theorem cut (M : List O) (t : Nat) (h : t < M.length) : ∃ M1 y M2, M = M1 ++ y :: M2 ∧ M1.length = t :=
  ⟨M.take t, M[t], M.drop (t + 1), by rw [← List.drop_eq_getElem_cons h, List.take_append_drop], by rw [List.length_take]; omega⟩
theorem cut2 (M : List O) (t : Nat) (h : t ≤ M.length) : ∃ M1 M2, M = M1 ++ M2 ∧ M1.length = t :=
  ⟨M.take t, M.drop t, (List.take_append_drop t M).symm, by rw [List.length_take]; omega⟩
theorem up_loop (Q : List O) (x : O) : ∀ (B P : List O) (i p : Int), p = P.length → i - 1 = P.length + B.length → Few (P ++ x :: B ++ Q) →
    Ev (fun k => api_Op_120.l1 k (P ++ x :: B ++ Q) i p) (P ++ B ++ x :: Q) := by
  intro B
  induction B with
  | nil =>
    intro P i p hp hi hf
    have hf' := hf
    unfold Few at hf'
    simp only [List.length_append, List.length_cons, List.length_nil] at hf' hi
    refine Ev.step (fun k => by rw [api_Op_120.l1]) ?_
    rw [wrapI (i - 1) (by omega) (by omega)]
    simp only [if_neg (show ¬ p < i - 1 by omega)]
    refine evEq (Ev.now _) ?_
    simp
  | cons y B ih =>
    intro P i p hp hi hf
    have hf' := hf
    unfold Few at hf'
    simp only [List.length_append, List.length_cons] at hf' hi
    have wi : wrap64 (i - 1) = i - 1 := wrapI _ (by omega) (by omega)
    have wp : wrap64 (p + 1) = p + 1 := wrapI _ (by omega) (by omega)
    have e1 : P ++ x :: y :: B ++ Q = P ++ x :: (y :: B ++ Q) := by simp
    have e2 : P ++ x :: y :: B ++ Q = (P ++ [x]) ++ y :: (B ++ Q) := by simp
    have j2 : p + 1 = ((P ++ [x]).length : Int) := by simp; omega
    obtain ⟨p1, p2⟩ := len_at e1 hp
    obtain ⟨q1, q2⟩ := len_at e2 j2
    refine Ev.step (fun k => by rw [api_Op_120.l1]) ?_
    simp only [wi, wp, if_pos (show p < i - 1 by omega), if_pos p1, if_pos p2, if_pos q1, if_pos q2, rd_at e1 hp, rd_at e2 j2, eta]
    rw [set_at y e1 (by omega), set_at (L := P ++ y :: (y :: B ++ Q)) (P := P ++ [y]) (x := y) (Q := B ++ Q) x (by simp) (by simp; omega)]
    have h := ih (P ++ [y]) i (p + 1) (by simp; omega) (by simp; omega) (by unfold Few; simp; omega)
    rw [show P ++ [y] ++ x :: B ++ Q = P ++ [y] ++ x :: (B ++ Q) by simp] at h
    refine evEq h ?_
    simp
theorem low_search (P B Q : List O) (x : O) (a : Int) (ha : a = P.length) (hu : Up B) (hf : Few (P ++ x :: B ++ Q)) : ∀ (n : Nat) (L M R : List O) (i j : Int), M.length ≤ n → B = L ++ M ++ R → i = P.length + 1 + L.length → j = i + M.length →
    (∀ y ∈ L, y.f1 < x.f1) → (∀ y ∈ R, x.f1 ≤ y.f1) → ∃ B1 B2, B = B1 ++ B2 ∧ (∀ y ∈ B1, y.f1 < x.f1) ∧ (∀ y ∈ B2, x.f1 ≤ y.f1) ∧
      ∀ r, Ev (fun k => api_Op_120.l1 k (P ++ x :: B ++ Q) (a + 1 + B1.length) a) r → Ev (fun k => api_Op_120.l0 k (P ++ x :: B ++ Q) a i j) r := by
  intro n
  induction n with
  | zero =>
    intro L M R i j hn hB hi hj hL hR
    obtain rfl : M = [] := List.length_eq_zero_iff.mp (by omega)
    refine ⟨L, R, by simpa using hB, hL, hR, fun r hr => ?_⟩
    refine Ev.step (fun k => by rw [api_Op_120.l0]) ?_
    simp only [List.length_nil] at hj
    simp only [if_neg (show ¬ i < j by omega)]
    rw [show i = a + 1 + (L.length : Int) by omega]
    exact hr
  | succ n ih =>
    intro L M R i j hn hB hi hj hL hR
    by_cases hM : M.length = 0
    · exact ih L M R i j (by omega) hB hi hj hL hR
    have hf' := hf
    unfold Few at hf'
    rw [hB] at hf'
    simp only [List.length_append, List.length_cons] at hf'
    obtain ⟨t, ht⟩ : ∃ t : Nat, (t : Int) = (i + j) / 2 - i := ⟨((i + j) / 2 - i).toNat, by omega⟩
    obtain ⟨M1, y, M2, rfl, hM1⟩ := cut M t (by omega)
    simp only [List.length_append, List.length_cons] at hn hj hf'
    have wm := midE i j (by omega) (by omega) (by omega) (by omega)
    have wm1 : wrap64 ((i + j) / 2 + 1) = (i + j) / 2 + 1 := wrapI _ (by omega) (by omega)
    have e1 : P ++ x :: B ++ Q = P ++ x :: (B ++ Q) := by simp
    have e2 : P ++ x :: B ++ Q = (P ++ x :: L ++ M1) ++ y :: (M2 ++ R ++ Q) := by rw [hB]; simp
    have j2 : (i + j) / 2 = ((P ++ x :: L ++ M1).length : Int) := by simp; omega
    obtain ⟨p1, p2⟩ := len_at e1 ha
    obtain ⟨q1, q2⟩ := len_at e2 j2
    have hu' := hu
    rw [hB, show L ++ (M1 ++ y :: M2) ++ R = (L ++ M1) ++ (y :: (M2 ++ R)) by simp, Up.append, Up.cons] at hu'
    by_cases c : y.f1 < x.f1
    · obtain ⟨B1, B2, h1, h2, h3, h4⟩ := ih (L ++ M1 ++ [y]) M2 R ((i + j) / 2 + 1) j (by omega) (by rw [hB]; simp) (by simp; omega) (by omega) (by
        intro z hz
        simp only [List.mem_append, List.mem_singleton] at hz
        rcases hz with (hz | hz) | rfl
        · exact hL z hz
        · have := hu'.2.2 z (by simp [hz]) y (by simp)
          omega
        · exact c) hR
      refine ⟨B1, B2, h1, h2, h3, fun r hr => ?_⟩
      refine Ev.step (fun k => by rw [api_Op_120.l0]) ?_
      simp only [wm, wm1, if_pos (show i < j by omega), if_pos p1, if_pos p2, if_pos q1, if_pos q2, rd_at e1 ha, rd_at e2 j2, cmpE, Option.bind_some, cmp_lt, if_pos c]
      exact h4 r hr
    · obtain ⟨B1, B2, h1, h2, h3, h4⟩ := ih L M1 (y :: (M2 ++ R)) i ((i + j) / 2) (by omega) (by rw [hB]; simp) hi (by omega) hL (by
        intro z hz
        rcases List.mem_cons.mp hz with rfl | hz
        · omega
        · have := hu'.2.1.1 z hz
          omega)
      refine ⟨B1, B2, h1, h2, h3, fun r hr => ?_⟩
      refine Ev.step (fun k => by rw [api_Op_120.l0]) ?_
      simp only [wm, wm1, if_pos (show i < j by omega), if_pos p1, if_pos p2, if_pos q1, if_pos q2, rd_at e1 ha, rd_at e2 j2, cmpE, Option.bind_some, cmp_lt, if_neg c]
      exact h4 r hr
theorem down_loop (P : List O) (x : O) : ∀ (n : Nat) (R Q : List O) (i p : Int), R.length = n → i = P.length → p = P.length + R.length → Few (P ++ R ++ x :: Q) →
    Ev (fun k => api_Op_120.l3 k (P ++ R ++ x :: Q) i p) (P ++ x :: R ++ Q) := by
  intro n
  induction n with
  | zero =>
    intro R Q i p hn hi hp hf
    obtain rfl : R = [] := List.length_eq_zero_iff.mp hn
    simp only [List.length_nil] at hp
    refine Ev.step (fun k => by rw [api_Op_120.l3]) ?_
    simp only [if_neg (show ¬ p > i by omega)]
    refine evEq (Ev.now _) ?_
    simp
  | succ n ih =>
    intro R Q i p hn hi hp hf
    obtain ⟨S, y, rfl⟩ : ∃ S y, R = S ++ [y] := ⟨R.dropLast, R.getLast (by intro h; simp [h] at hn), (List.dropLast_concat_getLast _).symm⟩
    have hf' := hf
    unfold Few at hf'
    simp only [List.length_append, List.length_cons, List.length_nil] at hf' hp hn
    have wp : wrap64 (p - 1) = p - 1 := wrapI _ (by omega) (by omega)
    have e1 : P ++ (S ++ [y]) ++ x :: Q = (P ++ S ++ [y]) ++ x :: Q := by simp
    have e2 : P ++ (S ++ [y]) ++ x :: Q = (P ++ S) ++ y :: (x :: Q) := by simp
    have j1 : p = ((P ++ S ++ [y]).length : Int) := by simp; omega
    have j2 : p - 1 = ((P ++ S).length : Int) := by simp; omega
    obtain ⟨p1, p2⟩ := len_at e1 j1
    obtain ⟨q1, q2⟩ := len_at e2 j2
    refine Ev.step (fun k => by rw [api_Op_120.l3]) ?_
    simp only [wp, if_pos (show p > i by omega), if_pos p1, if_pos p2, if_pos q1, if_pos q2, rd_at e1 j1, rd_at e2 j2, eta]
    have s1 : (P ++ (S ++ [y]) ++ x :: Q).set p.toNat y = P ++ S ++ [y] ++ y :: Q := set_at y e1 (by omega)
    have s2 : (P ++ (S ++ [y]) ++ x :: Q).set (p - 1).toNat x = P ++ S ++ x :: x :: Q := set_at x e2 (by omega)
    first
    | rw [s1, set_at (L := P ++ S ++ [y] ++ y :: Q) (P := P ++ S) (x := y) (Q := y :: Q) x (by simp) (by simp; omega)]
    | rw [s2, set_at (L := P ++ S ++ x :: x :: Q) (P := P ++ S ++ [x]) (x := x) (Q := Q) y (by simp) (by simp; omega)]
    have h := ih S (y :: Q) i (p - 1) (by omega) hi (by omega) (by unfold Few; simp; omega)
    refine evEq (r := P ++ x :: S ++ y :: Q) ?_ (by simp)
    first | exact h | (simp only [List.append_assoc, List.cons_append, List.nil_append, List.singleton_append] at h ⊢; exact h)
theorem high_search (P A Q : List O) (x : O) (m : Int) (hm : m = P.length + A.length) (hu : Up A) (hf : Few (P ++ A ++ x :: Q)) : ∀ (n : Nat) (L M R : List O) (i j : Int), M.length ≤ n → A = L ++ M ++ R → i = P.length + L.length → j = i + M.length →
    (∀ y ∈ L, y.f1 ≤ x.f1) → (∀ y ∈ R, x.f1 < y.f1) → ∃ A1 A2, A = A1 ++ A2 ∧ (∀ y ∈ A1, y.f1 ≤ x.f1) ∧ (∀ y ∈ A2, x.f1 < y.f1) ∧
      ∀ r, Ev (fun k => api_Op_120.l3 k (P ++ A ++ x :: Q) (P.length + A1.length) m) r → Ev (fun k => api_Op_120.l2 k (P ++ A ++ x :: Q) m i j) r := by
  intro n
  induction n with
  | zero =>
    intro L M R i j hn hB hi hj hL hR
    obtain rfl : M = [] := List.length_eq_zero_iff.mp (by omega)
    refine ⟨L, R, by simpa using hB, hL, hR, fun r hr => ?_⟩
    refine Ev.step (fun k => by rw [api_Op_120.l2]) ?_
    simp only [List.length_nil] at hj
    simp only [if_neg (show ¬ i < j by omega)]
    rw [hi]
    exact hr
  | succ n ih =>
    intro L M R i j hn hB hi hj hL hR
    by_cases hM : M.length = 0
    · exact ih L M R i j (by omega) hB hi hj hL hR
    have hf' := hf
    unfold Few at hf'
    rw [hB] at hf'
    simp only [List.length_append, List.length_cons] at hf'
    obtain ⟨t, ht⟩ : ∃ t : Nat, (t : Int) = (i + j) / 2 - i := ⟨((i + j) / 2 - i).toNat, by omega⟩
    obtain ⟨M1, y, M2, rfl, hM1⟩ := cut M t (by omega)
    simp only [List.length_append, List.length_cons] at hn hj hf'
    have wm := midE i j (by omega) (by omega) (by omega) (by omega)
    have wm1 : wrap64 ((i + j) / 2 + 1) = (i + j) / 2 + 1 := wrapI _ (by omega) (by omega)
    have e1 : P ++ A ++ x :: Q = (P ++ A) ++ x :: Q := rfl
    have j1 : m = ((P ++ A).length : Int) := by simp; omega
    have e2 : P ++ A ++ x :: Q = (P ++ L ++ M1) ++ y :: (M2 ++ R ++ x :: Q) := by rw [hB]; simp
    have j2 : (i + j) / 2 = ((P ++ L ++ M1).length : Int) := by simp; omega
    obtain ⟨p1, p2⟩ := len_at e1 j1
    obtain ⟨q1, q2⟩ := len_at e2 j2
    have hu' := hu
    rw [hB, show L ++ (M1 ++ y :: M2) ++ R = (L ++ M1) ++ (y :: (M2 ++ R)) by simp, Up.append, Up.cons] at hu'
    by_cases c : x.f1 < y.f1
    · obtain ⟨B1, B2, h1, h2, h3, h4⟩ := ih L M1 (y :: (M2 ++ R)) i ((i + j) / 2) (by omega) (by rw [hB]; simp) hi (by omega) hL (by
        intro z hz
        rcases List.mem_cons.mp hz with rfl | hz
        · exact c
        · have := hu'.2.1.1 z hz
          omega)
      refine ⟨B1, B2, h1, h2, h3, fun r hr => ?_⟩
      refine Ev.step (fun k => by rw [api_Op_120.l2]) ?_
      simp only [wm, wm1, if_pos (show i < j by omega), if_pos p1, if_pos p2, if_pos q1, if_pos q2, rd_at e1 j1, rd_at e2 j2, cmpE, Option.bind_some, cmp_lt, if_pos c]
      exact h4 r hr
    · obtain ⟨B1, B2, h1, h2, h3, h4⟩ := ih (L ++ M1 ++ [y]) M2 R ((i + j) / 2 + 1) j (by omega) (by rw [hB]; simp) (by simp; omega) (by omega) (by
        intro z hz
        simp only [List.mem_append, List.mem_singleton] at hz
        rcases hz with (hz | hz) | rfl
        · exact hL z hz
        · have := hu'.2.2 z (by simp [hz]) y (by simp)
          omega
        · omega) hR
      refine ⟨B1, B2, h1, h2, h3, fun r hr => ?_⟩
      refine Ev.step (fun k => by rw [api_Op_120.l2]) ?_
      simp only [wm, wm1, if_pos (show i < j by omega), if_pos p1, if_pos p2, if_pos q1, if_pos q2, rd_at e1 j1, rd_at e2 j2, cmpE, Option.bind_some, cmp_lt, if_neg c]
      exact h4 r hr
end Srt
end Go.Proofs.Ytfocaefnmfkojaa.R
namespace Go.Proofs.Ytfocaefnmfkojaa.R
open Go.RowKit Go.Proofs.Ytfocaefnmfkojaa.Q Go.Proofs.YtfocaefnmfkojaaW.PrintWords Go.Proofs.YtfocaefnmfkojaaW.PrintLast
set_option linter.unusedVariables false
set_option linter.unusedSimpArgs false
namespace Srt
abbrev g (L : List O) (i : Int) : Int := (rd_T46 L i).f1
theorem mid_search (L : List O) (a1 a2 a3 a4 mid n lo hi : Int) (h0 : 0 ≤ lo) (h1 : hi ≤ a2) (h2 : hi ≤ n) (h3 : a2 ≤ n - hi) (h4 : n - lo ≤ L.length) (h5 : a2 ≤ L.length) (h6 : 0 ≤ a2) (hf : Few L) : ∀ (N : Nat) (s r : Int), (r - s).toNat ≤ N → lo ≤ s → s ≤ r → r ≤ hi →
    (s = lo ∨ g L (s - 1) ≤ g L (n - s)) → (r = hi ∨ g L (n - 1 - r) < g L r) → ∃ e, lo ≤ e ∧ e ≤ hi ∧ (e = lo ∨ g L (e - 1) ≤ g L (n - e)) ∧ (e = hi ∨ g L (n - 1 - e) < g L e) ∧
      ∀ R, Ev (fun k => api_Op_120.j6 k L a1 a2 a3 a4 mid e (n - e) (decide (e < a2 ∧ a2 < n - e))) R → Ev (fun k => api_Op_120.l4 k L a1 a2 a3 a4 mid n s r (n - 1)) R := by
  unfold Few at hf
  intro N
  induction N with
  | zero =>
    intro s r hN hs hsr hr i1 i2
    obtain rfl : s = r := by omega
    refine ⟨s, hs, hr, i1, i2, fun R hR => ?_⟩
    refine Ev.step (fun k => by rw [api_Op_120.l4]) ?_
    have w : wrap64 (n - s) = n - s := wrapI _ (by omega) (by omega)
    simp only [if_neg (show ¬ s < s by omega), w]
    by_cases c : s < a2
    · simp only [if_pos c]
      rw [show (decide (s < a2 ∧ a2 < n - s)) = decide (a2 < n - s) by simp [c]] at hR
      exact hR
    · simp only [if_neg c]
      rw [show (decide (s < a2 ∧ a2 < n - s)) = false by simp [c]] at hR
      exact hR
  | succ N ih =>
    intro s r hN hs hsr hr i1 i2
    by_cases hlt : s = r
    · exact ih s r (by omega) hs hsr hr i1 i2
    have wm := midE s r (by omega) (by omega) (by omega) (by omega)
    obtain ⟨c, hc⟩ : ∃ c, c = (s + r) / 2 := ⟨_, rfl⟩
    rw [← hc] at wm
    have w1 : wrap64 (c + 1) = c + 1 := wrapI _ (by omega) (by omega)
    have w2 : wrap64 (n - 1 - c) = n - 1 - c := wrapI _ (by omega) (by omega)
    have k1 : 0 ≤ n - 1 - c := by omega
    have k2 : n - 1 - c < (L.length : Int) := by omega
    have k3 : 0 ≤ c := by omega
    have k4 : c < (L.length : Int) := by omega
    by_cases t : g L (n - 1 - c) < g L c
    · obtain ⟨e, q1, q2, q3, q4, q5⟩ := ih s c (by omega) hs (by omega) (by omega) i1 (.inr t)
      refine ⟨e, q1, q2, q3, q4, fun R hR => ?_⟩
      refine Ev.step (fun k => by rw [api_Op_120.l4]) ?_
      simp only [wm, w1, w2, if_pos (show s < r by omega), if_pos k1, if_pos k2, if_pos k3, if_pos k4, cmpE, Option.bind_some, cmp_lt, if_pos t]
      exact q5 R hR
    · obtain ⟨e, q1, q2, q3, q4, q5⟩ := ih (c + 1) r (by omega) (by omega) (by omega) hr (.inr (by
        rw [show c + 1 - 1 = c by omega, show n - (c + 1) = n - 1 - c by omega]
        omega)) i2
      refine ⟨e, q1, q2, q3, q4, fun R hR => ?_⟩
      refine Ev.step (fun k => by rw [api_Op_120.l4]) ?_
      simp only [wm, w1, w2, if_pos (show s < r by omega), if_pos k1, if_pos k2, if_pos k3, if_pos k4, cmpE, Option.bind_some, cmp_lt, if_neg t]
      exact q5 R hR
theorem g_at {L P Q : List O} {x : O} {i : Int} (h : L = P ++ x :: Q) (hi : i = (P.length : Int)) : g L i = x.f1 := by
  unfold g
  rw [rd_at h hi]
theorem up_last {A : List O} {x : O} (h : Up (A ++ [x])) : ∀ y ∈ A ++ [x], y.f1 ≤ x.f1 := by
  intro y hy
  rcases List.mem_append.mp hy with hy | hy
  · exact (Up.append.mp h).2.2 y hy x (by simp)
  · simp at hy
    subst hy
    exact Int.le_refl _
theorem up_first {A : List O} {x : O} (h : Up (x :: A)) : ∀ y ∈ x :: A, x.f1 ≤ y.f1 := by
  intro y hy
  rcases List.mem_cons.mp hy with rfl | hy
  · exact Int.le_refl _
  · exact (Up.cons.mp h).1 y hy
theorem snoc {A : List O} (h : A ≠ []) : ∃ S y, A = S ++ [y] := ⟨A.dropLast, A.getLast h, (List.dropLast_concat_getLast h).symm⟩
theorem head {A : List O} (h : A ≠ []) : ∃ y S, A = y :: S := by
  cases A with
  | nil => exact absurd rfl h
  | cons y S => exact ⟨y, S, rfl⟩
def Merged (a4 : Int) (A B : List O) : Prop := ∀ P Q : List O, Few (P ++ A ++ B ++ Q) → ∃ S, S.Perm (A ++ B) ∧ Up S ∧ ((A = [] ∨ B = []) → S = A ++ B) ∧
  (A ≠ [] → B ≠ [] → Ev (fun k => api_Op_120.f k (P ++ A ++ B ++ Q) P.length (P.length + A.length) (P.length + A.length + B.length) a4) (P ++ S ++ Q))
set_option maxHeartbeats 2000000 in
theorem merged (a4 : Int) : ∀ (N : Nat) (A B : List O), A.length + B.length ≤ N → Up A → Up B → Merged a4 A B := by
  intro N
  induction N with
  | zero =>
    intro A B hN hA hB P Q hf
    obtain rfl : A = [] := List.length_eq_zero_iff.mp (by omega)
    exact ⟨B, by simp, hB, by simp, fun h => absurd rfl h⟩
  | succ N ih =>
    intro A B hN hA hB P Q hf
    by_cases eA : A = []
    · subst eA
      exact ⟨B, by simp, hB, by simp, fun h => absurd rfl h⟩
    by_cases eB : B = []
    · subst eB
      exact ⟨A, by simp, hA, by simp, fun _ h => absurd rfl h⟩
    have lA : 0 < A.length := List.length_pos_iff.mpr eA
    have lB : 0 < B.length := List.length_pos_iff.mpr eB
    have hf' := hf
    unfold Few at hf'
    simp only [List.length_append] at hf'
    obtain ⟨a, ha⟩ : ∃ a : Int, a = (P.length : Int) := ⟨_, rfl⟩
    obtain ⟨m, hm⟩ : ∃ m : Int, m = (P.length : Int) + A.length := ⟨_, rfl⟩
    obtain ⟨b, hb⟩ : ∃ b : Int, b = (P.length : Int) + A.length + B.length := ⟨_, rfl⟩
    rw [← hb, ← hm, ← ha]
    have w1 : wrap64 (m - a) = m - a := wrapI _ (by omega) (by omega)
    have w2 : wrap64 (b - m) = b - m := wrapI _ (by omega) (by omega)
    by_cases c1 : A.length = 1
    · obtain ⟨x, rfl⟩ : ∃ x, A = [x] := List.length_eq_one_iff.mp c1
      obtain ⟨B1, B2, rfl, h2, h3, h4⟩ := low_search P B Q x a ha hB (by simpa using hf) B.length [] B [] m b (Nat.le_refl _) (by simp) (by simp at hm ⊢; omega) (by omega) (by simp) (by simp)
      refine ⟨B1 ++ x :: B2, (List.perm_middle).trans (by simp), ?_, fun h => h.elim (fun h => absurd h (by simp)) (fun h => absurd h eB), fun _ _ => ?_⟩
      · rw [Up.append] at hB ⊢
        refine ⟨hB.1, Up.cons.mpr ⟨h3, hB.2.1⟩, fun z hz u hu => ?_⟩
        rcases List.mem_cons.mp hu with rfl | hu
        · have := h2 z hz
          omega
        · exact hB.2.2 z hz u hu
      · refine Ev.step (fun k => by rw [api_Op_120.f]) ?_
        simp only [w1, if_pos (show m - a = 1 by simp at hm; omega)]
        have h := up_loop (B2 ++ Q) x B1 P (a + 1 + B1.length) a ha (by omega) (by unfold Few; simp at hf' ⊢; omega)
        have h5 := h4 (P ++ B1 ++ x :: (B2 ++ Q)) (by
          rw [show P ++ x :: (B1 ++ B2) ++ Q = P ++ x :: B1 ++ (B2 ++ Q) by simp]
          exact h)
        rw [show P ++ [x] ++ (B1 ++ B2) ++ Q = P ++ x :: (B1 ++ B2) ++ Q by simp]
        refine evEq h5 (by simp)
    by_cases c2 : B.length = 1
    · obtain ⟨x, rfl⟩ : ∃ x, B = [x] := List.length_eq_one_iff.mp c2
      obtain ⟨A1, A2, rfl, h2, h3, h4⟩ := high_search P A Q x m hm hA (by simpa using hf) A.length [] A [] a m (Nat.le_refl _) (by simp) (by simpa using ha) (by omega) (by simp) (by simp)
      refine ⟨A1 ++ x :: A2, ?_, ?_, fun h => h.elim (fun h => absurd h eA) (fun h => absurd h (by simp)), fun _ _ => ?_⟩
      · refine List.perm_middle.trans ?_
        have := (List.perm_append_comm (l₁ := [x]) (l₂ := A1 ++ A2))
        simpa using this
      · rw [Up.append] at hA ⊢
        refine ⟨hA.1, Up.cons.mpr ⟨fun y hy => by have := h3 y hy; omega, hA.2.1⟩, fun z hz u hu => ?_⟩
        rcases List.mem_cons.mp hu with rfl | hu
        · exact h2 z hz
        · exact hA.2.2 z hz u hu
      · refine Ev.step (fun k => by rw [api_Op_120.f]) ?_
        simp only [w1, w2, if_neg (show ¬ m - a = 1 by omega), if_pos (show b - m = 1 by simp only [List.length_singleton] at hb; omega)]
        have h := down_loop (P ++ A1) x A2.length A2 Q (P.length + A1.length) m rfl (by simp) (by simp at hm ⊢; omega) (by unfold Few; simp at hf' ⊢; omega)
        have h5 := h4 (P ++ A1 ++ x :: A2 ++ Q) (by
          rw [show P ++ (A1 ++ A2) ++ x :: Q = P ++ A1 ++ A2 ++ x :: Q by simp]
          exact h)
        rw [show P ++ (A1 ++ A2) ++ [x] ++ Q = P ++ (A1 ++ A2) ++ x :: Q by simp]
        refine evEq h5 (by simp)
    -- the turn
    obtain ⟨mid, hmid⟩ : ∃ mid : Int, mid = (a + b) / 2 := ⟨_, rfl⟩
    obtain ⟨L, hL⟩ : ∃ L, L = P ++ A ++ B ++ Q := ⟨_, rfl⟩
    have lL : (L.length : Int) = b + Q.length := by rw [hL]; simp; omega
    have hfL : Few L := hL ▸ hf
    have wm := midE a b (by omega) (by omega) (by omega) (by omega)
    rw [← hmid] at wm
    have w3 : wrap64 (mid + m) = mid + m := wrapI _ (by omega) (by omega)
    have w4 : wrap64 (mid + m - b) = mid + m - b := wrapI _ (by omega) (by omega)
    have w5 : wrap64 (mid + m - 1) = mid + m - 1 := wrapI _ (by omega) (by omega)
    obtain ⟨lo, hi, hlo, hhi, hgo⟩ : ∃ lo hi : Int, ((lo = mid + m - b ∧ a ≤ lo) ∨ (lo = a ∧ lo ≤ m)) ∧ ((hi = mid ∧ mid < m ∧ lo = mid + m - b) ∨ (hi = m ∧ m ≤ mid ∧ lo = a)) ∧
        ∀ R, Ev (fun k => api_Op_120.l4 k L a m b a4 mid (mid + m) lo hi (mid + m - 1)) R → Ev (fun k => api_Op_120.f k L a m b a4) R := by
      by_cases c3 : m > mid
      · refine ⟨mid + m - b, mid, .inl ⟨rfl, by omega⟩, .inl ⟨rfl, by omega, rfl⟩, fun R hR => ?_⟩
        refine Ev.step (fun k => by rw [api_Op_120.f]) ?_
        simp only [w1, w2, wm, w3, w4, if_neg (show ¬ m - a = 1 by omega), if_neg (show ¬ b - m = 1 by omega), if_pos c3]
        refine Ev.step (fun k => by rw [api_Op_120.j4]) ?_
        simp only [w5]
        exact hR
      · refine ⟨a, m, .inr ⟨rfl, by omega⟩, .inr ⟨rfl, by omega, rfl⟩, fun R hR => ?_⟩
        refine Ev.step (fun k => by rw [api_Op_120.f]) ?_
        simp only [w1, w2, wm, w3, w4, if_neg (show ¬ m - a = 1 by omega), if_neg (show ¬ b - m = 1 by omega), if_neg c3]
        refine Ev.step (fun k => by rw [api_Op_120.j4]) ?_
        simp only [w5]
        exact hR
    have blo : a ≤ lo ∧ lo ≤ hi ∧ hi ≤ m ∧ hi ≤ mid := by omega
    obtain ⟨s, s1, s2, s3, s4, s5⟩ := mid_search L a m b a4 mid (mid + m) lo hi (by omega) (by omega) (by omega) (by omega) (by omega) (by omega) (by omega) hfL _ lo hi (Nat.le_refl _) (Int.le_refl _) blo.2.1 (Int.le_refl _) (.inl rfl) (.inl rfl)
    obtain ⟨A1, A2, rfl, hA1⟩ := cut2 A (s - a).toNat (by omega)
    obtain ⟨B1, B2, rfl, hB1⟩ := cut2 B (mid - s).toNat (by omega)
    simp only [List.length_append] at hm hb hf' hN lA lB c1 c2
    obtain ⟨hA1u, hA2u, hA12⟩ := Up.append.mp hA
    obtain ⟨hB1u, hB2u, hB12⟩ := Up.append.mp hB
    have x12 : ∀ x ∈ A1, ∀ y ∈ B2, x.f1 ≤ y.f1 := by
      by_cases q1 : A1 = []
      · subst q1; simp
      by_cases q2 : B2 = []
      · subst q2; simp
      obtain ⟨S, u, rfl⟩ := snoc q1
      obtain ⟨v, T, rfl⟩ := head q2
      simp only [List.length_append, List.length_cons, List.length_nil] at hA1 hm hb
      rcases s3 with s3 | s3
      · omega
      · rw [g_at (L := L) (P := P ++ S) (x := u) (Q := A2 ++ (B1 ++ v :: T) ++ Q) (by rw [hL]; simp) (by simp; omega), g_at (L := L) (P := P ++ (S ++ [u] ++ A2) ++ B1) (x := v) (Q := T ++ Q) (by rw [hL]; simp) (by simp; omega)] at s3
        intro x hx y hy
        have := up_last hA1u x hx
        have := up_first hB2u y hy
        omega
    have x21 : ∀ x ∈ B1, ∀ y ∈ A2, x.f1 ≤ y.f1 := by
      by_cases q1 : B1 = []
      · subst q1; simp
      by_cases q2 : A2 = []
      · subst q2; simp
      obtain ⟨S, u, rfl⟩ := snoc q1
      obtain ⟨v, T, rfl⟩ := head q2
      simp only [List.length_append, List.length_cons, List.length_nil] at hB1 hm hb
      rcases s4 with s4 | s4
      · omega
      · rw [g_at (L := L) (P := P ++ (A1 ++ v :: T) ++ S) (x := u) (Q := B2 ++ Q) (by rw [hL]; simp) (by simp; omega), g_at (L := L) (P := P ++ A1) (x := v) (Q := T ++ (S ++ [u] ++ B2) ++ Q) (by rw [hL]; simp) (by simp; omega)] at s4
        intro x hx y hy
        have := up_last hB1u x hx
        have := up_first hA2u y hy
        omega
    -- behind the turn
    have hf2 : Few (P ++ A1 ++ B1 ++ (A2 ++ B2 ++ Q)) := by unfold Few; simp; omega
    obtain ⟨S1, p1, u1, n1, v1⟩ := ih A1 B1 (by omega) hA1u hB1u P (A2 ++ B2 ++ Q) hf2
    have l1 : S1.length = A1.length + B1.length := by rw [p1.length_eq]; simp
    have hf3 : Few (P ++ S1 ++ A2 ++ B2 ++ Q) := by unfold Few; simp; omega
    obtain ⟨S2, p2, u2, n2, v2⟩ := ih A2 B2 (by omega) hA2u hB2u (P ++ S1) Q hf3
    refine ⟨S1 ++ S2, ?_, ?_, fun h => h.elim (fun h => absurd h eA) (fun h => absurd h eB), fun _ _ => ?_⟩
    · refine (p1.append p2).trans ?_
      rw [show A1 ++ B1 ++ (A2 ++ B2) = A1 ++ (B1 ++ A2) ++ B2 by simp, show A1 ++ A2 ++ (B1 ++ B2) = A1 ++ (A2 ++ B1) ++ B2 by simp]
      exact (List.Perm.append_left A1 List.perm_append_comm).append_right B2
    · rw [Up.append]
      refine ⟨u1, u2, fun x hx y hy => ?_⟩
      rcases List.mem_append.mp (p1.mem_iff.mp hx) with hx | hx <;> rcases List.mem_append.mp (p2.mem_iff.mp hy) with hy | hy
      · exact hA12 x hx y hy
      · exact x12 x hx y hy
      · exact x21 x hx y hy
      · exact hB12 x hx y hy
    rw [← hL]
    apply hgo
    apply s5
    -- the two halves, one behind the other
    have tail : ∀ W, W = P ++ A1 ++ B1 ++ (A2 ++ B2 ++ Q) → Ev (fun k => api_Op_120.j7 k W a b a4 mid s (mid + m - s)) (P ++ (S1 ++ S2) ++ Q) := by
      rintro W rfl
      have fin : ∀ W, W = P ++ S1 ++ A2 ++ B2 ++ Q → Ev (fun k => if mid < mid + m - s then (if mid + m - s < b then ((api_Op_120.f k W mid (mid + m - s) b a4).bind fun t => (some t)) else (some W)) else (some W)) (P ++ (S1 ++ S2) ++ Q) := by
        rintro W rfl
        by_cases d1 : mid < mid + m - s
        · by_cases d2 : mid + m - s < b
          · simp only [if_pos d1, if_pos d2]
            have q1 : A2 ≠ [] := by rintro rfl; simp at hm; omega
            have q2 : B2 ≠ [] := by rintro rfl; simp at hb hm; omega
            have h := v2 q1 q2
            rw [show (((P ++ S1).length : Nat) : Int) = mid by simp; omega, show mid + (A2.length : Int) = mid + m - s by omega, show mid + m - s + (B2.length : Int) = b by omega] at h
            refine evEq (Ev.bind h (Ev.now _)) (by simp)
          · simp only [if_pos d1, if_neg d2]
            have q2 : B2 = [] := List.length_eq_zero_iff.mp (by omega)
            refine evEq (Ev.now _) ?_
            rw [n2 (.inr q2)]
            simp
        · simp only [if_neg d1]
          have q2 : A2 = [] := List.length_eq_zero_iff.mp (by omega)
          refine evEq (Ev.now _) ?_
          rw [n2 (.inl q2)]
          simp
      refine Ev.step (fun k => by rw [api_Op_120.j7]) ?_
      by_cases d1 : a < s
      · simp only [if_pos d1]
        refine Ev.step (fun k => by rw [api_Op_120.j8]) ?_
        by_cases d2 : s < mid
        · simp only [decide_eq_true d2, if_true]
          have q1 : A1 ≠ [] := by rintro rfl; simp at hA1; omega
          have q2 : B1 ≠ [] := by rintro rfl; simp at hB1; omega
          have h := v1 q1 q2
          rw [← ha, show a + (A1.length : Int) = s by omega, show s + (B1.length : Int) = mid by omega] at h
          refine Ev.bind h ?_
          exact fin _ (by simp)
        · simp only [decide_eq_false d2, Bool.false_eq_true, if_false]
          have q2 : B1 = [] := List.length_eq_zero_iff.mp (by omega)
          refine fin _ ?_
          rw [n1 (.inr q2)]
          simp
      · simp only [if_neg d1]
        refine Ev.step (fun k => by rw [api_Op_120.j8]) ?_
        simp only [Bool.false_eq_true, if_false]
        have q2 : A1 = [] := List.length_eq_zero_iff.mp (by omega)
        refine fin _ ?_
        rw [n1 (.inl q2)]
        simp
    refine Ev.step (fun k => by rw [api_Op_120.j6]) ?_
    by_cases d : s < m ∧ m < mid + m - s
    · simp only [decide_eq_true d, if_true]
      have h := rot_ev A2 B1 (P ++ A1) (B2 ++ Q) s m (mid + m - s) a4 (by omega) (by omega) (by simp; omega) (by simp; omega) (by simp; omega) (by unfold Few; simp; omega)
      rw [show P ++ A1 ++ A2 ++ B1 ++ (B2 ++ Q) = L by rw [hL]; simp] at h
      refine Ev.bind h ?_
      exact tail _ (by simp)
    · simp only [decide_eq_false d, Bool.false_eq_true, if_false]
      refine tail _ ?_
      rw [hL]
      by_cases q : A2 = []
      · rw [q]; simp
      · have : B1 = [] := List.length_eq_zero_iff.mp (by have := List.length_pos_iff.mpr q; omega)
        rw [this]; simp
end Srt
end Go.Proofs.Ytfocaefnmfkojaa.R
namespace Go.Proofs.Ytfocaefnmfkojaa.R
open Go.RowKit Go.Proofs.Ytfocaefnmfkojaa.Q Go.Proofs.YtfocaefnmfkojaaW.PrintWords Go.Proofs.YtfocaefnmfkojaaW.PrintLast
set_option linter.unusedVariables false
set_option linter.unusedSimpArgs false
namespace Srt
def Bl (c : Nat) (L : List O) : Prop := ∀ q : Nat, Up ((L.drop (q * c)).take c)
theorem Bl.cons {c : Nat} {S T : List O} (hS : Up S) (hl : S.length = c) (hT : Bl c T) : Bl c (S ++ T) := by
  intro q
  cases q with
  | zero =>
    subst hl
    simpa using hS
  | succ q =>
    rw [show (q + 1) * c = S.length + q * c by rw [Nat.add_mul]; omega, ← List.drop_drop, List.drop_left]
    exact hT q
theorem Bl.one {c : Nat} {S : List O} (hS : Up S) (hl : S.length ≤ c) : Bl c S := by
  intro q
  cases q with
  | zero => simpa [List.take_of_length_le hl] using hS
  | succ q =>
    rw [List.drop_eq_nil_of_le (by rw [Nat.add_mul]; omega)]
    simpa using Up.nil
theorem Bl.next {c : Nat} {S T : List O} (hl : S.length = c) (h : Bl c (S ++ T)) : Up S ∧ Bl c T := by
  refine ⟨?_, fun q => ?_⟩
  · have := h 0
    subst hl
    simpa using this
  · have := h (q + 1)
    rw [show (q + 1) * c = S.length + q * c by rw [Nat.add_mul]; omega, ← List.drop_drop, List.drop_left] at this
    exact this
theorem Bl.all {c : Nat} {S : List O} (h : Bl c S) (hl : S.length ≤ c) : Up S := by
  have := h 0
  simpa [List.take_of_length_le hl] using this
theorem blocks (a2 : Int) : ∀ (N : Nat) (R P : List O) (n a b : Int), R.length ≤ N → a = P.length → b = P.length + 20 → n = P.length + R.length → Few (P ++ R) → ∃ R', R'.Perm R ∧ Bl 20 R' ∧
    ∀ r, Ev (fun k => api_Op_116.l1 k (P ++ R') n a2 20) r → Ev (fun k => api_Op_116.l0 k (P ++ R) n a2 20 a b) r := by
  intro N
  induction N with
  | zero =>
    intro R P n a b hN ha hb hn hf
    have hf' := hf
    unfold Few at hf'
    simp only [List.length_append] at hf'
    obtain ⟨S, p, u, v⟩ := ins_ev P R [] a n a2 ha hn (by simpa using hf)
    refine ⟨S, p, Bl.one u (by rw [p.length_eq]; omega), fun r hr => ?_⟩
    refine Ev.step (fun k => by rw [api_Op_116.l0]) ?_
    simp only [if_neg (show ¬ b ≤ n by omega)]
    simp only [List.append_nil] at v
    exact Ev.bind v hr
  | succ N ih =>
    intro R P n a b hN ha hb hn hf
    have hf' := hf
    unfold Few at hf'
    simp only [List.length_append] at hf'
    by_cases c : b ≤ n
    · obtain ⟨X, T, rfl, hX⟩ := cut2 R 20 (by omega)
      simp only [List.length_append] at hN hn hf'
      obtain ⟨S, p, u, v⟩ := ins_ev P X T a b a2 ha (by omega) (by simpa using hf)
      have lS : S.length = 20 := by rw [p.length_eq, hX]
      obtain ⟨R', p', u', v'⟩ := ih T (P ++ S) n b (b + 20) (by omega) (by simp; omega) (by simp; omega) (by simp; omega) (by unfold Few; simp; omega)
      refine ⟨S ++ R', p.append p', Bl.cons u lS u', fun r hr => ?_⟩
      refine Ev.step (fun k => by rw [api_Op_116.l0]) ?_
      simp only [if_pos c, wrapI (b + 20) (by omega) (by omega)]
      rw [show P ++ (X ++ T) = P ++ X ++ T by simp]
      refine Ev.bind v ?_
      refine v' r ?_
      rw [show P ++ S ++ R' = P ++ (S ++ R') by simp]
      exact hr
    · obtain ⟨S, p, u, v⟩ := ins_ev P R [] a n a2 ha hn (by simpa using hf)
      refine ⟨S, p, Bl.one u (by rw [p.length_eq]; omega), fun r hr => ?_⟩
      refine Ev.step (fun k => by rw [api_Op_116.l0]) ?_
      simp only [if_neg c]
      simp only [List.append_nil] at v
      exact Ev.bind v hr
theorem pass (a2 : Int) (c : Nat) (hc : 0 < c) (hc2 : c ≤ 1000000000000) : ∀ (N : Nat) (R P : List O) (n a b : Int), R.length ≤ N → Bl c R → a = P.length → b = P.length + 2 * c → n = P.length + R.length → Few (P ++ R) → ∃ R', R'.Perm R ∧ Bl (2 * c) R' ∧
    ∀ r, Ev (fun k => api_Op_116.l1 k (P ++ R') n a2 ((2 * c : Nat) : Int)) r → Ev (fun k => api_Op_116.l2 k (P ++ R) n a2 c a b) r := by
  have w1 : wrap64 (2 * (c : Int)) = 2 * c := wrapI _ (by omega) (by omega)
  have w2 : wrap64 ((c : Int) * 2) = ((2 * c : Nat) : Int) := by rw [wrapI _ (by omega) (by omega)]; omega
  intro N
  induction N with
  | zero =>
    intro R P n a b hN hR ha hb hn hf
    have hf' := hf
    unfold Few at hf'
    simp only [List.length_append] at hf'
    refine ⟨R, List.Perm.refl _, Bl.one (hR.all (by omega)) (by omega), fun r hr => ?_⟩
    refine Ev.step (fun k => by rw [api_Op_116.l2]) ?_
    simp only [if_neg (show ¬ b ≤ n by omega), wrapI (a + c) (by omega) (by omega), if_neg (show ¬ a + (c : Int) < n by omega), w2]
    exact hr
  | succ N ih =>
    intro R P n a b hN hR ha hb hn hf
    have hf' := hf
    unfold Few at hf'
    simp only [List.length_append] at hf'
    have w3 : wrap64 (a + c) = a + c := wrapI _ (by omega) (by omega)
    have w4 : wrap64 (b + 2 * c) = b + 2 * c := wrapI _ (by omega) (by omega)
    by_cases c1 : b ≤ n
    · obtain ⟨X, R1, rfl, hX⟩ := cut2 R c (by omega)
      simp only [List.length_append] at hN hn hf'
      obtain ⟨Y, T, rfl, hY⟩ := cut2 R1 c (by omega)
      simp only [List.length_append] at hN hn hf'
      obtain ⟨uX, h1⟩ := hR.next hX
      obtain ⟨uY, uT⟩ := h1.next hY
      obtain ⟨S, p, u, _, v⟩ := merged a2 _ X Y (Nat.le_refl _) uX uY P T (by unfold Few; simp; omega)
      have v := v (by rintro rfl; simp at hX; omega) (by rintro rfl; simp at hY; omega)
      rw [← ha, hX, hY, show a + (c : Int) + c = b by omega] at v
      have lS : S.length = 2 * c := by rw [p.length_eq]; simp; omega
      obtain ⟨R', p', u', v'⟩ := ih T (P ++ S) n b (b + 2 * c) (by omega) uT (by simp; omega) (by simp; omega) (by simp; omega) (by unfold Few; simp; omega)
      refine ⟨S ++ R', (p.append p').trans (by simp), Bl.cons u lS u', fun r hr => ?_⟩
      refine Ev.step (fun k => by rw [api_Op_116.l2]) ?_
      simp only [if_pos c1, w1, w3, w4]
      rw [show P ++ (X ++ (Y ++ T)) = P ++ X ++ Y ++ T by simp]
      refine Ev.bind v ?_
      refine v' r ?_
      rw [show P ++ S ++ R' = P ++ (S ++ R') by simp]
      exact hr
    · by_cases c2 : a + (c : Int) < n
      · obtain ⟨X, Y, rfl, hX⟩ := cut2 R c (by omega)
        simp only [List.length_append] at hN hn hf'
        obtain ⟨uX, h1⟩ := hR.next hX
        have uY := h1.all (by omega)
        obtain ⟨S, p, u, _, v⟩ := merged a2 _ X Y (Nat.le_refl _) uX uY P [] (by unfold Few; simp; omega)
        have v := v (by rintro rfl; simp at hX; omega) (by rintro rfl; simp at hn; omega)
        rw [← ha, hX, show a + (c : Int) + Y.length = n by omega] at v
        simp only [List.append_nil] at v
        refine ⟨S, p, Bl.one u (by rw [p.length_eq]; simp; omega), fun r hr => ?_⟩
        refine Ev.step (fun k => by rw [api_Op_116.l2]) ?_
        simp only [if_neg c1, w3, if_pos c2, w2]
        rw [show P ++ (X ++ Y) = P ++ X ++ Y by simp]
        exact Ev.bind v hr
      · refine ⟨R, List.Perm.refl _, Bl.one (hR.all (by omega)) (by omega), fun r hr => ?_⟩
        refine Ev.step (fun k => by rw [api_Op_116.l2]) ?_
        simp only [if_neg c1, w3, if_neg c2, w2]
        exact hr
theorem passes (a2 : Int) : ∀ (N : Nat) (L : List O) (c : Nat), L.length - c ≤ N → 0 < c → Bl c L → Few L → ∃ L', L'.Perm L ∧ Up L' ∧ Ev (fun k => api_Op_116.l1 k L L.length a2 c) L' := by
  intro N
  induction N with
  | zero =>
    intro L c hN hc hL hf
    refine ⟨L, List.Perm.refl _, hL.all (by omega), ?_⟩
    refine Ev.step (fun k => by rw [api_Op_116.l1]) ?_
    simp only [if_neg (show ¬ (c : Int) < L.length by omega)]
    exact Ev.now _
  | succ N ih =>
    intro L c hN hc hL hf
    by_cases c1 : (c : Int) < L.length
    · obtain ⟨R', p, u, v⟩ := pass a2 c hc (by unfold Few at hf; omega) _ L [] L.length 0 (2 * c) (Nat.le_refl _) hL (by simp) (by simp) (by simp) (by simpa using hf)
      obtain ⟨L', p', u', v'⟩ := ih R' (2 * c) (by rw [p.length_eq]; omega) (by omega) u (by unfold Few; rw [p.length_eq]; exact hf)
      refine ⟨L', p'.trans p, u', ?_⟩
      refine Ev.step (fun k => by rw [api_Op_116.l1]) ?_
      simp only [if_pos c1, wrapI (2 * (c : Int)) (by omega) (by unfold Few at hf; omega)]
      rw [p.length_eq] at v'
      exact v L' v'
    · refine ⟨L, List.Perm.refl _, hL.all (by omega), ?_⟩
      refine Ev.step (fun k => by rw [api_Op_116.l1]) ?_
      simp only [if_neg c1]
      exact Ev.now _
theorem stable_ev (L : List O) (a2 : Int) (hf : Few L) : ∃ L', L'.Perm L ∧ Up L' ∧ Ev (fun k => api_Op_116.f k L L.length a2) L' := by
  obtain ⟨R', p, u, v⟩ := blocks a2 _ L [] L.length 0 20 (Nat.le_refl _) (by simp) (by simp) (by simp) (by simpa using hf)
  obtain ⟨L', p', u', v'⟩ := passes a2 _ R' 20 (Nat.le_refl _) (by omega) u (by unfold Few; rw [p.length_eq]; exact hf)
  rw [p.length_eq] at v'
  exact ⟨L', p'.trans p, u', v L' v'⟩
theorem byKey_ev (L : List O) (hf : Few L) : ∃ L', L'.Perm L ∧ Up L' ∧ Ev (fun k => txn_byKey.f k L) L' := by
  obtain ⟨L', p, u, v⟩ := stable_ev L 0 hf
  exact ⟨L', p, u, Ev.bind (Ev.bind v (Ev.now _)) (Ev.now _)⟩
theorem up_unique {A B : List O} (p : A.Perm B) (hA : Up A) (hB : Up B) (h : A.Pairwise fun x y => x.f1 ≠ y.f1) : A = B := by
  have hA' : A.Pairwise fun x y => x.f1 < y.f1 := (List.pairwise_and_iff.mpr ⟨hA, h⟩).imp fun h => by omega
  have hBn : B.Pairwise fun x y => x.f1 ≠ y.f1 := (p.pairwise_iff (fun h => fun e => h e.symm)).mp h
  have hB' : B.Pairwise fun x y => x.f1 < y.f1 := (List.pairwise_and_iff.mpr ⟨hB, hBn⟩).imp fun h => by omega
  exact p.eq_of_pairwise (fun a b _ _ h1 h2 => by omega) hA' hB'
theorem byKey_is {L R : List O} (hf : Few L) (p : R.Perm L) (u : R.Pairwise fun x y => x.f1 < y.f1) : Ev (fun k => txn_byKey.f k L) R := by
  obtain ⟨L', p', u', v⟩ := byKey_ev L hf
  refine evEq v (up_unique (p'.trans p.symm) u' (u.imp fun h => by omega) ?_)
  exact ((p'.trans p.symm).pairwise_iff (fun h => fun e => h e.symm)).mpr (u.imp fun h => by omega)
end Srt
end Go.Proofs.Ytfocaefnmfkojaa.R
namespace Go.Proofs.Ytfocaefnmfkojaa.H
open Go.RowKit Go.Maps
set_option linter.unusedVariables false
set_option linter.unusedSimpArgs false
def RV (v : Value) : Option (DataW Value × List MemPlace) := some (.held v, [])
abbrev I64 (i : Int) : Prop := -9223372036854775808 ≤ i ∧ i ≤ 9223372036854775807
abbrev KL (i : Int) : Lit := .int .i64 i
theorem wf_I64 {i : Int} (h : I64 i) : (Lit.int .i64 i).wf = true := by
  simp only [Lit.wf, IntKind.min, IntKind.max, IntKind.bits, IntKind.signed, Bool.and_eq_true, decide_eq_true_eq]
  simp
  omega
theorem KL_inj {i j : Int} (h : KL i = KL j) : i = j := by injection h
def getL (l : List (Int × Value)) (i : Int) : Option Value := (l.find? fun p => p.1 == i).map (·.2)
def putL : List (Int × Value) → Int → Value → List (Int × Value)
  | [], i, v => [(i, v)]
  | p :: l, i, v => if p.1 = i then (i, v) :: l else p :: putL l i v
theorem getL_nil (i : Int) : getL [] i = none := rfl
theorem getL_cons (p : Int × Value) (l : List (Int × Value)) (i : Int) : getL (p :: l) i = if p.1 = i then some p.2 else getL l i := by
  unfold getL
  rw [List.find?_cons]
  by_cases h : p.1 = i
  · simp [h]
  · rw [show (p.1 == i) = false from beq_eq_false_iff_ne.mpr h, if_neg h]
theorem getL_put_same (l : List (Int × Value)) (i : Int) (v : Value) : getL (putL l i v) i = some v := by
  induction l with
  | nil => simp [putL, getL_cons]
  | cons p l ih =>
    unfold putL
    by_cases h : p.1 = i
    · rw [if_pos h, getL_cons, if_pos rfl]
    · rw [if_neg h, getL_cons, if_neg h, ih]
theorem getL_put_other (l : List (Int × Value)) (i j : Int) (v : Value) (hne : j ≠ i) : getL (putL l i v) j = getL l j := by
  induction l with
  | nil => rw [putL, getL_cons, if_neg (fun h : i = j => hne h.symm)]
  | cons p l ih =>
    unfold putL
    by_cases h : p.1 = i
    · rw [if_pos h, getL_cons, getL_cons, if_neg (fun h : i = j => hne h.symm), if_neg (fun h2 : p.1 = j => hne (h2.symm.trans h))]
    · rw [if_neg h, getL_cons, getL_cons, ih]
theorem putL_len (l : List (Int × Value)) (i : Int) (v : Value) : (putL l i v).length = if (getL l i).isSome then l.length else l.length + 1 := by
  induction l with
  | nil => simp [putL, getL_nil]
  | cons p l ih =>
    unfold putL
    rw [getL_cons]
    by_cases h : p.1 = i
    · simp [h]
    · rw [if_neg h, if_neg h, List.length_cons, ih]
      split <;> simp
theorem putL_keys (l : List (Int × Value)) (i : Int) (v : Value) : ∀ p ∈ putL l i v, p = (i, v) ∨ p ∈ l := by
  induction l with
  | nil => simp [putL]
  | cons q l ih =>
    intro p hp
    unfold putL at hp
    by_cases h : q.1 = i
    · rw [if_pos h] at hp
      rcases List.mem_cons.mp hp with rfl | hp
      · exact .inl rfl
      · exact .inr (List.mem_cons_of_mem _ hp)
    · rw [if_neg h] at hp
      rcases List.mem_cons.mp hp with rfl | hp
      · exact .inr (by simp)
      · rcases ih p hp with h | h
        · exact .inl h
        · exact .inr (List.mem_cons_of_mem _ h)
abbrev Apart (l : List (Int × Value)) : Prop := l.Pairwise fun p q => p.1 ≠ q.1
theorem Apart.put {l : List (Int × Value)} (h : Apart l) (i : Int) (v : Value) : Apart (putL l i v) := by
  induction l with
  | nil => simp [putL, Apart]
  | cons q l ih =>
    obtain ⟨h1, h2⟩ := List.pairwise_cons.mp h
    unfold putL
    by_cases hq : q.1 = i
    · rw [if_pos hq]
      exact List.pairwise_cons.mpr ⟨fun p hp => hq ▸ h1 p hp, h2⟩
    · rw [if_neg hq]
      refine List.pairwise_cons.mpr ⟨fun p hp => ?_, ih h2⟩
      rcases putL_keys l i v p hp with rfl | hp
      · exact hq
      · exact h1 p hp
def IM (P : Program) (k : TypeId) (w : World) (b : Nat) (l : List (Int × Value)) : Prop :=
  Apart l ∧ (∀ p ∈ l, I64 p.1) ∧ ∃ D : DataW Value, w.ownsMap P k RV b l.length D ∧ Maps.size D = l.length ∧ ∀ i, Maps.has D (KL i) = (getL l i).isSome ∧ ∀ z, D.atKey (KL i) z = match getL l i with | some v => .held v | none => z
section
variable {P : Program} {k e t : TypeId} {w w' : World} {b : Nat} {l : List (Int × Value)}
theorem IM.made (P : Program) (k : TypeId) (w : World) : IM P k (w.alloc (.map #[] 0)) w.heap.size [] :=
  ⟨List.Pairwise.nil, by simp, _, World.ownsMap_made w P k RV, rfl, fun i => ⟨rfl, fun z => rfl⟩⟩
theorem IM.lt (h : IM P k w b l) : b < w.heap.size := h.2.2.choose_spec.1.lt
theorem IM.kept {row : Option Nat} (h : IM P k w b l) (hg : w.grownBy w' row) (hne : some b ≠ row) : IM P k w' b l := by
  obtain ⟨h1, h2, D, h3, h4⟩ := h
  exact ⟨h1, h2, D, h3.kept hg hne, h4⟩
theorem IM.alloc (h : IM P k w b l) (o : Obj) : IM P k (w.alloc o) b l := by
  obtain ⟨h1, h2, D, h3, h4⟩ := h
  exact ⟨h1, h2, D, h3.alloc o, h4⟩
theorem IM.same (h : IM P k w b l) (e : w'.heap[b]? = w.heap[b]?) : IM P k w' b l := by
  obtain ⟨h1, h2, D, ⟨es, cl, h3, h4⟩, h5⟩ := h
  exact ⟨h1, h2, D, ⟨es, cl, e.trans h3, h4⟩, h5⟩
theorem IM.below {n : Nat} (h : IM P k w b l) (hB : Below n w w') (hb : b < n) : IM P k w' b l := h.same (hB.block b hb)
theorem IM.drew (h : IM P k w b l) : IM P k w.drew b l := h
theorem IM.setCell (h : IM P k w b l) {a : Addr} (ha : b ≠ a.block) (u : Value) : IM P k (w.setCell a u) b l := by
  obtain ⟨h1, h2, D, h3, h4⟩ := h
  exact ⟨h1, h2, D, h3.setCell ha u, h4⟩
theorem ownsMap_tight {n : Nat} {D : DataW Value} (h : w.ownsMap P k RV b n D) : w.ownsMap P k RV b (Maps.size D) D := by
  obtain ⟨es, clock, hb, F, hs, rfl⟩ := h
  refine ⟨es, clock, hb, F, ?_, rfl⟩
  simp [Maps.size, length_sorted]
theorem IM.look (h : IM P k w b l) (hk : P.underlying k = some (.int .i64)) (ht : P.underlying t = some (.map k e)) {z : Value} (hz : (zeroValue e).run P w = .ok z w) {i : Int} (hi : I64 i) :
    (Instr.lookup t (.map (some b)) (.int .i64 i) true).run P w = .ok (.tuple #[(getL l i).getD z, .bool (getL l i).isSome]) w ∧ (Instr.lookup t (.map (some b)) (.int .i64 i) false).run P w = .ok ((getL l i).getD z) w := by
  obtain ⟨h1, h2, D, h3, h4, h5⟩ := h
  obtain ⟨v, ps, hr, hv⟩ := h3.look_ok (int_keyed hk) ht hz (zd := .held z) (zp := []) rfl (keyOf_int_mk hk (wf_I64 hi))
  obtain ⟨v', ps', hr', hv'⟩ := h3.lookup (int_keyed hk) ht hz (zd := .held z) (zp := []) rfl (keyOf_int_mk hk (wf_I64 hi))
  have e1 := (h5 i).2 (.held z)
  rw [hr, hr', (h5 i).1]
  simp only [RV, Option.some.injEq, Prod.mk.injEq] at hv hv'
  rw [e1] at hv hv'
  cases hg : getL l i with
  | none =>
    rw [hg] at hv hv'
    simp only [DataW.held.injEq] at hv hv'
    simp [hv.1, hv'.1]
  | some u =>
    rw [hg] at hv hv'
    simp only [DataW.held.injEq] at hv hv'
    simp [hv.1, hv'.1]
theorem IM.store (h : IM P k w b l) (hk : P.underlying k = some (.int .i64)) (ht : P.underlying t = some (.map k e)) {i : Int} (hi : I64 i) (hl : l.length < maxLen) (v : Value) :
    ∃ w', (Instr.mapUpdate t (.map (some b)) (.int .i64 i) v).run P w = .ok () w' ∧ IM P k w' b (putL l i v) ∧ w.grownBy w' (some b) := by
  obtain ⟨h1, h2, D, h3, h4, h5⟩ := h
  obtain ⟨w', hr, ho, hg⟩ := h3.update (int_keyed hk) ht hl (val := v) (d := .held v) (ps := []) (keyOf_int_mk hk (wf_I64 hi)) rfl
  have ht' := h3.tidy (int_keyed hk)
  have hik : WideAt.IsKeyLit (KL i) := by first | trivial | exact ⟨_, _, rfl⟩ | simp [WideAt.IsKeyLit]
  have hsz : Maps.size (D.put (KL i) (.held v)) = (putL l i v).length := by
    rw [size_put ht', (h5 i).1, h4, putL_len]
  refine ⟨w', hr, ⟨h1.put i v, fun p hp => ?_, _, hsz ▸ ownsMap_tight ho, hsz, fun j => ?_⟩, hg⟩
  · rcases putL_keys l i v p hp with rfl | hp
    · exact hi
    · exact h2 p hp
  · by_cases hj : j = i
    · subst hj
      rw [getL_put_same]
      exact ⟨has_put_same ht'.isMap hik _, fun z => atKey_put_same ht'.isMap hik _ z⟩
    · rw [getL_put_other _ _ _ _ hj]
      have hne : KL j ≠ KL i := fun h => hj (KL_inj h)
      exact ⟨(has_put_other hne _).trans (h5 j).1, fun z => (atKey_put_other hne _ z).trans ((h5 j).2 z)⟩
theorem IM.len (h : IM P k w b l) (ht : P.underlying t = some (.map k e)) (ty : TypeId) : (Builtin.len_ #[t] ty #[.map (some b)]).run P w = .ok (.int .i64 l.length) w := by
  obtain ⟨h1, h2, D, h3, h4, h5⟩ := h
  rw [h3.len ht ty, h4]
end
section
variable {P : Program} (w : World) {ops : Array Oper} {rest : List Oper} {o : Oper} {a : Act} {Q : Exit → Act → World → Prop}
theorem wpList_im_make (hg : o.guard = none) (t k : TypeId) (hop : o.op = Op.makeMap t none) (hK : ∀ w' b, IM P k w' b [] → b = w.heap.size → Below w.heap.size w w' → wpList P ops Q rest (a.put o.dst (.map (some b))) w') : wpList P ops Q (o :: rest) a w := by
  refine wpList_plain hg fun K' hK' => ?_
  unfold Oper.wp
  simp [execOp, hop, run_makeMap, Result.andThen]
  exact hK' _ _ (hK _ _ (IM.made P k w) rfl ((Below.refl _ _).alloc (Nat.le_refl _) _))
theorem wpList_im_ok (hg : o.guard = none) (m x : Operand) (t : TypeId) (hop : o.op = Op.lookup t m x true) {k e : TypeId} (hk : P.underlying k = some (.int .i64)) (ht : P.underlying t = some (.map k e)) {z : Value} (hz : (zeroValue e).run P w = .ok z w) {b : Nat} {l : List (Int × Value)} (h : IM P k w b l) {i : Int} (hi : I64 i)
    {v : Value} {s : Bool} (hv : (getL l i).getD z = v) (hs : (getL l i).isSome = s)
    (hm : a.eval m = .map (some b)) (hx : a.eval x = .int .i64 i) (hK : wpList P ops Q rest (a.put o.dst (.tuple #[v, .bool s])) w) : wpList P ops Q (o :: rest) a w := by
  subst hv hs
  refine wpList_plain hg fun K' hK' => ?_
  unfold Oper.wp
  simp [execOp, hop, hm, hx, (h.look hk ht hz hi).1, Result.andThen]
  exact hK' _ _ hK
theorem wpList_im_store (hg : o.guard = none) (m x v : Operand) (t : TypeId) (hop : o.op = Op.mapUpdate t m x v) {k e : TypeId} (hk : P.underlying k = some (.int .i64)) (ht : P.underlying t = some (.map k e)) {b : Nat} {l : List (Int × Value)} (h : IM P k w b l) {i : Int} (hi : I64 i) (hl : l.length < maxLen) {u : Value}
    (hm : a.eval m = .map (some b)) (hx : a.eval x = .int .i64 i) (hv : a.eval v = u) (hK : ∀ w', IM P k w' b (putL l i u) → w.grownBy w' (some b) → wpList P ops Q rest (a.put o.dst undef) w') : wpList P ops Q (o :: rest) a w := by
  refine wpList_plain hg fun K' hK' => ?_
  obtain ⟨w', hrun, r1, r2⟩ := h.store hk ht hi hl u
  unfold Oper.wp
  simp [execOp, hop, hm, hx, hv, hrun, Result.andThen]
  exact hK' _ _ (hK w' r1 r2)
end
end Go.Proofs.Ytfocaefnmfkojaa.H
namespace Go.Proofs.Ytfocaefnmfkojaa.H
open Go.RowKit Go.Maps Go.Proofs.YtfocaefnmfkojaaW.PrintWords Go.Proofs.YtfocaefnmfkojaaW.PrintLast Go.Proofs.YtfocaefnmfkojaaW.PrintMore
set_option linter.unusedVariables false
set_option linter.unusedSimpArgs false
structure Asn where
  P : (Nat → Prop) → World → Prop
  lt : ∀ {S w}, P S w → ∀ k, S k → k < w.heap.size
  move : ∀ {S w w'}, P S w → (∀ k, S k → w'.heap[k]? = w.heap[k]?) → P S w'
def SHs (B : Nat) (w : World) : List Asn → List (Nat → Prop) → Prop
  | [], [] => True
  | A :: L, S :: Ss => A.P S w ∧ (∀ k, S k → B ≤ k) ∧ (∀ T ∈ Ss, ∀ k, S k → ¬ T k) ∧ SHs B w L Ss
  | _, _ => False
structure SH (w0 w : World) (L : List Asn) : Prop where
  below : Below w0.heap.size w0 w
  own : ∃ Ss, SHs w0.heap.size w L Ss
inductive At (A A' : Asn) : List Asn → List Asn → Prop
  | here {L} : At A A' (A :: L) (A' :: L)
  | there {a L L'} : At A A' L L' → At A A' (a :: L) (a :: L')
theorem SHs.lt {B : Nat} {w : World} : ∀ {L Ss}, SHs B w L Ss → ∀ T ∈ Ss, ∀ k, T k → k < w.heap.size
  | [], [], _, T, hT => by cases hT
  | A :: L, S :: Ss, h, T, hT => by
    rcases List.mem_cons.mp hT with rfl | hT
    · exact A.lt h.1
    · exact SHs.lt h.2.2.2 T hT
  | [], _ :: _, h, _, _ => h.elim
  | _ :: _, [], h, _, _ => h.elim
theorem SHs.move {B : Nat} {w w' : World} : ∀ {L Ss}, SHs B w L Ss → (∀ T ∈ Ss, ∀ k, T k → w'.heap[k]? = w.heap[k]?) → SHs B w' L Ss
  | [], [], _, _ => trivial
  | A :: L, S :: Ss, h, hm => ⟨A.move h.1 (hm S (List.mem_cons_self ..)), h.2.1, h.2.2.1, SHs.move h.2.2.2 (fun T hT => hm T (List.mem_cons_of_mem _ hT))⟩
  | [], _ :: _, h, _ => h.elim
  | _ :: _, [], h, _ => h.elim
structure Turn (w w' : World) (S : Nat → Prop) : Prop where
  os : w'.os = w.os
  tape : w'.tape = w.tape
  output : w'.output = w.output
  size : w.heap.size ≤ w'.heap.size
  block : ∀ k, k < w.heap.size → ¬ S k → w'.heap[k]? = w.heap[k]?
theorem Turn.of_below {w w' : World} (h : Below w.heap.size w w') (S : Nat → Prop) : Turn w w' S := ⟨h.os, h.tape, h.output, h.size, fun k hk _ => h.block k hk⟩
theorem Turn.of_grown {w w' : World} {row : Option Nat} {S : Nat → Prop} (h : w.grownBy w' row) (hS : ∀ k, row = some k → S k) : Turn w w' S := ⟨h.os, h.tape, h.output, h.size, fun k hk hn => h.block k hk (fun e => hn (hS k e.symm))⟩
theorem Turn.of_set (w : World) {p : Addr} (u : Value) {S : Nat → Prop} (hS : S p.block) : Turn w (w.setCell p u) S := ⟨rfl, rfl, rfl, by simp [World.setCell], fun k hk hn => Below.heap_setCell _ _ _ _ (fun e => hn (e ▸ hS))⟩
theorem Turn.mono {w w' : World} {S T : Nat → Prop} (h : Turn w w' S) (hST : ∀ k, S k → T k) : Turn w w' T := ⟨h.os, h.tape, h.output, h.size, fun k hk hn => h.block k hk (fun hs => hn (hST k hs))⟩
theorem Turn.trans {w w' w'' : World} {S : Nat → Prop} (h : Turn w w' S) (h' : Turn w' w'' S) : Turn w w'' S :=
  ⟨h'.os.trans h.os, h'.tape.trans h.tape, h'.output.trans h.output, Nat.le_trans h.size h'.size, fun k hk hn => (h'.block k (Nat.lt_of_lt_of_le hk h.size) hn).trans (h.block k hk hn)⟩
inductive AtF {ι : Type} (A : Asn) (A' : ι → Asn) : List Asn → (ι → List Asn) → Prop
  | here {L} : AtF A A' (A :: L) (fun i => A' i :: L)
  | there {a L L'} : AtF A A' L L' → AtF A A' (a :: L) (fun i => a :: L' i)
theorem SHs.focus {B : Nat} {w : World} {ι : Type} {A : Asn} {A' : ι → Asn} : ∀ {L L'}, AtF A A' L L' → ∀ {Ss}, SHs B w L Ss → B ≤ w.heap.size →
    ∃ S ∈ Ss, A.P S w ∧ (∀ k, S k → B ≤ k) ∧ ∀ i w', Turn w w' S → ∀ S', (A' i).P S' w' → (∀ k, S' k → S k ∨ w.heap.size ≤ k) → ∃ Ss', SHs B w' (L' i) Ss' ∧ ∀ T' ∈ Ss', ∀ k, T' k → (∃ T ∈ Ss, T k) ∨ w.heap.size ≤ k
  | _, _, .here (L := L), [], h, _ => h.elim
  | _, _, .here (L := L), S :: Ss, h, hle => by
    refine ⟨S, List.mem_cons_self .., h.1, h.2.1, fun i w' ht S' hA' hS' => ?_⟩
    refine ⟨S' :: Ss, ⟨hA', fun k hk => ?_, fun T hT k hk hTk => ?_, SHs.move h.2.2.2 fun T hT k hk => ?_⟩, ?_⟩
    · rcases hS' k hk with hk | hk
      · exact h.2.1 k hk
      · omega
    · rcases hS' k hk with hk | hk
      · exact h.2.2.1 T hT k hk hTk
      · have := SHs.lt h.2.2.2 T hT k hTk
        omega
    · exact ht.block k (SHs.lt h.2.2.2 T hT k hk) (fun hSk => h.2.2.1 T hT k hSk hk)
    · intro T' hT' k hk
      rcases List.mem_cons.mp hT' with rfl | hT'
      · rcases hS' k hk with hk | hk
        · exact .inl ⟨S, List.mem_cons_self .., hk⟩
        · exact .inr hk
      · exact .inl ⟨T', List.mem_cons_of_mem _ hT', hk⟩
  | _, _, .there hat, [], h, _ => h.elim
  | _, _, .there (a := a) hat, S :: Ss, h, hle => by
    obtain ⟨S0, hS0, hP, hB0, hf⟩ := SHs.focus hat h.2.2.2 hle
    refine ⟨S0, List.mem_cons_of_mem _ hS0, hP, hB0, fun i w' ht S' hA' hS' => ?_⟩
    obtain ⟨Ss', h', hT'⟩ := hf i w' ht S' hA' hS'
    refine ⟨S :: Ss', ⟨a.move h.1 fun k hk => ?_, h.2.1, fun T hT k hk hTk => ?_, h'⟩, ?_⟩
    · exact ht.block k (a.lt h.1 k hk) (fun hSk => h.2.2.1 S0 hS0 k hk hSk)
    · rcases hT' T hT k hTk with ⟨T0, hT0, hk0⟩ | hge
      · exact h.2.2.1 T0 hT0 k hk hk0
      · have := a.lt h.1 k hk
        omega
    · intro T hT k hk
      rcases List.mem_cons.mp hT with rfl | hT
      · exact .inl ⟨T, List.mem_cons_self .., hk⟩
      · rcases hT' T hT k hk with ⟨T0, hT0, hk0⟩ | hge
        · exact .inl ⟨T0, List.mem_cons_of_mem _ hT0, hk0⟩
        · exact .inr hge
section
variable {w0 w w' : World} {L L' : List Asn} {A A' : Asn}
theorem SH.start (w : World) : SH w w [] := ⟨Below.refl _ _, [], trivial⟩
theorem SH.le (h : SH w0 w L) : w0.heap.size ≤ w.heap.size := h.below.size
theorem SH.keep (h : SH w0 w L) (hb : Below w.heap.size w w') : SH w0 w' L := by
  obtain ⟨hB, Ss, hs⟩ := h
  exact ⟨hB.trans (hb.mono hB.size), Ss, hs.move fun T hT k hk => hb.block k (hs.lt T hT k hk)⟩
theorem SH.drew (h : SH w0 w L) : SH w0 w.drew L := h.keep (below_drew (Below.refl _ _))
theorem SH.drewN (h : SH w0 w L) (n : Nat) : SH w0 (w.drewN n) L := h.keep (pw_below_drewN (Below.refl _ _) n)
theorem SH.alloc (h : SH w0 w L) (o : Obj) : SH w0 (w.alloc o) L := h.keep (below_alloc (Below.refl _ _) o)
theorem SH.push (h : SH w0 w L) (hb : Below w.heap.size w w') (A : Asn) (S : Nat → Prop) (hA : A.P S w') (hS : ∀ k, S k → w.heap.size ≤ k) : SH w0 w' (A :: L) := by
  obtain ⟨hB, Ss, hs⟩ := h
  refine ⟨hB.trans (hb.mono hB.size), S :: Ss, hA, fun k hk => Nat.le_trans hB.size (hS k hk), fun T hT k hk hTk => ?_, hs.move fun T hT k hk => hb.block k (hs.lt T hT k hk)⟩
  have := hs.lt T hT k hTk
  have := hS k hk
  omega
theorem SH.focus {ι : Type} {A' : ι → Asn} {L' : ι → List Asn} (h : SH w0 w L) (hat : AtF A A' L L') : ∃ S, A.P S w ∧ (∀ k, S k → w0.heap.size ≤ k) ∧ ∀ i w', Turn w w' S → ∀ S', (A' i).P S' w' → (∀ k, S' k → S k ∨ w.heap.size ≤ k) → SH w0 w' (L' i) := by
  obtain ⟨hB, Ss, h⟩ := h
  obtain ⟨S, _, hP, hB0, hf⟩ := SHs.focus hat h hB.size
  refine ⟨S, hP, hB0, fun i w' ht S' hA' hS' => ?_⟩
  obtain ⟨Ss', h', _⟩ := hf i w' ht S' hA' hS'
  exact ⟨hB.trans ⟨ht.os, ht.tape, ht.output, ht.size, fun k hk => ht.block k (Nat.lt_of_lt_of_le hk hB.size) (fun hk' => by have := hB0 k hk'; omega)⟩, Ss', h'⟩
theorem At.toF : ∀ {L L'}, At A A' L L' → AtF A (fun _ : Unit => A') L (fun _ => L')
  | _, _, .here => .here
  | _, _, .there h => .there h.toF
theorem SH.upd (h : SH w0 w L) (hat : At A A' L L') (hs : ∀ S, A.P S w → (∀ k, S k → w0.heap.size ≤ k) → Turn w w' S ∧ ∃ S', A'.P S' w' ∧ ∀ k, S' k → S k ∨ w.heap.size ≤ k) : SH w0 w' L' := by
  obtain ⟨S, hP, hB, hf⟩ := h.focus hat.toF
  obtain ⟨ht, S', hA', hS'⟩ := hs S hP hB
  exact hf () w' ht S' hA' hS'
theorem SHs.get {B : Nat} : ∀ {L L'}, At A A' L L' → ∀ {Ss}, SHs B w L Ss → ∃ S, A.P S w ∧ ∀ k, S k → B ≤ k
  | _, _, .here, S :: Ss, h => ⟨S, h.1, h.2.1⟩
  | _, _, .there hat, S :: Ss, h => SHs.get hat h.2.2.2
  | _, _, .here, [], h => h.elim
  | _, _, .there _, [], h => h.elim
theorem SH.get' (h : SH w0 w L) (hat : At A A' L L') : ∃ S, A.P S w ∧ ∀ k, S k → w0.heap.size ≤ k := SHs.get hat h.own.choose_spec
theorem SHs.sub {B : Nat} : ∀ {L' L : List Asn}, L'.Sublist L → ∀ {Ss}, SHs B w L Ss → ∃ Ss', SHs B w L' Ss' ∧ ∀ T ∈ Ss', T ∈ Ss
  | _, _, .slnil, [], h => ⟨[], h, fun _ h => h⟩
  | _, _, .slnil, _ :: _, h => h.elim
  | _, _, .cons a s, S :: Ss, h => by
    obtain ⟨Ss', h', hm⟩ := SHs.sub s h.2.2.2
    exact ⟨Ss', h', fun T hT => List.mem_cons_of_mem _ (hm T hT)⟩
  | _, _, .cons_cons a s, S :: Ss, h => by
    obtain ⟨Ss', h', hm⟩ := SHs.sub s h.2.2.2
    refine ⟨S :: Ss', ⟨h.1, h.2.1, fun T hT => h.2.2.1 T (hm T hT), h'⟩, fun T hT => ?_⟩
    rcases List.mem_cons.mp hT with rfl | hT
    · exact List.mem_cons_self ..
    · exact List.mem_cons_of_mem _ (hm T hT)
  | _, _, .cons a s, [], h => h.elim
  | _, _, .cons_cons a s, [], h => h.elim
theorem SH.sub (h : SH w0 w L) (hs : L'.Sublist L) : SH w0 w L' := by
  obtain ⟨hB, Ss, h⟩ := h
  obtain ⟨Ss', h', _⟩ := SHs.sub hs h
  exact ⟨hB, Ss', h'⟩
theorem SH.drop (h : SH w0 w (A :: L)) : SH w0 w L := h.sub (List.sublist_cons_self ..)
theorem SH.swap (h : SH w0 w (A :: A' :: L)) : SH w0 w (A' :: A :: L) := by
  obtain ⟨hB, Ss, h⟩ := h
  match Ss, h with
  | S :: S' :: Ss, h => exact ⟨hB, S' :: S :: Ss, h.2.2.2.1, h.2.2.2.2.1, fun T hT k hk hTk => by
      rcases List.mem_cons.mp hT with rfl | hT
      · exact h.2.2.1 S' (List.mem_cons_self ..) k hTk hk
      · exact h.2.2.2.2.2.1 T hT k hk hTk, h.1, h.2.1, fun T hT => h.2.2.1 T (List.mem_cons_of_mem _ hT), h.2.2.2.2.2.2⟩
  | [S], h => exact h.2.2.2.elim
  | [], h => exact h.elim
theorem SH.old (h : SH w0 w L) {p : Addr} {v : Value} (hc : w0.cell? p = some v) : w.cell? p = some v := (h.below.cell (World.block_lt_of_cell? w0 _ hc)).trans hc
end
def bk (g : Nat) (t : TypeId) (cs : Array Value) : Asn where
  P S w := (∀ k, S k ↔ k = g) ∧ w.heap[g]? = some (.cells cs t (0, 0))
  lt h k hk := by rw [(h.1 k).mp hk]; exact blk_lt h.2
  move h hm := ⟨h.1, (hm _ ((h.1 _).mpr rfl)).trans h.2⟩
def mp (P : Program) (k : TypeId) (b : Nat) (l : List (Int × Value)) : Asn where
  P S w := (∀ q, S q ↔ q = b) ∧ IM P k w b l
  lt h q hq := by rw [(h.1 q).mp hq]; exact h.2.lt
  move h hm := ⟨h.1, h.2.same (hm _ ((h.1 _).mpr rfl))⟩
def rw' {α : Type} (base : Nat) (d : Kd α) (e : Nat) (v : Value) (xs : List α) : Asn where
  P S w := Kd.R d e w base S v xs ∧ ∀ k, S k → k < w.heap.size
  lt h k hk := h.2 k hk
  move h hm := ⟨Kd.R_move h.1 hm, fun k hk => heap_lt (hm k hk) (h.2 k hk)⟩
def vw {α : Type} (d : Kd α) (e : Nat) (v : Value) (xs : List α) : Asn where
  P S w := Kd.V d e w 0 S v xs ∧ ∀ k, S k → k < w.heap.size
  lt h k hk := h.2 k hk
  move h hm := ⟨by
    obtain ⟨A, c, e1, e2, hf⟩ := h.1
    exact ⟨A, c, e1, e2, Kd.F_step hf (fun k hk _ => hm k hk)⟩, fun k hk => heap_lt (hm k hk) (h.2 k hk)⟩
section
variable {P : Program} {w0 w : World} {ops : Array Oper} {rest : List Oper} {o : Oper} {a : Act} {Q : Exit → Act → World → Prop} {L L' : List Asn} {A' : Asn}
theorem SH.cells' {g : Nat} {t : TypeId} {cs : Array Value} (h : SH w0 w L) (hat : At (bk g t cs) A' L L') : w.heap[g]? = some (.cells cs t (0, 0)) := by
  obtain ⟨S, hS, _⟩ := h.get' hat
  exact hS.2
theorem SH.cell' {g : Nat} {t : TypeId} {cs : Array Value} (h : SH w0 w L) (hat : At (bk g t cs) A' L L') (i : Nat) : w.cell? ⟨g, i, none⟩ = cs[i]? := blk_cell (h.cells' hat) i
theorem SH.im' {k : TypeId} {b : Nat} {l : List (Int × Value)} (h : SH w0 w L) (hat : At (mp P k b l) A' L L') : IM P k w b l := by
  obtain ⟨S, hS, _⟩ := h.get' hat
  exact hS.2
theorem SH.set {g : Nat} {t : TypeId} {cs : Array Value} (h : SH w0 w L) (i : Nat) (u : Value) {cs' : Array Value} (hcs : cs.setIfInBounds i u = cs') (hat : At (bk g t cs) (bk g t cs') L L') : SH w0 (w.setCell ⟨g, i, none⟩ u) L' :=
  h.upd hat fun S hS _ => ⟨Turn.of_set w u ((hS.1 g).mpr rfl), S, ⟨hS.1, blk_put hS.2 i u hcs⟩, fun k hk => .inl hk⟩
theorem wl_plain (hw : Region.wanted o (yielded ops a.tmps) = true) (h : ∀ K : Act → World → Prop, (∀ a w, wpList P ops Q rest a w → K a w) → o.wp P a w K Q) : wpList P ops Q (o :: rest) a w :=
  wpList_step fun K hK => by rw [if_pos hw]; exact h K hK
theorem wl_run {w1 : World} {v : Value} (hw : Region.wanted o (yielded ops a.tmps) = true) (hrun : (execOp a.eval o).run P w = .ok (.value v) w1) (h : wpList P ops Q rest (a.put o.dst v) w1) : wpList P ops Q (o :: rest) a w := by
  refine wl_plain hw fun K hK => ?_
  unfold Oper.wp
  rw [hrun]
  exact hK _ _ h
theorem gate_load {t : TypeId} {x : Operand} (_ho : o.op = .load t x) (h : wpList P ops Q (o :: rest) a w) : wpList P ops Q (o :: rest) a w := h
theorem gate_sto {t : TypeId} {x y : Operand} (_ho : o.op = .store t x y) (h : wpList P ops Q (o :: rest) a w) : wpList P ops Q (o :: rest) a w := h
theorem gate_idx {t : TypeId} {x y : Operand} (_ho : o.op = .indexAddr t x y) (h : wpList P ops Q (o :: rest) a w) : wpList P ops Q (o :: rest) a w := h
theorem gate_box {t : TypeId} {x : Operand} (_ho : o.op = .box t x) (h : wpList P ops Q (o :: rest) a w) : wpList P ops Q (o :: rest) a w := h
theorem gate_alloc {t : TypeId} (_ho : o.op = .alloc t) (h : wpList P ops Q (o :: rest) a w) : wpList P ops Q (o :: rest) a w := h
theorem gate_mk {t : TypeId} (_ho : o.op = .makeMap t none) (h : wpList P ops Q (o :: rest) a w) : wpList P ops Q (o :: rest) a w := h
theorem gate_entry {x : Operand} (_ho : o.op = .entry x) (h : wpList P ops Q (o :: rest) a w) : wpList P ops Q (o :: rest) a w := h
theorem ev_box (HS : SH w0 w L) (hw : Region.wanted o (yielded ops a.tmps) = true) {cs : Array Value} {t : TypeId} (hrun : (execOp a.eval o).run P w = .ok (.value (.pointer (some ⟨w.heap.size, 0, none⟩))) (w.alloc (.cells cs t (0, 0))))
    (h : ∀ g w1, SH w0 w1 (bk g t cs :: L) → wpList P ops Q rest (a.put o.dst (.pointer (some ⟨g, 0, none⟩))) w1) : wpList P ops Q (o :: rest) a w :=
  wl_run hw hrun (h _ _ (HS.push (below_alloc (Below.refl _ _) _) _ (fun k => k = w.heap.size) ⟨fun _ => Iff.rfl, blk_new w _⟩ (fun k hk => Nat.le_of_eq hk.symm)))
theorem ev_val (hw : Region.wanted o (yielded ops a.tmps) = true) {v : Value} (hrun : (execOp a.eval o).run P w = .ok (.value v) w) (h : wpList P ops Q rest (a.put o.dst v) w) : wpList P ops Q (o :: rest) a w := wl_run hw hrun h
theorem run_load1 {ty : TypeId} {d : TypeDesc} (hu : P.underlying ty = some d) (hd : d.isRow = false) {p : Addr} {v : Value} (hc : w.cell? p = some v) : (loadVar ty p).run P w = .ok v w := by
  have hagg : (isAgg ty).run P w = .ok false w := by
    unfold isAgg
    rw [Sem.run_bind, run_underlying hu w]
    cases d <;> simp_all [TypeDesc.isRow]
  unfold loadVar
  rw [Sem.run_bind, hagg]
  simp [hc]
theorem ev_load (hw : Region.wanted o (yielded ops a.tmps) = true) {ty : TypeId} {x : Operand} (ho : o.op = .load ty x) {p : Addr} (hx : a.eval x = .pointer (some p)) {d : TypeDesc} (hu : P.underlying ty = some d) (hd : d.isRow = false) {v : Value} (hc : w.cell? p = some v)
    (h : wpList P ops Q rest (a.put o.dst v) w) : wpList P ops Q (o :: rest) a w := by
  refine ev_val hw ?_ h
  unfold execOp
  simp only [ho, hx, Instr.loadAt, Instr.sureAddr, Sem.run_bind, Sem.run_pure, Result.andThen_ok, run_load1 hu hd hc]
theorem run_store1 {ty : TypeId} (hi : (P.info? ty).map (·.size) = some 1) {g i : Nat} {t : TypeId} {cs : Array Value} (hg : w.heap[g]? = some (.cells cs t (0, 0))) (hlt : i < cs.size) {v : Value} (hv : v.oneCell' = true) : (storeVar ty ⟨g, i, none⟩ v).run P w = .ok () (w.setCell ⟨g, i, none⟩ v) := by
  have hcs : v.cells = #[v] := by cases v <;> first | rfl | cases hv
  have hc : w.cell? ⟨g, i, none⟩ = some cs[i] := (blk_cell hg i).trans (Array.getElem?_eq_getElem hlt)
  have hf : w.frozen? ⟨g, i, none⟩ = false := blk_frozen hg i
  cases hq : P.info? ty with
  | none => simp [hq] at hi
  | some q =>
    have hs : q.size = 1 := by simpa [hq] using hi
    have ha : (⟨g, i, none⟩ : Addr).add 0 = ⟨g, i, none⟩ := by unfold Addr.add; split <;> simp_all
    have hst : (store (⟨g, i, none⟩ : Addr) v).run P w = .ok () (w.setCell ⟨g, i, none⟩ v) := by rw [run_store P w _ v _ hv, hc]; simp [hf]
    have h2 : (storeCells (⟨g, i, none⟩ : Addr) [v]).run P w = .ok () (w.setCell ⟨g, i, none⟩ v) := by
      unfold storeCells
      rw [ha, Sem.run_bind, hst]
      simp [storeCells]
    unfold storeVar
    simp [Sem.run_bind, sizeOf, typeInfo, hq, hs, hcs, h2]
theorem ev_store (HS : SH w0 w L) (hw : Region.wanted o (yielded ops a.tmps) = true) {ty : TypeId} {x y : Operand} (ho : o.op = .store ty x y) {g i : Nat} (hx : a.eval x = .pointer (some ⟨g, i, none⟩)) {v : Value} (hy : a.eval y = v) (hv : v.oneCell' = true) (hi : (P.info? ty).map (·.size) = some 1)
    {t : TypeId} {cs cs' : Array Value} (hat : At (bk g t cs) (bk g t cs') L L') (hlt : i < cs.size) (hcs : cs.setIfInBounds i v = cs')
    (h : ∀ w1, SH w0 w1 L' → wpList P ops Q rest (a.put o.dst undef) w1) : wpList P ops Q (o :: rest) a w := by
  refine wl_plain hw fun K hK => ?_
  unfold Oper.wp execOp
  simp only [ho, hx, hy, Instr.storeAt, Instr.sureAddr, Sem.run_bind, Sem.run_pure, Result.andThen_ok, run_store1 hi (HS.cells' hat) hlt hv]
  exact hK _ _ (h _ (HS.set i v hcs hat))
theorem ev_mmake (HS : SH w0 w L) (hgd : o.guard = none) (t k : TypeId) (hop : o.op = Op.makeMap t none) (h : ∀ w1 b, SH w0 w1 (mp P k b [] :: L) → wpList P ops Q rest (a.put o.dst (.map (some b))) w1) : wpList P ops Q (o :: rest) a w :=
  wpList_im_make w hgd t k hop fun w' b hm hb hB => h w' b (HS.push hB _ (fun q => q = b) ⟨fun _ => Iff.rfl, hm⟩ (fun q hq => by omega))
theorem ev_mok (HS : SH w0 w L) (hgd : o.guard = none) {m x : Operand} {t : TypeId} (hop : o.op = Op.lookup t m x true) {k e : TypeId} (hk : P.underlying k = some (.int .i64)) (ht : P.underlying t = some (.map k e)) {z : Value} (hz : (zeroValue e).run P w = .ok z w)
    {b : Nat} (hm : a.eval m = .map (some b)) {i : Int} (hx : a.eval x = .int .i64 i) {l : List (Int × Value)} (hat : At (mp P k b l) (mp P k b l) L L') (hi : I64 i) {v : Value} {s : Bool} (hv : (getL l i).getD z = v) (hs : (getL l i).isSome = s)
    (h : wpList P ops Q rest (a.put o.dst (.tuple #[v, .bool s])) w) : wpList P ops Q (o :: rest) a w :=
  wpList_im_ok w hgd m x t hop hk ht hz (HS.im' hat) hi hv hs hm hx h
theorem ev_mget (HS : SH w0 w L) (hw : Region.wanted o (yielded ops a.tmps) = true) {m x : Operand} {t : TypeId} (hop : o.op = Op.lookup t m x false) {k e : TypeId} (hk : P.underlying k = some (.int .i64)) (ht : P.underlying t = some (.map k e)) {z : Value} (hz : (zeroValue e).run P w = .ok z w)
    {b : Nat} (hm : a.eval m = .map (some b)) {i : Int} (hx : a.eval x = .int .i64 i) {l : List (Int × Value)} (hat : At (mp P k b l) (mp P k b l) L L') (hi : I64 i) {v : Value} (hv : (getL l i).getD z = v)
    (h : wpList P ops Q rest (a.put o.dst v) w) : wpList P ops Q (o :: rest) a w := by
  subst hv
  refine ev_val hw ?_ h
  unfold execOp
  simp only [hop, hm, hx]
  simp [((HS.im' hat).look hk ht hz hi).2]
theorem ev_mput (HS : SH w0 w L) (hgd : o.guard = none) {m x v : Operand} {t : TypeId} (hop : o.op = Op.mapUpdate t m x v) {k e : TypeId} (hk : P.underlying k = some (.int .i64)) (ht : P.underlying t = some (.map k e))
    {b : Nat} (hm : a.eval m = .map (some b)) {i : Int} (hx : a.eval x = .int .i64 i) {u : Value} (hv : a.eval v = u) {l l' : List (Int × Value)} (hl' : putL l i u = l') (hat : At (mp P k b l) (mp P k b l') L L') (hi : I64 i) (hl : l.length < maxLen)
    (h : ∀ w1, SH w0 w1 L' → wpList P ops Q rest (a.put o.dst undef) w1) : wpList P ops Q (o :: rest) a w := by
  subst hl'
  exact wpList_im_store w hgd m x v t hop hk ht (HS.im' hat) hi hl hm hx hv fun w' him hgr => h w' (HS.upd hat fun S hS _ => ⟨Turn.of_grown hgr (fun k e => by cases e; exact (hS.1 b).mpr rfl), S, ⟨hS.1, him⟩, fun k hk => .inl hk⟩)
theorem ev_append {α : Type} (d : Kd α) (HS : SH w0 w L) (hgd : o.guard = none) {s x : Operand} {t e : TypeId} {z : Value} {bytes : Nat} (ho : o.op = .call { callee := .builtin .append, args := #[s, x], argTypes := #[t, t] })
    (ht : P.underlying t = some (.slice e)) (hinfo : (P.info? e).map (fun i => (i.zero, i.size, i.bytes)) = some (some z, d.sz, bytes)) (hz : z.cells.size = d.sz) (hs0 : 0 < d.sz) (hb0 : 0 < bytes)
    {v : Value} {xs : List α} {p : α} {cs : Array Value} (hs : a.eval s = v) (hx : a.eval x = .slice (some ⟨w.heap.size, 0, none⟩) 1 1) (hp : d.M w w0.heap.size (fun _ => False) p cs.toList)
    {L' : Value → List Asn} (hat : AtF (rw' w0.heap.size d e v xs) (fun v1 => rw' w0.heap.size d e v1 (xs ++ [p])) L L') (hl : (xs.length + 1) * bytes ≤ 140737488355328)
    (h : ∀ v1 w1, SH w0 w1 (L' v1) → wpList P ops Q rest (a.put o.dst v1) w1) : wpList P ops Q (o :: rest) a (w.alloc (.cells cs e)) := by
  obtain ⟨S0, hS0, hb0', hf⟩ := HS.focus hat
  refine Kd.R_append d (w0 := w0) (W := w) (cs := cs.toList) w0.heap.size hgd s x t e z bytes ho ht hinfo hz hs0 hb0 v xs p (fun k => S0 k ∨ w.heap.size ≤ k) (fun _ => False) hs hx hp (fun _ hk => hk.elim) (fun k hk => .inr hk) (Kd.R_mono hS0.1 (fun k hk => .inl hk)) HS.below HS.le hl ?_
  intro v1 w1 ho1 hb1 hg1 _
  refine h v1 w1 (hf v1 w1 (Turn.of_grown hg1 fun k e1 => ?_) (fun k => (S0 k ∨ w.heap.size ≤ k) ∧ k < w1.heap.size) ⟨?_, fun k hk => hk.2⟩ (fun k hk => hk.1))
  · exact hS0.1.1 k e1
  · exact Kd.R_mono (Kd.R_bound ho1) (fun k hk => ⟨hk.1, hk.2.2.1⟩)
theorem ev_alloc (HS : SH w0 w L) (hw : Region.wanted o (yielded ops a.tmps) = true) {t : TypeId} (ho : o.op = .alloc t) {z : Value} (hz : (zeroValue t).run P w = .ok z w) {cs : Array Value} (hc : z.cells = cs)
    (h : ∀ g w1, SH w0 w1 (bk g t cs :: L) → wpList P ops Q rest (a.put o.dst (.pointer (some ⟨g, 0, none⟩))) w1) : wpList P ops Q (o :: rest) a w := by
  refine ev_box HS hw ?_ h
  unfold execOp
  simp only [ho]
  simp [Instr.alloc, Sem.run_bind, hz, newVar, newRow, hc]
theorem ev_boxv (HS : SH w0 w L) (hw : Region.wanted o (yielded ops a.tmps) = true) {t : TypeId} {x : Operand} (ho : o.op = .box t x) {v : Value} (hx : a.eval x = v) {cs : Array Value} (hc : v.cells = cs)
    (h : ∀ g w1, SH w0 w1 (bk g t cs :: L) → wpList P ops Q rest (a.put o.dst (.pointer (some ⟨g, 0, none⟩))) w1) : wpList P ops Q (o :: rest) a w := by
  refine ev_box HS hw ?_ h
  unfold execOp
  simp only [ho, hx]
  simp [Instr.box, Sem.run_bind, newVar, newRow, hc]
theorem run_loads {ty : TypeId} {d : TypeDesc} (hu : P.underlying ty = some d) (hd : d.isRow = true) {p : Addr} {cs : List Value} (hc : ∀ q v, cs[q]? = some v → w.cell? (p.add q) = some v) (hi : (P.info? ty).map (·.size) = some cs.length) : (loadVar ty p).run P w = .ok (.agg cs.toArray) w := by
  have hl : (loadCells p cs.length).run P w = .ok cs.toArray w := run_loadCells_list (P := P) w p cs (fun j v hv => hc j v hv)
  cases hq : P.info? ty with
  | none => simp [hq] at hi
  | some i =>
    have hs : i.size = cs.length := by simpa [hq] using hi
    have hagg : (isAgg ty).run P w = .ok true w := by
      unfold isAgg
      rw [Sem.run_bind, run_underlying hu w]
      cases d <;> simp_all [TypeDesc.isRow]
    simp [loadVar, Sem.run_bind, hagg, sizeOf, typeInfo, hq, hs, hl]
theorem ev_loadr (hw : Region.wanted o (yielded ops a.tmps) = true) {ty : TypeId} {x : Operand} (ho : o.op = .load ty x) {p : Addr} (hx : a.eval x = .pointer (some p)) {d : TypeDesc} (hu : P.underlying ty = some d) (hd : d.isRow = true) {cs : List Value} (hc : ∀ q v, cs[q]? = some v → w.cell? (p.add q) = some v) (hi : (P.info? ty).map (·.size) = some cs.length)
    {c : Array Value} (hcs : cs.toArray = c) (h : wpList P ops Q rest (a.put o.dst (.agg c)) w) : wpList P ops Q (o :: rest) a w := by
  subst hcs
  refine ev_val hw ?_ h
  unfold execOp
  simp only [ho, hx, Instr.loadAt, Instr.sureAddr, Sem.run_bind, Sem.run_pure, Result.andThen_ok, run_loads hu hd hc hi]
theorem add_at' (g i q : Nat) : (⟨g, i, none⟩ : Addr).add q = ⟨g, i + q, none⟩ := by unfold Addr.add; split <;> simp_all
theorem ev_loadw (HS : SH w0 w L) (hw : Region.wanted o (yielded ops a.tmps) = true) {ty : TypeId} {x : Operand} (ho : o.op = .load ty x) {g : Nat} (hx : a.eval x = .pointer (some ⟨g, 0, none⟩)) {d : TypeDesc} (hu : P.underlying ty = some d) (hd : d.isRow = true) {t : TypeId} {cs : Array Value} (hat : At (bk g t cs) (bk g t cs) L L') (hi : (P.info? ty).map (·.size) = some cs.size)
    (h : wpList P ops Q rest (a.put o.dst (.agg cs)) w) : wpList P ops Q (o :: rest) a w :=
  ev_loadr hw ho hx hu hd (cs := cs.toList) (fun q v hv => by rw [add_at', HS.cell' hat, Nat.zero_add]; simpa using hv) (by simpa using hi) (by simp) h
theorem ev_loadb (HS : SH w0 w L) (hw : Region.wanted o (yielded ops a.tmps) = true) {ty : TypeId} {x : Operand} (ho : o.op = .load ty x) {g i : Nat} (hx : a.eval x = .pointer (some ⟨g, i, none⟩)) {d : TypeDesc} (hu : P.underlying ty = some d) (hd : d.isRow = false) {t : TypeId} {cs : Array Value} (hat : At (bk g t cs) (bk g t cs) L L') {v : Value} (hv : cs[i]? = some v)
    (h : wpList P ops Q rest (a.put o.dst v) w) : wpList P ops Q (o :: rest) a w := ev_load hw ho hx hu hd ((HS.cell' hat i).trans hv) h
def setAll (cs : Array Value) : Nat → List Value → Array Value
  | _, [] => cs
  | i, v :: vs => setAll (cs.setIfInBounds i v) (i + 1) vs
theorem heap_setCells (g : Nat) (t : TypeId) (vs : List Value) : ∀ (w : World) (i : Nat) (cs : Array Value), w.heap[g]? = some (.cells cs t (0, 0)) → (w.setCells g i vs).heap[g]? = some (.cells (setAll cs i vs) t (0, 0)) := by
  induction vs with
  | nil => intro w i cs h; exact h
  | cons v vs ih => intro w i cs h; exact ih _ _ _ (blk_put h i v rfl)
theorem turn_setCells (g : Nat) (vs : List Value) {S : Nat → Prop} (hS : S g) : ∀ (w : World) (i : Nat), Turn w (w.setCells g i vs) S := by
  induction vs with
  | nil => intro w i; exact ⟨rfl, rfl, rfl, Nat.le_refl _, fun _ _ _ => rfl⟩
  | cons v vs ih => intro w i; exact (Turn.of_set w (p := ⟨g, i, none⟩) v hS).trans (ih _ _)
theorem SH.sets {g : Nat} {t : TypeId} {cs : Array Value} (h : SH w0 w L) (i : Nat) (vs : List Value) {cs' : Array Value} (hcs : setAll cs i vs = cs') (hat : At (bk g t cs) (bk g t cs') L L') : SH w0 (w.setCells g i vs) L' :=
  h.upd hat fun S hS _ => ⟨turn_setCells g vs ((hS.1 g).mpr rfl) w i, S, ⟨hS.1, hcs ▸ heap_setCells g t vs w i cs hS.2⟩, fun k hk => .inl hk⟩
theorem ev_stores (HS : SH w0 w L) (hw : Region.wanted o (yielded ops a.tmps) = true) {ty : TypeId} {x y : Operand} (ho : o.op = .store ty x y) {g i : Nat} (hx : a.eval x = .pointer (some ⟨g, i, none⟩)) {vs : Array Value} (hy : a.eval y = .agg vs) (hv : vs.all (·.oneCell') = true) (hi : (P.info? ty).map (·.size) = some vs.size)
    {t : TypeId} {cs cs' : Array Value} (hat : At (bk g t cs) (bk g t cs') L L') (hlt : i + vs.size ≤ cs.size) (hcs : setAll cs i vs.toList = cs')
    (h : ∀ w1, SH w0 w1 L' → wpList P ops Q rest (a.put o.dst undef) w1) : wpList P ops Q (o :: rest) a w := by
  refine wl_plain hw fun K hK => wp_store_mid ty x y ho g i vs hx hy (fun j hj => ?_) hi hv (hK _ _ (h _ (HS.sets i vs.toList hcs hat)))
  have hj' : i + j < cs.size := by omega
  exact ⟨by rw [HS.cell' hat, Array.getElem?_eq_getElem hj']; rfl, blk_frozen (HS.cells' hat) _⟩
theorem add_add (ad : Addr) (m q : Nat) : (ad.add m).add q = ad.add (m + q) := by
  unfold Addr.add
  split <;> split <;> simp_all [Nat.add_assoc]
theorem ev_idx {α : Type} {d : Kd α} {A : Option Addr} {n c : Nat} {xs : List α} (HC : d.C w A n xs) (hw : Region.wanted o (yielded ops a.tmps) = true) {t e : TypeId} {x ix : Operand} (ho : o.op = .indexAddr t x ix) (hx : a.eval x = .slice A n c) {k : IntKind} {j : Nat} (hix : a.eval ix = .int k j) (ht : P.underlying t = some (.slice e)) (hsz : (P.info? e).map (·.size) = some d.sz) (hj : j < xs.length)
    (h : ∀ p cs, d.K w xs[j] cs → (∀ q v, cs[q]? = some v → w.cell? (p.add q) = some v) → wpList P ops Q rest (a.put o.dst (.pointer (some p))) w) : wpList P ops Q (o :: rest) a w := by
  obtain ⟨ad, e1, hc⟩ := HC.2.2 (by have := HC.1; omega)
  obtain ⟨cs, hs, hr, hcell⟩ := hc j _ (List.getElem?_eq_getElem hj)
  have hn := HC.1
  refine ev_val hw (v := .pointer (some (ad.add (j * d.sz)))) ?_ (h _ cs hr fun q v hv => by rw [add_add]; exact hcell q v hv)
  have hs' : (sizeOf e).run P w = .ok d.sz w := by
    cases hq : P.info? e with
    | none => simp [hq] at hsz
    | some q => simp [sizeOf, typeInfo, Sem.run_bind, hq, show q.size = d.sz by simpa [hq] using hsz]
  unfold execOp
  simp only [ho, hx, hix, e1]
  simp [Instr.indexAt, Sem.run_bind, asIntOf, run_underlying ht, hs', show (j : Int) < n by omega]
  intro h_; omega
theorem SH.nilrow {α : Type} (d : Kd α) (e : Nat) (h : SH w0 w L) : SH w0 w (rw' w0.heap.size d e (.slice none 0 0) [] :: L) :=
  h.push (Below.refl _ _) _ (fun _ => False) ⟨Kd.R_nil _ _ _ _ _, fun _ hk => hk.elim⟩ (fun _ hk => hk.elim)
theorem SH.row' {α : Type} {d : Kd α} {e : Nat} {v : Value} {xs : List α} {B : Nat} (h : SH w0 w L) (hat : At (rw' B d e v xs) A' L L') : ∃ A c, v = .slice A xs.length c ∧ xs.length ≤ c ∧ d.C w A xs.length xs := by
  obtain ⟨S, hS, _⟩ := h.get' hat
  exact Kd.R_reads hS.1
theorem SH.rowV' {α : Type} {d : Kd α} {e : Nat} {v : Value} {xs : List α} (h : SH w0 w L) (hat : At (vw d e v xs) A' L L') : ∃ A c, v = .slice A xs.length c ∧ xs.length ≤ c ∧ d.C w A xs.length xs := by
  obtain ⟨S, hS, _⟩ := h.get' hat
  obtain ⟨A, c, e1, e2, hf⟩ := hS.1
  exact ⟨A, c, e1, e2, Kd.F_now hf⟩
theorem ev_load0 (hw : Region.wanted o (yielded ops a.tmps) = true) {ty : TypeId} {x : Operand} (ho : o.op = .load ty x) {p : Addr} (hx : a.eval x = .pointer (some p)) {d : TypeDesc} (hu : P.underlying ty = some d) (hd : d.isRow = false) {v : Value} (hc : ∀ q u, [v][q]? = some u → w.cell? (p.add q) = some u)
    (h : wpList P ops Q rest (a.put o.dst v) w) : wpList P ops Q (o :: rest) a w :=
  ev_load hw ho hx hu hd (by have := hc 0 v rfl; rwa [show p.add 0 = p by unfold Addr.add; simp] at this) h
theorem SH.get {A : Asn} (h : SH w0 w L) (hat : At A A L L) : ∃ S, A.P S w ∧ ∀ k, S k → w0.heap.size ≤ k := h.get' hat
theorem SH.cells {g : Nat} {t : TypeId} {cs : Array Value} (h : SH w0 w L) (hat : At (bk g t cs) (bk g t cs) L L) : w.heap[g]? = some (.cells cs t (0, 0)) := h.cells' hat
theorem SH.cell {g : Nat} {t : TypeId} {cs : Array Value} (h : SH w0 w L) (hat : At (bk g t cs) (bk g t cs) L L) (i : Nat) : w.cell? ⟨g, i, none⟩ = cs[i]? := h.cell' hat i
theorem SH.im {k : TypeId} {b : Nat} {l : List (Int × Value)} (h : SH w0 w L) (hat : At (mp P k b l) (mp P k b l) L L) : IM P k w b l := h.im' hat
theorem SH.row {α : Type} {d : Kd α} {e : Nat} {v : Value} {xs : List α} {B : Nat} (h : SH w0 w L) (hat : At (rw' B d e v xs) (rw' B d e v xs) L L) : ∃ A c, v = .slice A xs.length c ∧ xs.length ≤ c ∧ d.C w A xs.length xs := h.row' hat
theorem SH.rowV {α : Type} {d : Kd α} {e : Nat} {v : Value} {xs : List α} (h : SH w0 w L) (hat : At (vw d e v xs) (vw d e v xs) L L) : ∃ A c, v = .slice A xs.length c ∧ xs.length ≤ c ∧ d.C w A xs.length xs := h.rowV' hat
theorem ev_make0 {α : Type} (d : Kd α) (HS : SH w0 w L) (hgd : o.guard = none) {t e : TypeId} {l c : Operand} (ho : o.op = .makeSlice t l c) (ht : P.underlying t = some (.slice e)) {z : Value} {bytes : Nat} (hinfo : (P.info? e).map (fun i => (i.zero, i.size, i.bytes)) = some (some z, d.sz, bytes))
    {kl kc : IntKind} {n : Nat} (hl : a.eval l = .int kl 0) (hc : a.eval c = .int kc n) (hn : bytes * n ≤ 281474976710656) (hm : n ≤ maxLen)
    (h : ∀ v w1, SH w0 w1 (rw' w0.heap.size d e v [] :: L) → wpList P ops Q rest (a.put o.dst v) w1) : wpList P ops Q (o :: rest) a w := by
  cases hq : P.info? e with
  | none => simp [hq] at hinfo
  | some i =>
    have hi : i.zero = some z ∧ i.size = d.sz ∧ i.bytes = bytes := by simpa [hq] using hinfo
    refine wpList_make_own w hgd l c t ho w.heap.size e i z d.sz ht hq hi.1 hi.2.1 kl kc n n hl hc rfl (by rw [hi.2.2]; exact hn) hm (Nat.le_refl _) ?_
    intro w' hown hgr
    have hB : Below w.heap.size w w' := ⟨hgr.os, hgr.tape, hgr.output, hgr.size, fun k hk => hgr.block k hk (by simp)⟩
    have hlt : w.heap.size < w'.heap.size := own_lt hown _ rfl
    refine h _ w' (HS.push hB _ (fun k => k = w.heap.size) ⟨⟨fun k hk => ?_, [], own_weaken hown HS.le, Reps.none _ _⟩, fun k hk => hk ▸ hlt⟩ fun k hk => Nat.le_of_eq hk.symm)
    simpa [Value.ownBlock] using hk.symm
theorem ev_mlen (HS : SH w0 w L) (hw : Region.wanted o (yielded ops a.tmps) = true) (m : Operand) (t : TypeId) (hop : o.op = Op.call { callee := Callee.builtin Builtin.len, args := #[m], argTypes := #[t] }) {k e : TypeId} (ht : P.underlying t = some (.map k e)) {b : Nat} {l : List (Int × Value)} (hat : At (mp P k b l) (mp P k b l) L L) (hm : a.eval m = .map (some b)) {n : Nat} (hn : n = l.length)
    (hK : wpList P ops Q rest (a.put o.dst (.int .i64 n)) w) : wpList P ops Q (o :: rest) a w := by
  subst hn
  refine ev_val hw ?_ hK
  unfold execOp
  simp [hop, resolve, invoke, builtin, hm, (HS.im hat).len ht]
theorem ev_idx0 {α : Type} {d : Kd α} {A : Option Addr} {n c : Nat} {xs : List α} (HS : SH w0 w L) (HC : d.C w0 A n xs) (hw : Region.wanted o (yielded ops a.tmps) = true) {t e : TypeId} {x ix : Operand} (ho : o.op = .indexAddr t x ix) (hx : a.eval x = .slice A n c) {k : IntKind} {j : Nat} (hix : a.eval ix = .int k j) (ht : P.underlying t = some (.slice e)) (hsz : (P.info? e).map (·.size) = some d.sz) (hj : j < xs.length)
    (h : ∀ p cs, d.K w0 xs[j] cs → (∀ q v, cs[q]? = some v → w.cell? (p.add q) = some v) → wpList P ops Q rest (a.put o.dst (.pointer (some p))) w) : wpList P ops Q (o :: rest) a w := by
  obtain ⟨ad, e1, hc⟩ := HC.2.2 (by have := HC.1; omega)
  obtain ⟨cs, hs, hr, hcell⟩ := hc j _ (List.getElem?_eq_getElem hj)
  have hn := HC.1
  refine ev_val hw (v := .pointer (some (ad.add (j * d.sz)))) ?_ (h _ cs hr fun q v hv => HS.old (by rw [add_add]; exact hcell q v hv))
  have hs' : (sizeOf e).run P w = .ok d.sz w := by
    cases hq : P.info? e with
    | none => simp [hq] at hsz
    | some q => simp [sizeOf, typeInfo, Sem.run_bind, hq, show q.size = d.sz by simpa [hq] using hsz]
  unfold execOp
  simp only [ho, hx, hix, e1]
  simp [Instr.indexAt, Sem.run_bind, asIntOf, run_underlying ht, hs', show (j : Int) < n by omega]
  intro h_; omega
theorem SH.atC {α : Type} {d : Kd α} {e : Nat} {A : Option Addr} {n c : Nat} {xs : List α} (h : SH w0 w L) (hat : At (vw d e (.slice A n c) xs) (vw d e (.slice A n c) xs) L L) : n = xs.length ∧ d.C w A n xs := by
  obtain ⟨A', c', e1, e2, hc⟩ := h.rowV hat
  injection e1 with h1 h2 h3
  subst h1 h2
  exact ⟨rfl, hc⟩
theorem SH.pushRV {α : Type} {d : Kd α} {e : Nat} {v : Value} {xs : List α} {ok : Nat → Prop} {w' : World} (h : SH w0 w L) (hr : Kd.R d e w' w.heap.size ok v xs) (hb : Below w.heap.size w w') : SH w0 w' (vw d e v xs :: L) := by
  have h2 := Kd.R_bound hr
  refine h.push hb _ (fun k => ok k ∧ w.heap.size ≤ k ∧ k < w'.heap.size) ⟨?_, fun k hk => hk.2.2⟩ (fun k hk => hk.2.1)
  obtain ⟨A, c, e1, e2, _⟩ := Kd.R_reads hr
  refine ⟨A, c, e1, e2, fun W' hW' => ?_⟩
  have h3 := Kd.R_move (Kd.R_mono h2 (fun k hk => (⟨hk.1, hk.2.1, hk.2.2.1⟩ : ok k ∧ w.heap.size ≤ k ∧ k < w'.heap.size))) (fun k hk => hW' k hk hk.2.2)
  obtain ⟨A', c', e1', e2', hc⟩ := Kd.R_reads h3
  rw [e1] at e1'
  injection e1' with h1 _ _
  rw [h1]
  exact hc
theorem ev_lit (HS : SH w0 w L) (hw : Region.wanted o (yielded ops a.tmps) = true) {n : Nat} {cs : Array Value} {e : TypeId} (hrun : (execOp a.eval o).run P w = .ok (.value (.slice (some ⟨w.heap.size, 0, none⟩) n n)) (w.alloc (.cells cs e (0, 0))))
    (h : ∀ g w1, SH w0 w1 (bk g e cs :: L) → wpList P ops Q rest (a.put o.dst (.slice (some ⟨g, 0, none⟩) n n)) w1) : wpList P ops Q (o :: rest) a w :=
  wl_run hw hrun (h _ _ (HS.push (below_alloc (Below.refl _ _) _) _ (fun k => k = w.heap.size) ⟨fun _ => Iff.rfl, blk_new w _⟩ (fun k hk => Nat.le_of_eq hk.symm)))
theorem gate_bs {t : TypeId} {n : Nat} {ps : Array (Nat × Operand)} (_ho : o.op = .buildSlice t n ps) (h : wpList P ops Q (o :: rest) a w) : wpList P ops Q (o :: rest) a w := h
theorem C_of {α : Type} (d : Kd α) {b : Nat} {cs : Array Value} {e : TypeId} (hb : w.heap[b]? = some (.cells cs e (0, 0))) (xs : List α) (hl : xs.length ≤ 9223372036854775807) (h : ∀ j p, xs[j]? = some p → ∃ c, c.length = d.sz ∧ d.K w p c ∧ ∀ i u, c[i]? = some u → cs[j * d.sz + i]? = some u) :
    d.C w (some ⟨b, 0, none⟩) xs.length xs :=
  ⟨rfl, hl, fun _ => ⟨_, rfl, fun j p hj => by
    obtain ⟨c, h1, h2, h3⟩ := h j p hj
    refine ⟨c, h1, h2, fun i u hu => ?_⟩
    rw [add_at', blk_cell hb, Nat.zero_add]
    exact h3 i u hu⟩⟩
end
end Go.Proofs.Ytfocaefnmfkojaa.H
namespace Go.Proofs.Ytfocaefnmfkojaa.H
open Go.RowKit Go.Maps Go.Proofs.YtfocaefnmfkojaaW.PrintWords Go.Proofs.YtfocaefnmfkojaaW.PrintLast Go.Proofs.YtfocaefnmfkojaaW.PrintMore
set_option linter.unusedVariables false
set_option linter.unusedSimpArgs false
theorem getL_some_mem {l : List (Int × Value)} {i : Int} {v : Value} (h : getL l i = some v) : (i, v) ∈ l := by
  induction l with
  | nil => simp [getL_nil] at h
  | cons p l ih =>
    rw [getL_cons] at h
    by_cases hp : p.1 = i
    · rw [if_pos hp] at h
      cases h
      subst hp
      exact List.mem_cons_self ..
    · rw [if_neg hp] at h
      exact List.mem_cons_of_mem _ (ih h)
def offL (l : List (Int × Value)) (i : Int) : List (Int × Value) := l.filter fun p => !(p.1 == i)
theorem Apart.off {l : List (Int × Value)} (h : Apart l) (i : Int) : Apart (offL l i) := h.filter _
theorem getL_off (l : List (Int × Value)) (i j : Int) : getL (offL l i) j = if j = i then none else getL l j := by
  induction l with
  | nil => simp [offL, getL_nil]
  | cons p l ih =>
    unfold offL at ih ⊢
    rw [List.filter_cons]
    by_cases hp : p.1 = i
    · rw [if_neg (by simp [hp]), ih, getL_cons]
      by_cases hj : j = i
      · simp [hj]
      · rw [if_neg hj, if_neg hj, if_neg (fun e => hj (e.symm.trans hp))]
    · rw [if_pos (by simpa using hp), getL_cons, getL_cons, ih]
      by_cases hj : j = i
      · subst hj; simp [hp]
      · simp [hj]
theorem off_perm {l : List (Int × Value)} (h : Apart l) {i : Int} {v : Value} (hv : getL l i = some v) : l.Perm ((i, v) :: offL l i) := by
  induction l with
  | nil => simp [getL_nil] at hv
  | cons p l ih =>
    obtain ⟨h1, h2⟩ := List.pairwise_cons.mp h
    rw [getL_cons] at hv
    by_cases hp : p.1 = i
    · rw [if_pos hp] at hv
      have hpe : p = (i, v) := by cases hv; subst hp; rfl
      subst hpe
      refine List.Perm.cons _ ?_
      have : offL ((i, v) :: l) i = l := by
        unfold offL
        rw [List.filter_cons, if_neg (by simp), List.filter_eq_self]
        intro q hq
        have := h1 q hq
        simpa using fun e : q.1 = i => this e.symm
      rw [this]
    · rw [if_neg hp] at hv
      have : offL (p :: l) i = p :: offL l i := by unfold offL; rw [List.filter_cons, if_pos (by simpa using hp)]
      rw [this]
      exact ((ih h2 hv).cons p).trans (List.Perm.swap _ _ _)
theorem off_len {l : List (Int × Value)} (h : Apart l) {i : Int} {v : Value} (hv : getL l i = some v) : (offL l i).length + 1 = l.length := by
  rw [(off_perm h hv).length_eq, List.length_cons]
def Rg (P : Program) (k : TypeId) (w : World) (b r : Nat) (l td : List (Int × Value)) : Prop :=
  Apart l ∧ (∀ p ∈ l, I64 p.1) ∧ Apart td ∧ (∀ i v, getL td i = some v → getL l i = some v) ∧ ∃ D left cnt, w.ranges P k RV b r l.length D left cnt ∧ Maps.size D = l.length ∧
    (∀ i, Maps.has D (KL i) = (getL l i).isSome ∧ ∀ z, D.atKey (KL i) z = match getL l i with | some v => .held v | none => z) ∧ ∀ i, left (KL i) = (getL td i).isSome
section
variable {P : Program} {k e t : TypeId} {w w' : World} {b r : Nat} {l td : List (Int × Value)}
theorem Rg.same (h : Rg P k w b r l td) (hb : w'.heap[b]? = w.heap[b]?) (hr : w'.heap[r]? = w.heap[r]?) : Rg P k w' b r l td := by
  obtain ⟨h1, h2, h3, h4, D, left, cnt, ⟨es, cl, since, seen, c0, a1, a2, a3, a4, a5, a6⟩, h6⟩ := h
  exact ⟨h1, h2, h3, h4, D, left, cnt, ⟨es, cl, since, seen, c0, hb.trans a1, a2, a3, a4, hr.trans a5, a6⟩, h6⟩
theorem Rg.lt (h : Rg P k w b r l td) : r < w.heap.size := h.2.2.2.2.choose_spec.choose_spec.choose_spec.1.lt
theorem Rg.ltb (h : Rg P k w b r l td) : b < w.heap.size := h.2.2.2.2.choose_spec.choose_spec.choose_spec.1.owns.lt
theorem Rg.im (h : Rg P k w b r l td) : IM P k w b l := by
  obtain ⟨h1, h2, h3, h4, D, left, cnt, hr, h5, h6, h7⟩ := h
  exact ⟨h1, h2, D, hr.owns, h5, h6⟩
end
def rg (P : Program) (k : TypeId) (b r : Nat) (l td : List (Int × Value)) : Asn where
  P S w := (∀ q, S q ↔ q = b ∨ q = r) ∧ Rg P k w b r l td
  lt h q hq := by
    rcases (h.1 q).mp hq with rfl | rfl
    · exact h.2.ltb
    · exact h.2.lt
  move h hm := ⟨h.1, h.2.same (hm _ ((h.1 _).mpr (.inl rfl))) (hm _ ((h.1 _).mpr (.inr rfl)))⟩
section
variable {P : Program} {w0 w : World} {ops : Array Oper} {rest : List Oper} {o : Oper} {a : Act} {Q : Exit → Act → World → Prop} {L L' : List Asn}
theorem ev_mrange (HS : SH w0 w L) (hg : o.guard = none) {m : Operand} {t : TypeId} (hop : o.op = Op.range t m) {k e : TypeId} (hk : P.underlying k = some (.int .i64)) (ht : P.underlying t = some (.map k e)) {b : Nat} (hm : a.eval m = .map (some b)) {l : List (Int × Value)}
    {L' : Nat → List Asn} (hat : AtF (mp P k b l) (fun r => rg P k b r l l) L L') (h : ∀ r w1, SH w0 w1 (L' r) → wpList P ops Q rest (a.put o.dst (.pointer (some ⟨r, 0, none⟩))) w1) : wpList P ops Q (o :: rest) a w := by
  obtain ⟨S, ⟨hS, h1, h2, D, h3, h4, h5⟩, _, hf⟩ := HS.focus hat
  refine wpList_range_own w hg m t hop k e (int_keyed hk) ht RV b l.length D hm h3 fun w' hr hgr hsz => h _ w' (hf _ w' (Turn.of_grown hgr fun _ e => by cases e) (fun q => q = b ∨ q = w.heap.size) ⟨fun _ => Iff.rfl, h1, h2, h1, fun _ _ h => h, D, _, _, hr, h4, h5, fun i => (h5 i).1⟩ fun q hq => ?_)
  rcases hq with rfl | rfl
  · exact .inl ((hS _).mpr rfl)
  · exact .inr (Nat.le_refl _)
theorem ev_mnext (HS : SH w0 w L) (hg : o.guard = none) {it : Operand} (hop : o.op = Op.next it false) {k : TypeId} (hk : P.underlying k = some (.int .i64)) {b r : Nat} {l td : List (Int × Value)} (hit : a.eval it = .pointer (some ⟨r, 0, none⟩))
    {L' : List (Int × Value) → List Asn} (hat : AtF (rg P k b r l td) (fun td' => rg P k b r l td') L L')
    (hDone : td = [] → wpList P ops Q rest (a.put o.dst (.tuple #[.bool false])) w)
    (hMore : ∀ (x : Int) (v : Value) (w' : World), I64 x → getL td x = some v → getL l x = some v → SH w0 w' (L' (offL td x)) → (Instr.entry (.pointer (some ⟨r, 0, none⟩))).run P w' = .ok (.tuple #[.int .i64 x, v]) w' → wpList P ops Q rest (a.put o.dst (.tuple #[.bool true, .int .i64 x, v])) w') :
    wpList P ops Q (o :: rest) a w := by
  obtain ⟨S, ⟨hS, h1, h2, h3, h4, D, left, cnt, hr, h5, h6, h7⟩, _, hf⟩ := HS.focus hat
  refine wpList_next_ranges w hg it hop k (int_keyed hk) RV (Value.int .i64) id (fun key kl hkey => by obtain ⟨x, rfl, _⟩ := keyOf_int_inv hk hkey; exact ⟨x, rfl⟩) (fun v y _ => ⟨v, rfl⟩) b r l.length D left cnt hit hr (fun _ hl => hDone ?_) ?_
  · cases td with
    | nil => rfl
    | cons p td =>
      have := h7 p.1
      rw [hl, getL_cons, if_pos rfl] at this
      simp at this
  · intro x v kl y w' cnt' hkey hlk hv hat' hrg hlt hgr hsz hen
    obtain ⟨x', ex, rfl, hwx⟩ := keyOf_int_inv hk hkey
    cases ex
    simp only [RV, id, Option.some.injEq] at hv
    subst hv
    have hx := h7 x
    rw [hlk] at hx
    obtain ⟨u, hu⟩ := Option.isSome_iff_exists.mp hx.symm
    have hul := h4 x u hu
    have huv : u = v := by
      have := (h6 x).2 (.held u)
      rw [hat' (.held u), hul] at this
      simp only [DataW.held.injEq] at this
      exact this.symm
    subst huv
    refine hMore x u w' ?_ hu hul (hf _ w' (Turn.of_grown hgr fun q e => by cases e; exact (hS _).mpr (.inr rfl)) S ⟨hS, h1, h2, h3.off x, fun i v' hv' => ?_, D, _, _, hrg, h5, h6, fun i => ?_⟩ fun q hq => .inl hq) hen
    · exact h2 _ (getL_some_mem hul)
    · rw [getL_off] at hv'
      by_cases e : i = x
      · rw [if_pos e] at hv'; cases hv'
      · rw [if_neg e] at hv'; exact h4 i v' hv'
    · rw [getL_off, h7 i]
      by_cases e : i = x
      · subst e; simp [Lit.sameKey]
      · have : (Lit.int .i64 i).sameKey (Lit.int .i64 x) = false := sameKey_ne (fun h => e (by injection h))
        rw [this, if_neg e]; simp
theorem ev_entry (hw : Region.wanted o (yielded ops a.tmps) = true) {it : Operand} (hop : o.op = Op.entry it) {p v : Value} (hx : a.eval it = p) (hen : (Instr.entry p).run P w = .ok v w) (h : wpList P ops Q rest (a.put o.dst v) w) : wpList P ops Q (o :: rest) a w := by
  refine ev_val hw ?_ h
  unfold execOp
  simp only [hop, hx]
  simp [hen]
end
end Go.Proofs.Ytfocaefnmfkojaa.H
namespace Go.Proofs.Ytfocaefnmfkojaa.R
open Go.RowKit Go.Proofs.Ytfocaefnmfkojaa.Q Go.Proofs.YtfocaefnmfkojaaW.PrintWords Go.Proofs.YtfocaefnmfkojaaW.PrintLast
set_option linter.unusedVariables false
set_option linter.unusedSimpArgs false
def keysOk (l : List Op) : Bool := l.all fun o => decide (0 ≤ o.f1 ∧ o.f1 ≤ 63)
theorem keysOk_at {l : List Op} (h : keysOk l = true) (j : Nat) (hj : j < l.length) : 0 ≤ (l[j]).f1 ∧ (l[j]).f1 ≤ 63 := by
  have := List.all_eq_true.mp h _ (List.getElem_mem hj)
  simpa using this
theorem keysOk_mem {l : List Op} (h : keysOk l = true) (o : Op) (ho : o ∈ l) : 0 ≤ o.f1 ∧ o.f1 ≤ 63 := by
  have := List.all_eq_true.mp h _ ho
  simpa using this
theorem I64_key {i : Int} (h : 0 ≤ i ∧ i ≤ 63) : H.I64 i := ⟨by omega, by omega⟩
def byKeys (X : List Op) : List Op := keys64.flatMap fun key : Nat => X.filter fun o => o.f1 == (key : Int)
theorem flatMap_one {α : Type} (f g : Nat → List α) (x : α) (k0 : Nat) : ∀ L : List Nat, L.Nodup → k0 ∈ L → (∀ k, g k = if k = k0 then x :: f k else f k) → (L.flatMap g).Perm (x :: L.flatMap f)
  | [], _, h, _ => by cases h
  | k :: L, hn, hm, hg => by
    obtain ⟨h1, h2⟩ := List.nodup_cons.mp hn
    rw [List.flatMap_cons, List.flatMap_cons]
    by_cases e : k = k0
    · subst e
      rw [hg k, if_pos rfl]
      have : L.flatMap g = L.flatMap f := by
        unfold List.flatMap
        congr 1
        refine List.map_congr_left fun q hq => ?_
        rw [hg q, if_neg (fun e2 => h1 (by rw [← e2]; exact hq))]
      rw [this]
      exact List.Perm.refl _
    · rw [hg k, if_neg e]
      have hm' : k0 ∈ L := by
        rcases List.mem_cons.mp hm with h | h
        · exact absurd h.symm e
        · exact h
      exact ((flatMap_one f g x k0 L h2 hm' hg).append_left (f k)).trans List.perm_middle
theorem byKeys_perm : ∀ X : List Op, (∀ o ∈ X, 0 ≤ o.f1 ∧ o.f1 ≤ 63) → (byKeys X).Perm X
  | [], _ => by
    have : byKeys [] = [] := by unfold byKeys; simp
    rw [this]
  | x :: X, h => by
    have hx := h x (List.mem_cons_self ..)
    refine (flatMap_one (fun key : Nat => X.filter fun o : Op => o.f1 == (key : Int)) (fun key : Nat => (x :: X).filter fun o : Op => o.f1 == (key : Int)) x x.f1.toNat keys64 List.nodup_range (by unfold keys64; rw [List.mem_range]; omega) fun k => ?_).trans ((byKeys_perm X fun o ho => h o (List.mem_cons_of_mem _ ho)).cons x)
    rw [List.filter_cons]
    by_cases e : k = x.f1.toNat
    · rw [if_pos e, if_pos (by rw [e]; simp; omega)]
    · rw [if_neg e, if_neg (by simp; omega)]
theorem flatMap_up (f : Nat → List Op) (hf : ∀ k, ∀ o ∈ f k, o.f1 = (k : Int)) (h1 : ∀ k, (f k).length ≤ 1) : ∀ L : List Nat, L.Pairwise (· < ·) → (L.flatMap f).Pairwise fun x y => x.f1 < y.f1
  | [], _ => by simp
  | k :: L, h => by
    obtain ⟨h2, h3⟩ := List.pairwise_cons.mp h
    rw [List.flatMap_cons, List.pairwise_append]
    refine ⟨?_, flatMap_up f hf h1 L h3, fun a ha b hb => ?_⟩
    · match hk : f k with
      | [] => simp
      | [x] => simp
      | x :: y :: z => have := h1 k; rw [hk] at this; simp at this
    · obtain ⟨q, hq, hb⟩ := List.mem_flatMap.mp hb
      rw [hf k a ha, hf q b hb]
      have := h2 q hq
      omega
theorem filter_one {X : List Op} (h : X.Pairwise fun x y => x.f1 ≠ y.f1) (key : Int) : (X.filter fun o => o.f1 == key).length ≤ 1 := by
  match hk : X.filter fun o => o.f1 == key with
  | [] => rw [hk]; simp
  | [x] => rw [hk]; simp
  | x :: y :: z =>
    have h2 := h.filter fun o => o.f1 == key
    rw [hk] at h2
    have hx : x ∈ X.filter fun o => o.f1 == key := by rw [hk]; simp
    have hy : y ∈ X.filter fun o => o.f1 == key := by rw [hk]; simp
    have e1 := (List.mem_filter.mp hx).2
    have e2 := (List.mem_filter.mp hy).2
    have := (List.pairwise_cons.mp h2).1 y (by simp)
    simp only [beq_iff_eq] at e1 e2
    exact absurd (e1.trans e2.symm) this
theorem byKeys_up {X : List Op} (h : X.Pairwise fun x y => x.f1 ≠ y.f1) : (byKeys X).Pairwise fun x y => x.f1 < y.f1 := by
  refine flatMap_up _ (fun k o ho => ?_) (fun k => filter_one h _) _ (by unfold keys64; exact List.pairwise_lt_range)
  have := (List.mem_filter.mp ho).2
  simpa using this
theorem byKey_run {X Y : List Op} (hf : Srt.Few Y) (p : Y.Perm X) (hd : X.Pairwise fun x y => x.f1 ≠ y.f1) (hk : ∀ o ∈ X, 0 ≤ o.f1 ∧ o.f1 ≤ 63) : Ev (fun k => txn_byKey.f k Y) (byKeys X) :=
  Srt.byKey_is hf ((byKeys_perm X hk).trans p.symm) (byKeys_up hd)
def lastM (l : List Op) (j : Nat) : List (Int × Value) := (l.take j).foldl (fun m o => H.putL m o.f1 (.int .i64 o.f2)) []
theorem lastM_succ (l : List Op) (j : Nat) (h : j < l.length) : lastM l (j + 1) = H.putL (lastM l j) (l[j]).f1 (.int .i64 (l[j]).f2) := by
  unfold lastM
  rw [List.take_succ_eq_append_getElem h, List.foldl_append]
  rfl
theorem lastM_get (l : List Op) (key : Int) : ∀ j, j ≤ l.length → H.getL (lastM l j) key = (prev l j key).map fun o => .int .i64 o.f2 := by
  intro j
  induction j with
  | zero => intro _; simp [lastM, prev, H.getL]
  | succ j ih =>
    intro hj
    rw [lastM_succ l j (by omega), prev_succ l j key (by omega)]
    by_cases h : (l[j]).f1 = key
    · rw [← h, H.getL_put_same, if_pos rfl]; rfl
    · rw [H.getL_put_other _ _ _ _ (fun e => h e.symm), ih (by omega), if_neg h]
theorem lastM_len (l : List Op) : ∀ j, j ≤ l.length → (lastM l j).length ≤ j := by
  intro j
  induction j with
  | zero => intro _; simp [lastM]
  | succ j ih =>
    intro hj
    rw [lastM_succ l j (by omega), H.putL_len]
    have := ih (by omega)
    split <;> omega
theorem steady_round (l : List Op) (j : Nat) (h : j < l.length) (hh : ∀ i, i < j → steadyAt l i = true) (hs : steadyAt l j = true) : ∀ i, i < j + 1 → steadyAt l i = true := by
  intro i hi
  rcases Nat.lt_or_ge i j with h1 | h1
  · exact hh i h1
  · obtain rfl : i = j := by omega
    exact hs
theorem steady_all (l : List Op) (hh : ∀ i, i < l.length → steadyAt l i = true) : steady l = true := by
  unfold steady
  rw [List.all_eq_true]
  intro i hi
  exact hh i (List.mem_range.mp hi)
theorem steady_not (l : List Op) (j : Nat) (h : j < l.length) (hs : steadyAt l j = false) : steady l = false := by
  unfold steady
  rw [List.all_eq_false]
  exact ⟨j, List.mem_range.mpr h, by simp [hs]⟩
theorem steadyAt_eq (l : List Op) (j : Nat) (h : j < l.length) : steadyAt l j = match prev l j (l[j]).f1 with | none => true | some p => (l[j]).f0 || p.f2 == (l[j]).f2 := by
  unfold steadyAt
  rw [List.getElem?_eq_getElem h]
  all_goals rfl
def seenM (l : List Op) (j : Nat) : List (Int × Value) := (l.take j).foldl (fun m o => H.putL m o.f1 (.agg #[])) []
theorem seenM_succ (l : List Op) (j : Nat) (h : j < l.length) : seenM l (j + 1) = H.putL (seenM l j) (l[j]).f1 (.agg #[]) := by
  unfold seenM
  rw [List.take_succ_eq_append_getElem h, List.foldl_append]
  rfl
theorem seenM_get (l : List Op) (key : Int) : ∀ j, j ≤ l.length → H.getL (seenM l j) key = (prev l j key).map fun _ => .agg #[] := by
  intro j
  induction j with
  | zero => intro _; simp [seenM, prev, H.getL]
  | succ j ih =>
    intro hj
    rw [seenM_succ l j (by omega), prev_succ l j key (by omega)]
    by_cases h : (l[j]).f1 = key
    · rw [← h, H.getL_put_same, if_pos rfl]; rfl
    · rw [H.getL_put_other _ _ _ _ (fun e => h e.symm), ih (by omega), if_neg h]
theorem seenM_len (l : List Op) : ∀ j, j ≤ l.length → (seenM l j).length ≤ j := by
  intro j
  induction j with
  | zero => intro _; simp [seenM]
  | succ j ih =>
    intro hj
    rw [seenM_succ l j (by omega), H.putL_len]
    have := ih (by omega)
    split <;> omega
def firstG (l : List Op) (j : Nat) : List Op := match l[j]? with
  | none => []
  | some o => if (prev l j o.f1).isNone && !o.f0 then [o] else []
def firstsG (l : List Op) (j : Nat) : List Op := (List.range j).flatMap (firstG l)
theorem firstG_eq (l : List Op) (j : Nat) (h : j < l.length) : firstG l j = if (prev l j (l[j]).f1).isNone && !(l[j]).f0 then [l[j]] else [] := by
  unfold firstG
  rw [List.getElem?_eq_getElem h]
theorem firstsG_succ (l : List Op) (j : Nat) : firstsG l (j + 1) = firstsG l j ++ firstG l j := by
  unfold firstsG
  rw [List.range_succ, List.flatMap_append]
  simp
theorem firstG_len (l : List Op) (j : Nat) : (firstG l j).length ≤ 1 := by
  unfold firstG
  split
  · simp
  · split <;> simp
theorem firstsG_len (l : List Op) : ∀ j, (firstsG l j).length ≤ j := by
  intro j
  induction j with
  | zero => simp [firstsG]
  | succ j ih =>
    rw [firstsG_succ, List.length_append]
    have := firstG_len l j
    omega
theorem prev_mem {l : List Op} {i : Nat} {key : Int} (h : ∃ j, ∃ hj : j < l.length, j < i ∧ (l[j]).f1 = key) : (prev l i key).isNone = false := by
  obtain ⟨j, hj, hji, e⟩ := h
  unfold prev
  rw [Option.isNone_eq_false_iff, List.find?_isSome]
  refine ⟨l[j], ?_, by simpa using e⟩
  rw [List.mem_reverse, List.mem_iff_getElem]
  exact ⟨j, by rw [List.length_take]; omega, by rw [List.getElem_take]⟩
theorem firstsG_mem {l : List Op} {n : Nat} {o : Op} (h : o ∈ firstsG l n) : ∃ j, ∃ hj : j < l.length, j < n ∧ o = l[j] ∧ (prev l j o.f1).isNone = true ∧ o.f0 = false := by
  obtain ⟨j, hj, ho⟩ := List.mem_flatMap.mp h
  have hjn := List.mem_range.mp hj
  rcases Nat.lt_or_ge j l.length with hl | hl
  · rw [firstG_eq l j hl] at ho
    split at ho
    · rename_i hc
      obtain rfl : o = l[j] := by simpa using ho
      simp only [Bool.and_eq_true, Bool.not_eq_true'] at hc
      exact ⟨j, hl, hjn, rfl, hc.1, hc.2⟩
    · cases ho
  · unfold firstG at ho
    rw [List.getElem?_eq_none hl] at ho
    cases ho
theorem firstsG_apart (l : List Op) : ∀ n, (firstsG l n).Pairwise fun x y => x.f1 ≠ y.f1 := by
  intro n
  induction n with
  | zero => simp [firstsG]
  | succ n ih =>
    rw [firstsG_succ, List.pairwise_append]
    refine ⟨ih, ?_, fun a ha b hb => ?_⟩
    · match h : firstG l n with
      | [] => simp
      | [x] => simp
      | x :: y :: z => have := firstG_len l n; rw [h] at this; simp at this
    · obtain ⟨j, hj, hjn, rfl, _, _⟩ := firstsG_mem ha
      rcases Nat.lt_or_ge n l.length with hl | hl
      · rw [firstG_eq l n hl] at hb
        split at hb
        · rename_i hc
          obtain rfl : b = l[n] := by simpa using hb
          intro e
          rw [prev_mem ⟨j, hj, hjn, e⟩] at hc
          simp at hc
        · cases hb
      · unfold firstG at hb
        rw [List.getElem?_eq_none hl] at hb
        cases hb
theorem readsKey_eq (l : List Op) (key : Int) : ∀ n, (List.range n).filterMap (firstAt l key) = (firstsG l n).filter fun o => o.f1 == key := by
  intro n
  induction n with
  | zero => simp [firstsG]
  | succ n ih =>
    rw [List.range_succ, List.filterMap_append, firstsG_succ, List.filter_append, ih]
    congr 1
    simp only [List.filterMap_cons, List.filterMap_nil]
    rcases Nat.lt_or_ge n l.length with hl | hl
    · rw [firstG_eq l n hl]
      unfold firstAt
      rw [List.getElem?_eq_getElem hl]
      simp only
      by_cases e : (l[n]).f1 = key
      · subst e
        cases hp : prev l n (l[n]).f1 <;> cases hf : (l[n]).f0 <;> simp [hp, hf]
      · rw [if_neg (by simp [e])]
        by_cases hc : ((prev l n (l[n]).f1).isNone && !(l[n]).f0) = true
        · rw [if_pos hc]; simp [e]
        · rw [if_neg hc]; simp
    · unfold firstAt firstG
      rw [List.getElem?_eq_none hl]
      simp
theorem reads_is (l : List Op) : reads l = byKeys (firstsG l l.length) := by
  unfold reads byKeys readsKey
  congr 1
  funext key
  exact readsKey_eq l key l.length
theorem firsts_keys {l : List Op} (h : keysOk l = true) : ∀ o ∈ firstsG l l.length, 0 ≤ o.f1 ∧ o.f1 ≤ 63 := by
  intro o ho
  obtain ⟨j, hj, _, rfl, _, _⟩ := firstsG_mem ho
  exact keysOk_at h j hj
theorem reads_run {l : List Op} (h : keysOk l = true) (hf : Srt.Few l) : Ev (fun k => txn_byKey.f k (firstsG l l.length)) (reads l) := by
  rw [reads_is]
  exact byKey_run (Nat.le_trans (firstsG_len l _) hf) (List.Perm.refl _) (firstsG_apart l _) (firsts_keys h)
def opV (o : Op) : Value := .agg #[.bool o.f0, .int .i64 o.f1, .int .i64 o.f2]
def putO : List Op → Op → List Op
  | [], o => [o]
  | p :: l, o => if p.f1 = o.f1 then o :: l else p :: putO l o
def lastO (l : List Op) (j : Nat) : List Op := (l.take j).foldl (fun m o => if o.f0 then putO m o else m) []
def mapO (X : List Op) : List (Int × Value) := X.map fun o => (o.f1, opV o)
theorem mapO_put (X : List Op) (o : Op) : mapO (putO X o) = H.putL (mapO X) o.f1 (opV o) := by
  induction X with
  | nil => rfl
  | cons p X ih =>
    unfold putO
    by_cases h : p.f1 = o.f1
    · rw [if_pos h]; simp [mapO, H.putL, h]
    · rw [if_neg h]
      unfold mapO at ih ⊢
      rw [List.map_cons, List.map_cons, H.putL, if_neg h, ih]
theorem lastO_succ (l : List Op) (j : Nat) (h : j < l.length) : lastO l (j + 1) = if (l[j]).f0 then putO (lastO l j) l[j] else lastO l j := by
  unfold lastO
  rw [List.take_succ_eq_append_getElem h, List.foldl_append]
  rfl
theorem putO_len (X : List Op) (o : Op) : (putO X o).length ≤ X.length + 1 := by
  induction X with
  | nil => simp [putO]
  | cons p X ih => unfold putO; split <;> simp <;> omega
theorem lastO_len (l : List Op) : ∀ j, j ≤ l.length → (lastO l j).length ≤ j := by
  intro j
  induction j with
  | zero => intro _; simp [lastO]
  | succ j ih =>
    intro hj
    rw [lastO_succ l j (by omega)]
    have := ih (by omega)
    have := putO_len (lastO l j) l[j]
    split <;> omega
theorem putO_mem {X : List Op} {o p : Op} (h : p ∈ putO X o) : p = o ∨ p ∈ X := by
  induction X with
  | nil => exact .inl (by simpa [putO] using h)
  | cons q X ih =>
    unfold putO at h
    by_cases e : q.f1 = o.f1
    · rw [if_pos e] at h
      rcases List.mem_cons.mp h with rfl | h
      · exact .inl rfl
      · exact .inr (List.mem_cons_of_mem _ h)
    · rw [if_neg e] at h
      rcases List.mem_cons.mp h with rfl | h
      · exact .inr (by simp)
      · rcases ih h with h | h
        · exact .inl h
        · exact .inr (List.mem_cons_of_mem _ h)
theorem putO_apart {X : List Op} (h : X.Pairwise fun x y => x.f1 ≠ y.f1) (o : Op) : (putO X o).Pairwise fun x y => x.f1 ≠ y.f1 := by
  induction X with
  | nil => simp [putO]
  | cons q X ih =>
    obtain ⟨h1, h2⟩ := List.pairwise_cons.mp h
    unfold putO
    by_cases e : q.f1 = o.f1
    · rw [if_pos e]
      exact List.pairwise_cons.mpr ⟨fun p hp => e ▸ h1 p hp, h2⟩
    · rw [if_neg e]
      refine List.pairwise_cons.mpr ⟨fun p hp => ?_, ih h2⟩
      rcases putO_mem hp with rfl | hp
      · exact e
      · exact h1 p hp
theorem lastO_apart (l : List Op) : ∀ j, j ≤ l.length → (lastO l j).Pairwise fun x y => x.f1 ≠ y.f1 := by
  intro j
  induction j with
  | zero => intro _; simp [lastO]
  | succ j ih =>
    intro hj
    rw [lastO_succ l j (by omega)]
    split
    · exact putO_apart (ih (by omega)) _
    · exact ih (by omega)
theorem lastO_mem (l : List Op) : ∀ j, j ≤ l.length → ∀ o ∈ lastO l j, o ∈ l := by
  intro j
  induction j with
  | zero => intro _ o ho; simp [lastO] at ho
  | succ j ih =>
    intro hj o ho
    rw [lastO_succ l j (by omega)] at ho
    split at ho
    · rcases putO_mem ho with rfl | ho
      · exact List.getElem_mem _
      · exact ih (by omega) o ho
    · exact ih (by omega) o ho
theorem putO_filter {X : List Op} (h : X.Pairwise fun x y => x.f1 ≠ y.f1) (o : Op) (key : Int) : (putO X o).filter (fun p => p.f1 == key) = if o.f1 = key then [o] else X.filter fun p => p.f1 == key := by
  induction X with
  | nil => by_cases e : o.f1 = key <;> simp [putO, e]
  | cons q X ih =>
    obtain ⟨h1, h2⟩ := List.pairwise_cons.mp h
    unfold putO
    by_cases e : q.f1 = o.f1
    · rw [if_pos e]
      by_cases e2 : o.f1 = key
      · rw [if_pos e2, List.filter_cons, if_pos (by simpa using e2)]
        have : X.filter (fun p => p.f1 == key) = [] := by
          rw [List.filter_eq_nil_iff]
          intro p hp
          have := h1 p hp
          simp only [beq_iff_eq]
          intro h3
          exact this (e.trans (e2.trans h3.symm))
        rw [this]
      · rw [if_neg e2, List.filter_cons, if_neg (by simpa using e2), List.filter_cons, if_neg (by rw [e]; simpa using e2)]
    · rw [if_neg e, List.filter_cons, ih h2]
      by_cases e2 : o.f1 = key
      · rw [if_pos e2, if_pos e2, if_neg (by simp; intro h3; exact e (h3.trans e2.symm))]
      · rw [if_neg e2, if_neg e2, List.filter_cons]
theorem lastW_take (l : List Op) (key : Int) : ∀ j, j ≤ l.length → (lastW (l.take j) key).toList = (lastO l j).filter fun o => o.f1 == key := by
  intro j
  induction j with
  | zero => intro _; simp [lastW, lastO]
  | succ j ih =>
    intro hj
    rw [lastO_succ l j (by omega), ← List.take_append_getElem (by omega : j < l.length)]
    have ih := ih (by omega)
    unfold lastW at ih ⊢
    rw [List.reverse_append, List.reverse_singleton, List.singleton_append, List.find?_cons]
    cases hf : (l[j]).f0 with
    | false => simpa [hf] using ih
    | true =>
      rw [if_pos rfl, putO_filter (lastO_apart l j (by omega))]
      by_cases e : (l[j]).f1 = key
      · simp [hf, e]
      · rw [if_neg e, ← ih, show ((true && (l[j]).f1 == key)) = false by simpa using e]
theorem writes_is (l : List Op) : writes l = byKeys (lastO l l.length) := by
  unfold writes byKeys
  congr 1
  funext key
  have := lastW_take l key l.length (Nat.le_refl _)
  rwa [List.take_length] at this
theorem writes_run {l Y : List Op} (h : keysOk l = true) (hf : Srt.Few l) (p : Y.Perm (lastO l l.length)) : Ev (fun k => txn_byKey.f k Y) (writes l) := by
  rw [writes_is]
  exact byKey_run (by rw [Srt.Few, p.length_eq]; exact Nat.le_trans (lastO_len l _ (Nat.le_refl _)) hf) p (lastO_apart l _ (Nat.le_refl _)) (fun o ho => keysOk_mem h o (lastO_mem l _ (Nat.le_refl _) o ho))
theorem mapO_get {X : List Op} {i : Int} {v : Value} (h : H.getL (mapO X) i = some v) : ∃ o ∈ X, o.f1 = i ∧ v = opV o := by
  have := H.getL_some_mem h
  obtain ⟨o, ho, e⟩ := List.mem_map.mp this
  cases e
  exact ⟨o, ho, rfl, rfl⟩
def unL : List Value → Op
  | [.bool b, .int _ i, .int _ j] => ⟨b, i, j⟩
  | _ => ⟨false, 0, 0⟩
def unO : Value → Op
  | .agg cs => unL cs.toList
  | _ => ⟨false, 0, 0⟩
theorem mapO_perm {X Y : List Op} (h : (mapO X).Perm (mapO Y)) : X.Perm Y := by
  have e : ∀ Z : List Op, (mapO Z).map (fun p => unO p.2) = Z := fun Z => by
    unfold mapO
    rw [List.map_map]
    conv => rhs; rw [← List.map_id Z]
    exact List.map_congr_left fun o _ => rfl
  have := h.map fun p => unO p.2
  rwa [e, e] at this
theorem mapO_step {Y : List Op} {td l : List (Int × Value)} {o : Op} (ha : H.Apart td) (h : H.getL td o.f1 = some (opV o)) (hp : (mapO Y ++ td).Perm l) : (mapO (Y ++ [o]) ++ H.offL td o.f1).Perm l := by
  refine List.Perm.trans ?_ hp
  unfold mapO
  rw [List.map_append, List.append_assoc]
  exact (H.off_perm ha h).symm.append_left _
end Go.Proofs.Ytfocaefnmfkojaa.R
namespace Go.Proofs.Ytfocaefnmfkojaa.R
open Go.RowKit Go.Proofs.Ytfocaefnmfkojaa.Q Go.Proofs.YtfocaefnmfkojaaW.PrintWords Go.Proofs.YtfocaefnmfkojaaW.PrintLast
set_option linter.unusedVariables false
set_option linter.unusedSimpArgs false
structure FewH (h : List Txn) : Prop where
  len : h.length ≤ 1000
  ops : ∀ t ∈ h, t.f3.length ≤ 7000000000000
theorem FewH.at {h : List Txn} (H : FewH h) (i : Nat) (hi : i < h.length) : (h[i]).f3.length ≤ 7000000000000 := H.ops _ (List.getElem_mem hi)
def isW (key v : Int) (o : Op) : Bool := o.f0 && (o.f1 == key && o.f2 == v)
def writer (h : List Txn) (key v : Int) : Int := match h.findIdx? fun t => t.f3.any (isW key v) with
  | none => -1
  | some i => (i : Int)
def writerFrom (h : List Txn) (key v : Int) (i : Nat) : Int := match (h.drop i).findIdx? fun t => t.f3.any (isW key v) with
  | none => -1
  | some j => ((i + j : Nat) : Int)
theorem writerFrom_end (h : List Txn) (key v : Int) (i : Nat) (hi : h.length ≤ i) : writerFrom h key v i = -1 := by
  unfold writerFrom
  rw [drop_end h i hi]
  rfl
theorem writerFrom_at (h : List Txn) (key v : Int) (i : Nat) (hi : i < h.length) : writerFrom h key v i = if (h[i]).f3.any (isW key v) = true then (i : Int) else writerFrom h key v (i + 1) := by
  unfold writerFrom
  rw [drop_at h i hi, List.findIdx?_cons]
  by_cases h1 : (h[i]).f3.any (isW key v) = true
  · rw [if_pos h1, if_pos h1]; simp
  · rw [if_neg h1, if_neg h1]
    cases (h.drop (i + 1)).findIdx? fun t => t.f3.any (isW key v) with
    | none => rfl
    | some j => simp; omega
theorem writer_loop (h : List Txn) (key v : Int) (H : FewH h) : ∀ d i : Nat, i + d = h.length → Ev (fun k => ref06_Writer.l0 k h key v (i : Int)) (writerFrom h key v i) := by
  intro d
  induction d with
  | zero =>
    intro i hi
    rw [writerFrom_end h key v i (by omega)]
    refine Ev.step (fun k => by rw [ref06_Writer.l0]) ?_
    simp only [if_neg (show ¬ (i : Int) < (h.length : Int) by omega)]
    exact Ev.now _
  | succ d ih =>
    intro i hi
    have hlt : i < h.length := by omega
    have hn := ih (i + 1) (by omega)
    refine Ev.step (fun k => by rw [ref06_Writer.l0]) ?_
    simp only [if_pos (show (i : Int) < (h.length : Int) by omega)]
    have hops := H.at i hlt
    have inner : ∀ d2 j : Nat, j + d2 = (h[i]).f3.length → Ev (fun k => ref06_Writer.l1 k h key v (i : Int) (j : Int)) (if ((h[i]).f3.drop j).any (isW key v) = true then (i : Int) else writerFrom h key v (i + 1)) := by
      intro d2
      induction d2 with
      | zero =>
        intro j hj
        rw [drop_end _ j (by omega)]
        refine Ev.step (fun k => by rw [ref06_Writer.l1]) ?_
        simp only [if_pos (show 0 ≤ (i : Int) by omega), if_pos (show (i : Int) < (h.length : Int) by omega), rdTxn h i hlt, if_neg (show ¬ (j : Int) < ((h[i]).f3.length : Int) by omega), wrapN i (by have := H.len; omega), List.any_nil, Bool.false_eq_true, if_false]
        exact hn
      | succ d2 ih2 =>
        intro j hj
        have hj2 : j < (h[i]).f3.length := by omega
        have hm := ih2 (j + 1) (by omega)
        rw [drop_at _ j hj2, List.any_cons]
        refine Ev.step (fun k => by rw [ref06_Writer.l1]) ?_
        simp only [if_pos (show 0 ≤ (i : Int) by omega), if_pos (show (i : Int) < (h.length : Int) by omega), rdTxn h i hlt, if_pos (show (j : Int) < ((h[i]).f3.length : Int) by omega), if_pos (show 0 ≤ (j : Int) by omega), rdOp _ j hj2, wrapN j (by omega)]
        cases hw : ((h[i]).f3[j]).f0 with
        | false =>
          rw [show isW key v ((h[i]).f3[j]) = false by simp [isW, hw], Bool.false_or]
          simp only [Bool.false_eq_true, if_false]
          exact hm
        | true =>
          by_cases h1 : ((h[i]).f3[j]).f1 = key
          · by_cases h2 : ((h[i]).f3[j]).f2 = v
            · rw [show isW key v ((h[i]).f3[j]) = true by simp [isW, hw, h1, h2], Bool.true_or]
              simp only [if_true, if_pos h1, if_pos h2]
              exact Ev.now _
            · rw [show isW key v ((h[i]).f3[j]) = false by simp [isW, hw, h2], Bool.false_or]
              simp only [if_true, if_pos h1, if_neg h2]
              exact hm
          · rw [show isW key v ((h[i]).f3[j]) = false by simp [isW, hw, h1], Bool.false_or]
            simp only [if_true, if_neg h1]
            exact hm
    rw [writerFrom_at h key v i hlt]
    exact inner (h[i]).f3.length 0 (by omega)
theorem writer_ev (h : List Txn) (key v : Int) (H : FewH h) : Ev (fun k => ref06_Writer.f k h key v) (writer h key v) := by
  have e : writer h key v = writerFrom h key v 0 := by
    unfold writer writerFrom
    rw [List.drop_zero]
    cases h.findIdx? fun t => t.f3.any (isW key v) with
    | none => rfl
    | some j => simp
  rw [e]
  exact writer_loop h key v H h.length 0 (by omega)
theorem writer_some (h : List Txn) (key v : Int) (hw : 0 ≤ writer h key v) : ∃ (i : Nat) (hi : i < h.length), writer h key v = (i : Int) ∧ (h[i]).f3.any (isW key v) = true ∧ ∀ j (hj : j < i), (h[j]).f3.any (isW key v) = false := by
  unfold writer at hw ⊢
  cases hf : h.findIdx? fun t => t.f3.any (isW key v) with
  | none => rw [hf] at hw; simp at hw
  | some i =>
    obtain ⟨h1, h2, h3⟩ := List.findIdx?_eq_some_iff_getElem.1 hf
    exact ⟨i, h1, rfl, h2, fun j hj => by simpa using h3 j hj⟩
theorem writer_none (h : List Txn) (key v : Int) (hw : writer h key v < 0) : ∀ t ∈ h, t.f3.any (isW key v) = false := by
  unfold writer at hw
  cases hf : h.findIdx? fun t => t.f3.any (isW key v) with
  | none => exact fun t ht => by simpa using List.findIdx?_eq_none_iff.1 hf t ht
  | some i => rw [hf] at hw; simp at hw; omega
def isV (v : Int) (o : Op) : Bool := o.f0 && o.f2 == v
def timesL (l : List Op) (v : Int) : Nat := l.countP (isV v)
theorem timesL_cons (o : Op) (l : List Op) (v : Int) : timesL (o :: l) v = timesL l v + if isV v o = true then 1 else 0 := by
  unfold timesL
  rw [List.countP_cons]
def times (h : List Txn) (v : Int) : Nat := (h.map fun t => timesL t.f3 v).sum
theorem times_loop (h : List Txn) (v : Int) (H : FewH h) : ∀ d (i n : Nat), i + d = h.length → n + d * 7000000000000 ≤ 1000000000000000000 → Ev (fun k => ref06_times.l0 k h v (n : Int) (i : Int)) ((n + times (h.drop i) v : Nat) : Int) := by
  intro d
  induction d with
  | zero =>
    intro i n hi hb
    rw [drop_end h i (by omega)]
    refine Ev.step (fun k => by rw [ref06_times.l0]) ?_
    simp only [if_neg (show ¬ (i : Int) < (h.length : Int) by omega)]
    exact Ev.now _
  | succ d ih =>
    intro i n hi hb
    have hlt : i < h.length := by omega
    refine Ev.step (fun k => by rw [ref06_times.l0]) ?_
    simp only [if_pos (show (i : Int) < (h.length : Int) by omega)]
    have hops := H.at i hlt
    have inner : ∀ d2 (j n : Nat), j + d2 = (h[i]).f3.length → n + d2 + d * 7000000000000 ≤ 1000000000000000000 → Ev (fun k => ref06_times.l1 k h v (n : Int) (i : Int) (j : Int)) ((n + timesL ((h[i]).f3.drop j) v + times (h.drop (i + 1)) v : Nat) : Int) := by
      intro d2
      induction d2 with
      | zero =>
        intro j n hj hb2
        rw [drop_end _ j (by omega)]
        refine Ev.step (fun k => by rw [ref06_times.l1]) ?_
        simp only [if_pos (show 0 ≤ (i : Int) by omega), if_pos (show (i : Int) < (h.length : Int) by omega), rdTxn h i hlt, if_neg (show ¬ (j : Int) < ((h[i]).f3.length : Int) by omega), wrapN i (by have := H.len; omega)]
        have := ih (i + 1) n (by omega) (by omega)
        simpa [timesL] using this
      | succ d2 ih2 =>
        intro j n hj hb2
        have hj2 : j < (h[i]).f3.length := by omega
        rw [drop_at _ j hj2]
        refine Ev.step (fun k => by rw [ref06_times.l1]) ?_
        simp only [if_pos (show 0 ≤ (i : Int) by omega), if_pos (show (i : Int) < (h.length : Int) by omega), rdTxn h i hlt, if_pos (show (j : Int) < ((h[i]).f3.length : Int) by omega), if_pos (show 0 ≤ (j : Int) by omega), rdOp _ j hj2, wrapN j (by omega), wrapN n (by omega)]
        cases hw : ((h[i]).f3[j]).f0 with
        | false =>
          have e : timesL ((h[i]).f3[j] :: (h[i]).f3.drop (j + 1)) v = timesL ((h[i]).f3.drop (j + 1)) v := by rw [timesL_cons]; simp [isV, hw]
          rw [e]
          simp only [Bool.false_eq_true, if_false]
          exact ih2 (j + 1) n (by omega) (by omega)
        | true =>
          by_cases h1 : ((h[i]).f3[j]).f2 = v
          · have e : timesL ((h[i]).f3[j] :: (h[i]).f3.drop (j + 1)) v = timesL ((h[i]).f3.drop (j + 1)) v + 1 := by rw [timesL_cons]; simp [isV, hw, h1]
            rw [e]
            simp only [if_true, if_pos h1]
            refine Ev.ofEq (ih2 (j + 1) (n + 1) (by omega) (by omega)) ?_
            omega
          · have e : timesL ((h[i]).f3[j] :: (h[i]).f3.drop (j + 1)) v = timesL ((h[i]).f3.drop (j + 1)) v := by rw [timesL_cons]; simp [isV, hw, h1]
            rw [e]
            simp only [if_true, if_neg h1]
            exact ih2 (j + 1) n (by omega) (by omega)
    refine Ev.ofEq (inner (h[i]).f3.length 0 n (by omega) (by omega)) ?_
    rw [drop_at h i hlt]
    simp only [times, List.map_cons, List.sum_cons, List.drop_zero]
    omega
theorem times_ev (h : List Txn) (v : Int) (H : FewH h) : Ev (fun k => ref06_times.f k h v) (times h v : Int) := by
  have := times_loop h v H h.length 0 0 (by omega) (by have := H.len; omega)
  unfold ref06_times.f
  simpa using this
def mayOp (o : Op) : Bool := decide (0 ≤ o.f1 ∧ o.f1 ≤ 63 ∧ 0 ≤ o.f2 ∧ o.f2 ≤ 2147483647 ∧ (o.f0 = true → o.f2 ≠ 0))
theorem mayOp_f (a : Bool) (b c : Int) : ref06_mayOp.f a b c = some (mayOp ⟨a, b, c⟩) := by
  unfold ref06_mayOp.f mayOp
  simp only
  by_cases h1 : b < 0
  · rw [if_pos h1, decide_eq_false (by omega)]
  · rw [if_neg h1]
    by_cases h2 : b > 63
    · rw [if_pos h2, decide_eq_false (by omega)]
    · rw [if_neg h2]
      by_cases h3 : c < 0
      · rw [if_pos h3, decide_eq_false (by omega)]
      · rw [if_neg h3]
        by_cases h4 : c > 2147483647
        · rw [if_pos h4, decide_eq_false (by omega)]
        · rw [if_neg h4]
          cases a with
          | false => rw [if_neg (by simp), decide_eq_true ⟨by omega, by omega, by omega, by omega, by simp⟩]
          | true =>
            rw [if_pos rfl]
            by_cases h5 : c = 0
            · rw [decide_eq_false (by simp [h5]), show (c != 0) = false by simp [h5]]
            · rw [decide_eq_true ⟨by omega, by omega, by omega, by omega, fun _ => h5⟩, show (c != 0) = true by simp [h5]]
def mayTxn (t : Txn) : Bool := decide (0 ≤ t.f0 ∧ t.f0 ≤ 63 ∧ 0 ≤ t.f1 ∧ t.f1 < t.f2 ∧ t.f2 ≤ 2147483647 ∧ 1 ≤ t.f3.length ∧ t.f3.length ≤ 64) && t.f3.all mayOp
theorem mayTxn_loop (a b c : Int) (l : List Op) (hl : Few l) : ∀ d i : Nat, i + d = l.length → Ev (fun k => ref06_mayTxn.l0 k (i : Int) a b c l) ((l.drop i).all mayOp) := by
  intro d
  induction d with
  | zero =>
    intro i hi
    rw [drop_end l i (by omega)]
    refine Ev.step (fun k => by rw [ref06_mayTxn.l0]) ?_
    simp only [if_neg (show ¬ (i : Int) < (l.length : Int) by omega)]
    exact Ev.now _
  | succ d ih =>
    intro i hi
    have hlt : i < l.length := by omega
    have h := ih (i + 1) (by omega)
    rw [drop_at l i hlt, List.all_cons]
    refine Ev.step (fun k => by rw [ref06_mayTxn.l0]) ?_
    simp only [if_pos (show (i : Int) < (l.length : Int) by omega), if_pos (show 0 ≤ (i : Int) by omega), rdOp l i hlt, wrapN i (by unfold Few at hl; omega), mayOp_f, Option.bind_some]
    cases mayOp l[i] with
    | true => simp only [if_true, Bool.true_and]; exact h
    | false => simp only [Bool.false_eq_true, if_false, Bool.false_and]; exact Ev.now _
theorem mayTxn_ev (t : Txn) (hl : t.f3.length ≤ 7000000000000) : Ev (fun k => ref06_mayTxn.f k t.f0 t.f1 t.f2 t.f3) (mayTxn t) := by
  have yes : Ev (fun k => ref06_mayTxn.j0 k true t.f0 t.f1 t.f2 t.f3) false := by
    refine Ev.step (fun k => by rw [ref06_mayTxn.j0]) ?_
    simp only [if_true]
    exact Ev.now _
  unfold ref06_mayTxn.f mayTxn
  by_cases h1 : t.f0 < 0
  · simp only [if_pos h1]; rw [decide_eq_false (by omega), Bool.false_and]; exact yes
  · simp only [if_neg h1]
    by_cases h2 : t.f0 > 63
    · simp only [if_pos h2]; rw [decide_eq_false (by omega), Bool.false_and]; exact yes
    · simp only [if_neg h2]
      by_cases h3 : t.f1 < 0
      · simp only [if_pos h3]; rw [decide_eq_false (by omega), Bool.false_and]; exact yes
      · simp only [if_neg h3]
        by_cases h4 : t.f1 ≥ t.f2
        · simp only [if_pos h4]; rw [decide_eq_false (by omega), Bool.false_and]; exact yes
        · simp only [if_neg h4]
          by_cases h5 : t.f2 > 2147483647
          · simp only [if_pos h5]; rw [decide_eq_false (by omega), Bool.false_and]; exact yes
          · simp only [if_neg h5]
            by_cases h6 : (t.f3.length : Int) < 1
            · simp only [if_pos h6]; rw [decide_eq_false (by omega), Bool.false_and]; exact yes
            · simp only [if_neg h6]
              by_cases h7 : (t.f3.length : Int) > 64
              · simp only [decide_eq_true h7]; rw [decide_eq_false (by omega), Bool.false_and]; exact yes
              · simp only [decide_eq_false h7]
                rw [decide_eq_true ⟨by omega, by omega, by omega, by omega, by omega, by omega, by omega⟩, Bool.true_and]
                refine Ev.step (fun k => by rw [ref06_mayTxn.j0]) ?_
                simp only [Bool.false_eq_true, if_false]
                exact mayTxn_loop t.f0 t.f1 t.f2 t.f3 (by unfold Few; omega) t.f3.length 0 (by omega)
end Go.Proofs.Ytfocaefnmfkojaa.R
namespace Go.Proofs.Ytfocaefnmfkojaa.R
open Go.RowKit Go.Proofs.Ytfocaefnmfkojaa.Q Go.Proofs.YtfocaefnmfkojaaW.PrintWords Go.Proofs.YtfocaefnmfkojaaW.PrintLast
set_option linter.unusedVariables false
set_option linter.unusedSimpArgs false
def count (h : List Txn) : Nat := (h.map fun t => t.f3.length).sum
theorem count_loop (h : List Txn) (H : FewH h) : ∀ d (i n : Nat), i + d = h.length → n + d * 7000000000000 ≤ 1000000000000000000 → Ev (fun k => ref06_Count.l0 k h (n : Int) (i : Int)) ((n + count (h.drop i) : Nat) : Int) := by
  intro d
  induction d with
  | zero =>
    intro i n hi hb
    rw [drop_end h i (by omega)]
    refine Ev.step (fun k => by rw [ref06_Count.l0]) ?_
    simp only [if_neg (show ¬ (i : Int) < (h.length : Int) by omega)]
    exact Ev.now _
  | succ d ih =>
    intro i n hi hb
    have hlt : i < h.length := by omega
    have hops := H.at i hlt
    refine Ev.step (fun k => by rw [ref06_Count.l0]) ?_
    have e : wrap64 ((n : Int) + ((h[i]).f3.length : Int)) = ((n + (h[i]).f3.length : Nat) : Int) := by
      rw [wrapI _ (by omega) (by omega)]
      omega
    simp only [if_pos (show (i : Int) < (h.length : Int) by omega), if_pos (show 0 ≤ (i : Int) by omega), rdTxn h i hlt, wrapN i (by have := H.len; omega), e]
    refine Ev.ofEq (ih (i + 1) _ (by omega) (by omega)) ?_
    rw [drop_at h i hlt]
    simp only [count, List.map_cons, List.sum_cons]
    omega
theorem count_ev (h : List Txn) (H : FewH h) : Ev (fun k => ref06_Count.f k h) (count h : Int) := by
  have := count_loop h H h.length 0 0 (by omega) (by have := H.len; omega)
  unfold ref06_Count.f
  simpa using this
def pairOk (a b : Txn) : Bool := decide (a.f1 ≠ b.f1 ∧ a.f1 ≠ b.f2 ∧ a.f2 ≠ b.f1 ∧ a.f2 ≠ b.f2 ∧ (a.f0 = b.f0 → a.f2 ≤ b.f1))
def opOk (h : List Txn) (o : Op) : Bool := decide ((o.f0 = true → times h o.f2 = 1) ∧ (o.f0 = false → o.f2 ≠ 0 → 0 ≤ writer h o.f1 o.f2))
def pairAt (h : List Txn) (b : Txn) (k : Nat) : Bool := match h[k]? with
  | none => true
  | some a => pairOk a b
def txnOk (h : List Txn) (i : Nat) : Bool := match h[i]? with
  | none => true
  | some t => mayTxn t && ((List.range i).all (pairAt h t) && t.f3.all (opOk h))
def may (h : List Txn) : Bool := (List.range h.length).all (txnOk h)
theorem may_ops (h : List Txn) (H : FewH h) (i : Nat) (hi : i < h.length) (r : Bool) (hn : Ev (fun k => ref06_May.l0 k h ((i + 1 : Nat) : Int)) r) :
    ∀ d j : Nat, j + d = (h[i]).f3.length → Ev (fun k => ref06_May.l2 k h (i : Int) (j : Int)) (((h[i]).f3.drop j).all (opOk h) && r) := by
  have hops := H.at i hi
  intro d
  induction d with
  | zero =>
    intro j hj
    rw [drop_end _ j (by omega)]
    refine Ev.step (fun k => by rw [ref06_May.l2]) ?_
    simp only [if_pos (show 0 ≤ (i : Int) by omega), if_pos (show (i : Int) < (h.length : Int) by omega), rdTxn h i hi, if_neg (show ¬ (j : Int) < ((h[i]).f3.length : Int) by omega), wrapN i (by have := H.len; omega), List.all_nil, Bool.true_and]
    exact hn
  | succ d ih =>
    intro j hj
    have hj2 : j < (h[i]).f3.length := by omega
    have hm := ih (j + 1) (by omega)
    rw [drop_at _ j hj2, List.all_cons]
    generalize ho : (h[i]).f3[j] = o at *
    refine Ev.step (fun k => by rw [ref06_May.l2]) ?_
    simp only [if_pos (show 0 ≤ (i : Int) by omega), if_pos (show (i : Int) < (h.length : Int) by omega), rdTxn h i hi, if_pos (show (j : Int) < ((h[i]).f3.length : Int) by omega), if_pos (show 0 ≤ (j : Int) by omega), rdOp _ j hj2, ho]
    have j4 : ∀ b : Bool, Ev (fun k => ref06_May.j4 k h (i : Int) (j : Int) b o.f0 o.f1 o.f2) (!b && (decide (o.f0 = false → o.f2 ≠ 0 → 0 ≤ writer h o.f1 o.f2) && (((h[i]).f3.drop (j + 1)).all (opOk h) && r))) := by
      intro b
      refine Ev.step (fun k => by rw [ref06_May.j4]) ?_
      cases b with
      | true => simp only [if_true, Bool.not_true, Bool.false_and]; exact Ev.now _
      | false =>
        simp only [Bool.false_eq_true, if_false, Bool.not_false, Bool.true_and, wrapN j (by omega)]
        cases hw : o.f0 with
        | true =>
          rw [decide_eq_true (by simp), Bool.true_and]
          simp only [if_true]
          exact hm
        | false =>
          simp only [Bool.false_eq_true, if_false]
          by_cases h0 : o.f2 = 0
          · rw [decide_eq_true (by simp [h0]), Bool.true_and]
            simp only [if_pos h0]
            exact hm
          · simp only [if_neg h0]
            refine Ev.bind (writer_ev h o.f1 o.f2 H) ?_
            by_cases h1 : writer h o.f1 o.f2 < 0
            · rw [decide_eq_false (by simp [h0]; omega), Bool.false_and]
              simp only [if_pos h1]
              exact Ev.now _
            · rw [decide_eq_true (by intro _ _; omega), Bool.true_and]
              simp only [if_neg h1]
              exact hm
    have e : (opOk h o && (((h[i]).f3.drop (j + 1)).all (opOk h) && r)) = (decide (o.f0 = true → times h o.f2 = 1) && (decide (o.f0 = false → o.f2 ≠ 0 → 0 ≤ writer h o.f1 o.f2) && (((h[i]).f3.drop (j + 1)).all (opOk h) && r))) := by
      unfold opOk
      rw [Bool.decide_and, Bool.and_assoc]
    rw [Bool.and_assoc, e]
    cases hw : o.f0 with
    | true =>
      simp only [if_true]
      refine Ev.bind (times_ev h o.f2 H) ?_
      have h4 := j4 ((times h o.f2 : Int) != 1)
      rw [hw] at h4
      refine Ev.ofEq h4 ?_
      congr 1
      rw [Bool.eq_iff_iff]
      simp
      omega
    | false =>
      simp only [Bool.false_eq_true, if_false]
      have h4 := j4 false
      rw [hw] at h4
      refine Ev.ofEq h4 ?_
      have a1 : decide (False → times h o.f2 = 1) = true := decide_eq_true (fun x => x.elim)
      rw [a1, Bool.true_and, Bool.not_false, Bool.true_and]
      congr 1
      rw [Bool.eq_iff_iff, decide_eq_true_iff, decide_eq_true_iff]
      exact ⟨fun x _ => x rfl, fun x _ => x trivial⟩
theorem may_pairs (h : List Txn) (H : FewH h) (i : Nat) (hi : i < h.length) (r : Bool) (hn : Ev (fun k => ref06_May.l2 k h (i : Int) 0) r) :
    ∀ d j : Nat, j + d = i → Ev (fun k => ref06_May.l1 k h (i : Int) (j : Int)) (((List.range i).drop j).all (pairAt h h[i]) && r) := by
  intro d
  induction d with
  | zero =>
    intro j hj
    rw [range_end _ j (by omega)]
    refine Ev.step (fun k => by rw [ref06_May.l1]) ?_
    simp only [if_neg (show ¬ (j : Int) < (i : Int) by omega), List.all_nil, Bool.true_and]
    exact hn
  | succ d ih =>
    intro j hj
    have hj2 : j < h.length := by omega
    have hm := ih (j + 1) (by omega)
    rw [range_drop _ j (by omega), List.all_cons]
    have hp : pairAt h h[i] j = pairOk h[j] h[i] := by unfold pairAt; rw [List.getElem?_eq_getElem hj2]
    rw [hp]
    generalize ha : h[j] = a at *
    generalize hb : h[i] = b at *
    refine Ev.step (fun k => by rw [ref06_May.l1]) ?_
    have ra := rdTxn h j hj2
    have rb := rdTxn h i hi
    rw [ha] at ra
    rw [hb] at rb
    simp only [if_pos (show (j : Int) < (i : Int) by omega), if_pos (show 0 ≤ (j : Int) by omega), if_pos (show (j : Int) < (h.length : Int) by omega), if_pos (show 0 ≤ (i : Int) by omega), if_pos (show (i : Int) < (h.length : Int) by omega), ra, rb]
    have j2 : ∀ x : Bool, Ev (fun k => ref06_May.j2 k h (i : Int) (j : Int) x a.f0 a.f1 a.f2 a.f3 b.f0 b.f1 b.f2 b.f3) (!x && (decide (a.f0 = b.f0 → a.f2 ≤ b.f1) && (((List.range i).drop (j + 1)).all (pairAt h b) && r))) := by
      intro x
      refine Ev.step (fun k => by rw [ref06_May.j2]) ?_
      cases x with
      | true => simp only [if_true, Bool.not_true, Bool.false_and]; exact Ev.now _
      | false =>
        simp only [Bool.false_eq_true, if_false, Bool.not_false, Bool.true_and, wrapN j (by have := H.len; omega)]
        by_cases h1 : a.f0 = b.f0
        · simp only [if_pos h1]
          by_cases h2 : a.f2 > b.f1
          · rw [decide_eq_false (by intro h3; have := h3 h1; omega), Bool.false_and]
            simp only [if_pos h2]
            exact Ev.now _
          · rw [decide_eq_true (by intro _; omega), Bool.true_and]
            simp only [if_neg h2]
            exact hm
        · rw [decide_eq_true (by intro h3; exact absurd h3 h1), Bool.true_and]
          simp only [if_neg h1]
          exact hm
    have yes := j2 true
    rw [Bool.not_true, Bool.false_and] at yes
    unfold pairOk
    by_cases h1 : a.f1 = b.f1
    · simp only [if_pos h1]; rw [decide_eq_false (by simp [h1])]; exact yes
    · simp only [if_neg h1]
      by_cases h2 : a.f1 = b.f2
      · simp only [if_pos h2]; rw [decide_eq_false (by simp [h2])]; exact yes
      · simp only [if_neg h2]
        by_cases h3 : a.f2 = b.f1
        · simp only [if_pos h3]; rw [decide_eq_false (by simp [h3])]; exact yes
        · simp only [if_neg h3]
          refine Ev.ofEq (j2 (a.f2 == b.f2)) ?_
          rw [Bool.and_assoc]
          by_cases h4 : a.f2 = b.f2
          · simp [h4]
          · have : (a.f2 == b.f2) = false := by simpa using h4
            simp [this, h1, h2, h3, h4]
theorem may_loop (h : List Txn) (H : FewH h) : ∀ d i : Nat, i + d = h.length → Ev (fun k => ref06_May.l0 k h (i : Int)) (((List.range h.length).drop i).all (txnOk h)) := by
  intro d
  induction d with
  | zero =>
    intro i hi
    rw [range_end _ i (by omega)]
    refine Ev.step (fun k => by rw [ref06_May.l0]) ?_
    simp only [if_neg (show ¬ (i : Int) < (h.length : Int) by omega)]
    exact Ev.now _
  | succ d ih =>
    intro i hi
    have hlt : i < h.length := by omega
    have hn := ih (i + 1) (by omega)
    have h2 := may_ops h H i hlt _ hn (h[i]).f3.length 0 (by omega)
    have h1 := may_pairs h H i hlt _ h2 i 0 (by omega)
    rw [List.drop_zero, List.drop_zero] at h1
    rw [range_drop _ i hlt, List.all_cons]
    have e : txnOk h i = (mayTxn h[i] && ((List.range i).all (pairAt h h[i]) && (h[i]).f3.all (opOk h))) := by unfold txnOk; rw [List.getElem?_eq_getElem hlt]
    rw [e]
    refine Ev.step (fun k => by rw [ref06_May.l0]) ?_
    simp only [if_pos (show (i : Int) < (h.length : Int) by omega), if_pos (show 0 ≤ (i : Int) by omega), rdTxn h i hlt]
    refine Ev.bind (mayTxn_ev h[i] (H.at i hlt)) ?_
    cases mayTxn h[i] with
    | false => simp only [Bool.false_eq_true, if_false, Bool.false_and]; exact Ev.now _
    | true =>
      simp only [if_true, Bool.true_and]
      rw [Bool.and_assoc]
      exact h1
theorem may_ev (h : List Txn) (H : FewH h) : Ev (fun k => ref06_May.f k h) (may h) := may_loop h H h.length 0 (by omega)
def check (h : List Txn) : Int := if h.length > 64 ∨ count h > 1024 then 3 else if may h = true then 0 else 2
theorem check_ev (h : List Txn) (H : FewH h) : Ev (fun k => ref06_Check.f k h) (check h) := by
  have j0 : ∀ b : Bool, Ev (fun k => ref06_Check.j0 k h b) (if b = true then 3 else if may h = true then 0 else 2) := by
    intro b
    refine Ev.step (fun k => by rw [ref06_Check.j0]) ?_
    cases b with
    | true => simp only [if_true]; exact Ev.now _
    | false =>
      simp only [Bool.false_eq_true, if_false]
      refine Ev.bind (may_ev h H) ?_
      cases may h with
      | true => simp only [if_true]; exact Ev.now _
      | false => simp only [Bool.false_eq_true, if_false]; exact Ev.now _
  unfold ref06_Check.f check
  by_cases h1 : h.length > 64
  · simp only [if_pos (show (h.length : Int) > 64 by omega), if_pos (Or.inl h1)]
    exact j0 true
  · simp only [if_neg (show ¬ (h.length : Int) > 64 by omega)]
    refine Ev.bind (count_ev h H) ?_
    by_cases h2 : count h > 1024
    · rw [if_pos (Or.inr h2)]
      simp only [decide_eq_true (show (count h : Int) > 1024 by omega)]
      exact j0 true
    · rw [if_neg (by omega)]
      simp only [decide_eq_false (show ¬ (count h : Int) > 1024 by omega)]
      exact j0 false
structure Good (h : List Txn) : Prop where
  len : h.length ≤ 64
  cnt : count h ≤ 1024
  may : may h = true
theorem Good.txn {h : List Txn} (g : Good h) (i : Nat) (hi : i < h.length) : mayTxn h[i] = true ∧ (∀ k, k < i → pairAt h h[i] k = true) ∧ ∀ o ∈ (h[i]).f3, opOk h o = true := by
  have h1 := List.all_eq_true.1 g.may i (List.mem_range.2 hi)
  unfold txnOk at h1
  rw [List.getElem?_eq_getElem hi] at h1
  simp only [Bool.and_eq_true] at h1
  exact ⟨h1.1, fun k hk => List.all_eq_true.1 h1.2.1 k (List.mem_range.2 hk), fun o ho => List.all_eq_true.1 h1.2.2 o ho⟩
theorem Good.pair {h : List Txn} (g : Good h) (k i : Nat) (hk : k < i) (hi : i < h.length) : (h[k]).f1 ≠ (h[i]).f1 ∧ (h[k]).f1 ≠ (h[i]).f2 ∧ (h[k]).f2 ≠ (h[i]).f1 ∧ (h[k]).f2 ≠ (h[i]).f2 ∧ ((h[k]).f0 = (h[i]).f0 → (h[k]).f2 ≤ (h[i]).f1) := by
  have h1 := (g.txn i hi).2.1 k hk
  unfold pairAt at h1
  rw [List.getElem?_eq_getElem (show k < h.length by omega)] at h1
  exact of_decide_eq_true h1
theorem Good.one {h : List Txn} (g : Good h) (i : Nat) (hi : i < h.length) : 0 ≤ (h[i]).f0 ∧ (h[i]).f0 ≤ 63 ∧ 0 ≤ (h[i]).f1 ∧ (h[i]).f1 < (h[i]).f2 ∧ (h[i]).f2 ≤ 2147483647 ∧ 1 ≤ (h[i]).f3.length ∧ (h[i]).f3.length ≤ 64 := by
  have h1 := (g.txn i hi).1
  unfold mayTxn at h1
  rw [Bool.and_eq_true] at h1
  exact of_decide_eq_true h1.1
theorem Good.op {h : List Txn} (g : Good h) (i : Nat) (hi : i < h.length) (o : Op) (ho : o ∈ (h[i]).f3) : (0 ≤ o.f1 ∧ o.f1 ≤ 63 ∧ 0 ≤ o.f2 ∧ o.f2 ≤ 2147483647 ∧ (o.f0 = true → o.f2 ≠ 0)) ∧ (o.f0 = true → times h o.f2 = 1) ∧ (o.f0 = false → o.f2 ≠ 0 → 0 ≤ writer h o.f1 o.f2) := by
  have h1 := (g.txn i hi).1
  unfold mayTxn at h1
  rw [Bool.and_eq_true] at h1
  exact ⟨of_decide_eq_true (List.all_eq_true.1 h1.2 o ho), of_decide_eq_true ((g.txn i hi).2.2 o ho)⟩
end Go.Proofs.Ytfocaefnmfkojaa.R
namespace Go.Proofs.Ytfocaefnmfkojaa.R
open Go.RowKit Go.Proofs.Ytfocaefnmfkojaa.Q Go.Proofs.YtfocaefnmfkojaaW.PrintWords Go.Proofs.YtfocaefnmfkojaaW.PrintLast
set_option linter.unusedVariables false
set_option linter.unusedSimpArgs false
def getB {β : Type} (l : List (Int × β)) (i : Int) : Option β := (l.find? fun p => p.1 == i).map (·.2)
def putB {β : Type} : List (Int × β) → Int → β → List (Int × β)
  | [], i, v => [(i, v)]
  | p :: l, i, v => if p.1 = i then (i, v) :: l else p :: putB l i v
section
variable {β : Type}
theorem getB_nil (i : Int) : getB ([] : List (Int × β)) i = none := rfl
theorem getB_cons (p : Int × β) (l : List (Int × β)) (i : Int) : getB (p :: l) i = if p.1 = i then some p.2 else getB l i := by
  unfold getB
  rw [List.find?_cons]
  by_cases h : p.1 = i
  · simp [h]
  · rw [show (p.1 == i) = false from beq_eq_false_iff_ne.mpr h, if_neg h]
theorem getB_put (l : List (Int × β)) (i j : Int) (v : β) : getB (putB l i v) j = if j = i then some v else getB l j := by
  induction l with
  | nil =>
    rw [putB, getB_cons]
    by_cases h : i = j
    · rw [if_pos h, if_pos h.symm]
    · rw [if_neg h, if_neg (fun e => h e.symm)]
  | cons p l ih =>
    unfold putB
    by_cases h : p.1 = i
    · rw [if_pos h, getB_cons, getB_cons]
      by_cases hj : j = i
      · rw [if_pos hj, if_pos hj.symm]
      · rw [if_neg hj, if_neg (fun e => hj e.symm), if_neg (fun e => hj (e.symm.trans h))]
    · rw [if_neg h, getB_cons, getB_cons, ih]
      by_cases hj : j = i
      · subst hj; rw [if_neg h, if_pos rfl, if_pos rfl]
      · rw [if_neg hj, if_neg hj]
theorem putB_len (l : List (Int × β)) (i : Int) (v : β) : (putB l i v).length = if (getB l i).isSome then l.length else l.length + 1 := by
  induction l with
  | nil => simp [putB, getB_nil]
  | cons p l ih =>
    unfold putB
    rw [getB_cons]
    by_cases h : p.1 = i
    · simp [h]
    · rw [if_neg h, if_neg h, List.length_cons, ih]
      split <;> simp
theorem putB_len_le (l : List (Int × β)) (i : Int) (v : β) : (putB l i v).length ≤ l.length + 1 := by
  rw [putB_len]
  split <;> omega
def encB (f : β → Value) (l : List (Int × β)) : List (Int × Value) := l.map fun p => (p.1, f p.2)
theorem encB_get (f : β → Value) (l : List (Int × β)) (i : Int) : H.getL (encB f l) i = (getB l i).map f := by
  induction l with
  | nil => rfl
  | cons p l ih =>
    unfold encB at ih ⊢
    rw [List.map_cons, H.getL_cons, getB_cons, ih]
    split <;> rfl
theorem encB_put (f : β → Value) (l : List (Int × β)) (i : Int) (v : β) : encB f (putB l i v) = H.putL (encB f l) i (f v) := by
  induction l with
  | nil => rfl
  | cons p l ih =>
    unfold putB
    by_cases h : p.1 = i
    · rw [if_pos h]; simp [encB, H.putL, h]
    · rw [if_neg h]
      unfold encB at ih ⊢
      rw [List.map_cons, List.map_cons, H.putL, if_neg h, ih]
theorem encB_len (f : β → Value) (l : List (Int × β)) : (encB f l).length = l.length := by simp [encB]
end
abbrev TM := List (Int × (Int × Int × Bool))
def wV (x : Int × Int × Bool) : Value := .agg #[.int .i64 x.1, .int .i64 x.2.1, .bool x.2.2]
def wOps (i : Int) : TM → List Op → Option TM
  | T, [] => some T
  | T, o :: l => if o.f0 then (if (getB T o.f2).isSome then none else wOps i (putB T o.f2 (i, o.f1, false)) l) else wOps i T l
def mark (T : TM) (v : Int) : TM := putB T v (((getB T v).getD (0, 0, false)).1, ((getB T v).getD (0, 0, false)).2.1, true)
def wMark : TM → List Op → TM
  | T, [] => T
  | T, o :: l => wMark (mark T o.f2) l
def wAll (i : Int) : TM → List Txn → Option TM
  | T, [] => some T
  | T, t :: h => match wOps i T t.f3 with
    | none => none
    | some T' => wAll (i + 1) (wMark T' (writes t.f3)) h
def okT (t : Txn) : Bool := decide (t.f3.length ≤ 10000) && t.f3.all mayOp
def okH (h : List Txn) : Bool := decide (h.length ≤ 1000) && h.all okT
theorem okH_len {h : List Txn} (g : okH h = true) : h.length ≤ 1000 := by
  unfold okH at g
  simp only [Bool.and_eq_true, decide_eq_true_eq] at g
  exact g.1
theorem okH_mem {h : List Txn} (g : okH h = true) {t : Txn} (ht : t ∈ h) : t.f3.length ≤ 10000 ∧ t.f3.all mayOp = true := by
  unfold okH at g
  simp only [Bool.and_eq_true, decide_eq_true_eq] at g
  have := List.all_eq_true.mp g.2 t ht
  unfold okT at this
  simpa using this
theorem mayOp_get {o : Op} (h : mayOp o = true) : 0 ≤ o.f1 ∧ o.f1 ≤ 63 ∧ 0 ≤ o.f2 ∧ o.f2 ≤ 2147483647 ∧ (o.f0 = true → o.f2 ≠ 0) := by
  exact of_decide_eq_true h
theorem mayOps_keys {l : List Op} (h : l.all mayOp = true) : keysOk l = true := by
  unfold keysOk
  rw [List.all_eq_true] at h ⊢
  intro o ho
  have := mayOp_get (h o ho)
  simp
  omega
theorem I64_val {o : Op} (h : mayOp o = true) : H.I64 o.f2 := ⟨by have := mayOp_get h; omega, by have := mayOp_get h; omega⟩
theorem writes_mem {l : List Op} {o : Op} (h : o ∈ writes l) : o ∈ l ∧ o.f0 = true := by
  unfold writes at h
  obtain ⟨k, hk, ho⟩ := List.mem_flatMap.mp h
  have := lastW_key l (k : Int) o (by simpa using ho)
  exact ⟨this.2.2, this.1⟩
def U : Value := .agg #[]
def late (e : List (Int × Int)) (t : Txn) : Bool := match getB e t.f0 with | some x => decide (x > t.f1) | none => false
def stampsL : List (Int × Unit) → List (Int × Int) → List Txn → Bool
  | _, _, [] => true
  | s, e, t :: h =>
    if (getB s t.f1).isSome then false
    else if (getB (putB s t.f1 ()) t.f2).isSome then false
    else if late e t then false
    else stampsL (putB (putB s t.f1 ()) t.f2 ()) (putB e t.f0 t.f2) h
end Go.Proofs.Ytfocaefnmfkojaa.R
namespace Go.Proofs.Ytfocaefnmfkojaa.R
open Go.RowKit Go.Proofs.Ytfocaefnmfkojaa.Q Go.Proofs.YtfocaefnmfkojaaW.PrintWords Go.Proofs.YtfocaefnmfkojaaW.PrintLast
set_option linter.unusedVariables false
set_option linter.unusedSimpArgs false
theorem isV_iff (v : Int) (o : Op) : isV v o = true ↔ o.f0 = true ∧ o.f2 = v := by simp [isV]
theorem timesL_pos {l : List Op} {o : Op} (h : o ∈ l) (hw : o.f0 = true) : 1 ≤ timesL l o.f2 := by
  unfold timesL
  exact List.countP_pos_iff.mpr ⟨o, h, (isV_iff _ _).mpr ⟨hw, rfl⟩⟩
theorem timesL_mem {l : List Op} {v : Int} (h : 1 ≤ timesL l v) : ∃ o ∈ l, o.f0 = true ∧ o.f2 = v := by
  obtain ⟨o, ho, h2⟩ := List.countP_pos_iff.mp h
  exact ⟨o, ho, (isV_iff _ _).mp h2⟩
theorem times_cons (t : Txn) (h : List Txn) (v : Int) : times (t :: h) v = timesL t.f3 v + times h v := by simp [times]
theorem times_pos {h : List Txn} {t : Txn} (ht : t ∈ h) {v : Int} (hv : 1 ≤ timesL t.f3 v) : 1 ≤ times h v := by
  induction h with
  | nil => cases ht
  | cons u h ih =>
    rw [times_cons]
    rcases List.mem_cons.mp ht with rfl | ht
    · omega
    · have := ih ht; omega
theorem times_mem {h : List Txn} {v : Int} (hv : 1 ≤ times h v) : ∃ t ∈ h, 1 ≤ timesL t.f3 v := by
  induction h with
  | nil => simp [times] at hv
  | cons u h ih =>
    rw [times_cons] at hv
    by_cases h1 : 1 ≤ timesL u.f3 v
    · exact ⟨u, List.mem_cons_self .., h1⟩
    · obtain ⟨t, ht, h2⟩ := ih (by omega)
      exact ⟨t, List.mem_cons_of_mem _ ht, h2⟩
theorem wOps_some (i : Int) : ∀ (l : List Op) (T T' : TM), wOps i T l = some T' → (∀ v, timesL l v = 0 → getB T' v = getB T v) ∧ (∀ o ∈ l, o.f0 = true → getB T' o.f2 = some (i, o.f1, false) ∧ getB T o.f2 = none) ∧ ∀ v, timesL l v ≤ 1
  | [], T, T', h => by cases h; exact ⟨fun _ _ => rfl, by simp, by simp [timesL]⟩
  | p :: l, T, T', h => by
    unfold wOps at h
    by_cases hw : p.f0 = true
    · rw [if_pos hw] at h
      by_cases hs : (getB T p.f2).isSome = true
      · rw [if_pos hs] at h; cases h
      · rw [if_neg hs] at h
        have hn : getB T p.f2 = none := by simpa using hs
        obtain ⟨h1, h2, h3⟩ := wOps_some i l _ _ h
        have hz : timesL l p.f2 = 0 := by
          rcases Nat.eq_zero_or_pos (timesL l p.f2) with h0 | h0
          · exact h0
          · obtain ⟨o, ho, hof, hov⟩ := timesL_mem h0
            have := (h2 o ho hof).2
            rw [hov, getB_put, if_pos rfl] at this
            cases this
        refine ⟨fun v hv => ?_, fun o ho hof => ?_, fun v => ?_⟩
        · rw [timesL_cons] at hv
          have hne : v ≠ p.f2 := by
            rintro rfl
            rw [if_pos ((isV_iff _ _).mpr ⟨hw, rfl⟩)] at hv
            omega
          rw [h1 v (by omega), getB_put, if_neg hne]
        · rcases List.mem_cons.mp ho with rfl | ho
          · exact ⟨by rw [h1 _ hz, getB_put, if_pos rfl], hn⟩
          · obtain ⟨a, b⟩ := h2 o ho hof
            refine ⟨a, ?_⟩
            rw [getB_put] at b
            split at b
            · cases b
            · exact b
        · rw [timesL_cons]
          by_cases e : v = p.f2
          · subst e; rw [hz]; split <;> omega
          · rw [if_neg (fun h => e ((isV_iff _ _).mp h).2.symm)]; exact h3 v
    · rw [if_neg hw] at h
      obtain ⟨h1, h2, h3⟩ := wOps_some i l _ _ h
      have e : ∀ v, timesL (p :: l) v = timesL l v := fun v => by rw [timesL_cons, if_neg (fun h => hw ((isV_iff _ _).mp h).1)]; omega
      refine ⟨fun v hv => h1 v (by rw [← e]; exact hv), fun o ho hof => ?_, fun v => by rw [e]; exact h3 v⟩
      rcases List.mem_cons.mp ho with rfl | ho
      · exact absurd hof hw
      · exact h2 o ho hof
theorem wOps_none (i : Int) : ∀ (l : List Op) (T : TM), wOps i T l = none → ∃ v, 2 ≤ timesL l v ∨ (1 ≤ timesL l v ∧ (getB T v).isSome = true)
  | [], T, h => by cases h
  | p :: l, T, h => by
    unfold wOps at h
    by_cases hw : p.f0 = true
    · rw [if_pos hw] at h
      have e : timesL (p :: l) p.f2 = timesL l p.f2 + 1 := by rw [timesL_cons, if_pos ((isV_iff _ _).mpr ⟨hw, rfl⟩)]
      by_cases hs : (getB T p.f2).isSome = true
      · exact ⟨p.f2, .inr ⟨by omega, hs⟩⟩
      · rw [if_neg hs] at h
        obtain ⟨v, hv⟩ := wOps_none i l _ h
        rcases hv with hv | ⟨hv, hv2⟩
        · exact ⟨v, .inl (by rw [timesL_cons]; omega)⟩
        · rw [getB_put] at hv2
          by_cases e2 : v = p.f2
          · subst e2; exact ⟨p.f2, .inl (by omega)⟩
          · rw [if_neg e2] at hv2
            exact ⟨v, .inr ⟨by rw [timesL_cons]; omega, hv2⟩⟩
    · rw [if_neg hw] at h
      obtain ⟨v, hv⟩ := wOps_none i l _ h
      refine ⟨v, ?_⟩
      rw [timesL_cons, if_neg (fun h => hw ((isV_iff _ _).mp h).1)]
      exact hv
theorem wMark_get : ∀ (ws : List Op) (T : TM) (v : Int), getB (wMark T ws) v = if ws.any (fun o => o.f2 == v) = true then some (((getB T v).getD (0, 0, false)).1, ((getB T v).getD (0, 0, false)).2.1, true) else getB T v
  | [], T, v => by simp [wMark]
  | o :: ws, T, v => by
    unfold wMark
    rw [wMark_get ws, List.any_cons]
    unfold mark
    rw [getB_put]
    by_cases e : v = o.f2
    · subst e
      rw [if_pos rfl, show ((o.f2 == o.f2) || ws.any fun p => p.f2 == o.f2) = true by simp, if_pos rfl]
      split <;> rfl
    · rw [if_neg e, show (o.f2 == v) = false from beq_eq_false_iff_ne.mpr (fun h => e h.symm), Bool.false_or]
theorem wAll_some : ∀ (h : List Txn) (i : Int) (T R : TM), wAll i T h = some R → (∀ v, times h v = 0 → getB R v = getB T v) ∧
    (∀ (j : Nat) (hj : j < h.length), ∀ o ∈ h[j].f3, o.f0 = true → getB R o.f2 = some (i + j, o.f1, (writes h[j].f3).any fun p => p.f2 == o.f2) ∧ getB T o.f2 = none) ∧ ∀ v, times h v ≤ 1
  | [], i, T, R, h => by cases h; exact ⟨fun _ _ => rfl, fun j hj => absurd hj (Nat.not_lt_zero j), by simp [times]⟩
  | t :: h, i, T, R, hR => by
    unfold wAll at hR
    cases hw : wOps i T t.f3 with
    | none => rw [hw] at hR; cases hR
    | some T' =>
      rw [hw] at hR
      obtain ⟨a1, a2, a3⟩ := wOps_some i _ _ _ hw
      obtain ⟨b1, b2, b3⟩ := wAll_some h _ _ _ hR
      have hm : ∀ v, timesL t.f3 v = 0 → getB (wMark T' (writes t.f3)) v = getB T v := fun v hv => by
        rw [wMark_get, if_neg, a1 v hv]
        intro hc
        obtain ⟨o, ho, he⟩ := List.any_eq_true.mp hc
        have := writes_mem ho
        have h2 := timesL_pos this.1 this.2
        simp only [beq_iff_eq] at he
        rw [he] at h2
        omega
      have hd : ∀ o ∈ t.f3, o.f0 = true → times h o.f2 = 0 := fun o ho hof => by
        rcases Nat.eq_zero_or_pos (times h o.f2) with h0 | h0
        · exact h0
        · obtain ⟨u, hu, hu2⟩ := times_mem h0
          obtain ⟨p, hp, hpf, hpv⟩ := timesL_mem hu2
          obtain ⟨j, hj, rfl⟩ := List.mem_iff_getElem.mp hu
          have := (b2 j hj p hp hpf).2
          rw [hpv, wMark_get, (a2 o ho hof).1] at this
          split at this <;> cases this
      refine ⟨fun v hv => ?_, fun j hj o ho hof => ?_, fun v => ?_⟩
      · rw [times_cons] at hv
        rw [b1 v (by omega), hm v (by omega)]
      · cases j with
        | zero =>
          have ho' : o ∈ t.f3 := ho
          refine ⟨?_, (a2 o ho' hof).2⟩
          rw [b1 _ (hd o ho' hof), wMark_get, (a2 o ho' hof).1]
          simp only [List.getElem_cons_zero, Option.getD_some, Int.natCast_zero, Int.add_zero]
          split
          · rename_i hc; rw [hc]
          · rename_i hc; rw [Bool.not_eq_true] at hc; rw [hc]
        | succ j =>
          have hj' : j < h.length := by simpa using hj
          have ho' : o ∈ (h[j]).f3 := by simpa using ho
          obtain ⟨c1, c2⟩ := b2 j hj' o ho' hof
          refine ⟨by rw [c1]; simp only [List.getElem_cons_succ]; congr 2; omega, ?_⟩
          have hz : timesL t.f3 o.f2 = 0 := by
            rcases Nat.eq_zero_or_pos (timesL t.f3 o.f2) with h0 | h0
            · exact h0
            · obtain ⟨p, hp, hpf, hpv⟩ := timesL_mem h0
              have := hd p hp hpf
              rw [hpv] at this
              have := times_pos (List.getElem_mem hj') (timesL_pos ho' hof)
              omega
          rw [← hm _ hz]; exact c2
      · rw [times_cons]
        have h1 := a3 v
        have h2 := b3 v
        rcases Nat.eq_zero_or_pos (timesL t.f3 v) with h0 | h0
        · omega
        · obtain ⟨p, hp, hpf, hpv⟩ := timesL_mem h0
          have := hd p hp hpf
          rw [hpv] at this
          omega
theorem wAll_none : ∀ (h : List Txn) (i : Int) (T : TM), wAll i T h = none → ∃ v, 2 ≤ times h v ∨ (1 ≤ times h v ∧ (getB T v).isSome = true)
  | [], i, T, h => by cases h
  | t :: h, i, T, hR => by
    unfold wAll at hR
    cases hw : wOps i T t.f3 with
    | none =>
      obtain ⟨v, hv⟩ := wOps_none i _ _ hw
      refine ⟨v, ?_⟩
      rw [times_cons]
      rcases hv with hv | ⟨hv, hv2⟩
      · exact .inl (by omega)
      · exact .inr ⟨by omega, hv2⟩
    | some T' =>
      rw [hw] at hR
      obtain ⟨a1, a2, a3⟩ := wOps_some i _ _ _ hw
      obtain ⟨v, hv⟩ := wAll_none h _ _ hR
      refine ⟨v, ?_⟩
      rw [times_cons]
      rcases hv with hv | ⟨hv, hv2⟩
      · exact .inl (by omega)
      · rcases Nat.eq_zero_or_pos (timesL t.f3 v) with h0 | h0
        · refine .inr ⟨by omega, ?_⟩
          rw [wMark_get] at hv2
          split at hv2
          · rename_i hc
            obtain ⟨o, ho, he⟩ := List.any_eq_true.mp hc
            have := writes_mem ho
            have h2 := timesL_pos this.1 this.2
            simp only [beq_iff_eq] at he
            rw [he] at h2
            omega
          · rw [← a1 v h0]; exact hv2
        · exact .inl (by omega)
theorem wAll_iff (h : List Txn) : (∃ R, wAll 0 [] h = some R) ↔ ∀ v, times h v ≤ 1 := by
  constructor
  · rintro ⟨R, hR⟩
    exact (wAll_some h 0 [] R hR).2.2
  · intro hv
    cases hR : wAll 0 [] h with
    | some R => exact ⟨R, rfl⟩
    | none =>
      obtain ⟨v, h2⟩ := wAll_none h 0 [] hR
      have := hv v
      rcases h2 with h2 | ⟨_, h3⟩
      · omega
      · simp [getB_nil] at h3
theorem getB_unit {s : List (Int × Unit)} {i : Int} : (getB s i).isSome = true ↔ getB s i ≠ none := by cases getB s i <;> simp
theorem pairOk_iff (a b : Txn) : pairOk a b = true ↔ a.f1 ≠ b.f1 ∧ a.f1 ≠ b.f2 ∧ a.f2 ≠ b.f1 ∧ a.f2 ≠ b.f2 ∧ (a.f0 = b.f0 → a.f2 ≤ b.f1) := by
  unfold pairOk
  exact decide_eq_true_iff
theorem stampsL_iff : ∀ (h : List Txn) (s : List (Int × Unit)) (e : List (Int × Int)), (∀ t ∈ h, t.f1 < t.f2) →
    (stampsL s e h = true ↔ (∀ t ∈ h, getB s t.f1 = none ∧ getB s t.f2 = none ∧ ∀ x, getB e t.f0 = some x → x ≤ t.f1) ∧ h.Pairwise fun a b => pairOk a b = true)
  | [], s, e, _ => by simp [stampsL]
  | t :: h, s, e, hm => by
    have ih := stampsL_iff h (putB (putB s t.f1 ()) t.f2 ()) (putB e t.f0 t.f2) (fun u hu => hm u (List.mem_cons_of_mem _ hu))
    have ht := hm t (List.mem_cons_self ..)
    unfold stampsL
    by_cases h1 : (getB s t.f1).isSome = true
    · rw [if_pos h1]
      constructor
      · intro h; cases h
      · intro ⟨h2, _⟩
        exact absurd (h2 t (List.mem_cons_self ..)).1 (getB_unit.mp h1)
    · rw [if_neg h1]
      have h1' : getB s t.f1 = none := by simpa using h1
      have hp2 : getB (putB s t.f1 ()) t.f2 = getB s t.f2 := by rw [getB_put, if_neg (by omega)]
      rw [hp2]
      by_cases h2 : (getB s t.f2).isSome = true
      · rw [if_pos h2]
        constructor
        · intro h; cases h
        · intro ⟨h3, _⟩
          exact absurd (h3 t (List.mem_cons_self ..)).2.1 (getB_unit.mp h2)
      · rw [if_neg h2]
        have h2' : getB s t.f2 = none := by simpa using h2
        by_cases h3 : late e t = true
        · rw [if_pos h3]
          constructor
          · intro h; cases h
          · intro ⟨h4, _⟩
            have h5 := (h4 t (List.mem_cons_self ..)).2.2
            unfold late at h3
            cases hx : getB e t.f0 with
            | none => rw [hx] at h3; cases h3
            | some x =>
              rw [hx] at h3
              have := h5 x hx
              have := of_decide_eq_true h3
              omega
        · rw [if_neg h3, ih, List.pairwise_cons]
          have h3' : ∀ x, getB e t.f0 = some x → x ≤ t.f1 := fun x hx => by
            unfold late at h3
            rw [hx] at h3
            simp only [decide_eq_true_eq] at h3
            omega
          constructor
          · rintro ⟨ha, hp⟩
            refine ⟨fun u hu => ?_, fun u hu => ?_, hp⟩
            · rcases List.mem_cons.mp hu with rfl | hu
              · exact ⟨h1', h2', h3'⟩
              · obtain ⟨a1, a2, a3⟩ := ha u hu
                rw [getB_put, getB_put] at a1 a2
                refine ⟨?_, ?_, fun x hx => ?_⟩
                · split at a1
                  · cases a1
                  · split at a1
                    · cases a1
                    · exact a1
                · split at a2
                  · cases a2
                  · split at a2
                    · cases a2
                    · exact a2
                · by_cases e0 : u.f0 = t.f0
                  · have := a3 t.f2 (by rw [getB_put, if_pos e0])
                    have := h3' x (by rw [← e0]; exact hx)
                    omega
                  · exact a3 x (by rw [getB_put, if_neg e0]; exact hx)
            · obtain ⟨a1, a2, a3⟩ := ha u hu
              rw [getB_put, getB_put] at a1 a2
              rw [pairOk_iff]
              refine ⟨?_, ?_, ?_, ?_, fun e0 => a3 t.f2 (by rw [getB_put, if_pos e0.symm])⟩
              all_goals (intro e0; first | (rw [e0] at a1; simp at a1) | (rw [e0] at a2; simp at a2) | (rw [← e0] at a1; simp at a1) | (rw [← e0] at a2; simp at a2))
          · rintro ⟨ha, hp, hp2⟩
            refine ⟨fun u hu => ?_, hp2⟩
            obtain ⟨b1, b2, b3, b4, b5⟩ := (pairOk_iff _ _).mp (hp u hu)
            obtain ⟨a1, a2, a3⟩ := ha u (List.mem_cons_of_mem _ hu)
            refine ⟨?_, ?_, fun x hx => ?_⟩
            · rw [getB_put, getB_put, if_neg (fun h => b3 h.symm), if_neg (fun h => b1 h.symm)]; exact a1
            · rw [getB_put, getB_put, if_neg (fun h => b4 h.symm), if_neg (fun h => b2 h.symm)]; exact a2
            · rw [getB_put] at hx
              split at hx
              · rename_i e0
                cases hx
                exact b5 e0.symm
              · exact a3 x hx
def readOk (T : TM) (o : Op) : Bool := o.f0 || (o.f2 == 0 || match getB T o.f2 with | none => false | some x => x.2.1 == o.f1)
def checkG (l : List Txn) : Int :=
  if l.length > 64 ∨ count l > 1024 then 3 else if l.all mayTxn = false then 2 else match wAll 0 [] l with
  | none => 2
  | some T => if stampsL [] [] l = false then 2 else if l.all (fun t => t.f3.all (readOk T)) = true then 0 else 2
theorem may_iff (h : List Txn) : may h = true ↔ (∀ t ∈ h, mayTxn t = true) ∧ (h.Pairwise fun a b => pairOk a b = true) ∧ ∀ t ∈ h, ∀ o ∈ t.f3, opOk h o = true := by
  unfold may
  rw [List.all_eq_true]
  have key : ∀ i (hi : i < h.length), txnOk h i = true ↔ mayTxn h[i] = true ∧ (∀ k (hk : k < i), pairOk (h[k]'(Nat.lt_trans hk hi)) h[i] = true) ∧ ∀ o ∈ h[i].f3, opOk h o = true := fun i hi => by
    unfold txnOk
    rw [List.getElem?_eq_getElem hi]
    simp only [Bool.and_eq_true, List.all_eq_true]
    refine and_congr_right fun _ => and_congr ⟨fun hp k hk => ?_, fun hp k hk => ?_⟩ Iff.rfl
    · have := hp k (List.mem_range.mpr hk)
      unfold pairAt at this
      rwa [List.getElem?_eq_getElem (Nat.lt_trans hk hi)] at this
    · unfold pairAt
      rw [List.getElem?_eq_getElem (Nat.lt_trans (List.mem_range.mp hk) hi)]
      exact hp k (List.mem_range.mp hk)
  constructor
  · intro ha
    refine ⟨fun t ht => ?_, ?_, fun t ht => ?_⟩
    · obtain ⟨i, hi, rfl⟩ := List.mem_iff_getElem.mp ht
      exact ((key i hi).mp (ha i (List.mem_range.mpr hi))).1
    · rw [List.pairwise_iff_getElem]
      intro k i hk hi hki
      exact ((key i hi).mp (ha i (List.mem_range.mpr hi))).2.1 k hki
    · obtain ⟨i, hi, rfl⟩ := List.mem_iff_getElem.mp ht
      exact ((key i hi).mp (ha i (List.mem_range.mpr hi))).2.2
  · rintro ⟨h1, h2, h3⟩ i hi
    have hi := List.mem_range.mp hi
    refine (key i hi).mpr ⟨h1 _ (List.getElem_mem hi), fun k hk => ?_, h3 _ (List.getElem_mem hi)⟩
    exact List.pairwise_iff_getElem.mp h2 k i (Nat.lt_trans hk hi) hi hk
theorem mayTxn_get {t : Txn} (h : mayTxn t = true) : (0 ≤ t.f0 ∧ t.f0 ≤ 63 ∧ 0 ≤ t.f1 ∧ t.f1 < t.f2 ∧ t.f2 ≤ 2147483647 ∧ 1 ≤ t.f3.length ∧ t.f3.length ≤ 64) ∧ t.f3.all mayOp = true := by
  unfold mayTxn at h
  rw [Bool.and_eq_true] at h
  exact ⟨of_decide_eq_true h.1, h.2⟩
theorem writer_iff (h : List Txn) (key v : Int) : 0 ≤ writer h key v ↔ ∃ t ∈ h, ∃ o ∈ t.f3, o.f0 = true ∧ o.f1 = key ∧ o.f2 = v := by
  constructor
  · intro hw
    obtain ⟨i, hi, _, ha, _⟩ := writer_some h key v hw
    obtain ⟨o, ho, h2⟩ := List.any_eq_true.mp ha
    refine ⟨h[i], List.getElem_mem hi, o, ho, ?_⟩
    unfold isW at h2
    simpa [and_assoc] using h2
  · rintro ⟨t, ht, o, ho, h1, h2, h3⟩
    rcases Int.lt_or_le (writer h key v) 0 with hn | hn
    · have := writer_none h key v hn t ht
      rw [List.any_eq_false] at this
      exact absurd (by unfold isW; simp [h1, h2, h3]) (this o ho)
    · exact hn
theorem check_is (l : List Txn) : checkG l = check l := by
  unfold checkG check
  by_cases h1 : l.length > 64 ∨ count l > 1024
  · rw [if_pos h1, if_pos h1]
  · rw [if_neg h1, if_neg h1]
    by_cases h2 : l.all mayTxn = true
    · rw [if_neg (by rw [h2]; simp)]
      have hm : ∀ t ∈ l, mayTxn t = true := List.all_eq_true.mp h2
      have hst := stampsL_iff l [] [] (fun t ht => (mayTxn_get (hm t ht)).1.2.2.2.1)
      have hst' : stampsL [] [] l = true ↔ l.Pairwise fun a b => pairOk a b = true := by rw [hst]; simp [getB_nil]
      cases hw : wAll 0 [] l with
      | none =>
        have hn : ¬ may l = true := fun hmay => by
          obtain ⟨_, _, h5⟩ := (may_iff l).mp hmay
          obtain ⟨v, hv⟩ := wAll_none l 0 [] hw
          rcases hv with hv | ⟨_, hv⟩
          · obtain ⟨t, ht, h6⟩ := times_mem (show 1 ≤ times l v by omega)
            obtain ⟨o, ho, hof, rfl⟩ := timesL_mem h6
            have := (of_decide_eq_true (h5 t ht o ho)).1 hof
            omega
          · simp [getB_nil] at hv
        rw [if_neg hn]
      | some T =>
        obtain ⟨w1, w2, w3⟩ := wAll_some l 0 [] T hw
        show (if stampsL [] [] l = false then 2 else if l.all (fun t => t.f3.all (readOk T)) = true then 0 else 2) = _
        by_cases h3 : stampsL [] [] l = true
        · rw [if_neg (by rw [h3]; simp)]
          by_cases h4 : l.all (fun t => t.f3.all (readOk T)) = true
          · rw [if_pos h4, if_pos]
            refine (may_iff l).mpr ⟨hm, hst'.mp h3, fun t ht o ho => ?_⟩
            refine decide_eq_true ⟨fun hof => ?_, fun hof hz => ?_⟩
            · have := times_pos ht (timesL_pos ho hof)
              have := w3 o.f2
              omega
            · have h5 := List.all_eq_true.mp (List.all_eq_true.mp h4 t ht) o ho
              unfold readOk at h5
              rw [hof, Bool.false_or, show (o.f2 == 0) = false from beq_eq_false_iff_ne.mpr hz, Bool.false_or] at h5
              cases hg : getB T o.f2 with
              | none => rw [hg] at h5; cases h5
              | some x =>
                rw [hg] at h5
                have hx : x.2.1 = o.f1 := by simpa using h5
                rcases Nat.eq_zero_or_pos (times l o.f2) with h0 | h0
                · rw [w1 _ h0, getB_nil] at hg; cases hg
                · obtain ⟨u, hu, h6⟩ := times_mem h0
                  obtain ⟨p, hp, hpf, hpv⟩ := timesL_mem h6
                  obtain ⟨j, hj, rfl⟩ := List.mem_iff_getElem.mp hu
                  have h7 := (w2 j hj p hp hpf).1
                  rw [hpv, hg] at h7
                  injection h7 with h7
                  refine (writer_iff l o.f1 o.f2).mpr ⟨_, hu, p, hp, hpf, ?_, hpv⟩
                  rw [← hx, h7]
          · rw [if_neg h4, if_neg]
            intro hmay
            obtain ⟨_, _, h5⟩ := (may_iff l).mp hmay
            refine h4 (List.all_eq_true.mpr fun t ht => List.all_eq_true.mpr fun o ho => ?_)
            unfold readOk
            cases hof : o.f0 with
            | true => rfl
            | false =>
              rw [Bool.false_or]
              by_cases hz : o.f2 = 0
              · rw [show (o.f2 == 0) = true by simpa using hz]; rfl
              · rw [show (o.f2 == 0) = false from beq_eq_false_iff_ne.mpr hz, Bool.false_or]
                obtain ⟨u, hu, p, hp, hpf, hpk, hpv⟩ := (writer_iff l o.f1 o.f2).mp ((of_decide_eq_true (h5 t ht o ho)).2 hof hz)
                obtain ⟨j, hj, rfl⟩ := List.mem_iff_getElem.mp hu
                have h7 := (w2 j hj p hp hpf).1
                rw [hpv] at h7
                rw [h7]
                simpa using hpk
        · rw [if_pos (by simpa using h3), if_neg]
          intro hmay
          exact h3 (hst'.mpr ((may_iff l).mp hmay).2.1)
    · rw [if_pos (by simpa using h2), if_neg]
      intro hmay
      exact h2 (List.all_eq_true.mpr ((may_iff l).mp hmay).1)
end Go.Proofs.Ytfocaefnmfkojaa.R
namespace Go.Proofs.Ytfocaefnmfkojaa.R
open Go.RowKit Go.Proofs.Ytfocaefnmfkojaa.Q Go.Proofs.YtfocaefnmfkojaaW.PrintWords Go.Proofs.YtfocaefnmfkojaaW.PrintLast
set_option linter.unusedVariables false
set_option linter.unusedSimpArgs false
theorem opRight_f (a : Bool) (b c : Int) : op_Right.f a b c = some (mayOp ⟨a, b, c⟩) := by
  unfold op_Right.f
  show _ = some (decide (0 ≤ b ∧ b ≤ 63 ∧ 0 ≤ c ∧ c ≤ 2147483647 ∧ (a = true → c ≠ 0)))
  by_cases h1 : b < 0
  · rw [if_pos h1, decide_eq_false (by omega)]
  · rw [if_neg h1]
    by_cases h2 : b ≥ 64
    · rw [if_pos h2, decide_eq_false (by omega)]
    · rw [if_neg h2]
      by_cases h3 : c < 0
      · rw [if_pos h3, decide_eq_false (by omega)]
      · rw [if_neg h3]
        by_cases h4 : c > 2147483647
        · rw [if_pos h4, decide_eq_false (by omega)]
        · rw [if_neg h4]
          cases a with
          | false => rw [if_neg (by simp), decide_eq_true ⟨by omega, by omega, by omega, by omega, by simp⟩]
          | true =>
            rw [if_pos rfl]
            by_cases h5 : c > 0
            · rw [decide_eq_true h5, decide_eq_true ⟨by omega, by omega, by omega, by omega, fun _ => by omega⟩]
            · rw [decide_eq_false h5, decide_eq_false]
              intro h6
              have := h6.2.2.2.2 rfl
              omega
theorem right_loop (l : List Op) (hl : Few l) : ∀ d i : Nat, i + d = l.length → Ev (fun k => txn_Right.l0 k l (l.length : Int) (i : Int)) ((l.drop i).all mayOp) := by
  intro d
  induction d with
  | zero =>
    intro i hi
    rw [drop_end l i (by omega)]
    refine Ev.step (fun k => by rw [txn_Right.l0]) ?_
    simp only [if_neg (show ¬ (i : Int) < (l.length : Int) by omega)]
    exact Ev.now _
  | succ d ih =>
    intro i hi
    have hlt : i < l.length := by omega
    have h := ih (i + 1) (by omega)
    rw [drop_at l i hlt, List.all_cons]
    refine Ev.step (fun k => by rw [txn_Right.l0]) ?_
    simp only [if_pos (show (i : Int) < (l.length : Int) by omega), if_pos (show 0 ≤ (i : Int) by omega), rdOp l i hlt, wrapN i (by unfold Few at hl; omega), opRight_f, Option.bind_some]
    cases mayOp l[i] with
    | true => simp only [if_true, Bool.true_and]; exact h
    | false => simp only [Bool.false_eq_true, if_false, Bool.false_and]; exact Ev.now _
theorem right_ev (t : Txn) (hl : Few t.f3) : Ev (fun k => txn_Right.f k t.f0 t.f1 t.f2 t.f3) (mayTxn t) := by
  have yes : Ev (fun k => txn_Right.j0 k true t.f0 t.f1 t.f2 t.f3) false := by
    refine Ev.step (fun k => by rw [txn_Right.j0]) ?_
    simp only [if_true]
    exact Ev.now _
  unfold txn_Right.f mayTxn
  by_cases h1 : t.f0 < 0
  · simp only [if_pos h1]; rw [decide_eq_false (by omega), Bool.false_and]; exact yes
  · simp only [if_neg h1]
    by_cases h2 : t.f0 ≥ 64
    · simp only [if_pos h2]; rw [decide_eq_false (by omega), Bool.false_and]; exact yes
    · simp only [if_neg h2]
      by_cases h3 : t.f1 < 0
      · simp only [if_pos h3]; rw [decide_eq_false (by omega), Bool.false_and]; exact yes
      · simp only [if_neg h3]
        by_cases h4 : t.f1 ≥ t.f2
        · simp only [if_pos h4]; rw [decide_eq_false (by omega), Bool.false_and]; exact yes
        · simp only [if_neg h4]
          by_cases h5 : t.f2 > 2147483647
          · simp only [if_pos h5]; rw [decide_eq_false (by omega), Bool.false_and]; exact yes
          · simp only [if_neg h5]
            by_cases h6 : (t.f3.length : Int) < 1
            · simp only [if_pos h6]; rw [decide_eq_false (by omega), Bool.false_and]; exact yes
            · simp only [if_neg h6]
              by_cases h7 : (t.f3.length : Int) > 64
              · simp only [decide_eq_true h7]; rw [decide_eq_false (by omega), Bool.false_and]; exact yes
              · simp only [decide_eq_false h7]
                rw [decide_eq_true ⟨by omega, by omega, by omega, by omega, by omega, by omega, by omega⟩, Bool.true_and]
                refine Ev.step (fun k => by rw [txn_Right.j0]) ?_
                simp only [Bool.false_eq_true, if_false]
                exact right_loop t.f3 hl t.f3.length 0 (by omega)
theorem ops_loop (h : List Txn) (H : FewH h) : ∀ d (i n : Nat), i + d = h.length → n + d * 7000000000000 ≤ 1000000000000000000 → Ev (fun k => history_Ops.l0 k (n : Int) h (h.length : Int) (i : Int)) ((n + count (h.drop i) : Nat) : Int) := by
  intro d
  induction d with
  | zero =>
    intro i n hi hb
    rw [drop_end h i (by omega)]
    refine Ev.step (fun k => by rw [history_Ops.l0]) ?_
    simp only [if_neg (show ¬ (i : Int) < (h.length : Int) by omega)]
    exact Ev.now _
  | succ d ih =>
    intro i n hi hb
    have hlt : i < h.length := by omega
    have hops := H.at i hlt
    refine Ev.step (fun k => by rw [history_Ops.l0]) ?_
    have e : wrap64 ((n : Int) + ((h[i]).f3.length : Int)) = ((n + (h[i]).f3.length : Nat) : Int) := by
      rw [wrapI _ (by omega) (by omega)]
      omega
    simp only [if_pos (show (i : Int) < (h.length : Int) by omega), if_pos (show 0 ≤ (i : Int) by omega), rdTxn h i hlt, wrapN i (by have := H.len; omega), e]
    refine Ev.ofEq (ih (i + 1) _ (by omega) (by omega)) ?_
    rw [drop_at h i hlt]
    simp only [count, List.map_cons, List.sum_cons]
    omega
theorem ops_ev (h : List Txn) (H : FewH h) : Ev (fun k => history_Ops.f k h) (count h : Int) := by
  have := ops_loop h H h.length 0 0 (by omega) (by have := H.len; omega)
  unfold history_Ops.f
  simpa using this
def bigB (h : List Txn) : Bool := decide (h.length > 100 ∨ count h > 1200)
theorem count_drop (h : List Txn) (i : Nat) (hi : i < h.length) : count (h.drop i) = (h[i]).f3.length + count (h.drop (i + 1)) := by
  rw [drop_at h i hi]
  simp only [count, List.map_cons, List.sum_cons]
theorem big_loop (h : List Txn) (hl : h.length ≤ 100) (hs : ∀ t ∈ h, t.f3.length ≤ 4000000000000000000) : ∀ d (i n : Nat), i + d = h.length → n ≤ 1200 → Ev (fun k => burgagelaw06_Big.l0 k (n : Int) h (h.length : Int) (i : Int)) (if n + count (h.drop i) > 1200 then 1 else 0) := by
  intro d
  induction d with
  | zero =>
    intro i n hi hn
    rw [drop_end h i (by omega)]
    refine Ev.step (fun k => by rw [burgagelaw06_Big.l0]) ?_
    simp only [if_neg (show ¬ (i : Int) < (h.length : Int) by omega)]
    rw [if_neg (by simp [count]; omega)]
    exact Ev.now _
  | succ d ih =>
    intro i n hi hn
    have hlt : i < h.length := by omega
    have hops := hs _ (List.getElem_mem hlt)
    refine Ev.step (fun k => by rw [burgagelaw06_Big.l0]) ?_
    have e : wrap64 ((n : Int) + ((h[i]).f3.length : Int)) = ((n + (h[i]).f3.length : Nat) : Int) := by
      rw [wrapI _ (by omega) (by omega)]
      omega
    simp only [if_pos (show (i : Int) < (h.length : Int) by omega), if_pos (show 0 ≤ (i : Int) by omega), rdTxn h i hlt, wrapN i (by omega), e]
    have hc := count_drop h i hlt
    by_cases hb : n + (h[i]).f3.length > 1200
    · simp only [if_pos (show ((n + (h[i]).f3.length : Nat) : Int) > 1200 by omega)]
      rw [if_pos (by omega)]
      exact Ev.now _
    · simp only [if_neg (show ¬ ((n + (h[i]).f3.length : Nat) : Int) > 1200 by omega)]
      refine Ev.ofEq (ih (i + 1) _ (by omega) (by omega)) ?_
      rw [hc, Nat.add_assoc]
theorem big_ev (h : List Txn) (hs : ∀ t ∈ h, t.f3.length ≤ 4000000000000000000) : Ev (fun k => burgagelaw06_Big.f k h) (if bigB h = true then 1 else 0) := by
  unfold burgagelaw06_Big.f bigB
  by_cases h1 : h.length > 100
  · simp only [if_pos (show (h.length : Int) > 100 by omega)]
    rw [if_pos (by simp [h1])]
    exact Ev.now _
  · simp only [if_neg (show ¬ (h.length : Int) > 100 by omega)]
    refine Ev.ofEq (big_loop h (by omega) hs h.length 0 0 (by omega) (by omega)) ?_
    by_cases h2 : count h > 1200
    · rw [if_pos (by simpa using h2), if_pos (by simp [h2])]
    · rw [if_neg (by simpa using h2), if_neg (by simp; omega)]
theorem le_count {h : List Txn} {t : Txn} (ht : t ∈ h) : t.f3.length ≤ count h := by
  induction h with
  | nil => cases ht
  | cons u h ih =>
    simp only [count, List.map_cons, List.sum_cons] at ih ⊢
    rcases List.mem_cons.mp ht with rfl | ht
    · omega
    · have := ih ht; omega
theorem bigB_few {h : List Txn} (hb : bigB h = false) : FewH h ∧ h.length ≤ 100 ∧ count h ≤ 1200 ∧ ∀ t ∈ h, t.f3.length ≤ 1200 := by
  unfold bigB at hb
  have hb := of_decide_eq_false hb
  have h2 : ∀ t ∈ h, t.f3.length ≤ count h := fun t ht => le_count ht
  exact ⟨⟨by omega, fun t ht => by have := h2 t ht; omega⟩, by omega, by omega, fun t ht => by have := h2 t ht; omega⟩
end Go.Proofs.Ytfocaefnmfkojaa.R
namespace Go.Proofs.Ytfocaefnmfkojaa.R
open Go.RowKit Go.Proofs.Ytfocaefnmfkojaa.Q Go.Proofs.YtfocaefnmfkojaaW.PrintWords Go.Proofs.YtfocaefnmfkojaaW.PrintLast
set_option linter.unusedVariables false
set_option linter.unusedSimpArgs false
def wrL (l : List Op) : Nat := l.countP fun o => o.f0
def wrH (h : List Txn) : Nat := (h.map fun t => wrL t.f3).sum
theorem wrL_cons (o : Op) (l : List Op) : wrL (o :: l) = wrL l + if o.f0 = true then 1 else 0 := List.countP_cons ..
theorem wrH_cons (t : Txn) (h : List Txn) : wrH (t :: h) = wrL t.f3 + wrH h := by simp [wrH]
theorem wrL_le (l : List Op) : wrL l ≤ l.length := List.countP_le_length
theorem wrL_drop (l : List Op) (q : Nat) (hq : q < l.length) : wrL (l.drop q) = wrL (l.drop (q + 1)) + if (l[q]).f0 = true then 1 else 0 := by rw [List.drop_eq_getElem_cons hq, wrL_cons]
theorem wrH_drop (h : List Txn) (j : Nat) (hj : j < h.length) : wrH (h.drop j) = wrL (h[j]).f3 + wrH (h.drop (j + 1)) := by rw [List.drop_eq_getElem_cons hj, wrH_cons]
theorem wrH_le : ∀ h : List Txn, wrH h ≤ count h
  | [] => by simp [wrH, count]
  | t :: h => by
    have h1 := wrH_le h
    have h2 := wrL_le t.f3
    rw [wrH_cons]
    unfold count at h1 ⊢
    simp only [List.map_cons, List.sum_cons]
    omega
theorem wOps_size (i : Int) : ∀ (l : List Op) (T T' : TM), wOps i T l = some T' → T'.length = T.length + wrL l
  | [], T, T', h => by cases h; simp [wrL]
  | o :: l, T, T', h => by
    unfold wOps at h
    rw [wrL_cons]
    split at h
    · rename_i hw
      split at h
      · cases h
      · rename_i hs
        rw [wOps_size i l _ _ h, putB_len, if_neg hs, if_pos hw]
        omega
    · rename_i hw
      rw [wOps_size i l _ _ h, if_neg hw]
      omega
theorem wMark_size : ∀ (ws : List Op) (T : TM), (∀ o ∈ ws, (getB T o.f2).isSome = true) → (wMark T ws).length = T.length
  | [], T, _ => rfl
  | o :: ws, T, h => by
    unfold wMark
    have h0 := h o (List.mem_cons_self ..)
    rw [wMark_size ws _ (fun p hp => ?_)]
    · unfold mark
      rw [putB_len, if_pos h0]
    · unfold mark
      rw [getB_put]
      split
      · rfl
      · exact h p (List.mem_cons_of_mem _ hp)
theorem wAll_size : ∀ (h : List Txn) (i : Int) (T R : TM), wAll i T h = some R → R.length = T.length + wrH h
  | [], i, T, R, h => by cases h; simp [wrH]
  | t :: h, i, T, R, hR => by
    unfold wAll at hR
    cases hw : wOps i T t.f3 with
    | none => rw [hw] at hR; cases hR
    | some T' =>
      rw [hw] at hR
      have h1 := wOps_size i _ _ _ hw
      obtain ⟨_, a2, _⟩ := wOps_some i _ _ _ hw
      rw [wAll_size h _ _ _ hR, wMark_size _ _ (fun p hp => ?_), wrH_cons]
      · omega
      · have := writes_mem hp
        rw [(a2 p this.1 this.2).1]
        rfl
theorem once_key : ∀ (l : List Op) (o p : Op), timesL l o.f2 ≤ 1 → o ∈ l → p ∈ l → o.f0 = true → p.f0 = true → p.f2 = o.f2 → p.f1 = o.f1
  | [], o, p, _, ho, _, _, _, _ => by cases ho
  | a :: l, o, p, ht, ho, hp, hof, hpf, hv => by
    rw [timesL_cons] at ht
    rcases List.mem_cons.mp ho with rfl | ho' <;> rcases List.mem_cons.mp hp with rfl | hp'
    · rfl
    · have h3 := timesL_pos hp' hpf
      rw [if_pos ((isV_iff _ _).mpr ⟨hof, rfl⟩)] at ht
      rw [hv] at h3
      exact absurd h3 (by omega)
    · have h3 := timesL_pos ho' hof
      rw [if_pos ((isV_iff _ _).mpr ⟨hpf, hv⟩)] at ht
      exact absurd h3 (by omega)
    · exact once_key l o p (by omega) ho' hp' hof hpf hv
theorem mem_writes {l : List Op} {o : Op} {key : Int} (h0 : 0 ≤ key) (h1 : key < 64) (h : lastW l key = some o) : o ∈ writes l := by
  unfold writes
  rw [List.mem_flatMap]
  refine ⟨key.toNat, by simp [keys64]; omega, ?_⟩
  rw [show ((key.toNat : Nat) : Int) = key by omega, h]
  simp
theorem last_is {l : List Op} {o : Op} (hm : mayOp o = true) (ho : o ∈ l) (hof : o.f0 = true) (h1 : timesL l o.f2 ≤ 1) : ((writes l).any fun p => p.f2 == o.f2) = (value l o.f1 == o.f2) := by
  have hb := mayOp_get hm
  rw [Bool.eq_iff_iff, List.any_eq_true, beq_iff_eq, value_eq _ _ (by omega) (by omega)]
  constructor
  · rintro ⟨p, hp, hv⟩
    rw [beq_iff_eq] at hv
    have hpm := writes_mem hp
    have hk := once_key l o p h1 ho hpm.1 hof hpm.2 hv
    unfold writes at hp
    rw [List.mem_flatMap] at hp
    obtain ⟨key, _, hkey⟩ := hp
    have hlw : lastW l (key : Int) = some p := by
      cases h : lastW l (key : Int) with
      | none => rw [h] at hkey; simp at hkey
      | some q => rw [h] at hkey; simp at hkey; rw [hkey]
    have hkk := (lastW_key _ _ _ hlw).2.1
    rw [hk] at hkk
    rw [hkk, hlw]
    exact hv
  · intro h
    cases hl : lastW l o.f1 with
    | none =>
      rw [hl] at h
      have := hb.2.2.2.2 hof
      exact absurd h.symm this
    | some p =>
      rw [hl] at h
      exact ⟨p, mem_writes (by omega) (by omega) hl, by simpa using h⟩
theorem check_zero {l : List Txn} (h : check l = 0) : l.length ≤ 64 ∧ count l ≤ 1024 ∧ (∀ t ∈ l, mayTxn t = true) ∧ ∃ T, wAll 0 [] l = some T := by
  unfold check at h
  split at h
  · cases h
  · rename_i h1
    split at h
    · rename_i h2
      obtain ⟨a1, a2, a3⟩ := (may_iff l).mp h2
      refine ⟨by omega, by omega, a1, (wAll_iff l).mpr fun v => ?_⟩
      rcases Nat.eq_zero_or_pos (times l v) with h0 | h0
      · omega
      · obtain ⟨t, ht, h6⟩ := times_mem h0
        obtain ⟨o, ho, hof, rfl⟩ := timesL_mem h6
        have := (of_decide_eq_true (a3 t ht o ho)).1 hof
        omega
    · cases h
theorem check_okH {l : List Txn} (h : check l = 0) : okH l = true := by
  obtain ⟨h1, h2, h3, _⟩ := check_zero h
  unfold okH
  rw [Bool.and_eq_true]
  refine ⟨decide_eq_true (by omega), List.all_eq_true.mpr fun t ht => ?_⟩
  have := mayTxn_get (h3 t ht)
  unfold okT
  rw [this.2]
  simp
  omega
theorem timesL_le : ∀ {h : List Txn} {t : Txn}, t ∈ h → ∀ v, timesL t.f3 v ≤ times h v
  | u :: h, t, ht, v => by
    rw [times_cons]
    rcases List.mem_cons.mp ht with rfl | ht
    · omega
    · have := timesL_le ht v
      omega
theorem check_get {l : List Txn} {T : TM} (h : check l = 0) (hT : wAll 0 [] l = some T) {j q : Nat} (hj : j < l.length) (hq : q < (l[j]).f3.length) (hw : ((l[j]).f3[q]).f0 = true) :
    getB T ((l[j]).f3[q]).f2 = some ((j : Int), ((l[j]).f3[q]).f1, value (l[j]).f3 ((l[j]).f3[q]).f1 == ((l[j]).f3[q]).f2) := by
  obtain ⟨_, w2, w3⟩ := wAll_some l 0 [] T hT
  have hm := List.all_eq_true.mp (mayTxn_get ((check_zero h).2.2.1 _ (List.getElem_mem hj))).2 _ (List.getElem_mem hq)
  have h1 : timesL (l[j]).f3 ((l[j]).f3[q]).f2 ≤ 1 := by
    have : timesL (l[j]).f3 ((l[j]).f3[q]).f2 ≤ times l ((l[j]).f3[q]).f2 := by
      exact timesL_le (List.getElem_mem hj) _
    have := w3 ((l[j]).f3[q]).f2
    omega
  rw [(w2 j hj _ (List.getElem_mem hq) hw).1, last_is hm (List.getElem_mem hq) hw h1, Int.zero_add]
end Go.Proofs.Ytfocaefnmfkojaa.R
namespace Go.Proofs.Ytfocaefnmfkojaa.H
open Go.RowKit
set_option linter.unusedVariables false
set_option linter.unusedSimpArgs false
section
variable {P : Program} {w0 w : World} {ops : Array Oper} {rest : List Oper} {o : Oper} {a : Act} {Q : Exit → Act → World → Prop} {L : List Asn} {i fuel : Nat} {listed : Array Bool}
def HG (P : Program) (ops : Array Oper) (Q : Exit → Act → World → Prop) (w0 : World) (L : List Asn) (i : Nat) (rest : List Oper) (fuel : Nat) (listed : Array Bool) (a : Act) (w : World) : Prop :=
  ops.toList.drop i = rest → wpAnyH P .any ops Q (fun x => SH w0 x L) fuel listed a w
theorem hd_start {l : List Oper} {id : Nat} (hm : P.follows .mixedOrders = true) (HS : SH w0 w L)
    (h : ∀ w1, SH w0 w1 L → HG P l.toArray Q w0 L 0 l l.length (Array.replicate l.length false) a w1) : (Code.region id l.toArray true).wp P Q a w :=
  wp_region_held (S := fun x => SH w0 x L) hm (h _ (HS.keep (Below.drew (Below.refl _ _))) rfl)
theorem hd_at (h : ops.toList.drop i = o :: rest) : ops[i]? = some o ∧ ops.toList.drop (i + 1) = rest := by
  have h1 : ops.toList[i]? = some o := by rw [← List.head?_drop, h]; rfl
  refine ⟨by rw [← h1]; simp, ?_⟩
  rw [← List.drop_drop, h]
  rfl
theorem hd_take {v : Value} (HS : SH w0 w L) (hs : Region.noSelect ops = true) (hf : Region.free .any ops listed i = true) (hr : (Region.ready .any ops listed).contains i = true)
    (hQ : ∀ c a w, Q (.panic c) (a.put o.dst v) w → Q (.panic c) a w) (hw : Region.wanted o (yielded ops a.tmps) = true) (hrun : ∀ x, SH w0 x L → (execOp a.eval o).run P x = .ok (.value v) x)
    (h : HG P ops Q w0 L (i + 1) rest fuel (listed.setIfInBounds i true) (a.put o.dst v) w) : HG P ops Q w0 L i (o :: rest) (fuel + 1) listed a w := fun hd =>
  wpAnyH_take (hd_at hd).1 hs hf hr hQ (.inl ⟨hw, hrun⟩) HS (h (hd_at hd).2)
theorem hd_pure (HS : SH w0 w L) (hs : Region.noSelect ops = true) (hf : Region.free .any ops listed i = true) (hr : (Region.ready .any ops listed).contains i = true)
    (hQ : ∀ c a w v, Q (.panic c) (a.put o.dst v) w → Q (.panic c) a w) (hw : Region.wanted o (yielded ops a.tmps) = true) {v : Value} (hrun : ∀ x, (execOp a.eval o).run P x = .ok (.value v) x)
    (h : HG P ops Q w0 L (i + 1) rest fuel (listed.setIfInBounds i true) (a.put o.dst v) w) : HG P ops Q w0 L i (o :: rest) (fuel + 1) listed a w :=
  hd_take HS hs hf hr (fun c a w => hQ c a w v) hw (fun x _ => hrun x) h
theorem hd_loadb (HS : SH w0 w L) (hs : Region.noSelect ops = true) (hf : Region.free .any ops listed i = true) (hr : (Region.ready .any ops listed).contains i = true)
    (hQ : ∀ c a w v, Q (.panic c) (a.put o.dst v) w → Q (.panic c) a w) (hw : Region.wanted o (yielded ops a.tmps) = true)
    {ty : TypeId} {x : Operand} (ho : o.op = .load ty x) {g j : Nat} (hx : a.eval x = .pointer (some ⟨g, j, none⟩)) {d : TypeDesc} (hu : P.underlying ty = some d) (hd : d.isRow = false) {t : TypeId} {cs : Array Value} (hat : At (bk g t cs) (bk g t cs) L L) {v : Value} (hv : cs[j]? = some v)
    (h : HG P ops Q w0 L (i + 1) rest fuel (listed.setIfInBounds i true) (a.put o.dst v) w) : HG P ops Q w0 L i (o :: rest) (fuel + 1) listed a w :=
  hd_take HS hs hf hr (fun c a w => hQ c a w v) hw (fun y hy => by
    unfold execOp
    simp only [ho, hx, Instr.loadAt, Instr.sureAddr, Sem.run_bind, Sem.run_pure, Result.andThen_ok, run_load1 hu hd ((hy.cell hat j).trans hv)]) h
theorem hd_loadw (HS : SH w0 w L) (hs : Region.noSelect ops = true) (hf : Region.free .any ops listed i = true) (hr : (Region.ready .any ops listed).contains i = true)
    (hQ : ∀ c a w v, Q (.panic c) (a.put o.dst v) w → Q (.panic c) a w) (hw : Region.wanted o (yielded ops a.tmps) = true)
    {ty : TypeId} {x : Operand} (ho : o.op = .load ty x) {g : Nat} (hx : a.eval x = .pointer (some ⟨g, 0, none⟩)) {d : TypeDesc} (hu : P.underlying ty = some d) (hd : d.isRow = true) {t : TypeId} {cs : Array Value} (hat : At (bk g t cs) (bk g t cs) L L) (hi : (P.info? ty).map (·.size) = some cs.size)
    (h : HG P ops Q w0 L (i + 1) rest fuel (listed.setIfInBounds i true) (a.put o.dst (.agg cs)) w) : HG P ops Q w0 L i (o :: rest) (fuel + 1) listed a w :=
  hd_take HS hs hf hr (fun c a w => hQ c a w (.agg cs)) hw (fun y hy => by
    unfold execOp
    simp only [ho, hx, Instr.loadAt, Instr.sureAddr, Sem.run_bind, Sem.run_pure, Result.andThen_ok]
    rw [run_loads hu hd (cs := cs.toList) (fun q v hv => by rw [add_at', hy.cell hat, Nat.zero_add]; simpa using hv) (by simpa using hi)]
    simp) h
theorem hd_mget (HS : SH w0 w L) (hs : Region.noSelect ops = true) (hf : Region.free .any ops listed i = true) (hr : (Region.ready .any ops listed).contains i = true)
    (hQ : ∀ c a w v, Q (.panic c) (a.put o.dst v) w → Q (.panic c) a w) (hw : Region.wanted o (yielded ops a.tmps) = true)
    {m x : Operand} {t : TypeId} (hop : o.op = Op.lookup t m x false) {k e : TypeId} (hk : P.underlying k = some (.int .i64)) (ht : P.underlying t = some (.map k e)) {z : Value} (hz : ∀ w, (zeroValue e).run P w = .ok z w)
    {b : Nat} (hm : a.eval m = .map (some b)) {q : Int} (hx : a.eval x = .int .i64 q) {l : List (Int × Value)} (hat : At (mp P k b l) (mp P k b l) L L) (hi : I64 q) {v : Value} (hv : (getL l q).getD z = v)
    (h : HG P ops Q w0 L (i + 1) rest fuel (listed.setIfInBounds i true) (a.put o.dst v) w) : HG P ops Q w0 L i (o :: rest) (fuel + 1) listed a w :=
  hd_take HS hs hf hr (fun c a w => hQ c a w v) hw (fun y hy => by
    subst hv
    unfold execOp
    simp only [hop, hm, hx]
    simp [((hy.im hat).look hk ht (hz y) hi).2]) h
theorem hd_call (HS : SH w0 w L) (hr : Region.ready .any ops listed = [i]) (hw : Region.wanted o (yielded ops a.tmps) = true) {f : FuncId} {args : Array Value} (hrun : (execOp a.eval o).run P w = .ok (.enter f args) w)
    (h : Calls P f args w fun e w1 => ∃ v, e = .returned v ∧ SH w0 w1 L ∧ HG P ops Q w0 L (i + 1) rest fuel (listed.setIfInBounds i true) (a.put o.dst v) w1) : HG P ops Q w0 L i (o :: rest) (fuel + 1) listed a w := fun hd => by
  refine wpAnyH_all hr (by simp) fun j hj => ?_
  obtain rfl : j = i := by simpa using hj
  unfold wpOp
  simp only [(hd_at hd).1, hw, if_true]
  refine .inl ?_
  unfold Oper.wp
  rw [hrun]
  refine Calls.mono h ?_
  rintro e w1 ⟨v, rfl, hS, hG⟩
  exact ⟨hS, hG (hd_at hd).2⟩
theorem hd_done (hr : Region.ready .any ops listed = []) (h : Q .normal a w) : HG P ops Q w0 L i [] fuel listed a w := fun _ => wpAnyH_done hr h _
end
end Go.Proofs.Ytfocaefnmfkojaa.H
namespace Go.Proofs.Ytfocaefnmfkojaa.Q
set_option maxRecDepth 10000
theorem zv3 (w : World) : (zeroValue 3).run Try.prog w = .ok (.int .i64 0) w := by kernel_rfl
theorem sz3 : (Try.prog.info? 3).map (·.size) = some 1 := by kernel_rfl
theorem sz4 : (Try.prog.info? 4).map (·.size) = some 1 := by kernel_rfl
theorem sz36 : (Try.prog.info? 36).map (·.size) = some 1 := by kernel_rfl
theorem zv130 (w : World) : (zeroValue 130).run Try.prog w = .ok (.agg #[]) w := by kernel_rfl
theorem sz130 : (Try.prog.info? 130).map (·.size) = some 0 := by kernel_rfl
theorem zv46 (w : World) : (zeroValue 46).run Try.prog w = .ok (.agg #[.bool false, .int .i64 0, .int .i64 0]) w := by kernel_rfl
theorem sz46 : (Try.prog.info? 46).map (·.size) = some 3 := by kernel_rfl
theorem zv44 (w : World) : (zeroValue 44).run Try.prog w = .ok (.agg #[.int .i64 0, .int .i64 0, .int .i64 0, .slice none 0 0]) w := by kernel_rfl
theorem sz44 : (Try.prog.info? 44).map (·.size) = some 4 := by kernel_rfl
theorem zv48 (w : World) : (zeroValue 48).run Try.prog w = .ok (.agg #[.int .i64 0, .int .i64 0, .bool false]) w := by kernel_rfl
theorem sz48 : (Try.prog.info? 48).map (·.size) = some 3 := by kernel_rfl
theorem sz42 : (Try.prog.info? 42).map (·.size) = some 1 := by kernel_rfl
theorem sz23 : (Try.prog.info? 23).map (·.size) = some 1 := by kernel_rfl
theorem sz50 : (Try.prog.info? 50).map (·.size) = some 1 := by kernel_rfl
theorem sz128 : (Try.prog.info? 128).map (·.size) = some 1 := by kernel_rfl
theorem sz133 : (Try.prog.info? 133).map (·.size) = some 1 := by kernel_rfl
theorem sz39 : (Try.prog.info? 39).map (·.size) = some 1 := by kernel_rfl
end Go.Proofs.Ytfocaefnmfkojaa.Q
namespace Go.Proofs.Ytfocaefnmfkojaa.Q
open Go.RowKit Go.Proofs.YtfocaefnmfkojaaW.PrintWords Go.Proofs.YtfocaefnmfkojaaW.PrintLast Go.Proofs.YtfocaefnmfkojaaW.PrintMore
open Go.Proofs.Ytfocaefnmfkojaa
set_option linter.unusedVariables false
set_option linter.unusedSimpArgs false
def okOps (l : List S46) : Bool := R.keysOk l && decide (l.length ≤ 1000000000000)
theorem okOps_get {l : List S46} (h : okOps l = true) : R.keysOk l = true ∧ l.length ≤ 1000000000000 := by
  unfold okOps at h
  simpa using h
theorem guard_some {α : Type} {c : Bool} {x r : α} (h : (if c = true then some x else none) = some r) : c = true ∧ x = r := by
  by_cases hc : c = true
  · rw [if_pos hc] at h; exact ⟨hc, Option.some.inj h⟩
  · rw [if_neg hc] at h; cases h
def txn_Steady.f (a b c : Int) (l : List S46) : Option Bool := if okOps l = true then some (R.steady l) else none
set_option maxHeartbeats 4000000 in
set_option maxRecDepth 100000 in
theorem txn_Steady.calls (a0_0 : Int) (a0_1 : Int) (a0_2 : Int) (A0_3 : Option Addr) (c0_3 : Nat) (l0_3 : List (S46)) (r : Bool) (w : World) (hr0_3 : Kd.C k46 w A0_3 l0_3.length l0_3) (hc0_3 : l0_3.length ≤ c0_3) (h : txn_Steady.f a0_0 a0_1 a0_2 l0_3 = some r) :
    Calls Try.prog 97 #[.agg #[.int .i64 a0_0, .int .i64 a0_1, .int .i64 a0_2, .slice A0_3 l0_3.length c0_3]] w fun e w' => e = .returned (.bool r) ∧ Below w.heap.size w w' := by
  have hu44 := Try.underlying44
  have hu46 := Try.underlying46
  have HR := Aside0.mk hr0_3
  obtain ⟨hg, hr⟩ := guard_some h
  have HE := Aside0.mk hr
  have HO := Aside0.mk (okOps_get hg).1
  have hlen := (okOps_get hg).2
  clear h hg hr hr0_3 hc0_3
  have HS := Aside0.mk (H.SH.start w)
  go_enter Try.func97, Try.ntmps97
  go_wp2_with (first
    | (skip; (with_reducible refine H.gate_box rfl ?_); refine' H.ev_boxv HS.out ?q9hw (t := 44) ?q9ho ?q9hx ?q9hc ?_; (case q9hw => rfl); (case q9ho => rfl); (case q9hx => rfl); (case q9hc => rfl); intro b1 w_ hs; clear HS; have HS := Aside0.mk hs; clear hs)
    | (skip; (with_reducible refine H.gate_mk rfl ?_); refine' H.ev_mmake HS.out ?q9hw 50 3 ?q9ho ?_; (case q9hw => rfl); (case q9ho => rfl); intro w_ m hs; clear HS; have HS := Aside0.mk hs; clear hs)
    | ((with_reducible refine H.gate_load rfl ?_); first | (refine' H.ev_loadb HS.out ?q9hw ?q9ho ?q9hx ?q9hu ?q9hd ?q9hat ?q9hv ?_; (case q9hw => rfl); (case q9ho => rfl); (case q9hx => rfl); (case q9hu => first | exact Try.underlying3 | exact Try.underlying4 | exact Try.underlying42 | exact Try.underlying46 | exact Try.underlying44 | exact Try.underlying130 | exact Try.underlying128 | exact Try.underlying50 | exact Try.underlying133); (case q9hd => rfl); (case q9hat => first | exact .here | exact .there .here | exact .there (.there .here) | exact .there (.there (.there .here)) | exact .there (.there (.there (.there .here))) | exact .there (.there (.there (.there (.there .here))))); (case q9hv => rfl)) | (refine' H.ev_loadw HS.out ?q9hw ?q9ho ?q9hx ?q9hu ?q9hd ?q9hat ?q9hi ?_; (case q9hw => rfl); (case q9ho => rfl); (case q9hx => rfl); (case q9hu => first | exact Try.underlying3 | exact Try.underlying4 | exact Try.underlying42 | exact Try.underlying46 | exact Try.underlying44 | exact Try.underlying130 | exact Try.underlying128 | exact Try.underlying50 | exact Try.underlying133); (case q9hd => rfl); (case q9hat => first | exact .here | exact .there .here | exact .there (.there .here) | exact .there (.there (.there .here)) | exact .there (.there (.there (.there .here))) | exact .there (.there (.there (.there (.there .here))))); (case q9hi => first | exact sz3 | exact sz4 | exact sz42 | exact sz46 | exact sz44 | exact sz130 | exact sz128 | exact sz50 | exact sz133)))
    )
  go_loopg [12] l0_3.length (fun g i wr => ∃ j : Nat, i = .int .i64 (j : Int) ∧ Aside0 (g + j = l0_3.length) ∧ Aside0 (H.SH w wr [H.mp Try.prog 3 m (R.lastM l0_3 j)]) ∧ Aside0 (∀ i, i < j → R.steadyAt l0_3 i = true))
  case atStart => exact ⟨0, rfl, ⟨rfl⟩, ⟨HS.out.sub (by repeat (first | exact List.Sublist.slnil | refine List.Sublist.cons_cons _ ?_ | refine List.Sublist.cons _ ?_))⟩, ⟨fun i hi => absurd hi (Nat.not_lt_zero i)⟩⟩
  case round =>
    obtain ⟨j, rfl, HG, HS, HI⟩ := hrel
    by_cases hj : j < l0_3.length
    · have hjb : decide ((j : Int) < (l0_3.length : Int)) = true := decide_eq_true (by omega)
      have hk := R.I64_key (R.keysOk_at HO.out j hj)
      have HGet := Aside0.mk (R.lastM_get l0_3 (l0_3[j]).f1 j (by omega))
      have HF := Aside0.mk (R.steadyAt_eq l0_3 j hj)
      have hl' := R.lastM_len l0_3 j (by omega)
      cases hp : R.prev l0_3 j (l0_3[j]).f1 with
      | none =>
        rw [hp] at HGet HF
        clear hp
        go_wp2_with (first
          | (skip; (with_reducible refine H.gate_idx rfl ?_); refine' H.ev_idx (Kd.C_below HR.out HS.out.below) ?q9hw ?q9ho ?q9hx ?q9hix Try.underlying42 sz46 hj ?_; (case q9hw => rfl); (case q9ho => rfl); (case q9hx => rfl); (case q9hix => rfl); intro p1 cs1 hK1 hp1; obtain rfl := k46_open hK1; skip; have HP1 := Aside0.mk hp1; clear hp1 hK1)
          | ((with_reducible refine H.gate_load rfl ?_); first | (refine' H.ev_loadb HS.out ?q9hw ?q9ho ?q9hx ?q9hu ?q9hd ?q9hat ?q9hv ?_; (case q9hw => rfl); (case q9ho => rfl); (case q9hx => rfl); (case q9hu => first | exact Try.underlying3 | exact Try.underlying4 | exact Try.underlying42 | exact Try.underlying46 | exact Try.underlying44 | exact Try.underlying130 | exact Try.underlying128 | exact Try.underlying50 | exact Try.underlying133); (case q9hd => rfl); (case q9hat => first | exact .here | exact .there .here | exact .there (.there .here) | exact .there (.there (.there .here)) | exact .there (.there (.there (.there .here))) | exact .there (.there (.there (.there (.there .here))))); (case q9hv => rfl)) | (refine' H.ev_loadw HS.out ?q9hw ?q9ho ?q9hx ?q9hu ?q9hd ?q9hat ?q9hi ?_; (case q9hw => rfl); (case q9ho => rfl); (case q9hx => rfl); (case q9hu => first | exact Try.underlying3 | exact Try.underlying4 | exact Try.underlying42 | exact Try.underlying46 | exact Try.underlying44 | exact Try.underlying130 | exact Try.underlying128 | exact Try.underlying50 | exact Try.underlying133); (case q9hd => rfl); (case q9hat => first | exact .here | exact .there .here | exact .there (.there .here) | exact .there (.there (.there .here)) | exact .there (.there (.there (.there .here))) | exact .there (.there (.there (.there (.there .here))))); (case q9hi => first | exact sz3 | exact sz4 | exact sz42 | exact sz46 | exact sz44 | exact sz130 | exact sz128 | exact sz50 | exact sz133)) | (refine' H.ev_loadr ?q9hw ?q9ho ?q9hx ?q9hu ?q9hd HP1.out ?q9hi ?q9hcs ?_; (case q9hw => rfl); (case q9ho => rfl); (case q9hx => rfl); (case q9hu => first | exact Try.underlying3 | exact Try.underlying4 | exact Try.underlying42 | exact Try.underlying46 | exact Try.underlying44 | exact Try.underlying130 | exact Try.underlying128 | exact Try.underlying50 | exact Try.underlying133); (case q9hd => rfl); (case q9hi => first | exact sz3 | exact sz4 | exact sz42 | exact sz46 | exact sz44 | exact sz130 | exact sz128 | exact sz50 | exact sz133); (case q9hcs => rfl)) | (refine' H.ev_load0 ?q9hw ?q9ho ?q9hx ?q9hu ?q9hd HP1.out ?_; (case q9hw => rfl); (case q9ho => rfl); (case q9hx => rfl); (case q9hu => first | exact Try.underlying3 | exact Try.underlying4 | exact Try.underlying42 | exact Try.underlying46 | exact Try.underlying44 | exact Try.underlying130 | exact Try.underlying128 | exact Try.underlying50 | exact Try.underlying133); (case q9hd => rfl)))
          | (skip; (with_reducible refine H.gate_alloc rfl ?_); refine' H.ev_alloc HS.out ?q9hw (t := 46) ?q9ho (zv46 _) ?q9hc ?_; (case q9hw => rfl); (case q9ho => rfl); (case q9hc => (try simp only [Value.cells]); rfl); intro b6 w_ hs; clear HS; have HS := Aside0.mk hs; clear hs)
          | ((with_reducible refine H.gate_sto rfl ?_); first | (refine' H.ev_store HS.out ?q9hw ?q9ho ?q9hx ?q9hy ?q9hv ?q9hi ?q9hat ?q9hlt ?q9hcs ?_; (case q9hw => rfl); (case q9ho => rfl); (case q9hx => rfl); (case q9hy => rfl); (case q9hv => rfl); (case q9hi => first | exact sz3 | exact sz4 | exact sz42 | exact sz46 | exact sz44 | exact sz130 | exact sz128 | exact sz50 | exact sz133); (case q9hat => first | exact .here | exact .there .here | exact .there (.there .here) | exact .there (.there (.there .here)) | exact .there (.there (.there (.there .here))) | exact .there (.there (.there (.there (.there .here))))); (case q9hlt => first | exact Nat.le_of_ble_eq_true rfl | (simp; done) | (simp; omega)); (case q9hcs => (try simp only [Value.cells, List.setIfInBounds_toArray, List.set_cons_zero, List.set_cons_succ, Nat.zero_add, Nat.reduceAdd]); rfl); intro w_ hs; clear HS; have HS := Aside0.mk hs; clear hs) | (refine' H.ev_stores HS.out ?q9hw ?q9ho ?q9hx ?q9hy ?q9hv ?q9hi ?q9hat ?q9hlt ?q9hcs ?_; (case q9hw => rfl); (case q9ho => rfl); (case q9hx => rfl); (case q9hy => rfl); (case q9hv => simp [Value.oneCell']); (case q9hi => first | exact sz3 | exact sz4 | exact sz42 | exact sz46 | exact sz44 | exact sz130 | exact sz128 | exact sz50 | exact sz133); (case q9hat => first | exact .here | exact .there .here | exact .there (.there .here) | exact .there (.there (.there .here)) | exact .there (.there (.there (.there .here))) | exact .there (.there (.there (.there (.there .here))))); (case q9hlt => first | exact Nat.le_of_ble_eq_true rfl | (simp; done) | (simp; omega)); (case q9hcs => (try simp only [H.setAll, Value.cells, List.setIfInBounds_toArray, List.set_cons_zero, List.set_cons_succ, Nat.zero_add, Nat.reduceAdd]); rfl); intro w_ hs; clear HS; have HS := Aside0.mk hs; clear hs))
          | (at_lookup; skip; refine' H.ev_mok HS.out (v := .int .i64 0) (s := false) ?q9hw ?q9ho Try.underlying3 Try.underlying50 (zv3 _) ?q9hm ?q9hx ?q9hat hk ?q9hv ?q9hs ?_; (case q9hw => rfl); (case q9ho => rfl); (case q9hm => rfl); (case q9hx => rfl); (case q9hat => first | exact .here | exact .there .here | exact .there (.there .here) | exact .there (.there (.there .here)) | exact .there (.there (.there (.there .here))) | exact .there (.there (.there (.there (.there .here))))); (case q9hv => rw [HGet.out]; rfl); (case q9hs => rw [HGet.out]; rfl))
          | (at_mapUpdate; first | (refine' H.ev_mput HS.out ?q9hw ?q9ho Try.underlying3 Try.underlying50 ?q9hm ?q9hx ?q9hv (R.lastM_succ l0_3 j hj).symm ?q9hat hk (by unfold maxLen; omega) ?_; (case q9hw => rfl); (case q9ho => rfl); (case q9hm => rfl); (case q9hx => rfl); (case q9hv => rfl); (case q9hat => first | exact .here | exact .there .here | exact .there (.there .here) | exact .there (.there (.there .here)) | exact .there (.there (.there (.there .here))) | exact .there (.there (.there (.there (.there .here))))); intro w_ hs; clear HS; have HS := Aside0.mk hs; clear hs))
          )
        go_roundg (l0_3.length - (j + 1))
        case measure => have := HG.out; omega
        case rel => exact ⟨j + 1, by first | go_num | (simp; omega), ⟨by have := HG.out; omega⟩, ⟨HS.out.sub (by repeat (first | exact List.Sublist.slnil | refine List.Sublist.cons_cons _ ?_ | refine List.Sublist.cons _ ?_))⟩, ⟨R.steady_round l0_3 j hj HI.out HF.out⟩⟩
      | some p =>
        rw [hp] at HGet HF
        clear hp
        cases hw : (l0_3[j]).f0 with
        | true =>
          rw [hw] at HF
          go_wp2_with (first
            | (skip; (with_reducible refine H.gate_idx rfl ?_); refine' H.ev_idx (Kd.C_below HR.out HS.out.below) ?q9hw ?q9ho ?q9hx ?q9hix Try.underlying42 sz46 hj ?_; (case q9hw => rfl); (case q9ho => rfl); (case q9hx => rfl); (case q9hix => rfl); intro p1 cs1 hK1 hp1; obtain rfl := k46_open hK1; skip; have HP1 := Aside0.mk hp1; clear hp1 hK1)
            | ((with_reducible refine H.gate_load rfl ?_); first | (refine' H.ev_loadb HS.out ?q9hw ?q9ho ?q9hx ?q9hu ?q9hd ?q9hat ?q9hv ?_; (case q9hw => rfl); (case q9ho => rfl); (case q9hx => rfl); (case q9hu => first | exact Try.underlying3 | exact Try.underlying4 | exact Try.underlying42 | exact Try.underlying46 | exact Try.underlying44 | exact Try.underlying130 | exact Try.underlying128 | exact Try.underlying50 | exact Try.underlying133); (case q9hd => rfl); (case q9hat => first | exact .here | exact .there .here | exact .there (.there .here) | exact .there (.there (.there .here)) | exact .there (.there (.there (.there .here))) | exact .there (.there (.there (.there (.there .here))))); (case q9hv => rfl)) | (refine' H.ev_loadw HS.out ?q9hw ?q9ho ?q9hx ?q9hu ?q9hd ?q9hat ?q9hi ?_; (case q9hw => rfl); (case q9ho => rfl); (case q9hx => rfl); (case q9hu => first | exact Try.underlying3 | exact Try.underlying4 | exact Try.underlying42 | exact Try.underlying46 | exact Try.underlying44 | exact Try.underlying130 | exact Try.underlying128 | exact Try.underlying50 | exact Try.underlying133); (case q9hd => rfl); (case q9hat => first | exact .here | exact .there .here | exact .there (.there .here) | exact .there (.there (.there .here)) | exact .there (.there (.there (.there .here))) | exact .there (.there (.there (.there (.there .here))))); (case q9hi => first | exact sz3 | exact sz4 | exact sz42 | exact sz46 | exact sz44 | exact sz130 | exact sz128 | exact sz50 | exact sz133)) | (refine' H.ev_loadr ?q9hw ?q9ho ?q9hx ?q9hu ?q9hd HP1.out ?q9hi ?q9hcs ?_; (case q9hw => rfl); (case q9ho => rfl); (case q9hx => rfl); (case q9hu => first | exact Try.underlying3 | exact Try.underlying4 | exact Try.underlying42 | exact Try.underlying46 | exact Try.underlying44 | exact Try.underlying130 | exact Try.underlying128 | exact Try.underlying50 | exact Try.underlying133); (case q9hd => rfl); (case q9hi => first | exact sz3 | exact sz4 | exact sz42 | exact sz46 | exact sz44 | exact sz130 | exact sz128 | exact sz50 | exact sz133); (case q9hcs => rfl)) | (refine' H.ev_load0 ?q9hw ?q9ho ?q9hx ?q9hu ?q9hd HP1.out ?_; (case q9hw => rfl); (case q9ho => rfl); (case q9hx => rfl); (case q9hu => first | exact Try.underlying3 | exact Try.underlying4 | exact Try.underlying42 | exact Try.underlying46 | exact Try.underlying44 | exact Try.underlying130 | exact Try.underlying128 | exact Try.underlying50 | exact Try.underlying133); (case q9hd => rfl)))
            | (skip; (with_reducible refine H.gate_alloc rfl ?_); refine' H.ev_alloc HS.out ?q9hw (t := 46) ?q9ho (zv46 _) ?q9hc ?_; (case q9hw => rfl); (case q9ho => rfl); (case q9hc => (try simp only [Value.cells]); rfl); intro b6 w_ hs; clear HS; have HS := Aside0.mk hs; clear hs)
            | ((with_reducible refine H.gate_sto rfl ?_); first | (refine' H.ev_store HS.out ?q9hw ?q9ho ?q9hx ?q9hy ?q9hv ?q9hi ?q9hat ?q9hlt ?q9hcs ?_; (case q9hw => rfl); (case q9ho => rfl); (case q9hx => rfl); (case q9hy => rfl); (case q9hv => rfl); (case q9hi => first | exact sz3 | exact sz4 | exact sz42 | exact sz46 | exact sz44 | exact sz130 | exact sz128 | exact sz50 | exact sz133); (case q9hat => first | exact .here | exact .there .here | exact .there (.there .here) | exact .there (.there (.there .here)) | exact .there (.there (.there (.there .here))) | exact .there (.there (.there (.there (.there .here))))); (case q9hlt => first | exact Nat.le_of_ble_eq_true rfl | (simp; done) | (simp; omega)); (case q9hcs => (try simp only [Value.cells, List.setIfInBounds_toArray, List.set_cons_zero, List.set_cons_succ, Nat.zero_add, Nat.reduceAdd]); rfl); intro w_ hs; clear HS; have HS := Aside0.mk hs; clear hs) | (refine' H.ev_stores HS.out ?q9hw ?q9ho ?q9hx ?q9hy ?q9hv ?q9hi ?q9hat ?q9hlt ?q9hcs ?_; (case q9hw => rfl); (case q9ho => rfl); (case q9hx => rfl); (case q9hy => rfl); (case q9hv => simp [Value.oneCell']); (case q9hi => first | exact sz3 | exact sz4 | exact sz42 | exact sz46 | exact sz44 | exact sz130 | exact sz128 | exact sz50 | exact sz133); (case q9hat => first | exact .here | exact .there .here | exact .there (.there .here) | exact .there (.there (.there .here)) | exact .there (.there (.there (.there .here))) | exact .there (.there (.there (.there (.there .here))))); (case q9hlt => first | exact Nat.le_of_ble_eq_true rfl | (simp; done) | (simp; omega)); (case q9hcs => (try simp only [H.setAll, Value.cells, List.setIfInBounds_toArray, List.set_cons_zero, List.set_cons_succ, Nat.zero_add, Nat.reduceAdd]); rfl); intro w_ hs; clear HS; have HS := Aside0.mk hs; clear hs))
            | (at_lookup; skip; refine' H.ev_mok HS.out (v := .int .i64 p.f2) (s := true) ?q9hw ?q9ho Try.underlying3 Try.underlying50 (zv3 _) ?q9hm ?q9hx ?q9hat hk ?q9hv ?q9hs ?_; (case q9hw => rfl); (case q9ho => rfl); (case q9hm => rfl); (case q9hx => rfl); (case q9hat => first | exact .here | exact .there .here | exact .there (.there .here) | exact .there (.there (.there .here)) | exact .there (.there (.there (.there .here))) | exact .there (.there (.there (.there (.there .here))))); (case q9hv => rw [HGet.out]; rfl); (case q9hs => rw [HGet.out]; rfl))
            | (at_mapUpdate; first | (refine' H.ev_mput HS.out ?q9hw ?q9ho Try.underlying3 Try.underlying50 ?q9hm ?q9hx ?q9hv (R.lastM_succ l0_3 j hj).symm ?q9hat hk (by unfold maxLen; omega) ?_; (case q9hw => rfl); (case q9ho => rfl); (case q9hm => rfl); (case q9hx => rfl); (case q9hv => rfl); (case q9hat => first | exact .here | exact .there .here | exact .there (.there .here) | exact .there (.there (.there .here)) | exact .there (.there (.there (.there .here))) | exact .there (.there (.there (.there (.there .here))))); intro w_ hs; clear HS; have HS := Aside0.mk hs; clear hs))
            )
          go_roundg (l0_3.length - (j + 1))
          case measure => have := HG.out; omega
          case rel => exact ⟨j + 1, by first | go_num | (simp; omega), ⟨by have := HG.out; omega⟩, ⟨HS.out.sub (by repeat (first | exact List.Sublist.slnil | refine List.Sublist.cons_cons _ ?_ | refine List.Sublist.cons _ ?_))⟩, ⟨R.steady_round l0_3 j hj HI.out HF.out⟩⟩
        | false =>
          have HF : Aside0 (R.steadyAt l0_3 j = (p.f2 == (l0_3[j]).f2)) := ⟨by rw [HF.out, hw]; rfl⟩
          by_cases hv : p.f2 = (l0_3[j]).f2
          · have hv1 : (p.f2 != (l0_3[j]).f2) = false := bne_eq_false_iff_eq.mpr hv
            have HV := Aside0.mk hv
            clear hv
            go_wp2_with (first
              | (skip; (with_reducible refine H.gate_idx rfl ?_); refine' H.ev_idx (Kd.C_below HR.out HS.out.below) ?q9hw ?q9ho ?q9hx ?q9hix Try.underlying42 sz46 hj ?_; (case q9hw => rfl); (case q9ho => rfl); (case q9hx => rfl); (case q9hix => rfl); intro p1 cs1 hK1 hp1; obtain rfl := k46_open hK1; skip; have HP1 := Aside0.mk hp1; clear hp1 hK1)
              | ((with_reducible refine H.gate_load rfl ?_); first | (refine' H.ev_loadb HS.out ?q9hw ?q9ho ?q9hx ?q9hu ?q9hd ?q9hat ?q9hv ?_; (case q9hw => rfl); (case q9ho => rfl); (case q9hx => rfl); (case q9hu => first | exact Try.underlying3 | exact Try.underlying4 | exact Try.underlying42 | exact Try.underlying46 | exact Try.underlying44 | exact Try.underlying130 | exact Try.underlying128 | exact Try.underlying50 | exact Try.underlying133); (case q9hd => rfl); (case q9hat => first | exact .here | exact .there .here | exact .there (.there .here) | exact .there (.there (.there .here)) | exact .there (.there (.there (.there .here))) | exact .there (.there (.there (.there (.there .here))))); (case q9hv => rfl)) | (refine' H.ev_loadw HS.out ?q9hw ?q9ho ?q9hx ?q9hu ?q9hd ?q9hat ?q9hi ?_; (case q9hw => rfl); (case q9ho => rfl); (case q9hx => rfl); (case q9hu => first | exact Try.underlying3 | exact Try.underlying4 | exact Try.underlying42 | exact Try.underlying46 | exact Try.underlying44 | exact Try.underlying130 | exact Try.underlying128 | exact Try.underlying50 | exact Try.underlying133); (case q9hd => rfl); (case q9hat => first | exact .here | exact .there .here | exact .there (.there .here) | exact .there (.there (.there .here)) | exact .there (.there (.there (.there .here))) | exact .there (.there (.there (.there (.there .here))))); (case q9hi => first | exact sz3 | exact sz4 | exact sz42 | exact sz46 | exact sz44 | exact sz130 | exact sz128 | exact sz50 | exact sz133)) | (refine' H.ev_loadr ?q9hw ?q9ho ?q9hx ?q9hu ?q9hd HP1.out ?q9hi ?q9hcs ?_; (case q9hw => rfl); (case q9ho => rfl); (case q9hx => rfl); (case q9hu => first | exact Try.underlying3 | exact Try.underlying4 | exact Try.underlying42 | exact Try.underlying46 | exact Try.underlying44 | exact Try.underlying130 | exact Try.underlying128 | exact Try.underlying50 | exact Try.underlying133); (case q9hd => rfl); (case q9hi => first | exact sz3 | exact sz4 | exact sz42 | exact sz46 | exact sz44 | exact sz130 | exact sz128 | exact sz50 | exact sz133); (case q9hcs => rfl)) | (refine' H.ev_load0 ?q9hw ?q9ho ?q9hx ?q9hu ?q9hd HP1.out ?_; (case q9hw => rfl); (case q9ho => rfl); (case q9hx => rfl); (case q9hu => first | exact Try.underlying3 | exact Try.underlying4 | exact Try.underlying42 | exact Try.underlying46 | exact Try.underlying44 | exact Try.underlying130 | exact Try.underlying128 | exact Try.underlying50 | exact Try.underlying133); (case q9hd => rfl)))
              | (skip; (with_reducible refine H.gate_alloc rfl ?_); refine' H.ev_alloc HS.out ?q9hw (t := 46) ?q9ho (zv46 _) ?q9hc ?_; (case q9hw => rfl); (case q9ho => rfl); (case q9hc => (try simp only [Value.cells]); rfl); intro b6 w_ hs; clear HS; have HS := Aside0.mk hs; clear hs)
              | ((with_reducible refine H.gate_sto rfl ?_); first | (refine' H.ev_store HS.out ?q9hw ?q9ho ?q9hx ?q9hy ?q9hv ?q9hi ?q9hat ?q9hlt ?q9hcs ?_; (case q9hw => rfl); (case q9ho => rfl); (case q9hx => rfl); (case q9hy => rfl); (case q9hv => rfl); (case q9hi => first | exact sz3 | exact sz4 | exact sz42 | exact sz46 | exact sz44 | exact sz130 | exact sz128 | exact sz50 | exact sz133); (case q9hat => first | exact .here | exact .there .here | exact .there (.there .here) | exact .there (.there (.there .here)) | exact .there (.there (.there (.there .here))) | exact .there (.there (.there (.there (.there .here))))); (case q9hlt => first | exact Nat.le_of_ble_eq_true rfl | (simp; done) | (simp; omega)); (case q9hcs => (try simp only [Value.cells, List.setIfInBounds_toArray, List.set_cons_zero, List.set_cons_succ, Nat.zero_add, Nat.reduceAdd]); rfl); intro w_ hs; clear HS; have HS := Aside0.mk hs; clear hs) | (refine' H.ev_stores HS.out ?q9hw ?q9ho ?q9hx ?q9hy ?q9hv ?q9hi ?q9hat ?q9hlt ?q9hcs ?_; (case q9hw => rfl); (case q9ho => rfl); (case q9hx => rfl); (case q9hy => rfl); (case q9hv => simp [Value.oneCell']); (case q9hi => first | exact sz3 | exact sz4 | exact sz42 | exact sz46 | exact sz44 | exact sz130 | exact sz128 | exact sz50 | exact sz133); (case q9hat => first | exact .here | exact .there .here | exact .there (.there .here) | exact .there (.there (.there .here)) | exact .there (.there (.there (.there .here))) | exact .there (.there (.there (.there (.there .here))))); (case q9hlt => first | exact Nat.le_of_ble_eq_true rfl | (simp; done) | (simp; omega)); (case q9hcs => (try simp only [H.setAll, Value.cells, List.setIfInBounds_toArray, List.set_cons_zero, List.set_cons_succ, Nat.zero_add, Nat.reduceAdd]); rfl); intro w_ hs; clear HS; have HS := Aside0.mk hs; clear hs))
              | (at_lookup; skip; refine' H.ev_mok HS.out (v := .int .i64 p.f2) (s := true) ?q9hw ?q9ho Try.underlying3 Try.underlying50 (zv3 _) ?q9hm ?q9hx ?q9hat hk ?q9hv ?q9hs ?_; (case q9hw => rfl); (case q9ho => rfl); (case q9hm => rfl); (case q9hx => rfl); (case q9hat => first | exact .here | exact .there .here | exact .there (.there .here) | exact .there (.there (.there .here)) | exact .there (.there (.there (.there .here))) | exact .there (.there (.there (.there (.there .here))))); (case q9hv => rw [HGet.out]; rfl); (case q9hs => rw [HGet.out]; rfl))
              | (at_mapUpdate; first | (refine' H.ev_mput HS.out ?q9hw ?q9ho Try.underlying3 Try.underlying50 ?q9hm ?q9hx ?q9hv (R.lastM_succ l0_3 j hj).symm ?q9hat hk (by unfold maxLen; omega) ?_; (case q9hw => rfl); (case q9ho => rfl); (case q9hm => rfl); (case q9hx => rfl); (case q9hv => rfl); (case q9hat => first | exact .here | exact .there .here | exact .there (.there .here) | exact .there (.there (.there .here)) | exact .there (.there (.there (.there .here))) | exact .there (.there (.there (.there (.there .here))))); intro w_ hs; clear HS; have HS := Aside0.mk hs; clear hs))
              )
            go_roundg (l0_3.length - (j + 1))
            case measure => have := HG.out; omega
            case rel => exact ⟨j + 1, by first | go_num | (simp; omega), ⟨by have := HG.out; omega⟩, ⟨HS.out.sub (by repeat (first | exact List.Sublist.slnil | refine List.Sublist.cons_cons _ ?_ | refine List.Sublist.cons _ ?_))⟩, ⟨R.steady_round l0_3 j hj HI.out (HF.out.trans (beq_iff_eq.mpr HV.out))⟩⟩
          · have hv1 : (p.f2 != (l0_3[j]).f2) = true := bne_iff_ne.mpr hv
            have HV := Aside0.mk hv
            clear hv
            go_wp2_with (first
              | (skip; (with_reducible refine H.gate_idx rfl ?_); refine' H.ev_idx (Kd.C_below HR.out HS.out.below) ?q9hw ?q9ho ?q9hx ?q9hix Try.underlying42 sz46 hj ?_; (case q9hw => rfl); (case q9ho => rfl); (case q9hx => rfl); (case q9hix => rfl); intro p1 cs1 hK1 hp1; obtain rfl := k46_open hK1; skip; have HP1 := Aside0.mk hp1; clear hp1 hK1)
              | ((with_reducible refine H.gate_load rfl ?_); first | (refine' H.ev_loadb HS.out ?q9hw ?q9ho ?q9hx ?q9hu ?q9hd ?q9hat ?q9hv ?_; (case q9hw => rfl); (case q9ho => rfl); (case q9hx => rfl); (case q9hu => first | exact Try.underlying3 | exact Try.underlying4 | exact Try.underlying42 | exact Try.underlying46 | exact Try.underlying44 | exact Try.underlying130 | exact Try.underlying128 | exact Try.underlying50 | exact Try.underlying133); (case q9hd => rfl); (case q9hat => first | exact .here | exact .there .here | exact .there (.there .here) | exact .there (.there (.there .here)) | exact .there (.there (.there (.there .here))) | exact .there (.there (.there (.there (.there .here))))); (case q9hv => rfl)) | (refine' H.ev_loadw HS.out ?q9hw ?q9ho ?q9hx ?q9hu ?q9hd ?q9hat ?q9hi ?_; (case q9hw => rfl); (case q9ho => rfl); (case q9hx => rfl); (case q9hu => first | exact Try.underlying3 | exact Try.underlying4 | exact Try.underlying42 | exact Try.underlying46 | exact Try.underlying44 | exact Try.underlying130 | exact Try.underlying128 | exact Try.underlying50 | exact Try.underlying133); (case q9hd => rfl); (case q9hat => first | exact .here | exact .there .here | exact .there (.there .here) | exact .there (.there (.there .here)) | exact .there (.there (.there (.there .here))) | exact .there (.there (.there (.there (.there .here))))); (case q9hi => first | exact sz3 | exact sz4 | exact sz42 | exact sz46 | exact sz44 | exact sz130 | exact sz128 | exact sz50 | exact sz133)) | (refine' H.ev_loadr ?q9hw ?q9ho ?q9hx ?q9hu ?q9hd HP1.out ?q9hi ?q9hcs ?_; (case q9hw => rfl); (case q9ho => rfl); (case q9hx => rfl); (case q9hu => first | exact Try.underlying3 | exact Try.underlying4 | exact Try.underlying42 | exact Try.underlying46 | exact Try.underlying44 | exact Try.underlying130 | exact Try.underlying128 | exact Try.underlying50 | exact Try.underlying133); (case q9hd => rfl); (case q9hi => first | exact sz3 | exact sz4 | exact sz42 | exact sz46 | exact sz44 | exact sz130 | exact sz128 | exact sz50 | exact sz133); (case q9hcs => rfl)) | (refine' H.ev_load0 ?q9hw ?q9ho ?q9hx ?q9hu ?q9hd HP1.out ?_; (case q9hw => rfl); (case q9ho => rfl); (case q9hx => rfl); (case q9hu => first | exact Try.underlying3 | exact Try.underlying4 | exact Try.underlying42 | exact Try.underlying46 | exact Try.underlying44 | exact Try.underlying130 | exact Try.underlying128 | exact Try.underlying50 | exact Try.underlying133); (case q9hd => rfl)))
              | (skip; (with_reducible refine H.gate_alloc rfl ?_); refine' H.ev_alloc HS.out ?q9hw (t := 46) ?q9ho (zv46 _) ?q9hc ?_; (case q9hw => rfl); (case q9ho => rfl); (case q9hc => (try simp only [Value.cells]); rfl); intro b6 w_ hs; clear HS; have HS := Aside0.mk hs; clear hs)
              | ((with_reducible refine H.gate_sto rfl ?_); first | (refine' H.ev_store HS.out ?q9hw ?q9ho ?q9hx ?q9hy ?q9hv ?q9hi ?q9hat ?q9hlt ?q9hcs ?_; (case q9hw => rfl); (case q9ho => rfl); (case q9hx => rfl); (case q9hy => rfl); (case q9hv => rfl); (case q9hi => first | exact sz3 | exact sz4 | exact sz42 | exact sz46 | exact sz44 | exact sz130 | exact sz128 | exact sz50 | exact sz133); (case q9hat => first | exact .here | exact .there .here | exact .there (.there .here) | exact .there (.there (.there .here)) | exact .there (.there (.there (.there .here))) | exact .there (.there (.there (.there (.there .here))))); (case q9hlt => first | exact Nat.le_of_ble_eq_true rfl | (simp; done) | (simp; omega)); (case q9hcs => (try simp only [Value.cells, List.setIfInBounds_toArray, List.set_cons_zero, List.set_cons_succ, Nat.zero_add, Nat.reduceAdd]); rfl); intro w_ hs; clear HS; have HS := Aside0.mk hs; clear hs) | (refine' H.ev_stores HS.out ?q9hw ?q9ho ?q9hx ?q9hy ?q9hv ?q9hi ?q9hat ?q9hlt ?q9hcs ?_; (case q9hw => rfl); (case q9ho => rfl); (case q9hx => rfl); (case q9hy => rfl); (case q9hv => simp [Value.oneCell']); (case q9hi => first | exact sz3 | exact sz4 | exact sz42 | exact sz46 | exact sz44 | exact sz130 | exact sz128 | exact sz50 | exact sz133); (case q9hat => first | exact .here | exact .there .here | exact .there (.there .here) | exact .there (.there (.there .here)) | exact .there (.there (.there (.there .here))) | exact .there (.there (.there (.there (.there .here))))); (case q9hlt => first | exact Nat.le_of_ble_eq_true rfl | (simp; done) | (simp; omega)); (case q9hcs => (try simp only [H.setAll, Value.cells, List.setIfInBounds_toArray, List.set_cons_zero, List.set_cons_succ, Nat.zero_add, Nat.reduceAdd]); rfl); intro w_ hs; clear HS; have HS := Aside0.mk hs; clear hs))
              | (at_lookup; skip; refine' H.ev_mok HS.out (v := .int .i64 p.f2) (s := true) ?q9hw ?q9ho Try.underlying3 Try.underlying50 (zv3 _) ?q9hm ?q9hx ?q9hat hk ?q9hv ?q9hs ?_; (case q9hw => rfl); (case q9ho => rfl); (case q9hm => rfl); (case q9hx => rfl); (case q9hat => first | exact .here | exact .there .here | exact .there (.there .here) | exact .there (.there (.there .here)) | exact .there (.there (.there (.there .here))) | exact .there (.there (.there (.there (.there .here))))); (case q9hv => rw [HGet.out]; rfl); (case q9hs => rw [HGet.out]; rfl))
              )
            go_ret
            exact ⟨by rw [← HE.out, R.steady_not l0_3 j hj (HF.out.trans (beq_eq_false_iff_ne.mpr HV.out))]; rfl, HS.out.below⟩
    · have hjb : decide ((j : Int) < (l0_3.length : Int)) = false := decide_eq_false (by omega)
      obtain rfl : j = l0_3.length := by have := HG.out; omega
      go_wp2
      go_ret
      exact ⟨by rw [← HE.out, R.steady_all l0_3 HI.out]; rfl, HS.out.below⟩
def txn_Reads.f (a b c : Int) (l : List S46) : Option (List S46) := if okOps l = true then some (R.reads l) else none
set_option maxHeartbeats 4000000 in
set_option maxRecDepth 100000 in
theorem txn_Reads.calls (a0_0 : Int) (a0_1 : Int) (a0_2 : Int) (A0_3 : Option Addr) (c0_3 : Nat) (l0_3 : List (S46)) (r : List S46) (w : World) (hr0_3 : Kd.C k46 w A0_3 l0_3.length l0_3) (hc0_3 : l0_3.length ≤ c0_3) (h : txn_Reads.f a0_0 a0_1 a0_2 l0_3 = some r) :
    Calls Try.prog 98 #[.agg #[.int .i64 a0_0, .int .i64 a0_1, .int .i64 a0_2, .slice A0_3 l0_3.length c0_3]] w fun e w' => ∃ v0_ : Value, e = .returned (v0_) ∧ Kd.R k46 46 w' w.heap.size (fun _ => True) v0_ r ∧ Below w.heap.size w w' := by
  have hu44 := Try.underlying44
  have hu46 := Try.underlying46
  have HR := Aside0.mk hr0_3
  obtain ⟨hg, hr⟩ := guard_some h
  have HE := Aside0.mk hr
  have HO := Aside0.mk (okOps_get hg).1
  have hlen := (okOps_get hg).2
  clear h hg hr hr0_3 hc0_3
  have HS := Aside0.mk (H.SH.start w)
  go_enter Try.func98, Try.ntmps98
  go_wp2_with (first
    | (skip; (with_reducible refine H.gate_box rfl ?_); refine' H.ev_boxv HS.out ?q9hw (t := 44) ?q9ho ?q9hx ?q9hc ?_; (case q9hw => rfl); (case q9ho => rfl); (case q9hx => rfl); (case q9hc => rfl); intro b1 w_ hs; clear HS; have HS := Aside0.mk hs; clear hs)
    | (skip; (with_reducible refine H.gate_mk rfl ?_); refine' H.ev_mmake HS.out ?q9hw 128 3 ?q9ho ?_; (case q9hw => rfl); (case q9ho => rfl); intro w_ m hs; clear HS; have HS := Aside0.mk hs; clear hs)
    | ((with_reducible refine H.gate_load rfl ?_); first | (refine' H.ev_loadb HS.out ?q9hw ?q9ho ?q9hx ?q9hu ?q9hd ?q9hat ?q9hv ?_; (case q9hw => rfl); (case q9ho => rfl); (case q9hx => rfl); (case q9hu => first | exact Try.underlying3 | exact Try.underlying4 | exact Try.underlying42 | exact Try.underlying46 | exact Try.underlying44 | exact Try.underlying130 | exact Try.underlying128 | exact Try.underlying50 | exact Try.underlying133); (case q9hd => rfl); (case q9hat => first | exact .here | exact .there .here | exact .there (.there .here) | exact .there (.there (.there .here)) | exact .there (.there (.there (.there .here))) | exact .there (.there (.there (.there (.there .here))))); (case q9hv => rfl)) | (refine' H.ev_loadw HS.out ?q9hw ?q9ho ?q9hx ?q9hu ?q9hd ?q9hat ?q9hi ?_; (case q9hw => rfl); (case q9ho => rfl); (case q9hx => rfl); (case q9hu => first | exact Try.underlying3 | exact Try.underlying4 | exact Try.underlying42 | exact Try.underlying46 | exact Try.underlying44 | exact Try.underlying130 | exact Try.underlying128 | exact Try.underlying50 | exact Try.underlying133); (case q9hd => rfl); (case q9hat => first | exact .here | exact .there .here | exact .there (.there .here) | exact .there (.there (.there .here)) | exact .there (.there (.there (.there .here))) | exact .there (.there (.there (.there (.there .here))))); (case q9hi => first | exact sz3 | exact sz4 | exact sz42 | exact sz46 | exact sz44 | exact sz130 | exact sz128 | exact sz50 | exact sz133)))
    )
  go_loopg [4, 13] l0_3.length (fun g v i wr => ∃ j : Nat, i = .int .i64 (j : Int) ∧ Aside0 (g + j = l0_3.length) ∧ Aside0 (H.SH w wr [H.rw' w.heap.size k46 46 v (R.firstsG l0_3 j), H.mp Try.prog 3 m (R.seenM l0_3 j)]))
  case atStart => exact ⟨0, rfl, ⟨rfl⟩, ⟨H.SH.nilrow _ _ (HS.out.sub (by repeat (first | exact List.Sublist.slnil | refine List.Sublist.cons_cons _ ?_ | refine List.Sublist.cons _ ?_)))⟩⟩
  case round =>
    obtain ⟨j, rfl, HG, HS⟩ := hrel
    by_cases hj : j < l0_3.length
    · have hjb : decide ((j : Int) < (l0_3.length : Int)) = true := decide_eq_true (by omega)
      have hk := R.I64_key (R.keysOk_at HO.out j hj)
      have HGet := Aside0.mk (R.seenM_get l0_3 (l0_3[j]).f1 j (by omega))
      have HF := Aside0.mk (R.firstG_eq l0_3 j hj)
      have hl' := R.seenM_len l0_3 j (by omega)
      have hl2 := R.firstsG_len l0_3 j
      cases hp : R.prev l0_3 j (l0_3[j]).f1 with
      | some p =>
        rw [hp] at HGet HF
        clear hp
        go_wp2_with (first
          | (skip; (with_reducible refine H.gate_idx rfl ?_); refine' H.ev_idx (Kd.C_below HR.out HS.out.below) ?q9hw ?q9ho ?q9hx ?q9hix Try.underlying42 sz46 hj ?_; (case q9hw => rfl); (case q9ho => rfl); (case q9hx => rfl); (case q9hix => rfl); intro p1 cs1 hK1 hp1; obtain rfl := k46_open hK1; skip; have HP1 := Aside0.mk hp1; clear hp1 hK1)
          | ((with_reducible refine H.gate_load rfl ?_); first | (refine' H.ev_loadb HS.out ?q9hw ?q9ho ?q9hx ?q9hu ?q9hd ?q9hat ?q9hv ?_; (case q9hw => rfl); (case q9ho => rfl); (case q9hx => rfl); (case q9hu => first | exact Try.underlying3 | exact Try.underlying4 | exact Try.underlying42 | exact Try.underlying46 | exact Try.underlying44 | exact Try.underlying130 | exact Try.underlying128 | exact Try.underlying50 | exact Try.underlying133); (case q9hd => rfl); (case q9hat => first | exact .here | exact .there .here | exact .there (.there .here) | exact .there (.there (.there .here)) | exact .there (.there (.there (.there .here))) | exact .there (.there (.there (.there (.there .here))))); (case q9hv => rfl)) | (refine' H.ev_loadw HS.out ?q9hw ?q9ho ?q9hx ?q9hu ?q9hd ?q9hat ?q9hi ?_; (case q9hw => rfl); (case q9ho => rfl); (case q9hx => rfl); (case q9hu => first | exact Try.underlying3 | exact Try.underlying4 | exact Try.underlying42 | exact Try.underlying46 | exact Try.underlying44 | exact Try.underlying130 | exact Try.underlying128 | exact Try.underlying50 | exact Try.underlying133); (case q9hd => rfl); (case q9hat => first | exact .here | exact .there .here | exact .there (.there .here) | exact .there (.there (.there .here)) | exact .there (.there (.there (.there .here))) | exact .there (.there (.there (.there (.there .here))))); (case q9hi => first | exact sz3 | exact sz4 | exact sz42 | exact sz46 | exact sz44 | exact sz130 | exact sz128 | exact sz50 | exact sz133)) | (refine' H.ev_loadr ?q9hw ?q9ho ?q9hx ?q9hu ?q9hd HP1.out ?q9hi ?q9hcs ?_; (case q9hw => rfl); (case q9ho => rfl); (case q9hx => rfl); (case q9hu => first | exact Try.underlying3 | exact Try.underlying4 | exact Try.underlying42 | exact Try.underlying46 | exact Try.underlying44 | exact Try.underlying130 | exact Try.underlying128 | exact Try.underlying50 | exact Try.underlying133); (case q9hd => rfl); (case q9hi => first | exact sz3 | exact sz4 | exact sz42 | exact sz46 | exact sz44 | exact sz130 | exact sz128 | exact sz50 | exact sz133); (case q9hcs => rfl)) | (refine' H.ev_load0 ?q9hw ?q9ho ?q9hx ?q9hu ?q9hd HP1.out ?_; (case q9hw => rfl); (case q9ho => rfl); (case q9hx => rfl); (case q9hu => first | exact Try.underlying3 | exact Try.underlying4 | exact Try.underlying42 | exact Try.underlying46 | exact Try.underlying44 | exact Try.underlying130 | exact Try.underlying128 | exact Try.underlying50 | exact Try.underlying133); (case q9hd => rfl)))
          | (skip; (with_reducible refine H.gate_alloc rfl ?_); refine' H.ev_alloc HS.out ?q9hw (t := 46) ?q9ho (zv46 _) ?q9hc ?_; (case q9hw => rfl); (case q9ho => rfl); (case q9hc => (try simp only [Value.cells]); rfl); intro b6 w_ hs; clear HS; have HS := Aside0.mk hs; clear hs)
          | ((with_reducible refine H.gate_sto rfl ?_); first | (refine' H.ev_store HS.out ?q9hw ?q9ho ?q9hx ?q9hy ?q9hv ?q9hi ?q9hat ?q9hlt ?q9hcs ?_; (case q9hw => rfl); (case q9ho => rfl); (case q9hx => rfl); (case q9hy => rfl); (case q9hv => rfl); (case q9hi => first | exact sz3 | exact sz4 | exact sz42 | exact sz46 | exact sz44 | exact sz130 | exact sz128 | exact sz50 | exact sz133); (case q9hat => first | exact .here | exact .there .here | exact .there (.there .here) | exact .there (.there (.there .here)) | exact .there (.there (.there (.there .here))) | exact .there (.there (.there (.there (.there .here))))); (case q9hlt => first | exact Nat.le_of_ble_eq_true rfl | (simp; done) | (simp; omega)); (case q9hcs => (try simp only [Value.cells, List.setIfInBounds_toArray, List.set_cons_zero, List.set_cons_succ, Nat.zero_add, Nat.reduceAdd]); rfl); intro w_ hs; clear HS; have HS := Aside0.mk hs; clear hs) | (refine' H.ev_stores HS.out ?q9hw ?q9ho ?q9hx ?q9hy ?q9hv ?q9hi ?q9hat ?q9hlt ?q9hcs ?_; (case q9hw => rfl); (case q9ho => rfl); (case q9hx => rfl); (case q9hy => rfl); (case q9hv => simp [Value.oneCell']); (case q9hi => first | exact sz3 | exact sz4 | exact sz42 | exact sz46 | exact sz44 | exact sz130 | exact sz128 | exact sz50 | exact sz133); (case q9hat => first | exact .here | exact .there .here | exact .there (.there .here) | exact .there (.there (.there .here)) | exact .there (.there (.there (.there .here))) | exact .there (.there (.there (.there (.there .here))))); (case q9hlt => first | exact Nat.le_of_ble_eq_true rfl | (simp; done) | (simp; omega)); (case q9hcs => (try simp only [H.setAll, Value.cells, List.setIfInBounds_toArray, List.set_cons_zero, List.set_cons_succ, Nat.zero_add, Nat.reduceAdd]); rfl); intro w_ hs; clear HS; have HS := Aside0.mk hs; clear hs))
          | (at_lookup; skip; refine' H.ev_mok HS.out (v := .agg #[]) (s := true) ?q9hw ?q9ho Try.underlying3 Try.underlying128 (zv130 _) ?q9hm ?q9hx ?q9hat hk ?q9hv ?q9hs ?_; (case q9hw => rfl); (case q9ho => rfl); (case q9hm => rfl); (case q9hx => rfl); (case q9hat => first | exact .here | exact .there .here | exact .there (.there .here) | exact .there (.there (.there .here)) | exact .there (.there (.there (.there .here))) | exact .there (.there (.there (.there (.there .here))))); (case q9hv => rw [HGet.out]; rfl); (case q9hs => rw [HGet.out]; rfl))
          | (skip; (with_reducible refine H.gate_alloc rfl ?_); refine' H.ev_alloc HS.out ?q9hw (t := 130) ?q9ho (zv130 _) ?q9hc ?_; (case q9hw => rfl); (case q9ho => rfl); (case q9hc => (try simp only [Value.cells]); rfl); intro b7 w_ hs; clear HS; have HS := Aside0.mk hs; clear hs)
          | (at_mapUpdate; first | (refine' H.ev_mput HS.out ?q9hw ?q9ho Try.underlying3 Try.underlying128 ?q9hm ?q9hx ?q9hv (R.seenM_succ l0_3 j hj).symm ?q9hat hk (by unfold maxLen; omega) ?_; (case q9hw => rfl); (case q9ho => rfl); (case q9hm => rfl); (case q9hx => rfl); (case q9hv => rfl); (case q9hat => first | exact .here | exact .there .here | exact .there (.there .here) | exact .there (.there (.there .here)) | exact .there (.there (.there (.there .here))) | exact .there (.there (.there (.there (.there .here))))); intro w_ hs; clear HS; have HS := Aside0.mk hs; clear hs))
          )
        go_roundg (l0_3.length - (j + 1))
        case measure => have := HG.out; omega
        case rel => exact ⟨j + 1, by first | go_num | (simp; omega), ⟨by have := HG.out; omega⟩, ⟨by rw [R.firstsG_succ, HF.out]; simp only [Option.isNone_some, Bool.false_and, Bool.false_eq_true, if_false, List.append_nil]; exact HS.out.sub (by repeat (first | exact List.Sublist.slnil | refine List.Sublist.cons_cons _ ?_ | refine List.Sublist.cons _ ?_))⟩⟩
      | none =>
        rw [hp] at HGet HF
        clear hp
        cases hw : (l0_3[j]).f0 with
        | true =>
          go_wp2_with (first
            | (skip; (with_reducible refine H.gate_idx rfl ?_); refine' H.ev_idx (Kd.C_below HR.out HS.out.below) ?q9hw ?q9ho ?q9hx ?q9hix Try.underlying42 sz46 hj ?_; (case q9hw => rfl); (case q9ho => rfl); (case q9hx => rfl); (case q9hix => rfl); intro p1 cs1 hK1 hp1; obtain rfl := k46_open hK1; skip; have HP1 := Aside0.mk hp1; clear hp1 hK1)
            | ((with_reducible refine H.gate_load rfl ?_); first | (refine' H.ev_loadb HS.out ?q9hw ?q9ho ?q9hx ?q9hu ?q9hd ?q9hat ?q9hv ?_; (case q9hw => rfl); (case q9ho => rfl); (case q9hx => rfl); (case q9hu => first | exact Try.underlying3 | exact Try.underlying4 | exact Try.underlying42 | exact Try.underlying46 | exact Try.underlying44 | exact Try.underlying130 | exact Try.underlying128 | exact Try.underlying50 | exact Try.underlying133); (case q9hd => rfl); (case q9hat => first | exact .here | exact .there .here | exact .there (.there .here) | exact .there (.there (.there .here)) | exact .there (.there (.there (.there .here))) | exact .there (.there (.there (.there (.there .here))))); (case q9hv => rfl)) | (refine' H.ev_loadw HS.out ?q9hw ?q9ho ?q9hx ?q9hu ?q9hd ?q9hat ?q9hi ?_; (case q9hw => rfl); (case q9ho => rfl); (case q9hx => rfl); (case q9hu => first | exact Try.underlying3 | exact Try.underlying4 | exact Try.underlying42 | exact Try.underlying46 | exact Try.underlying44 | exact Try.underlying130 | exact Try.underlying128 | exact Try.underlying50 | exact Try.underlying133); (case q9hd => rfl); (case q9hat => first | exact .here | exact .there .here | exact .there (.there .here) | exact .there (.there (.there .here)) | exact .there (.there (.there (.there .here))) | exact .there (.there (.there (.there (.there .here))))); (case q9hi => first | exact sz3 | exact sz4 | exact sz42 | exact sz46 | exact sz44 | exact sz130 | exact sz128 | exact sz50 | exact sz133)) | (refine' H.ev_loadr ?q9hw ?q9ho ?q9hx ?q9hu ?q9hd HP1.out ?q9hi ?q9hcs ?_; (case q9hw => rfl); (case q9ho => rfl); (case q9hx => rfl); (case q9hu => first | exact Try.underlying3 | exact Try.underlying4 | exact Try.underlying42 | exact Try.underlying46 | exact Try.underlying44 | exact Try.underlying130 | exact Try.underlying128 | exact Try.underlying50 | exact Try.underlying133); (case q9hd => rfl); (case q9hi => first | exact sz3 | exact sz4 | exact sz42 | exact sz46 | exact sz44 | exact sz130 | exact sz128 | exact sz50 | exact sz133); (case q9hcs => rfl)) | (refine' H.ev_load0 ?q9hw ?q9ho ?q9hx ?q9hu ?q9hd HP1.out ?_; (case q9hw => rfl); (case q9ho => rfl); (case q9hx => rfl); (case q9hu => first | exact Try.underlying3 | exact Try.underlying4 | exact Try.underlying42 | exact Try.underlying46 | exact Try.underlying44 | exact Try.underlying130 | exact Try.underlying128 | exact Try.underlying50 | exact Try.underlying133); (case q9hd => rfl)))
            | (skip; (with_reducible refine H.gate_alloc rfl ?_); refine' H.ev_alloc HS.out ?q9hw (t := 46) ?q9ho (zv46 _) ?q9hc ?_; (case q9hw => rfl); (case q9ho => rfl); (case q9hc => (try simp only [Value.cells]); rfl); intro b6 w_ hs; clear HS; have HS := Aside0.mk hs; clear hs)
            | ((with_reducible refine H.gate_sto rfl ?_); first | (refine' H.ev_store HS.out ?q9hw ?q9ho ?q9hx ?q9hy ?q9hv ?q9hi ?q9hat ?q9hlt ?q9hcs ?_; (case q9hw => rfl); (case q9ho => rfl); (case q9hx => rfl); (case q9hy => rfl); (case q9hv => rfl); (case q9hi => first | exact sz3 | exact sz4 | exact sz42 | exact sz46 | exact sz44 | exact sz130 | exact sz128 | exact sz50 | exact sz133); (case q9hat => first | exact .here | exact .there .here | exact .there (.there .here) | exact .there (.there (.there .here)) | exact .there (.there (.there (.there .here))) | exact .there (.there (.there (.there (.there .here))))); (case q9hlt => first | exact Nat.le_of_ble_eq_true rfl | (simp; done) | (simp; omega)); (case q9hcs => (try simp only [Value.cells, List.setIfInBounds_toArray, List.set_cons_zero, List.set_cons_succ, Nat.zero_add, Nat.reduceAdd]); rfl); intro w_ hs; clear HS; have HS := Aside0.mk hs; clear hs) | (refine' H.ev_stores HS.out ?q9hw ?q9ho ?q9hx ?q9hy ?q9hv ?q9hi ?q9hat ?q9hlt ?q9hcs ?_; (case q9hw => rfl); (case q9ho => rfl); (case q9hx => rfl); (case q9hy => rfl); (case q9hv => simp [Value.oneCell']); (case q9hi => first | exact sz3 | exact sz4 | exact sz42 | exact sz46 | exact sz44 | exact sz130 | exact sz128 | exact sz50 | exact sz133); (case q9hat => first | exact .here | exact .there .here | exact .there (.there .here) | exact .there (.there (.there .here)) | exact .there (.there (.there (.there .here))) | exact .there (.there (.there (.there (.there .here))))); (case q9hlt => first | exact Nat.le_of_ble_eq_true rfl | (simp; done) | (simp; omega)); (case q9hcs => (try simp only [H.setAll, Value.cells, List.setIfInBounds_toArray, List.set_cons_zero, List.set_cons_succ, Nat.zero_add, Nat.reduceAdd]); rfl); intro w_ hs; clear HS; have HS := Aside0.mk hs; clear hs))
            | (at_lookup; skip; refine' H.ev_mok HS.out (v := .agg #[]) (s := false) ?q9hw ?q9ho Try.underlying3 Try.underlying128 (zv130 _) ?q9hm ?q9hx ?q9hat hk ?q9hv ?q9hs ?_; (case q9hw => rfl); (case q9ho => rfl); (case q9hm => rfl); (case q9hx => rfl); (case q9hat => first | exact .here | exact .there .here | exact .there (.there .here) | exact .there (.there (.there .here)) | exact .there (.there (.there (.there .here))) | exact .there (.there (.there (.there (.there .here))))); (case q9hv => rw [HGet.out]; rfl); (case q9hs => rw [HGet.out]; rfl))
            | (skip; (with_reducible refine H.gate_alloc rfl ?_); refine' H.ev_alloc HS.out ?q9hw (t := 130) ?q9ho (zv130 _) ?q9hc ?_; (case q9hw => rfl); (case q9ho => rfl); (case q9hc => (try simp only [Value.cells]); rfl); intro b7 w_ hs; clear HS; have HS := Aside0.mk hs; clear hs)
            | (at_mapUpdate; first | (refine' H.ev_mput HS.out ?q9hw ?q9ho Try.underlying3 Try.underlying128 ?q9hm ?q9hx ?q9hv (R.seenM_succ l0_3 j hj).symm ?q9hat hk (by unfold maxLen; omega) ?_; (case q9hw => rfl); (case q9ho => rfl); (case q9hm => rfl); (case q9hx => rfl); (case q9hv => rfl); (case q9hat => first | exact .here | exact .there .here | exact .there (.there .here) | exact .there (.there (.there .here)) | exact .there (.there (.there (.there .here))) | exact .there (.there (.there (.there (.there .here))))); intro w_ hs; clear HS; have HS := Aside0.mk hs; clear hs))
            )
          go_roundg (l0_3.length - (j + 1))
          case measure => have := HG.out; omega
          case rel => exact ⟨j + 1, by first | go_num | (simp; omega), ⟨by have := HG.out; omega⟩, ⟨by rw [R.firstsG_succ, HF.out, hw]; simp only [Option.isNone_none, Bool.true_and, Bool.not_true, Bool.false_eq_true, if_false, List.append_nil]; exact HS.out.sub (by repeat (first | exact List.Sublist.slnil | refine List.Sublist.cons_cons _ ?_ | refine List.Sublist.cons _ ?_))⟩⟩
        | false =>
          have HM : Aside0 (∀ w', k46.M w' w.heap.size (fun _ => False) l0_3[j] [.bool false, .int .i64 l0_3[j].f1, .int .i64 l0_3[j].f2]) := ⟨fun w' => by have := k46_mkM w' w.heap.size (fun _ => False) l0_3[j]; rw [hw] at this; exact this⟩
          go_wp2_with (first
            | (skip; (with_reducible refine H.gate_idx rfl ?_); refine' H.ev_idx (Kd.C_below HR.out HS.out.below) ?q9hw ?q9ho ?q9hx ?q9hix Try.underlying42 sz46 hj ?_; (case q9hw => rfl); (case q9ho => rfl); (case q9hx => rfl); (case q9hix => rfl); intro p1 cs1 hK1 hp1; obtain rfl := k46_open hK1; skip; have HP1 := Aside0.mk hp1; clear hp1 hK1)
            | ((with_reducible refine H.gate_load rfl ?_); first | (refine' H.ev_loadb HS.out ?q9hw ?q9ho ?q9hx ?q9hu ?q9hd ?q9hat ?q9hv ?_; (case q9hw => rfl); (case q9ho => rfl); (case q9hx => rfl); (case q9hu => first | exact Try.underlying3 | exact Try.underlying4 | exact Try.underlying42 | exact Try.underlying46 | exact Try.underlying44 | exact Try.underlying130 | exact Try.underlying128 | exact Try.underlying50 | exact Try.underlying133); (case q9hd => rfl); (case q9hat => first | exact .here | exact .there .here | exact .there (.there .here) | exact .there (.there (.there .here)) | exact .there (.there (.there (.there .here))) | exact .there (.there (.there (.there (.there .here))))); (case q9hv => rfl)) | (refine' H.ev_loadw HS.out ?q9hw ?q9ho ?q9hx ?q9hu ?q9hd ?q9hat ?q9hi ?_; (case q9hw => rfl); (case q9ho => rfl); (case q9hx => rfl); (case q9hu => first | exact Try.underlying3 | exact Try.underlying4 | exact Try.underlying42 | exact Try.underlying46 | exact Try.underlying44 | exact Try.underlying130 | exact Try.underlying128 | exact Try.underlying50 | exact Try.underlying133); (case q9hd => rfl); (case q9hat => first | exact .here | exact .there .here | exact .there (.there .here) | exact .there (.there (.there .here)) | exact .there (.there (.there (.there .here))) | exact .there (.there (.there (.there (.there .here))))); (case q9hi => first | exact sz3 | exact sz4 | exact sz42 | exact sz46 | exact sz44 | exact sz130 | exact sz128 | exact sz50 | exact sz133)) | (refine' H.ev_loadr ?q9hw ?q9ho ?q9hx ?q9hu ?q9hd HP1.out ?q9hi ?q9hcs ?_; (case q9hw => rfl); (case q9ho => rfl); (case q9hx => rfl); (case q9hu => first | exact Try.underlying3 | exact Try.underlying4 | exact Try.underlying42 | exact Try.underlying46 | exact Try.underlying44 | exact Try.underlying130 | exact Try.underlying128 | exact Try.underlying50 | exact Try.underlying133); (case q9hd => rfl); (case q9hi => first | exact sz3 | exact sz4 | exact sz42 | exact sz46 | exact sz44 | exact sz130 | exact sz128 | exact sz50 | exact sz133); (case q9hcs => rfl)) | (refine' H.ev_load0 ?q9hw ?q9ho ?q9hx ?q9hu ?q9hd HP1.out ?_; (case q9hw => rfl); (case q9ho => rfl); (case q9hx => rfl); (case q9hu => first | exact Try.underlying3 | exact Try.underlying4 | exact Try.underlying42 | exact Try.underlying46 | exact Try.underlying44 | exact Try.underlying130 | exact Try.underlying128 | exact Try.underlying50 | exact Try.underlying133); (case q9hd => rfl)))
            | (skip; (with_reducible refine H.gate_alloc rfl ?_); refine' H.ev_alloc HS.out ?q9hw (t := 46) ?q9ho (zv46 _) ?q9hc ?_; (case q9hw => rfl); (case q9ho => rfl); (case q9hc => (try simp only [Value.cells]); rfl); intro b6 w_ hs; clear HS; have HS := Aside0.mk hs; clear hs)
            | ((with_reducible refine H.gate_sto rfl ?_); first | (refine' H.ev_store HS.out ?q9hw ?q9ho ?q9hx ?q9hy ?q9hv ?q9hi ?q9hat ?q9hlt ?q9hcs ?_; (case q9hw => rfl); (case q9ho => rfl); (case q9hx => rfl); (case q9hy => rfl); (case q9hv => rfl); (case q9hi => first | exact sz3 | exact sz4 | exact sz42 | exact sz46 | exact sz44 | exact sz130 | exact sz128 | exact sz50 | exact sz133); (case q9hat => first | exact .here | exact .there .here | exact .there (.there .here) | exact .there (.there (.there .here)) | exact .there (.there (.there (.there .here))) | exact .there (.there (.there (.there (.there .here))))); (case q9hlt => first | exact Nat.le_of_ble_eq_true rfl | (simp; done) | (simp; omega)); (case q9hcs => (try simp only [Value.cells, List.setIfInBounds_toArray, List.set_cons_zero, List.set_cons_succ, Nat.zero_add, Nat.reduceAdd]); rfl); intro w_ hs; clear HS; have HS := Aside0.mk hs; clear hs) | (refine' H.ev_stores HS.out ?q9hw ?q9ho ?q9hx ?q9hy ?q9hv ?q9hi ?q9hat ?q9hlt ?q9hcs ?_; (case q9hw => rfl); (case q9ho => rfl); (case q9hx => rfl); (case q9hy => rfl); (case q9hv => simp [Value.oneCell']); (case q9hi => first | exact sz3 | exact sz4 | exact sz42 | exact sz46 | exact sz44 | exact sz130 | exact sz128 | exact sz50 | exact sz133); (case q9hat => first | exact .here | exact .there .here | exact .there (.there .here) | exact .there (.there (.there .here)) | exact .there (.there (.there (.there .here))) | exact .there (.there (.there (.there (.there .here))))); (case q9hlt => first | exact Nat.le_of_ble_eq_true rfl | (simp; done) | (simp; omega)); (case q9hcs => (try simp only [H.setAll, Value.cells, List.setIfInBounds_toArray, List.set_cons_zero, List.set_cons_succ, Nat.zero_add, Nat.reduceAdd]); rfl); intro w_ hs; clear HS; have HS := Aside0.mk hs; clear hs))
            | (at_lookup; skip; refine' H.ev_mok HS.out (v := .agg #[]) (s := false) ?q9hw ?q9ho Try.underlying3 Try.underlying128 (zv130 _) ?q9hm ?q9hx ?q9hat hk ?q9hv ?q9hs ?_; (case q9hw => rfl); (case q9ho => rfl); (case q9hm => rfl); (case q9hx => rfl); (case q9hat => first | exact .here | exact .there .here | exact .there (.there .here) | exact .there (.there (.there .here)) | exact .there (.there (.there (.there .here))) | exact .there (.there (.there (.there (.there .here))))); (case q9hv => rw [HGet.out]; rfl); (case q9hs => rw [HGet.out]; rfl))
            | (skip; (with_reducible refine H.gate_alloc rfl ?_); refine' H.ev_alloc HS.out ?q9hw (t := 130) ?q9ho (zv130 _) ?q9hc ?_; (case q9hw => rfl); (case q9ho => rfl); (case q9hc => (try simp only [Value.cells]); rfl); intro b7 w_ hs; clear HS; have HS := Aside0.mk hs; clear hs)
            | (skip; (with_reducible refine gate_builtin (b := .append) rfl ?_); refine' H.ev_append k46 HS.out ?q9hw ?q9ho Try.underlying42 info46 rfl (by decide) (by decide) (p := l0_3[j]) ?q9hs ?q9hx ?q9hp ?q9hat ?q9hl ?_; (case q9hw => rfl); (case q9ho => rfl); (case q9hs => rfl); (case q9hx => rfl); (case q9hp => exact HM.out _); (case q9hat => first | exact .here | exact .there .here | exact .there (.there .here) | exact .there (.there (.there .here)) | exact .there (.there (.there (.there .here))) | exact .there (.there (.there (.there (.there .here))))); (case q9hl => omega); intro v1 w_ hs; clear HS; have HS := Aside0.mk hs; clear hs)
            | (at_mapUpdate; first | (refine' H.ev_mput HS.out ?q9hw ?q9ho Try.underlying3 Try.underlying128 ?q9hm ?q9hx ?q9hv (R.seenM_succ l0_3 j hj).symm ?q9hat hk (by unfold maxLen; omega) ?_; (case q9hw => rfl); (case q9ho => rfl); (case q9hm => rfl); (case q9hx => rfl); (case q9hv => rfl); (case q9hat => first | exact .here | exact .there .here | exact .there (.there .here) | exact .there (.there (.there .here)) | exact .there (.there (.there (.there .here))) | exact .there (.there (.there (.there (.there .here))))); intro w_ hs; clear HS; have HS := Aside0.mk hs; clear hs))
            )
          go_roundg (l0_3.length - (j + 1))
          case measure => have := HG.out; omega
          case rel => exact ⟨j + 1, by first | go_num | (simp; omega), ⟨by have := HG.out; omega⟩, ⟨by rw [R.firstsG_succ, HF.out, hw]; simp only [Option.isNone_none, Bool.true_and, Bool.not_false, if_true]; exact HS.out.sub (by repeat (first | exact List.Sublist.slnil | refine List.Sublist.cons_cons _ ?_ | refine List.Sublist.cons _ ?_))⟩⟩
    · have hjb : decide ((j : Int) < (l0_3.length : Int)) = false := decide_eq_false (by omega)
      obtain rfl : j = l0_3.length := by have := HG.out; omega
      obtain ⟨S, hS, _⟩ := HS.out.get .here
      have HSR := Aside0.mk hS.1
      obtain ⟨K, hK⟩ := R.reads_run HO.out hlen
      have HK := Aside0.mk (hK K (Nat.le_refl _))
      clear hS hK
      go_wp2_with (go_at_call 95; refine (txn_byKey.calls K S _ _ _ w _ HS.out.below HSR.out HK.out).mono ?_; rintro e w_ ⟨v0, rfl, hR, hb, hk⟩; have HRr := Aside0.mk hR; have HB := Aside0.mk hb; clear hR hb hk)
      go_ret
      exact ⟨_, rfl, by rw [← HE.out]; exact Kd.R_mono HRr.out (fun _ _ => trivial), HB.out⟩
def txn_Writes.f (a b c : Int) (l : List S46) : Option (List S46) := if okOps l = true then some (R.writes l) else none
set_option maxHeartbeats 4000000 in
set_option maxRecDepth 100000 in
theorem txn_Writes.calls (a0_0 : Int) (a0_1 : Int) (a0_2 : Int) (A0_3 : Option Addr) (c0_3 : Nat) (l0_3 : List (S46)) (r : List S46) (w : World) (hr0_3 : Kd.C k46 w A0_3 l0_3.length l0_3) (hc0_3 : l0_3.length ≤ c0_3) (h : txn_Writes.f a0_0 a0_1 a0_2 l0_3 = some r) :
    Calls Try.prog 63 #[.agg #[.int .i64 a0_0, .int .i64 a0_1, .int .i64 a0_2, .slice A0_3 l0_3.length c0_3]] w fun e w' => ∃ v0_ : Value, e = .returned (v0_) ∧ Kd.R k46 46 w' w.heap.size (fun _ => True) v0_ r ∧ Below w.heap.size w w' := by
  have hu44 := Try.underlying44
  have hu46 := Try.underlying46
  have HR := Aside0.mk hr0_3
  obtain ⟨hg, hr⟩ := guard_some h
  have HE := Aside0.mk hr
  have HO := Aside0.mk (okOps_get hg).1
  have hlen := (okOps_get hg).2
  clear h hg hr hr0_3 hc0_3
  have HS := Aside0.mk (H.SH.start w)
  go_enter Try.func63, Try.ntmps63
  go_wp2_with (first
    | (skip; (with_reducible refine H.gate_box rfl ?_); refine' H.ev_boxv HS.out ?q9hw (t := 44) ?q9ho ?q9hx ?q9hc ?_; (case q9hw => rfl); (case q9ho => rfl); (case q9hx => rfl); (case q9hc => rfl); intro b1 w_ hs; clear HS; have HS := Aside0.mk hs; clear hs)
    | (skip; (with_reducible refine H.gate_mk rfl ?_); refine' H.ev_mmake HS.out ?q9hw 133 3 ?q9ho ?_; (case q9hw => rfl); (case q9ho => rfl); intro w_ m hs; clear HS; have HS := Aside0.mk hs; clear hs)
    | ((with_reducible refine H.gate_load rfl ?_); first | (refine' H.ev_loadb HS.out ?q9hw ?q9ho ?q9hx ?q9hu ?q9hd ?q9hat ?q9hv ?_; (case q9hw => rfl); (case q9ho => rfl); (case q9hx => rfl); (case q9hu => first | exact Try.underlying3 | exact Try.underlying4 | exact Try.underlying42 | exact Try.underlying46 | exact Try.underlying44 | exact Try.underlying130 | exact Try.underlying128 | exact Try.underlying50 | exact Try.underlying133); (case q9hd => rfl); (case q9hat => first | exact .here | exact .there .here | exact .there (.there .here) | exact .there (.there (.there .here)) | exact .there (.there (.there (.there .here))) | exact .there (.there (.there (.there (.there .here))))); (case q9hv => rfl)) | (refine' H.ev_loadw HS.out ?q9hw ?q9ho ?q9hx ?q9hu ?q9hd ?q9hat ?q9hi ?_; (case q9hw => rfl); (case q9ho => rfl); (case q9hx => rfl); (case q9hu => first | exact Try.underlying3 | exact Try.underlying4 | exact Try.underlying42 | exact Try.underlying46 | exact Try.underlying44 | exact Try.underlying130 | exact Try.underlying128 | exact Try.underlying50 | exact Try.underlying133); (case q9hd => rfl); (case q9hat => first | exact .here | exact .there .here | exact .there (.there .here) | exact .there (.there (.there .here)) | exact .there (.there (.there (.there .here))) | exact .there (.there (.there (.there (.there .here))))); (case q9hi => first | exact sz3 | exact sz4 | exact sz42 | exact sz46 | exact sz44 | exact sz130 | exact sz128 | exact sz50 | exact sz133)))
    )
  go_loopg [13] l0_3.length (fun g i wr => ∃ j : Nat, i = .int .i64 (j : Int) ∧ Aside0 (g + j = l0_3.length) ∧ Aside0 (H.SH w wr [H.mp Try.prog 3 m (R.mapO (R.lastO l0_3 j))]))
  case atStart => exact ⟨0, rfl, ⟨rfl⟩, ⟨HS.out.sub (by repeat (first | exact List.Sublist.slnil | refine List.Sublist.cons_cons _ ?_ | refine List.Sublist.cons _ ?_))⟩⟩
  case round =>
    obtain ⟨j, rfl, HG, HS⟩ := hrel
    by_cases hj : j < l0_3.length
    · have hjb : decide ((j : Int) < (l0_3.length : Int)) = true := decide_eq_true (by omega)
      have hk := R.I64_key (R.keysOk_at HO.out j hj)
      have HF := Aside0.mk (R.lastO_succ l0_3 j hj)
      have hl' := R.lastO_len l0_3 j (by omega)
      have HL : Aside0 ((R.mapO (R.lastO l0_3 j)).length < maxLen) := ⟨by unfold R.mapO maxLen; rw [List.length_map]; omega⟩
      cases hw : (l0_3[j]).f0 with
      | true =>
        have HPV : Aside0 (H.putL (R.mapO (R.lastO l0_3 j)) (l0_3[j]).f1 (.agg #[.bool l0_3[j].f0, .int .i64 l0_3[j].f1, .int .i64 l0_3[j].f2]) = R.mapO (R.lastO l0_3 (j + 1))) := ⟨by rw [HF.out, if_pos hw, R.mapO_put]; rfl⟩
        have HPU : Aside0 (H.putL (R.mapO (R.lastO l0_3 j)) (l0_3[j]).f1 (.agg #[.bool true, .int .i64 l0_3[j].f1, .int .i64 l0_3[j].f2]) = R.mapO (R.lastO l0_3 (j + 1))) := ⟨by rw [HF.out, if_pos hw, R.mapO_put]; unfold R.opV; rw [hw]⟩
        go_wp2_with (first
          | (skip; (with_reducible refine H.gate_idx rfl ?_); refine' H.ev_idx (Kd.C_below HR.out HS.out.below) ?q9hw ?q9ho ?q9hx ?q9hix Try.underlying42 sz46 hj ?_; (case q9hw => rfl); (case q9ho => rfl); (case q9hx => rfl); (case q9hix => rfl); intro p1 cs1 hK1 hp1; obtain rfl := k46_open hK1; rw [hw] at hp1; have HP1 := Aside0.mk hp1; clear hp1 hK1)
          | ((with_reducible refine H.gate_load rfl ?_); first | (refine' H.ev_loadb HS.out ?q9hw ?q9ho ?q9hx ?q9hu ?q9hd ?q9hat ?q9hv ?_; (case q9hw => rfl); (case q9ho => rfl); (case q9hx => rfl); (case q9hu => first | exact Try.underlying3 | exact Try.underlying4 | exact Try.underlying42 | exact Try.underlying46 | exact Try.underlying44 | exact Try.underlying130 | exact Try.underlying128 | exact Try.underlying50 | exact Try.underlying133); (case q9hd => rfl); (case q9hat => first | exact .here | exact .there .here | exact .there (.there .here) | exact .there (.there (.there .here)) | exact .there (.there (.there (.there .here))) | exact .there (.there (.there (.there (.there .here))))); (case q9hv => rfl)) | (refine' H.ev_loadw HS.out ?q9hw ?q9ho ?q9hx ?q9hu ?q9hd ?q9hat ?q9hi ?_; (case q9hw => rfl); (case q9ho => rfl); (case q9hx => rfl); (case q9hu => first | exact Try.underlying3 | exact Try.underlying4 | exact Try.underlying42 | exact Try.underlying46 | exact Try.underlying44 | exact Try.underlying130 | exact Try.underlying128 | exact Try.underlying50 | exact Try.underlying133); (case q9hd => rfl); (case q9hat => first | exact .here | exact .there .here | exact .there (.there .here) | exact .there (.there (.there .here)) | exact .there (.there (.there (.there .here))) | exact .there (.there (.there (.there (.there .here))))); (case q9hi => first | exact sz3 | exact sz4 | exact sz42 | exact sz46 | exact sz44 | exact sz130 | exact sz128 | exact sz50 | exact sz133)) | (refine' H.ev_loadr ?q9hw ?q9ho ?q9hx ?q9hu ?q9hd HP1.out ?q9hi ?q9hcs ?_; (case q9hw => rfl); (case q9ho => rfl); (case q9hx => rfl); (case q9hu => first | exact Try.underlying3 | exact Try.underlying4 | exact Try.underlying42 | exact Try.underlying46 | exact Try.underlying44 | exact Try.underlying130 | exact Try.underlying128 | exact Try.underlying50 | exact Try.underlying133); (case q9hd => rfl); (case q9hi => first | exact sz3 | exact sz4 | exact sz42 | exact sz46 | exact sz44 | exact sz130 | exact sz128 | exact sz50 | exact sz133); (case q9hcs => rfl)) | (refine' H.ev_load0 ?q9hw ?q9ho ?q9hx ?q9hu ?q9hd HP1.out ?_; (case q9hw => rfl); (case q9ho => rfl); (case q9hx => rfl); (case q9hu => first | exact Try.underlying3 | exact Try.underlying4 | exact Try.underlying42 | exact Try.underlying46 | exact Try.underlying44 | exact Try.underlying130 | exact Try.underlying128 | exact Try.underlying50 | exact Try.underlying133); (case q9hd => rfl)))
          | (skip; (with_reducible refine H.gate_alloc rfl ?_); refine' H.ev_alloc HS.out ?q9hw (t := 46) ?q9ho (zv46 _) ?q9hc ?_; (case q9hw => rfl); (case q9ho => rfl); (case q9hc => (try simp only [Value.cells]); rfl); intro b6 w_ hs; clear HS; have HS := Aside0.mk hs; clear hs)
          | ((with_reducible refine H.gate_sto rfl ?_); first | (refine' H.ev_store HS.out ?q9hw ?q9ho ?q9hx ?q9hy ?q9hv ?q9hi ?q9hat ?q9hlt ?q9hcs ?_; (case q9hw => rfl); (case q9ho => rfl); (case q9hx => rfl); (case q9hy => rfl); (case q9hv => rfl); (case q9hi => first | exact sz3 | exact sz4 | exact sz42 | exact sz46 | exact sz44 | exact sz130 | exact sz128 | exact sz50 | exact sz133); (case q9hat => first | exact .here | exact .there .here | exact .there (.there .here) | exact .there (.there (.there .here)) | exact .there (.there (.there (.there .here))) | exact .there (.there (.there (.there (.there .here))))); (case q9hlt => first | exact Nat.le_of_ble_eq_true rfl | (simp; done) | (simp; omega)); (case q9hcs => (try simp only [Value.cells, List.setIfInBounds_toArray, List.set_cons_zero, List.set_cons_succ, Nat.zero_add, Nat.reduceAdd]); rfl); intro w_ hs; clear HS; have HS := Aside0.mk hs; clear hs) | (refine' H.ev_stores HS.out ?q9hw ?q9ho ?q9hx ?q9hy ?q9hv ?q9hi ?q9hat ?q9hlt ?q9hcs ?_; (case q9hw => rfl); (case q9ho => rfl); (case q9hx => rfl); (case q9hy => rfl); (case q9hv => simp [Value.oneCell']); (case q9hi => first | exact sz3 | exact sz4 | exact sz42 | exact sz46 | exact sz44 | exact sz130 | exact sz128 | exact sz50 | exact sz133); (case q9hat => first | exact .here | exact .there .here | exact .there (.there .here) | exact .there (.there (.there .here)) | exact .there (.there (.there (.there .here))) | exact .there (.there (.there (.there (.there .here))))); (case q9hlt => first | exact Nat.le_of_ble_eq_true rfl | (simp; done) | (simp; omega)); (case q9hcs => (try simp only [H.setAll, Value.cells, List.setIfInBounds_toArray, List.set_cons_zero, List.set_cons_succ, Nat.zero_add, Nat.reduceAdd]); rfl); intro w_ hs; clear HS; have HS := Aside0.mk hs; clear hs))
          | (at_mapUpdate; first | (refine' H.ev_mput HS.out ?q9hw ?q9ho Try.underlying3 Try.underlying133 ?q9hm ?q9hx ?q9hv HPU.out ?q9hat hk HL.out ?_; (case q9hw => rfl); (case q9ho => rfl); (case q9hm => rfl); (case q9hx => rfl); (case q9hv => rfl); (case q9hat => first | exact .here | exact .there .here | exact .there (.there .here) | exact .there (.there (.there .here)) | exact .there (.there (.there (.there .here))) | exact .there (.there (.there (.there (.there .here))))); intro w_ hs; clear HS; have HS := Aside0.mk hs; clear hs) | (refine' H.ev_mput HS.out ?q9hw ?q9ho Try.underlying3 Try.underlying133 ?q9hm ?q9hx ?q9hv HPV.out ?q9hat hk HL.out ?_; (case q9hw => rfl); (case q9ho => rfl); (case q9hm => rfl); (case q9hx => rfl); (case q9hv => rfl); (case q9hat => first | exact .here | exact .there .here | exact .there (.there .here) | exact .there (.there (.there .here)) | exact .there (.there (.there (.there .here))) | exact .there (.there (.there (.there (.there .here))))); intro w_ hs; clear HS; have HS := Aside0.mk hs; clear hs))
          )
        go_roundg (l0_3.length - (j + 1))
        case measure => have := HG.out; omega
        case rel => exact ⟨j + 1, by first | go_num | (simp; omega), ⟨by have := HG.out; omega⟩, ⟨HS.out.sub (by repeat (first | exact List.Sublist.slnil | refine List.Sublist.cons_cons _ ?_ | refine List.Sublist.cons _ ?_))⟩⟩
      | false =>
        go_wp2_with (first
          | (skip; (with_reducible refine H.gate_idx rfl ?_); refine' H.ev_idx (Kd.C_below HR.out HS.out.below) ?q9hw ?q9ho ?q9hx ?q9hix Try.underlying42 sz46 hj ?_; (case q9hw => rfl); (case q9ho => rfl); (case q9hx => rfl); (case q9hix => rfl); intro p1 cs1 hK1 hp1; obtain rfl := k46_open hK1; rw [hw] at hp1; have HP1 := Aside0.mk hp1; clear hp1 hK1)
          | ((with_reducible refine H.gate_load rfl ?_); first | (refine' H.ev_loadb HS.out ?q9hw ?q9ho ?q9hx ?q9hu ?q9hd ?q9hat ?q9hv ?_; (case q9hw => rfl); (case q9ho => rfl); (case q9hx => rfl); (case q9hu => first | exact Try.underlying3 | exact Try.underlying4 | exact Try.underlying42 | exact Try.underlying46 | exact Try.underlying44 | exact Try.underlying130 | exact Try.underlying128 | exact Try.underlying50 | exact Try.underlying133); (case q9hd => rfl); (case q9hat => first | exact .here | exact .there .here | exact .there (.there .here) | exact .there (.there (.there .here)) | exact .there (.there (.there (.there .here))) | exact .there (.there (.there (.there (.there .here))))); (case q9hv => rfl)) | (refine' H.ev_loadw HS.out ?q9hw ?q9ho ?q9hx ?q9hu ?q9hd ?q9hat ?q9hi ?_; (case q9hw => rfl); (case q9ho => rfl); (case q9hx => rfl); (case q9hu => first | exact Try.underlying3 | exact Try.underlying4 | exact Try.underlying42 | exact Try.underlying46 | exact Try.underlying44 | exact Try.underlying130 | exact Try.underlying128 | exact Try.underlying50 | exact Try.underlying133); (case q9hd => rfl); (case q9hat => first | exact .here | exact .there .here | exact .there (.there .here) | exact .there (.there (.there .here)) | exact .there (.there (.there (.there .here))) | exact .there (.there (.there (.there (.there .here))))); (case q9hi => first | exact sz3 | exact sz4 | exact sz42 | exact sz46 | exact sz44 | exact sz130 | exact sz128 | exact sz50 | exact sz133)) | (refine' H.ev_loadr ?q9hw ?q9ho ?q9hx ?q9hu ?q9hd HP1.out ?q9hi ?q9hcs ?_; (case q9hw => rfl); (case q9ho => rfl); (case q9hx => rfl); (case q9hu => first | exact Try.underlying3 | exact Try.underlying4 | exact Try.underlying42 | exact Try.underlying46 | exact Try.underlying44 | exact Try.underlying130 | exact Try.underlying128 | exact Try.underlying50 | exact Try.underlying133); (case q9hd => rfl); (case q9hi => first | exact sz3 | exact sz4 | exact sz42 | exact sz46 | exact sz44 | exact sz130 | exact sz128 | exact sz50 | exact sz133); (case q9hcs => rfl)) | (refine' H.ev_load0 ?q9hw ?q9ho ?q9hx ?q9hu ?q9hd HP1.out ?_; (case q9hw => rfl); (case q9ho => rfl); (case q9hx => rfl); (case q9hu => first | exact Try.underlying3 | exact Try.underlying4 | exact Try.underlying42 | exact Try.underlying46 | exact Try.underlying44 | exact Try.underlying130 | exact Try.underlying128 | exact Try.underlying50 | exact Try.underlying133); (case q9hd => rfl)))
          | (skip; (with_reducible refine H.gate_alloc rfl ?_); refine' H.ev_alloc HS.out ?q9hw (t := 46) ?q9ho (zv46 _) ?q9hc ?_; (case q9hw => rfl); (case q9ho => rfl); (case q9hc => (try simp only [Value.cells]); rfl); intro b6 w_ hs; clear HS; have HS := Aside0.mk hs; clear hs)
          | ((with_reducible refine H.gate_sto rfl ?_); first | (refine' H.ev_store HS.out ?q9hw ?q9ho ?q9hx ?q9hy ?q9hv ?q9hi ?q9hat ?q9hlt ?q9hcs ?_; (case q9hw => rfl); (case q9ho => rfl); (case q9hx => rfl); (case q9hy => rfl); (case q9hv => rfl); (case q9hi => first | exact sz3 | exact sz4 | exact sz42 | exact sz46 | exact sz44 | exact sz130 | exact sz128 | exact sz50 | exact sz133); (case q9hat => first | exact .here | exact .there .here | exact .there (.there .here) | exact .there (.there (.there .here)) | exact .there (.there (.there (.there .here))) | exact .there (.there (.there (.there (.there .here))))); (case q9hlt => first | exact Nat.le_of_ble_eq_true rfl | (simp; done) | (simp; omega)); (case q9hcs => (try simp only [Value.cells, List.setIfInBounds_toArray, List.set_cons_zero, List.set_cons_succ, Nat.zero_add, Nat.reduceAdd]); rfl); intro w_ hs; clear HS; have HS := Aside0.mk hs; clear hs) | (refine' H.ev_stores HS.out ?q9hw ?q9ho ?q9hx ?q9hy ?q9hv ?q9hi ?q9hat ?q9hlt ?q9hcs ?_; (case q9hw => rfl); (case q9ho => rfl); (case q9hx => rfl); (case q9hy => rfl); (case q9hv => simp [Value.oneCell']); (case q9hi => first | exact sz3 | exact sz4 | exact sz42 | exact sz46 | exact sz44 | exact sz130 | exact sz128 | exact sz50 | exact sz133); (case q9hat => first | exact .here | exact .there .here | exact .there (.there .here) | exact .there (.there (.there .here)) | exact .there (.there (.there (.there .here))) | exact .there (.there (.there (.there (.there .here))))); (case q9hlt => first | exact Nat.le_of_ble_eq_true rfl | (simp; done) | (simp; omega)); (case q9hcs => (try simp only [H.setAll, Value.cells, List.setIfInBounds_toArray, List.set_cons_zero, List.set_cons_succ, Nat.zero_add, Nat.reduceAdd]); rfl); intro w_ hs; clear HS; have HS := Aside0.mk hs; clear hs))
          )
        go_roundg (l0_3.length - (j + 1))
        case measure => have := HG.out; omega
        case rel => exact ⟨j + 1, by first | go_num | (simp; omega), ⟨by have := HG.out; omega⟩, ⟨by rw [HF.out, hw]; exact HS.out.sub (by repeat (first | exact List.Sublist.slnil | refine List.Sublist.cons_cons _ ?_ | refine List.Sublist.cons _ ?_))⟩⟩
    · have hjb : decide ((j : Int) < (l0_3.length : Int)) = false := decide_eq_false (by omega)
      obtain rfl : j = l0_3.length := by have := HG.out; omega
      have hl' := R.lastO_len l0_3 l0_3.length (Nat.le_refl _)
      obtain ⟨n, hn⟩ : ∃ n, n = (R.mapO (R.lastO l0_3 l0_3.length)).length := ⟨_, rfl⟩
      have hn2 : n ≤ 1000000000000 := by rw [hn]; unfold R.mapO; rw [List.length_map]; omega
      have HN := Aside0.mk hn
      clear hn
      have hl2 : 24 * n ≤ 281474976710656 := by omega
      go_wp2_with (first
        | (at_len; refine H.ev_mlen HS.out rfl _ 133 rfl Try.underlying133 .here rfl HN.out ?_)
        | (skip; at_make; refine' H.ev_make0 k46 HS.out ?q9hw ?q9ho Try.underlying42 info46 ?q9hl ?q9hc (by omega) (by unfold maxLen; omega) ?_; (case q9hw => rfl); (case q9ho => rfl); (case q9hl => rfl); (case q9hc => rfl); intro v6 w_ hs; clear HS; have HS := Aside0.mk hs; clear hs)
        | (skip; at_range; refine' H.ev_mrange HS.out ?q9hw ?q9ho Try.underlying3 Try.underlying133 ?q9hm ?q9hat ?_; (case q9hw => rfl); (case q9ho => rfl); (case q9hm => rfl); (case q9hat => first | exact .here | exact .there .here | exact .there (.there .here) | exact .there (.there (.there .here)) | exact .there (.there (.there (.there .here))) | exact .there (.there (.there (.there (.there .here))))); intro rr w_ hs; clear HS; have HS := Aside0.mk hs; clear hs)
        )
      go_frame
      go_loopg [6] ((R.mapO (R.lastO l0_3 l0_3.length)).length) (fun g v wr => ∃ (Y : List S46) (td : List (Int × Value)), Aside0 (g = td.length) ∧ Aside0 (H.SH w wr [H.rw' w.heap.size k46 46 v Y, H.rg Try.prog 3 m rr (R.mapO (R.lastO l0_3 l0_3.length)) td]) ∧ Aside0 (H.Apart td) ∧ Aside0 ((R.mapO Y ++ td).Perm (R.mapO (R.lastO l0_3 l0_3.length))))
      case atStart => exact ⟨[], _, ⟨rfl⟩, HS, ⟨by obtain ⟨S, hS, _⟩ := HS.out.get (.there .here); exact hS.2.2.2.1⟩, ⟨List.Perm.refl _⟩⟩
      case round =>
        obtain ⟨Y, td, HG, HS, HA, HP⟩ := hrel
        have hY : Y.length ≤ 1000000000000 := by
          have := HP.out.length_eq
          unfold R.mapO at this
          simp only [List.length_append, List.length_map] at this
          omega
        go_wp2_with (first
          | (at_next; refine' H.ev_mnext HS.out ?q9hw ?q9ho Try.underlying3 ?q9hit ?q9hat ?_ ?_; (case q9hw => rfl); (case q9ho => rfl); (case q9hit => rfl); (case q9hat => first | exact .here | exact .there .here | exact .there (.there .here) | exact .there (.there (.there .here)) | exact .there (.there (.there (.there .here))) | exact .there (.there (.there (.there (.there .here))))); rotate_left; (intro x_ v_ w_ hI_ htd_ hl_ hs hen_; clear HS; have HS := Aside0.mk hs; clear hs; obtain ⟨o, ho_, rfl, rfl⟩ := R.mapO_get hl_; have HX := Aside0.mk htd_; have HEN := Aside0.mk hen_; clear htd_ hl_ hen_ hI_ ho_))
          | ((with_reducible refine H.gate_entry rfl ?_); refine' H.ev_entry ?q9hw ?q9ho ?q9hx HEN.out ?_; (case q9hw => rfl); (case q9ho => rfl); (case q9hx => rfl))
          | (skip; (with_reducible refine H.gate_alloc rfl ?_); refine' H.ev_alloc HS.out ?q9hw (t := 46) ?q9ho (zv46 _) ?q9hc ?_; (case q9hw => rfl); (case q9ho => rfl); (case q9hc => (try simp only [Value.cells]); rfl); intro b8 w_ hs; clear HS; have HS := Aside0.mk hs; clear hs)
          | ((with_reducible refine H.gate_sto rfl ?_); first | (refine' H.ev_store HS.out ?q9hw ?q9ho ?q9hx ?q9hy ?q9hv ?q9hi ?q9hat ?q9hlt ?q9hcs ?_; (case q9hw => rfl); (case q9ho => rfl); (case q9hx => rfl); (case q9hy => rfl); (case q9hv => rfl); (case q9hi => first | exact sz3 | exact sz4 | exact sz42 | exact sz46 | exact sz44 | exact sz130 | exact sz128 | exact sz50 | exact sz133); (case q9hat => first | exact .here | exact .there .here | exact .there (.there .here) | exact .there (.there (.there .here)) | exact .there (.there (.there (.there .here))) | exact .there (.there (.there (.there (.there .here))))); (case q9hlt => first | exact Nat.le_of_ble_eq_true rfl | (simp; done) | (simp; omega)); (case q9hcs => (try simp only [Value.cells, List.setIfInBounds_toArray, List.set_cons_zero, List.set_cons_succ, Nat.zero_add, Nat.reduceAdd]); rfl); intro w_ hs; clear HS; have HS := Aside0.mk hs; clear hs) | (refine' H.ev_stores HS.out ?q9hw ?q9ho ?q9hx ?q9hy ?q9hv ?q9hi ?q9hat ?q9hlt ?q9hcs ?_; (case q9hw => rfl); (case q9ho => rfl); (case q9hx => rfl); (case q9hy => rfl); (case q9hv => simp [Value.oneCell']); (case q9hi => first | exact sz3 | exact sz4 | exact sz42 | exact sz46 | exact sz44 | exact sz130 | exact sz128 | exact sz50 | exact sz133); (case q9hat => first | exact .here | exact .there .here | exact .there (.there .here) | exact .there (.there (.there .here)) | exact .there (.there (.there (.there .here))) | exact .there (.there (.there (.there (.there .here))))); (case q9hlt => first | exact Nat.le_of_ble_eq_true rfl | (simp; done) | (simp; omega)); (case q9hcs => (try simp only [H.setAll, Value.cells, List.setIfInBounds_toArray, List.set_cons_zero, List.set_cons_succ, Nat.zero_add, Nat.reduceAdd]); rfl); intro w_ hs; clear HS; have HS := Aside0.mk hs; clear hs))
          | ((with_reducible refine H.gate_load rfl ?_); first | (refine' H.ev_loadb HS.out ?q9hw ?q9ho ?q9hx ?q9hu ?q9hd ?q9hat ?q9hv ?_; (case q9hw => rfl); (case q9ho => rfl); (case q9hx => rfl); (case q9hu => first | exact Try.underlying3 | exact Try.underlying4 | exact Try.underlying42 | exact Try.underlying46 | exact Try.underlying44 | exact Try.underlying130 | exact Try.underlying128 | exact Try.underlying50 | exact Try.underlying133); (case q9hd => rfl); (case q9hat => first | exact .here | exact .there .here | exact .there (.there .here) | exact .there (.there (.there .here)) | exact .there (.there (.there (.there .here))) | exact .there (.there (.there (.there (.there .here))))); (case q9hv => rfl)) | (refine' H.ev_loadw HS.out ?q9hw ?q9ho ?q9hx ?q9hu ?q9hd ?q9hat ?q9hi ?_; (case q9hw => rfl); (case q9ho => rfl); (case q9hx => rfl); (case q9hu => first | exact Try.underlying3 | exact Try.underlying4 | exact Try.underlying42 | exact Try.underlying46 | exact Try.underlying44 | exact Try.underlying130 | exact Try.underlying128 | exact Try.underlying50 | exact Try.underlying133); (case q9hd => rfl); (case q9hat => first | exact .here | exact .there .here | exact .there (.there .here) | exact .there (.there (.there .here)) | exact .there (.there (.there (.there .here))) | exact .there (.there (.there (.there (.there .here))))); (case q9hi => first | exact sz3 | exact sz4 | exact sz42 | exact sz46 | exact sz44 | exact sz130 | exact sz128 | exact sz50 | exact sz133)))
          | (skip; (with_reducible refine gate_builtin (b := .append) rfl ?_); refine' H.ev_append k46 HS.out ?q9hw ?q9ho Try.underlying42 info46 rfl (by decide) (by decide) (p := o) ?q9hs ?q9hx ?q9hp ?q9hat ?q9hl ?_; (case q9hw => rfl); (case q9ho => rfl); (case q9hs => rfl); (case q9hx => rfl); (case q9hp => exact k46_mkM _ _ _ o); (case q9hat => first | exact .here | exact .there .here | exact .there (.there .here) | exact .there (.there (.there .here)) | exact .there (.there (.there (.there .here))) | exact .there (.there (.there (.there (.there .here))))); (case q9hl => omega); intro v1 w_ hs; clear HS; have HS := Aside0.mk hs; clear hs)
          )
        · go_roundg ((H.offL td o.f1).length)
          case measure => have := HG.out; have := H.off_len HA.out HX.out; omega
          case rel => exact ⟨Y ++ [o], H.offL td o.f1, ⟨rfl⟩, ⟨HS.out.sub (by repeat (first | exact List.Sublist.slnil | refine List.Sublist.cons_cons _ ?_ | refine List.Sublist.cons _ ?_))⟩, ⟨HA.out.off _⟩, ⟨R.mapO_step HA.out HX.out HP.out⟩⟩
        · intro htd
          have HP2 : Aside0 ((R.mapO Y).Perm (R.mapO (R.lastO l0_3 l0_3.length))) := ⟨by have := HP.out; rwa [htd, List.append_nil] at this⟩
          clear htd
          obtain ⟨S, hS, _⟩ := HS.out.get .here
          have HSR := Aside0.mk hS.1
          obtain ⟨K, hK⟩ := R.writes_run HO.out hlen (R.mapO_perm HP2.out)
          have HK := Aside0.mk (hK K (Nat.le_refl _))
          clear hS hK
          go_wp2_with (go_at_call 95; refine (txn_byKey.calls K S _ _ _ w _ HS.out.below HSR.out HK.out).mono ?_; rintro e w_ ⟨v0, rfl, hR, hb, hk⟩; have HRr := Aside0.mk hR; have HB := Aside0.mk hb; clear hR hb hk)
          go_ret
          exact ⟨_, rfl, by rw [← HE.out]; exact Kd.R_mono HRr.out (fun _ _ => trivial), HB.out⟩
end Go.Proofs.Ytfocaefnmfkojaa.Q
