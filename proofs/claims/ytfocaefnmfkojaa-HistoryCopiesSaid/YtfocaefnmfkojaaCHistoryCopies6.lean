/- HistoryCopies: the walks and the plain law. -/
import Derived.Test.YtfocaefnmfkojaaCHistoryCopies5
import Derived.ChangeOld
import Derived.Deep.Slices
import Derived.Lib.SmallJoins
import Derived.OpenShut
import Derived.ProofKit
import Derived.ShutString
import Derived.SizedLaws
import Derived.StillTailTactics
import Derived.Test.YtfocaefnmfkojaaRows
namespace Go.Proofs.Ytfocaefnmfkojaa.H
open Go.RowKit Go.Proofs.YtfocaefnmfkojaaW.PrintWords
set_option linter.unusedVariables false
set_option linter.unusedSimpArgs false
def Opens {α : Type} (P : Program) (t : TypeId) (d : Kd α) (wf : α → Prop) : Prop :=
  ∀ (H : Type) (enc : TypeId × Value → H) (w : World) (base : Nat) (spare : Nat → Bool) (held : Bool) (fuel : Nat) (cs : List Value) (D : DataW H) (ps : List MemPlace),
    DataW.trod enc P w base spare held fuel t cs = some (D, ps) → (∀ n ∈ D.weights P t, n ≤ 140737488351232) → ∃ x, d.K w x cs ∧ wf x
theorem Opens.int {P : Program} {t : TypeId} {k : IntKind} (ht : P.underlying t = some (.int k)) : Opens P t (Kd.int k) (fun x => (Lit.int k x).wf = true) := by
  intro H enc w base spare held fuel cs D ps h _
  obtain ⟨n, rfl, _, hn⟩ := DataW.trod_int ht h
  exact ⟨n, rfl, hn⟩
theorem Opens.bool {P : Program} {t : TypeId} (ht : P.underlying t = some .bool) : Opens P t Kd.bool (fun _ => True) := by
  intro H enc w base spare held fuel cs D ps h _
  obtain ⟨b, rfl, _⟩ := DataW.trod_bool ht h
  exact ⟨b, rfl, trivial⟩
theorem cells?_get {w : World} {base : Nat} {a : Addr} {n : Nat} {cs : List Value} (h : w.cells? base a n = some cs) : cs.length = n ∧ ∀ i u, cs[i]? = some u → w.cell? (a.add i) = some u := by
  unfold World.cells? at h
  split at h
  · have key : ∀ (l : List Nat) (cs : List Value), l.mapM (fun i => w.cell? (a.add i)) = some cs → cs.length = l.length ∧ ∀ (i : Nat) (u : Value), cs[i]? = some u → ∃ m, l[i]? = some m ∧ w.cell? (a.add m) = some u := by
      intro l
      induction l with
      | nil =>
        intro cs h
        obtain rfl : [] = cs := by simpa using h
        exact ⟨rfl, fun i u hu => by simp at hu⟩
      | cons x l ih =>
        intro cs h
        rw [List.mapM_cons] at h
        cases hx : w.cell? (a.add x) with
        | none => simp [hx] at h
        | some y =>
          cases hl : l.mapM (fun i => w.cell? (a.add i)) with
          | none => simp [hx, hl] at h
          | some ys =>
            obtain rfl : y :: ys = cs := by simpa [hx, hl] using h
            obtain ⟨h1, h2⟩ := ih ys hl
            refine ⟨by simp [h1], fun i u hu => ?_⟩
            cases i with
            | zero =>
              obtain rfl : y = u := by simpa using hu
              exact ⟨x, rfl, hx⟩
            | succ i => exact h2 i u (by simpa using hu)
    obtain ⟨h1, h2⟩ := key _ _ h
    refine ⟨by simpa using h1, fun i u hu => ?_⟩
    obtain ⟨m, hm, hc⟩ := h2 i u hu
    obtain ⟨hlt, rfl⟩ := List.getElem?_eq_some_iff.1 hm
    rwa [List.getElem_range] at hc
  · cases h
theorem weightsAll_mem {H : Type} {P : Program} {e : TypeId} {d : DataW H} {n : Nat} (hn : n ∈ d.weights P e) : ∀ (ds : List (DataW H)), d ∈ ds → n ∈ DataW.weightsAll P e ds
  | x :: ds, h => by
    rw [DataW.weightsAll]
    rcases List.mem_cons.1 h with rfl | h
    · exact List.mem_append_left _ hn
    · exact List.mem_append_right _ (weightsAll_mem hn ds h)
theorem weightsEach_mem {H : Type} {P : Program} {t : TypeId} {d : DataW H} {n : Nat} (hn : n ∈ d.weights P t) : ∀ (ts : List TypeId) (ds : List (DataW H)) (i : Nat), ts[i]? = some t → ds[i]? = some d → n ∈ DataW.weightsEach P ts ds
  | a :: ts, x :: ds, 0, h, h' => by
    obtain rfl : a = t := by simpa using h
    obtain rfl : x = d := by simpa using h'
    rw [DataW.weightsEach]
    exact List.mem_append_left _ hn
  | a :: ts, x :: ds, i + 1, h, h' => by
    rw [DataW.weightsEach]
    exact List.mem_append_right _ (weightsEach_mem hn ts ds i (by simpa using h) (by simpa using h'))
  | [], _, i, h, _ => by simp at h
  | _ :: _, [], i, _, h' => by simp at h'
theorem Opens.slice {α : Type} {P : Program} {t e : TypeId} {d : Kd α} {wf : α → Prop} (ht : P.underlying t = some (.slice e)) (hc : P.cellsOf e = d.sz) (he : Opens P e d wf) :
    Opens P t (Kd.slice e d) (fun l => l.length ≤ maxLen ∧ l.length * P.bytesOf e ≤ 140737488351232 ∧ ∀ x ∈ l, wf x) := by
  intro H enc w base spare held fuel cs D ps h hw
  rcases Deep.open_slice ht h with ⟨rfl, hx⟩ | ⟨a, len, cap, m, n, Dd, Pl, rfl, hb, hl, hm, hmm, hx, hel⟩
  · exact ⟨[], ⟨none, 0, rfl, Nat.le_refl _, Kd.C_nil d w⟩, by simp, by simp, by simp⟩
  · obtain ⟨rfl, rfl⟩ := Prod.mk.inj hx
    have hlm : len ≤ m := by rw [hmm]; split <;> omega
    rw [DataW.weights, ht] at hw
    have hsz : len * P.bytesOf e ≤ 140737488351232 := by
      have := hw _ List.mem_cons_self
      simp only [List.length_map, List.length_range] at this
      exact Nat.le_trans (Nat.mul_le_mul_right _ (by omega)) this
    have hel2 : ∀ i, i < len → ∃ x cs', cs'.length = d.sz ∧ d.K w x cs' ∧ wf x ∧ ∀ j u, cs'[j]? = some u → w.cell? (a.add (i * d.sz + j)) = some u := by
      intro i hi
      obtain ⟨cs', hcs, htr⟩ := hel i (by omega)
      obtain ⟨x, hK, hwf⟩ := he H enc w base spare held n cs' _ _ htr (fun k hk => hw k (List.mem_cons_of_mem _ (List.mem_append_left _ (weightsAll_mem hk _ (List.mem_map.2 ⟨i, List.mem_range.2 hi, rfl⟩)))))
      obtain ⟨h1, h2⟩ := cells?_get hcs
      refine ⟨x, cs', by rw [h1, hc], hK, hwf, fun j u hu => ?_⟩
      have h3 := h2 j u hu
      rw [hc] at h3
      have ha : (a.add (i * d.sz)).add j = a.add (i * d.sz + j) := by
        unfold Addr.add
        by_cases e1 : i * d.sz = 0 <;> by_cases e2 : j = 0 <;> simp [e1, e2, Nat.add_assoc]
      rwa [ha] at h3
    have hpick : ∀ k, k ≤ len → ∃ l : List α, l.length = k ∧ (∀ x ∈ l, wf x) ∧ ∀ i p, l[i]? = some p → ∃ c, c.length = d.sz ∧ d.K w p c ∧ ∀ j u, c[j]? = some u → w.cell? (a.add (i * d.sz + j)) = some u := by
      intro k
      induction k with
      | zero => exact fun _ => ⟨[], rfl, by simp, fun i p hp => by simp at hp⟩
      | succ k ih =>
        intro hk
        obtain ⟨l, h1, h2, h3⟩ := ih (by omega)
        obtain ⟨x, cs', g1, g2, g3, g4⟩ := hel2 k (by omega)
        refine ⟨l ++ [x], by simp [h1], fun y hy => ?_, fun i p hp => ?_⟩
        · rcases List.mem_append.1 hy with hy | hy
          · exact h2 y hy
          · rw [List.mem_singleton.1 hy]; exact g3
        · rcases Nat.lt_trichotomy i k with hi | hi | hi
          · rw [List.getElem?_append_left (by omega)] at hp
            exact h3 i p hp
          · subst hi
            rw [List.getElem?_append_right (by omega)] at hp
            simp [h1] at hp
            subst hp
            exact ⟨cs', g1, g2, g4⟩
          · rw [List.getElem?_append_right (by omega)] at hp
            have : i - l.length ≠ 0 := by omega
            cases hh : i - l.length with
            | zero => omega
            | succ q => rw [hh] at hp; simp at hp
    obtain ⟨l, hl1, hl2, hl3⟩ := hpick len (Nat.le_refl _)
    subst hl1
    refine ⟨l, ⟨some a, cap, rfl, hl, rfl, by simp only [maxLen] at hm; omega, fun _ => ⟨a, rfl, hl3⟩⟩, by omega, hsz, hl2⟩
theorem Opens.fields {P : Program} {t : TypeId} {fs : Array Field} (ht : P.underlying t = some (.struct fs)) {H : Type} {enc : TypeId × Value → H} {w : World} {base : Nat} {spare : Nat → Bool} {held : Bool} {fuel : Nat} {cs : List Value} {D : DataW H} {ps : List MemPlace}
    (h : DataW.trod enc P w base spare held fuel t cs = some (D, ps)) (hw : ∀ n ∈ D.weights P t, n ≤ 140737488351232) :
    cs.length = P.cellsOf t ∧ ∀ (i : Nat) (f : Field), fs[i]? = some f → ∀ {α : Type} {d : Kd α} {wf : α → Prop}, Opens P f.type d wf → ∃ x, d.K w x ((cs.drop f.offset).take (P.cellsOf f.type)) ∧ wf x := by
  obtain ⟨xs, n, rfl, hx, hlen, hxs, hf⟩ := DataW.trod_struct ht h
  obtain ⟨rfl, rfl⟩ := Prod.mk.inj hx
  refine ⟨hlen, fun i f hi {α d wf} ho => ?_⟩
  have hlt : i < xs.length := by
    rw [hxs]
    exact (Array.getElem?_eq_some_iff.1 hi).1
  have h1 := hf i f hi
  rw [List.getElem?_eq_getElem hlt] at h1
  refine ho H enc w base spare held n _ (xs[i]).1 (xs[i]).2 h1 (fun k hk => hw k ?_)
  rw [DataW.weights, ht]
  refine weightsEach_mem hk _ _ i ?_ ?_
  · rw [List.getElem?_map, Array.getElem?_toList, hi]; rfl
  · rw [List.getElem?_map, List.getElem?_eq_getElem hlt]; rfl
end Go.Proofs.Ytfocaefnmfkojaa.H
namespace Go.Proofs.Ytfocaefnmfkojaa.H
open Go.RowKit Go.Proofs.Ytfocaefnmfkojaa.Q Go.Proofs.YtfocaefnmfkojaaW.PrintWords
set_option linter.unusedVariables false
set_option linter.unusedSimpArgs false
theorem len3 {α : Type} {cs : List α} (h : cs.length = 3) : ∃ a b c, cs = [a, b, c] := by
  match cs, h with
  | [a, b, c], _ => exact ⟨a, b, c, rfl⟩
theorem len4 {α : Type} {cs : List α} (h : cs.length = 4) : ∃ a b c d, cs = [a, b, c, d] := by
  match cs, h with
  | [a, b, c, d], _ => exact ⟨a, b, c, d, rfl⟩
def wfI (x : Int) : Prop := (Lit.int .i64 x).wf = true
def wfOp (o : S46) : Prop := wfI o.f1 ∧ wfI o.f2
theorem opensOp : Opens Try.prog 46 k46 wfOp := by
  intro H enc w base spare held fuel cs D ps h hw
  obtain ⟨hl, hf⟩ := Opens.fields Try.underlying46 h hw
  rw [show Try.prog.cellsOf 46 = 3 by kernel_rfl] at hl
  obtain ⟨c0, c1, c2, rfl⟩ := len3 hl
  obtain ⟨x0, h0, _⟩ := hf 0 _ rfl (Opens.bool Try.underlying4)
  obtain ⟨x1, h1, w1⟩ := hf 1 _ rfl (Opens.int Try.underlying3)
  obtain ⟨x2, h2, w2⟩ := hf 2 _ rfl (Opens.int Try.underlying3)
  rw [show Try.prog.cellsOf _ = 1 by kernel_rfl] at h0 h1 h2
  obtain rfl : c0 = .bool x0 := by have : [c0] = [.bool x0] := h0; simpa using this
  obtain rfl : c1 = .int .i64 x1 := by have : [c1] = [.int .i64 x1] := h1; simpa using this
  obtain rfl : c2 = .int .i64 x2 := by have : [c2] = [.int .i64 x2] := h2; simpa using this
  exact ⟨⟨x0, x1, x2⟩, k46_mk w ⟨x0, x1, x2⟩, w1, w2⟩
def wfOps (l : List S46) : Prop := l.length ≤ maxLen ∧ l.length * 24 ≤ 140737488351232 ∧ ∀ x ∈ l, wfOp x
theorem opensOps : Opens Try.prog 42 (Kd.slice 46 k46) wfOps := by
  have h := Opens.slice Try.underlying42 (show Try.prog.cellsOf 46 = 3 by kernel_rfl) opensOp
  rw [show Try.prog.bytesOf 46 = 24 by kernel_rfl] at h
  exact h
def wfTxn (t : S44) : Prop := wfI t.f0 ∧ wfI t.f1 ∧ wfI t.f2 ∧ wfOps t.f3
theorem opensTxn : Opens Try.prog 44 k44 wfTxn := by
  intro H enc w base spare held fuel cs D ps h hw
  obtain ⟨hl, hf⟩ := Opens.fields Try.underlying44 h hw
  rw [show Try.prog.cellsOf 44 = 4 by kernel_rfl] at hl
  obtain ⟨c0, c1, c2, c3, rfl⟩ := len4 hl
  obtain ⟨x0, h0, w0⟩ := hf 0 _ rfl (Opens.int Try.underlying3)
  obtain ⟨x1, h1, w1⟩ := hf 1 _ rfl (Opens.int Try.underlying3)
  obtain ⟨x2, h2, w2⟩ := hf 2 _ rfl (Opens.int Try.underlying3)
  obtain ⟨x3, h3, w3⟩ := hf 3 _ rfl opensOps
  rw [show Try.prog.cellsOf _ = 1 by kernel_rfl] at h0 h1 h2 h3
  obtain rfl : c0 = .int .i64 x0 := by have : [c0] = [.int .i64 x0] := h0; simpa using this
  obtain rfl : c1 = .int .i64 x1 := by have : [c1] = [.int .i64 x1] := h1; simpa using this
  obtain rfl : c2 = .int .i64 x2 := by have : [c2] = [.int .i64 x2] := h2; simpa using this
  obtain ⟨A, c, he, hc, hC⟩ := h3
  obtain rfl : c3 = .slice A x3.length c := by have : [c3] = [.slice A x3.length c] := he; simpa using this
  exact ⟨⟨x0, x1, x2, x3⟩, k44_mk w ⟨x0, x1, x2, x3⟩ hc hC, w0, w1, w2, w3⟩
def wfH (l : List S44) : Prop := l.length ≤ maxLen ∧ l.length * 48 ≤ 140737488351232 ∧ ∀ x ∈ l, wfTxn x
theorem opensH : Opens Try.prog 23 (Kd.slice 44 k44) wfH := by
  have h := Opens.slice Try.underlying23 (show Try.prog.cellsOf 44 = 4 by kernel_rfl) opensTxn
  rw [show Try.prog.bytesOf 44 = 48 by kernel_rfl] at h
  exact h
theorem slice_in {α : Type} {P : Program} {t e : TypeId} {d : Kd α} {wf : List α → Prop} (ho : Opens P t (Kd.slice e d) wf) {H : Type} {enc : TypeId × Value → H} {w : World} {base : Nat} {spare : Nat → Bool} {held : Bool} {a : Option Addr} {len cap : Nat} {D : DataW H} {ps : List MemPlace}
    (h : DataW.Trod enc P w base spare held t (.slice a len cap) D ps) (hw : ∀ n ∈ D.weights P t, n ≤ 140737488351232) : ∃ l : List α, len = l.length ∧ l.length ≤ cap ∧ d.C w a l.length l ∧ wf l := by
  obtain ⟨fuel, hf⟩ := h
  obtain ⟨l, ⟨A, c, he, hc, hC⟩, hwf⟩ := ho H enc w base spare held fuel _ D ps hf hw
  simp [Value.cells] at he
  obtain ⟨rfl, rfl, rfl⟩ := he
  exact ⟨l, rfl, hc, hC, hwf⟩
theorem weights_at {H : Type} {P : Program} {ts : List TypeId} {ds : List (DataW H)} (hsz : (DataW.weightsEach P ts ds).all (· ≤ reachBytes) = true) {j : Nat} {t : TypeId} {d : DataW H} (ht : ts[j]? = some t) (hd : ds[j]? = some d) : ∀ n ∈ d.weights P t, n ≤ 140737488351232 := by
  intro n hn
  have := List.all_eq_true.1 hsz n (weightsEach_mem hn ts ds j ht hd)
  have := of_decide_eq_true this
  simpa [reachBytes] using this
end Go.Proofs.Ytfocaefnmfkojaa.H
namespace Go.Proofs.Ytfocaefnmfkojaa.Q
open Go.RowKit Go.Proofs.YtfocaefnmfkojaaW.PrintWords Go.Proofs.YtfocaefnmfkojaaW.PrintLast Go.Proofs.YtfocaefnmfkojaaW.PrintMore
open Go.Proofs.Ytfocaefnmfkojaa
set_option linter.unusedVariables false
set_option linter.unusedSimpArgs false
theorem same_calls (k : Nat) (A0 : Option Addr) (c0 : Nat) (l0 : List S44) (n0 : Nat) (A1 : Option Addr) (c1 : Nat) (l1 : List S44) (n1 : Nat) (r : Bool) (w : World) (e0 : l0.length = n0) (e1 : l1.length = n1) (hr0 : Kd.C k44 w A0 l0.length l0) (hc0 : n0 ≤ c0) (hr1 : Kd.C k44 w A1 l1.length l1) (hc1 : n1 ≤ c1) (h : history_Same.f k l0 l1 = some r) :
    Calls Try.prog 32 #[.slice A0 n0 c0, .slice A1 n1 c1] w fun e w' => e = .returned (.bool r) ∧ Below w.heap.size w w' := by
  subst e0 e1
  exact history_Same.calls k A0 c0 l0 A1 c1 l1 r w hr0 hc0 hr1 hc1 h
set_option maxHeartbeats 800000 in
set_option maxRecDepth 100000 in
theorem walk_historyCopies (w : World) (A : Option Addr) (c : Nat) (l : List S44) (hC : Kd.C k44 w A l.length l) (hc : l.length ≤ c) (wf : H.wfH l) (x : Int) (hx0 : (Lit.int IntKind.u8 x).wf = true) (y : Int) (hy0 : (Lit.int IntKind.u8 y).wf = true) :
    Calls Try.prog 8 #[.slice A l.length c, .int .u8 x, .int .u8 y] w fun e w' => e = .returned (.bool true) ∧ Below w.heap.size w w' := by
  have hx1 : 0 ≤ x ∧ x ≤ 255 := H.u8_wf hx0
  have hy1 : 0 ≤ y ∧ y ≤ 255 := H.u8_wf hy0
  obtain ⟨i, rfl⟩ : ∃ i : Nat, x = (i : Int) := ⟨x.toNat, by omega⟩
  obtain ⟨k, rfl⟩ : ∃ k : Nat, y = (k : Int) := ⟨y.toNat, by omega⟩
  clear hx0 hy0
  have hu44 := Try.underlying44
  have hu46 := Try.underlying46
  have HR := Aside0.mk hC
  have hsz : ∀ t ∈ l, t.f3.length ≤ 4000000000000000000 := fun t ht => by have := (wf.2.2 t ht).2.2.2.2.1; omega
  have HWF := Aside0.mk wf
  obtain ⟨K1, hK1⟩ := (R.big_ev l hsz).rounds
  have HSP : Aside0 (burgagelaw06_speaks.f = some true) := ⟨rfl⟩
  clear hC wf hsz
  have HS := Aside0.mk (H.SH.start w)
  go_enter Try.func8, Try.ntmps8
  cases hbg : R.bigB l with
  | true =>
    rw [hbg, if_pos rfl] at hK1
    have HK1 := Aside0.mk hK1
    clear hK1 hbg
    go_wp2_with (first
      | (go_at_call 23; refine (burgagelaw06_speaks.calls _ _ HSP.out).mono ?_; rintro e w_ ⟨rfl, hb⟩; have hs := HS.out.keep hb; clear HS hb; have HS := Aside0.mk hs; clear hs)
      | (go_at_call 24; refine (burgagelaw06_Big.calls K1 _ _ _ _ _ (Kd.C_below HR.out HS.out.below) hc HK1.out).mono ?_; rintro e w_ ⟨rfl, hb⟩; have hs := HS.out.keep hb; clear HS hb; have HS := Aside0.mk hs; clear hs)
      )
    go_ret
    exact ⟨rfl, HS.out.below⟩
  | false =>
    rw [hbg, if_neg (by simp)] at hK1
    have HK1 := Aside0.mk hK1
    obtain ⟨_, hl100, _, hl1200⟩ := R.bigB_few hbg
    have HL12 := Aside0.mk hl1200
    have HL3 : Aside0 (∀ t ∈ l, t.f3.length ≤ 10000) := ⟨fun t ht => by have := hl1200 t ht; omega⟩
    have HL6 : Aside0 (∀ t ∈ l, t.f3.length ≤ 1000000) := ⟨fun t ht => by have := hl1200 t ht; omega⟩
    obtain ⟨K2, hK2⟩ := (R.same_ev l l (by omega) HL6.out).rounds
    rw [(R.sameH_iff l l).mpr rfl] at hK2
    have HK2 := Aside0.mk hK2
    clear hK1 hbg hl1200 hK2
    rcases Nat.eq_zero_or_pos l.length with hl0 | hl0
    · obtain rfl : l = [] := List.eq_nil_of_length_eq_zero hl0
      have M1 : Aside0 True := ⟨trivial⟩
      go_wp2_with (first
        | (go_at_call 23; refine (burgagelaw06_speaks.calls _ _ HSP.out).mono ?_; rintro e w_ ⟨rfl, hb⟩; have hs := HS.out.keep hb; clear HS hb; have HS := Aside0.mk hs; clear hs)
        | (go_at_call 24; refine (burgagelaw06_Big.calls K1 _ _ _ _ _ (Kd.C_below HR.out HS.out.below) hc HK1.out).mono ?_; rintro e w_ ⟨rfl, hb⟩; have hs := HS.out.keep hb; clear HS hb; have HS := Aside0.mk hs; clear hs)
        | (go_at_call 31; have m_ := M1; clear m_ M1; refine (history_Copy.calls _ _ _ [] (Kd.C_below HR.out HS.out.below) hc (by simp) (by simp)).mono ?_; rintro e w_ ⟨v_, vs_, rfl, hcp⟩; obtain ⟨Ac, cc, rfl, _, hcc⟩ := hcp.row .here; have HCC := Aside0.mk hcc; have hs := HS.out.keep hcp.below; clear HS hcp hcc; have HS := Aside0.mk hs; clear hs)
        | (go_at_call 31; refine (history_Copy.calls _ _ _ [] (Kd.C_below HR.out HS.out.below) hc (by simp) (by simp)).mono ?_; rintro e w_ ⟨v_, vs_, rfl, hcp⟩; obtain ⟨Ad, cd, rfl, _, _⟩ := hcp.row .here; have hs := HS.out.keep hcp.below; clear HS hcp; have HS := Aside0.mk hs; clear hs)
        | (go_at_call 32; refine (history_Same.calls K2 _ _ [] _ _ [] _ _ (H.C_nil' _ _ _) (by simp) (H.C_nil' _ _ _) (by simp) HK2.out).mono ?_; rintro e w_ ⟨rfl, hb⟩; have hs := HS.out.keep hb; clear HS hb; have HS := Aside0.mk hs; clear hs)
        )
      go_ret
      exact ⟨rfl, HS.out.below⟩
    · have M1 : Aside0 True := ⟨trivial⟩
      have hjn : i % l.length < l.length := Nat.mod_lt _ hl0
      have htm : ((i : Int)).tmod (l.length : Int) = ((i % l.length : Nat) : Int) := by rw [Int.tmod_eq_emod_of_nonneg (by omega)]; rfl
      have hk4 : ((k : Int)).tmod 4 = ((k % 4 : Nat) : Int) := by rw [Int.tmod_eq_emod_of_nonneg (by omega)]; rfl
      have hk41 : k % 4 < 4 := Nat.mod_lt _ (by omega)
      generalize i % l.length = j at hjn htm
      generalize k % 4 = r at hk4 hk41
      go_upto_region 11 with (first
        | (go_at_call 23; refine (burgagelaw06_speaks.calls _ _ HSP.out).mono ?_; rintro e w_ ⟨rfl, hb⟩; have hs := HS.out.keep hb; clear HS hb; have HS := Aside0.mk hs; clear hs)
        | (go_at_call 24; refine (burgagelaw06_Big.calls K1 _ _ _ _ _ (Kd.C_below HR.out HS.out.below) hc HK1.out).mono ?_; rintro e w_ ⟨rfl, hb⟩; have hs := HS.out.keep hb; clear HS hb; have HS := Aside0.mk hs; clear hs)
        | (go_at_call 31; have m_ := M1; clear m_ M1; refine (history_Copy.calls _ _ _ l (Kd.C_below HR.out HS.out.below) hc (by omega) HL3.out).mono ?_; rintro e w_ ⟨v_, vs, rfl, hcp⟩; have HBB := Aside0.mk HS.out.le; have hs := HS.out.merge hcp; rw [List.append_nil] at hs; obtain ⟨gc, capc, cur, rfl, hcapc, _, hcur, hs2⟩ := hs.openCopy hl0; have HCU := Aside0.mk hcur; clear HS hcp hs hcur; have HS := Aside0.mk hs2; clear hs2)
        | (go_at_call 31; refine (history_Copy.calls _ _ _ l (Kd.C_below HR.out HS.out.below) hc (by omega) HL3.out).mono ?_; rintro e w_ ⟨v_, vs_, rfl, hcp⟩; have hs := HS.out.merge hcp; obtain ⟨gd, capd, cur_, rfl, hcapd, _, hcur_, hs2⟩ := hs.openCopy hl0; have hs3 := hs2.foldCopy hcapd (by omega) hcur_; clear HS hcp hs hs2 hcur_; have HS := Aside0.mk hs3; clear hs3)
        | (go_at_call 32; (first | (with_reducible refine (history_Same.calls K2 (some ⟨gc, 0, none⟩) capc l A c l _ _ (H.copy_C HS.out.drop.own.choose_spec (by omega) HCU.out) hcapc (Kd.C_below HR.out HS.out.below) hc HK2.out).mono ?_) | (with_reducible refine (history_Same.calls K2 A c l (some ⟨gc, 0, none⟩) capc l _ _ (Kd.C_below HR.out HS.out.below) hc (H.copy_C HS.out.drop.own.choose_spec (by omega) HCU.out) hcapc HK2.out).mono ?_)); rintro e w_ ⟨rfl, hb⟩; have hs := HS.out.keep hb; clear HS hb; have HS := Aside0.mk hs; clear hs)
        )
      have HS2 := HS.out.perm (List.perm_append_comm (l₁ := [_, _]))
      obtain ⟨Lo, hpk, hLo⟩ := H.SH.pick HBB.out hjn HS2
      have hpk2 : H.SH w _ (H.fA w.heap.size l vs j :: H.bk gc 44 cur :: H.vw k44 44 (.slice (some ⟨gd, 0, none⟩) l.length capd) l :: Lo) := hpk.perm (List.Perm.cons _ (List.perm_append_comm.trans (List.Perm.swap ..)))
      clear HS HS2 hpk
      have HS := Aside0.mk hpk2
      have HLo := Aside0.mk hLo
      clear hpk2 hLo
      have hT := H.fT_get hjn
      have hc0 : cur[j * 4]? = some (.int .i64 l[j].f0) := by have := HCU.out j hjn 0 (.int .i64 l[j].f0) (by rw [← hT]; rfl); simpa using this
      have hc2 : cur[j * 4 + 2]? = some (.int .i64 l[j].f2) := HCU.out j hjn 2 (.int .i64 l[j].f2) (by rw [← hT]; rfl)
      have hc3 : cur[j * 4 + 3]? = some (.slice (vs j).1 l[j].f3.length (vs j).2) := HCU.out j hjn 3 (.slice (vs j).1 l[j].f3.length (vs j).2) (by rw [← hT]; rfl)
      have hcz : j * 4 + 3 < cur.size := (Array.getElem?_eq_some_iff.mp hc3).1
      have HC0 := Aside0.mk hc0
      have HC2 := Aside0.mk hc2
      have HC3 := Aside0.mk hc3
      clear hc0 hc2 hc3
      have hlj := HL12.out _ (List.getElem_mem hjn)
      obtain ⟨K5, hK5⟩ := (R.same_ev l (l.take (l.length - 1)) (by omega) HL6.out).rounds
      rw [show R.sameH l (l.take (l.length - 1)) = false from by rw [← Bool.not_eq_true, R.sameH_iff]; intro e; have := congrArg List.length e; rw [List.length_take] at this; omega] at hK5
      have HK5 := Aside0.mk hK5
      clear hK5
      have hrc : r = 0 ∨ r = 1 ∨ r = 2 ∨ r = 3 := by omega
      rcases hrc with rfl | rfl | rfl | rfl
      · have hne : (⟨wrap64 (l[j].f0 + 1), l[j].f1, l[j].f2, l[j].f3⟩ : S44) ≠ l[j] := fun e => H.wrap_ne l[j].f0 (congrArg S44.f0 e)
        have hops : ∀ t ∈ l.set j (⟨wrap64 (l[j].f0 + 1), l[j].f1, l[j].f2, l[j].f3⟩ : S44), t.f3.length ≤ 1000000 := fun t ht => by
          rcases List.mem_or_eq_of_mem_set ht with h | rfl
          · exact HL6.out t h
          · exact HL6.out l[j] (List.getElem_mem hjn)
        obtain ⟨K3, hK3⟩ := (R.same_ev (l.set j (⟨wrap64 (l[j].f0 + 1), l[j].f1, l[j].f2, l[j].f3⟩ : S44)) l (by simp; omega) hops).rounds
        obtain ⟨K4, hK4⟩ := (R.same_ev l (l.set j (⟨wrap64 (l[j].f0 + 1), l[j].f1, l[j].f2, l[j].f3⟩ : S44)) (by omega) HL6.out).rounds
        rw [show R.sameH (l.set j (⟨wrap64 (l[j].f0 + 1), l[j].f1, l[j].f2, l[j].f3⟩ : S44)) l = false from by rw [← Bool.not_eq_true, R.sameH_iff]; exact H.set_ne hjn hne] at hK3
        rw [show R.sameH l (l.set j (⟨wrap64 (l[j].f0 + 1), l[j].f1, l[j].f2, l[j].f3⟩ : S44)) = false from by rw [← Bool.not_eq_true, R.sameH_iff]; exact fun e => H.set_ne hjn hne e.symm] at hK4
        have HK3 := Aside0.mk hK3
        have HK4 := Aside0.mk hK4
        clear hK3 hK4 hne hops
        have HCf : Aside0 (∀ wr, H.SH w wr (H.fA w.heap.size l vs j :: H.bk gc 44 (cur.setIfInBounds (j * 4) (.int .i64 (wrap64 (l[j].f0 + 1)))) :: H.vw k44 44 (.slice (some ⟨gd, 0, none⟩) l.length capd) l :: Lo) → Kd.C k44 wr (some ⟨gc, 0, none⟩) (l.set j (⟨wrap64 (l[j].f0 + 1), l[j].f1, l[j].f2, l[j].f3⟩ : S44)).length (l.set j (⟨wrap64 (l[j].f0 + 1), l[j].f1, l[j].f2, l[j].f3⟩ : S44))) := ⟨fun wr h => h.changed1 (cur := cur) (B := w.heap.size) (vs := vs) (vs' := vs) hjn (by omega) (List.mem_cons_of_mem _ (List.mem_cons_self ..)) (H.cur_set (f0 := 0) (u0 := (.int .i64 (wrap64 (l[j].f0 + 1)))) hjn HCU.out (by omega) (by unfold H.fV; rw [hT]; rfl) (fun _ _ => rfl)) (fun _ _ => rfl) (by unfold H.fA; rw [hT]; exact List.mem_cons_self ..) (fun q hq hne => List.mem_cons_of_mem _ (List.mem_cons_of_mem _ (List.mem_cons_of_mem _ (HLo.out q hq hne))))⟩
        go_wp2_with (first
          | (skip; (with_reducible refine H.gate_idx rfl ?_); refine' H.ev_idxb ?q9hw ?q9ho ?q9hx ?q9hix Try.underlying23 sz44 hjn ?_; (case q9hw => rfl); (case q9ho => rfl); (case q9hx => rfl); (case q9hix => rfl))
          | ((with_reducible refine H.gate_load rfl ?_); refine' H.ev_loadb HS.out ?q9hw ?q9ho ?q9hx ?q9hu ?q9hd ?q9hat ?q9hv ?_; (case q9hw => rfl); (case q9ho => rfl); (case q9hx => rfl); (case q9hu => first | exact Try.underlying3 | exact Try.underlying4 | exact Try.underlying42 | exact Try.underlying46 | exact Try.underlying44 | exact Try.underlying23); (case q9hd => rfl); (case q9hat => first | exact .here | exact .there .here | exact .there (.there .here) | exact .there (.there (.there .here)) | exact .there (.there (.there (.there .here))) | exact .there (.there (.there (.there (.there .here))))); (case q9hv => first | exact HC0.out))
          | ((with_reducible refine H.gate_sto rfl ?_); refine' H.ev_store HS.out (v := (.int .i64 (wrap64 (l[j].f0 + 1)))) ?q9hw ?q9ho ?q9hx ?q9hy ?q9hv ?q9hi ?q9hat ?q9hlt ?q9hcs ?_; (case q9hw => rfl); (case q9ho => rfl); (case q9hx => rfl); (case q9hy => rfl); (case q9hv => rfl); (case q9hi => first | exact sz3 | exact sz4 | exact sz42 | exact sz46 | exact sz44 | exact sz23); (case q9hat => first | exact .here | exact .there .here | exact .there (.there .here) | exact .there (.there (.there .here)) | exact .there (.there (.there (.there .here))) | exact .there (.there (.there (.there (.there .here))))); (case q9hlt => omega); (case q9hcs => rfl); intro w_ hs; clear HS; have HS := Aside0.mk hs; clear hs)
          | (go_at_call 32; (first | (with_reducible refine (same_calls K3 (some ⟨gc, 0, none⟩) capc (l.set j (⟨wrap64 (l[j].f0 + 1), l[j].f1, l[j].f2, l[j].f3⟩ : S44)) l.length A c l l.length _ _ (List.length_set ..) rfl (HCf.out _ HS.out) hcapc (Kd.C_below HR.out HS.out.below) hc HK3.out).mono ?_) | (with_reducible refine (same_calls K4 A c l l.length (some ⟨gc, 0, none⟩) capc (l.set j (⟨wrap64 (l[j].f0 + 1), l[j].f1, l[j].f2, l[j].f3⟩ : S44)) l.length _ _ rfl (List.length_set ..) (Kd.C_below HR.out HS.out.below) hc (HCf.out _ HS.out) hcapc HK4.out).mono ?_) | (with_reducible refine (same_calls K2 (some ⟨gd, 0, none⟩) capd l l.length A c l l.length _ _ rfl rfl (HS.out.atC (.there (.there .here))).2 hcapd (Kd.C_below HR.out HS.out.below) hc HK2.out).mono ?_) | (with_reducible refine (same_calls K5 A c l l.length A c (l.take (l.length - 1)) (l.length - 1) _ _ rfl (by rw [List.length_take]; omega) (Kd.C_below HR.out HS.out.below) hc (by rw [List.length_take, Nat.min_eq_left (by omega)]; exact H.C_take (Kd.C_below HR.out HS.out.below) (by omega)) (by omega) HK5.out).mono ?_)); rintro e w_ ⟨rfl, hb⟩; have hs := HS.out.keep hb; clear HS hb; have HS := Aside0.mk hs; clear hs)
          )
        go_ret
        exact ⟨rfl, HS.out.below⟩
      · have hne : (⟨l[j].f0, l[j].f1, wrap64 (l[j].f2 + 1), l[j].f3⟩ : S44) ≠ l[j] := fun e => H.wrap_ne l[j].f2 (congrArg S44.f2 e)
        have hops : ∀ t ∈ l.set j (⟨l[j].f0, l[j].f1, wrap64 (l[j].f2 + 1), l[j].f3⟩ : S44), t.f3.length ≤ 1000000 := fun t ht => by
          rcases List.mem_or_eq_of_mem_set ht with h | rfl
          · exact HL6.out t h
          · exact HL6.out l[j] (List.getElem_mem hjn)
        obtain ⟨K3, hK3⟩ := (R.same_ev (l.set j (⟨l[j].f0, l[j].f1, wrap64 (l[j].f2 + 1), l[j].f3⟩ : S44)) l (by simp; omega) hops).rounds
        obtain ⟨K4, hK4⟩ := (R.same_ev l (l.set j (⟨l[j].f0, l[j].f1, wrap64 (l[j].f2 + 1), l[j].f3⟩ : S44)) (by omega) HL6.out).rounds
        rw [show R.sameH (l.set j (⟨l[j].f0, l[j].f1, wrap64 (l[j].f2 + 1), l[j].f3⟩ : S44)) l = false from by rw [← Bool.not_eq_true, R.sameH_iff]; exact H.set_ne hjn hne] at hK3
        rw [show R.sameH l (l.set j (⟨l[j].f0, l[j].f1, wrap64 (l[j].f2 + 1), l[j].f3⟩ : S44)) = false from by rw [← Bool.not_eq_true, R.sameH_iff]; exact fun e => H.set_ne hjn hne e.symm] at hK4
        have HK3 := Aside0.mk hK3
        have HK4 := Aside0.mk hK4
        clear hK3 hK4 hne hops
        have HCf : Aside0 (∀ wr, H.SH w wr (H.fA w.heap.size l vs j :: H.bk gc 44 (cur.setIfInBounds (j * 4 + 2) (.int .i64 (wrap64 (l[j].f2 + 1)))) :: H.vw k44 44 (.slice (some ⟨gd, 0, none⟩) l.length capd) l :: Lo) → Kd.C k44 wr (some ⟨gc, 0, none⟩) (l.set j (⟨l[j].f0, l[j].f1, wrap64 (l[j].f2 + 1), l[j].f3⟩ : S44)).length (l.set j (⟨l[j].f0, l[j].f1, wrap64 (l[j].f2 + 1), l[j].f3⟩ : S44))) := ⟨fun wr h => h.changed1 (cur := cur) (B := w.heap.size) (vs := vs) (vs' := vs) hjn (by omega) (List.mem_cons_of_mem _ (List.mem_cons_self ..)) (H.cur_set (f0 := 2) (u0 := (.int .i64 (wrap64 (l[j].f2 + 1)))) hjn HCU.out (by omega) (by unfold H.fV; rw [hT]; rfl) (fun _ _ => rfl)) (fun _ _ => rfl) (by unfold H.fA; rw [hT]; exact List.mem_cons_self ..) (fun q hq hne => List.mem_cons_of_mem _ (List.mem_cons_of_mem _ (List.mem_cons_of_mem _ (HLo.out q hq hne))))⟩
        go_wp2_with (first
          | (skip; (with_reducible refine H.gate_idx rfl ?_); refine' H.ev_idxb ?q9hw ?q9ho ?q9hx ?q9hix Try.underlying23 sz44 hjn ?_; (case q9hw => rfl); (case q9ho => rfl); (case q9hx => rfl); (case q9hix => rfl))
          | ((with_reducible refine H.gate_load rfl ?_); refine' H.ev_loadb HS.out ?q9hw ?q9ho ?q9hx ?q9hu ?q9hd ?q9hat ?q9hv ?_; (case q9hw => rfl); (case q9ho => rfl); (case q9hx => rfl); (case q9hu => first | exact Try.underlying3 | exact Try.underlying4 | exact Try.underlying42 | exact Try.underlying46 | exact Try.underlying44 | exact Try.underlying23); (case q9hd => rfl); (case q9hat => first | exact .here | exact .there .here | exact .there (.there .here) | exact .there (.there (.there .here)) | exact .there (.there (.there (.there .here))) | exact .there (.there (.there (.there (.there .here))))); (case q9hv => first | exact HC2.out))
          | ((with_reducible refine H.gate_sto rfl ?_); refine' H.ev_store HS.out (v := (.int .i64 (wrap64 (l[j].f2 + 1)))) ?q9hw ?q9ho ?q9hx ?q9hy ?q9hv ?q9hi ?q9hat ?q9hlt ?q9hcs ?_; (case q9hw => rfl); (case q9ho => rfl); (case q9hx => rfl); (case q9hy => rfl); (case q9hv => rfl); (case q9hi => first | exact sz3 | exact sz4 | exact sz42 | exact sz46 | exact sz44 | exact sz23); (case q9hat => first | exact .here | exact .there .here | exact .there (.there .here) | exact .there (.there (.there .here)) | exact .there (.there (.there (.there .here))) | exact .there (.there (.there (.there (.there .here))))); (case q9hlt => omega); (case q9hcs => rfl); intro w_ hs; clear HS; have HS := Aside0.mk hs; clear hs)
          | (go_at_call 32; (first | (with_reducible refine (same_calls K3 (some ⟨gc, 0, none⟩) capc (l.set j (⟨l[j].f0, l[j].f1, wrap64 (l[j].f2 + 1), l[j].f3⟩ : S44)) l.length A c l l.length _ _ (List.length_set ..) rfl (HCf.out _ HS.out) hcapc (Kd.C_below HR.out HS.out.below) hc HK3.out).mono ?_) | (with_reducible refine (same_calls K4 A c l l.length (some ⟨gc, 0, none⟩) capc (l.set j (⟨l[j].f0, l[j].f1, wrap64 (l[j].f2 + 1), l[j].f3⟩ : S44)) l.length _ _ rfl (List.length_set ..) (Kd.C_below HR.out HS.out.below) hc (HCf.out _ HS.out) hcapc HK4.out).mono ?_) | (with_reducible refine (same_calls K2 (some ⟨gd, 0, none⟩) capd l l.length A c l l.length _ _ rfl rfl (HS.out.atC (.there (.there .here))).2 hcapd (Kd.C_below HR.out HS.out.below) hc HK2.out).mono ?_) | (with_reducible refine (same_calls K5 A c l l.length A c (l.take (l.length - 1)) (l.length - 1) _ _ rfl (by rw [List.length_take]; omega) (Kd.C_below HR.out HS.out.below) hc (by rw [List.length_take, Nat.min_eq_left (by omega)]; exact H.C_take (Kd.C_below HR.out HS.out.below) (by omega)) (by omega) HK5.out).mono ?_)); rintro e w_ ⟨rfl, hb⟩; have hs := HS.out.keep hb; clear HS hb; have HS := Aside0.mk hs; clear hs)
          )
        go_ret
        exact ⟨rfl, HS.out.below⟩
      · have hne : (⟨l[j].f0, l[j].f1, l[j].f2, (l[j].f3 ++ [(⟨false, 0, 0⟩ : S46)])⟩ : S44) ≠ l[j] := fun e => by have := congrArg (fun t : S44 => t.f3.length) e; simp at this
        have hops : ∀ t ∈ l.set j (⟨l[j].f0, l[j].f1, l[j].f2, (l[j].f3 ++ [(⟨false, 0, 0⟩ : S46)])⟩ : S44), t.f3.length ≤ 1000000 := fun t ht => by
          rcases List.mem_or_eq_of_mem_set ht with h | rfl
          · exact HL6.out t h
          · simp; omega
        obtain ⟨K3, hK3⟩ := (R.same_ev (l.set j (⟨l[j].f0, l[j].f1, l[j].f2, (l[j].f3 ++ [(⟨false, 0, 0⟩ : S46)])⟩ : S44)) l (by simp; omega) hops).rounds
        obtain ⟨K4, hK4⟩ := (R.same_ev l (l.set j (⟨l[j].f0, l[j].f1, l[j].f2, (l[j].f3 ++ [(⟨false, 0, 0⟩ : S46)])⟩ : S44)) (by omega) HL6.out).rounds
        rw [show R.sameH (l.set j (⟨l[j].f0, l[j].f1, l[j].f2, (l[j].f3 ++ [(⟨false, 0, 0⟩ : S46)])⟩ : S44)) l = false from by rw [← Bool.not_eq_true, R.sameH_iff]; exact H.set_ne hjn hne] at hK3
        rw [show R.sameH l (l.set j (⟨l[j].f0, l[j].f1, l[j].f2, (l[j].f3 ++ [(⟨false, 0, 0⟩ : S46)])⟩ : S44)) = false from by rw [← Bool.not_eq_true, R.sameH_iff]; exact fun e => H.set_ne hjn hne e.symm] at hK4
        have HK3 := Aside0.mk hK3
        have HK4 := Aside0.mk hK4
        clear hK3 hK4 hne hops
        have hs := HS.out
        rw [show H.fA w.heap.size l vs j = H.rw' w.heap.size k46 46 (.slice (vs j).1 l[j].f3.length (vs j).2) l[j].f3 from by unfold H.fA; rw [hT]] at hs
        clear HS
        have HS := Aside0.mk hs
        clear hs
        have hA2 : ∀ (A1 : Option Addr) (c1 : Nat) (Ls : List H.Asn), H.rw' w.heap.size k46 46 (.slice (if j = j then (A1, c1) else vs j).1 (l[j].f3 ++ [(⟨false, 0, 0⟩ : S46)]).length (if j = j then (A1, c1) else vs j).2) (l[j].f3 ++ [(⟨false, 0, 0⟩ : S46)]) ∈ H.rw' w.heap.size k46 46 (.slice A1 (l[j].f3.length + 1) c1) (l[j].f3 ++ [(⟨false, 0, 0⟩ : S46)]) :: Ls := fun A1 c1 Ls => by
          simp only [if_true, List.length_append, List.length_singleton]
          exact List.mem_cons_self ..
        have HCf : Aside0 (∀ A1 c1 wr, H.SH w wr (H.rw' w.heap.size k46 46 (.slice A1 (l[j].f3.length + 1) c1) (l[j].f3 ++ [(⟨false, 0, 0⟩ : S46)]) :: H.bk gc 44 (cur.setIfInBounds (j * 4 + 3) (.slice A1 (l[j].f3.length + 1) c1)) :: H.vw k44 44 (.slice (some ⟨gd, 0, none⟩) l.length capd) l :: Lo) → Kd.C k44 wr (some ⟨gc, 0, none⟩) (l.set j (⟨l[j].f0, l[j].f1, l[j].f2, (l[j].f3 ++ [(⟨false, 0, 0⟩ : S46)])⟩ : S44)).length (l.set j (⟨l[j].f0, l[j].f1, l[j].f2, (l[j].f3 ++ [(⟨false, 0, 0⟩ : S46)])⟩ : S44))) := ⟨fun A1 c1 wr h => h.changed1 (cur := cur) (B := w.heap.size) (vs := vs) (vs' := fun q => if q = j then (A1, c1) else vs q) (t' := (⟨l[j].f0, l[j].f1, l[j].f2, (l[j].f3 ++ [(⟨false, 0, 0⟩ : S46)])⟩ : S44)) hjn (by omega) (List.mem_cons_of_mem _ (List.mem_cons_self ..)) (H.cur_set (f0 := 3) (u0 := (.slice A1 (l[j].f3.length + 1) c1)) hjn HCU.out (by omega) (by unfold H.fV; rw [hT]; simp [H.tV, H.V4.l]) (fun q hq => by simp [hq])) (fun q hq => by simp [hq]) (hA2 A1 c1 _) (fun q hq hne => List.mem_cons_of_mem _ (List.mem_cons_of_mem _ (List.mem_cons_of_mem _ (HLo.out q hq hne))))⟩
        clear hA2
        go_wp2_with (first
          | (skip; (with_reducible refine H.gate_idx rfl ?_); refine' H.ev_idxb ?q9hw ?q9ho ?q9hx ?q9hix Try.underlying23 sz44 hjn ?_; (case q9hw => rfl); (case q9ho => rfl); (case q9hx => rfl); (case q9hix => rfl))
          | ((with_reducible refine H.gate_load rfl ?_); refine' H.ev_loadb HS.out ?q9hw ?q9ho ?q9hx ?q9hu ?q9hd ?q9hat ?q9hv ?_; (case q9hw => rfl); (case q9ho => rfl); (case q9hx => rfl); (case q9hu => first | exact Try.underlying3 | exact Try.underlying4 | exact Try.underlying42 | exact Try.underlying46 | exact Try.underlying44 | exact Try.underlying23); (case q9hd => rfl); (case q9hat => first | exact .here | exact .there .here | exact .there (.there .here) | exact .there (.there (.there .here)) | exact .there (.there (.there (.there .here))) | exact .there (.there (.there (.there (.there .here))))); (case q9hv => first | exact HC3.out))
          | ((with_reducible refine gate_dst (N := 104) rfl ?_); (with_reducible refine gate_builtin (b := .append) rfl ?_); refine' H.ev_append k46 HS.out ?q9hw ?q9ho Try.underlying42 info46 rfl (by decide) (by decide) (p := (⟨false, 0, 0⟩ : S46)) ?q9hs ?q9hx ?q9hp ?q9hat ?q9hl ?_; (case q9hw => rfl); (case q9ho => rfl); (case q9hs => rfl); (case q9hx => rfl); (case q9hp => exact k46_mkM _ _ _ _); (case q9hat => first | exact .here | exact .there .here | exact .there (.there .here) | exact .there (.there (.there .here)) | exact .there (.there (.there (.there .here))) | exact .there (.there (.there (.there (.there .here))))); (case q9hl => omega); intro v1 w_ hs; obtain ⟨A1, c1, hv1⟩ := hs.slice_of .here; subst hv1; rw [show (l[j].f3 ++ [(⟨false, 0, 0⟩ : S46)]).length = l[j].f3.length + 1 from by simp] at hs; clear HS; have HS := Aside0.mk hs; clear hs)
          | ((with_reducible refine H.gate_sto rfl ?_); refine' H.ev_store HS.out (v := (.slice A1 (l[j].f3.length + 1) c1)) ?q9hw ?q9ho ?q9hx ?q9hy ?q9hv ?q9hi ?q9hat ?q9hlt ?q9hcs ?_; (case q9hw => rfl); (case q9ho => rfl); (case q9hx => rfl); (case q9hy => rfl); (case q9hv => rfl); (case q9hi => first | exact sz3 | exact sz4 | exact sz42 | exact sz46 | exact sz44 | exact sz23); (case q9hat => first | exact .here | exact .there .here | exact .there (.there .here) | exact .there (.there (.there .here)) | exact .there (.there (.there (.there .here))) | exact .there (.there (.there (.there (.there .here))))); (case q9hlt => omega); (case q9hcs => rfl); intro w_ hs; clear HS; have HS := Aside0.mk hs; clear hs)
          | (go_at_call 32; (first | (with_reducible refine (same_calls K3 (some ⟨gc, 0, none⟩) capc (l.set j (⟨l[j].f0, l[j].f1, l[j].f2, (l[j].f3 ++ [(⟨false, 0, 0⟩ : S46)])⟩ : S44)) l.length A c l l.length _ _ (List.length_set ..) rfl (HCf.out _ _ _ HS.out) hcapc (Kd.C_below HR.out HS.out.below) hc HK3.out).mono ?_) | (with_reducible refine (same_calls K4 A c l l.length (some ⟨gc, 0, none⟩) capc (l.set j (⟨l[j].f0, l[j].f1, l[j].f2, (l[j].f3 ++ [(⟨false, 0, 0⟩ : S46)])⟩ : S44)) l.length _ _ rfl (List.length_set ..) (Kd.C_below HR.out HS.out.below) hc (HCf.out _ _ _ HS.out) hcapc HK4.out).mono ?_) | (with_reducible refine (same_calls K2 (some ⟨gd, 0, none⟩) capd l l.length A c l l.length _ _ rfl rfl (HS.out.atC (.there (.there .here))).2 hcapd (Kd.C_below HR.out HS.out.below) hc HK2.out).mono ?_) | (with_reducible refine (same_calls K5 A c l l.length A c (l.take (l.length - 1)) (l.length - 1) _ _ rfl (by rw [List.length_take]; omega) (Kd.C_below HR.out HS.out.below) hc (by rw [List.length_take, Nat.min_eq_left (by omega)]; exact H.C_take (Kd.C_below HR.out HS.out.below) (by omega)) (by omega) HK5.out).mono ?_)); rintro e w_ ⟨rfl, hb⟩; have hs := HS.out.keep hb; clear HS hb; have HS := Aside0.mk hs; clear hs)
          )
        go_ret
        exact ⟨rfl, HS.out.below⟩
      · have hcap3 := hcz
        have hs := HS.out
        rw [show H.fA w.heap.size l vs j = H.rw' w.heap.size k46 46 (.slice (vs j).1 l[j].f3.length (vs j).2) l[j].f3 from by unfold H.fA; rw [hT]] at hs
        clear HS
        rcases Nat.eq_zero_or_pos l[j].f3.length with hz | hp
        · have HS := Aside0.mk hs
          clear hs
          have hzb : ((l[j].f3.length : Int) == 0) = true := by rw [hz]; rfl
          go_wp2_with (first
            | (skip; (with_reducible refine H.gate_idx rfl ?_); refine' H.ev_idxb ?q9hw ?q9ho ?q9hx ?q9hix Try.underlying23 sz44 hjn ?_; (case q9hw => rfl); (case q9ho => rfl); (case q9hx => rfl); (case q9hix => rfl))
            | ((with_reducible refine H.gate_load rfl ?_); refine' H.ev_loadb HS.out ?q9hw ?q9ho ?q9hx ?q9hu ?q9hd ?q9hat ?q9hv ?_; (case q9hw => rfl); (case q9ho => rfl); (case q9hx => rfl); (case q9hu => first | exact Try.underlying3 | exact Try.underlying4 | exact Try.underlying42 | exact Try.underlying46 | exact Try.underlying44 | exact Try.underlying23); (case q9hd => rfl); (case q9hat => first | exact .here | exact .there .here | exact .there (.there .here) | exact .there (.there (.there .here)) | exact .there (.there (.there (.there .here))) | exact .there (.there (.there (.there (.there .here))))); (case q9hv => first | exact HC3.out))
            )
          go_ret
          exact ⟨rfl, HS.out.below⟩
        obtain ⟨gi, capi, curi, hvi, hci, _, hcells, hs2⟩ := hs.openRow hp
        have HS := Aside0.mk hs2
        clear hs hs2
        have hops3 := H.ops_cells hcells
        have hv1 : vs j = (some ⟨gi, 0, none⟩, capi) := by
          injection hvi with a b c
          exact Prod.ext a c
        have hc3' := HC3.out
        rw [hv1] at hc3'
        clear hvi hcells HC3
        have HC3 := Aside0.mk hc3'
        have hzb : ((l[j].f3.length : Int) == 0) = false := beq_eq_false_iff_ne.mpr (by omega)
        have hz1 : ¬ ((l[j].f3.length : Int) = 0) := by omega
        have hz2 : ¬ l[j].f3 = [] := fun e => by rw [e] at hp; exact absurd hp (by simp)
        have htm2 : ((k : Int)).tmod (l[j].f3.length : Int) = ((k % l[j].f3.length : Nat) : Int) := by rw [Int.tmod_eq_emod_of_nonneg (by omega)]; rfl
        have hpn : k % l[j].f3.length < l[j].f3.length := Nat.mod_lt _ hp
        generalize k % l[j].f3.length = p at htm2 hpn
        have hcv := (hops3 p hpn).2.2
        have hp0 : (0 : Int) ≤ (p : Int) := by omega
        have hwk : IntKind.i64.wrap (k : Int) = (k : Int) := by rw [IntKind.wrap_i64]; omega
        have hwf : IntKind.i64.wrap ((l[j].f3[p]).f2 + 1) = wrap64 ((l[j].f3[p]).f2 + 1) := i64_w _
        have hp1 : (p : Int) < (l[j].f3.length : Int) := by omega
        have hpz : p * 3 + 2 < curi.size := (Array.getElem?_eq_some_iff.mp hcv).1
        have hne : (⟨l[j].f0, l[j].f1, l[j].f2, (l[j].f3.set p ⟨(l[j].f3[p]).f0, (l[j].f3[p]).f1, wrap64 ((l[j].f3[p]).f2 + 1)⟩)⟩ : S44) ≠ l[j] := fun e => by have h1 := congrArg (fun t : S44 => t.f3.getD p ⟨false, 0, 0⟩) e; simp [hpn] at h1; exact H.wrap_ne _ (congrArg S46.f2 h1)
        have hops : ∀ t ∈ l.set j (⟨l[j].f0, l[j].f1, l[j].f2, (l[j].f3.set p ⟨(l[j].f3[p]).f0, (l[j].f3[p]).f1, wrap64 ((l[j].f3[p]).f2 + 1)⟩)⟩ : S44), t.f3.length ≤ 1000000 := fun t ht => by
          rcases List.mem_or_eq_of_mem_set ht with h | rfl
          · exact HL6.out t h
          · simp; omega
        obtain ⟨K3, hK3⟩ := (R.same_ev (l.set j (⟨l[j].f0, l[j].f1, l[j].f2, (l[j].f3.set p ⟨(l[j].f3[p]).f0, (l[j].f3[p]).f1, wrap64 ((l[j].f3[p]).f2 + 1)⟩)⟩ : S44)) l (by simp; omega) hops).rounds
        obtain ⟨K4, hK4⟩ := (R.same_ev l (l.set j (⟨l[j].f0, l[j].f1, l[j].f2, (l[j].f3.set p ⟨(l[j].f3[p]).f0, (l[j].f3[p]).f1, wrap64 ((l[j].f3[p]).f2 + 1)⟩)⟩ : S44)) (by omega) HL6.out).rounds
        rw [show R.sameH (l.set j (⟨l[j].f0, l[j].f1, l[j].f2, (l[j].f3.set p ⟨(l[j].f3[p]).f0, (l[j].f3[p]).f1, wrap64 ((l[j].f3[p]).f2 + 1)⟩)⟩ : S44)) l = false from by rw [← Bool.not_eq_true, R.sameH_iff]; exact H.set_ne hjn hne] at hK3
        rw [show R.sameH l (l.set j (⟨l[j].f0, l[j].f1, l[j].f2, (l[j].f3.set p ⟨(l[j].f3[p]).f0, (l[j].f3[p]).f1, wrap64 ((l[j].f3[p]).f2 + 1)⟩)⟩ : S44)) = false from by rw [← Bool.not_eq_true, R.sameH_iff]; exact fun e => H.set_ne hjn hne e.symm] at hK4
        have HK3 := Aside0.mk hK3
        have HK4 := Aside0.mk hK4
        clear hK3 hK4 hne hops
        have HCf : Aside0 (∀ wr, H.SH w wr (H.bk gi 46 (curi.setIfInBounds (p * 3 + 2) (.int .i64 (wrap64 ((l[j].f3[p]).f2 + 1)))) :: H.bk gc 44 cur :: H.vw k44 44 (.slice (some ⟨gd, 0, none⟩) l.length capd) l :: Lo) → Kd.C k44 wr (some ⟨gc, 0, none⟩) (l.set j (⟨l[j].f0, l[j].f1, l[j].f2, (l[j].f3.set p ⟨(l[j].f3[p]).f0, (l[j].f3[p]).f1, wrap64 ((l[j].f3[p]).f2 + 1)⟩)⟩ : S44)).length (l.set j (⟨l[j].f0, l[j].f1, l[j].f2, (l[j].f3.set p ⟨(l[j].f3[p]).f0, (l[j].f3[p]).f1, wrap64 ((l[j].f3[p]).f2 + 1)⟩)⟩ : S44))) := ⟨fun wr h => by
          refine h.changed2 (capi := capi) (vs := vs) (t' := (⟨l[j].f0, l[j].f1, l[j].f2, (l[j].f3.set p ⟨(l[j].f3[p]).f0, (l[j].f3[p]).f1, wrap64 ((l[j].f3[p]).f2 + 1)⟩)⟩ : S44)) hjn (by omega) (List.mem_cons_of_mem _ (List.mem_cons_self ..)) (List.mem_cons_self ..) ?_ hv1 ?_ ?_ (H.ops_set hops3 hpn _) (fun q hq hne => List.mem_cons_of_mem _ (List.mem_cons_of_mem _ (List.mem_cons_of_mem _ (HLo.out q hq hne))))
          · intro q hq f u hf
            rw [List.length_set] at hq
            refine HCU.out q hq f u ?_
            by_cases hqj : q = j
            · subst hqj
              unfold H.fV at hf ⊢
              rw [H.fT_set_eq hjn] at hf
              rw [hT]
              simpa [H.tV, H.V4.l] using hf
            · unfold H.fV at hf ⊢
              rw [H.fT_set_ne hqj] at hf
              exact hf
          · simp only [List.length_set]; exact hci
          · simp only [List.length_set]; omega⟩
        go_upto_region 14 with (first
          | (skip; (with_reducible refine H.gate_idx rfl ?_); refine' H.ev_idxb ?q9hw ?q9ho ?q9hx ?q9hix Try.underlying23 sz44 hjn ?_; (case q9hw => rfl); (case q9ho => rfl); (case q9hx => rfl); (case q9hix => rfl))
          | ((with_reducible refine H.gate_load rfl ?_); refine' H.ev_loadb HS.out ?q9hw ?q9ho ?q9hx ?q9hu ?q9hd ?q9hat ?q9hv ?_; (case q9hw => rfl); (case q9ho => rfl); (case q9hx => rfl); (case q9hu => first | exact Try.underlying3 | exact Try.underlying4 | exact Try.underlying42 | exact Try.underlying46 | exact Try.underlying44 | exact Try.underlying23); (case q9hd => rfl); (case q9hat => first | exact .here | exact .there .here | exact .there (.there .here) | exact .there (.there (.there .here)) | exact .there (.there (.there (.there .here))) | exact .there (.there (.there (.there (.there .here))))); (case q9hv => first | exact HC3.out))
          )
        have hq1 := HS.out.cell (.there .here) (j * 4 + 3)
        rw [HC3.out] at hq1
        have hq2 := HS.out.cell .here (p * 3 + 2)
        rw [hcv] at hq2
        have hq3 := HS.out.drew.cell (.there .here) (j * 4 + 3)
        rw [HC3.out] at hq3
        have hq4 := HS.out.drew.cell .here (p * 3 + 2)
        rw [hcv] at hq4
        go_still_tail 20, (by kernel_rfl)
        have hs := HS.out.drew
        clear HS hq1 hq2 hq3 hq4
        have HS := Aside0.mk hs
        clear hs
        change wpList _ _ _ _ _ (World.drew _)
        go_wp2_with (first
          | ((with_reducible refine H.gate_sto rfl ?_); refine' H.ev_store HS.out (v := (.int .i64 (wrap64 ((l[j].f3[p]).f2 + 1)))) ?q9hw ?q9ho ?q9hx ?q9hy ?q9hv ?q9hi ?q9hat ?q9hlt ?q9hcs ?_; (case q9hw => rfl); (case q9ho => rfl); (case q9hx => rfl); (case q9hy => rfl); (case q9hv => rfl); (case q9hi => first | exact sz3 | exact sz4 | exact sz42 | exact sz46 | exact sz44 | exact sz23); (case q9hat => first | exact .here | exact .there .here | exact .there (.there .here) | exact .there (.there (.there .here)) | exact .there (.there (.there (.there .here))) | exact .there (.there (.there (.there (.there .here))))); (case q9hlt => omega); (case q9hcs => rfl); intro w_ hs; clear HS; have HS := Aside0.mk hs; clear hs)
          | (go_at_call 32; (first | (with_reducible refine (same_calls K3 (some ⟨gc, 0, none⟩) capc (l.set j (⟨l[j].f0, l[j].f1, l[j].f2, (l[j].f3.set p ⟨(l[j].f3[p]).f0, (l[j].f3[p]).f1, wrap64 ((l[j].f3[p]).f2 + 1)⟩)⟩ : S44)) l.length A c l l.length _ _ (List.length_set ..) rfl (HCf.out _ HS.out) hcapc (Kd.C_below HR.out HS.out.below) hc HK3.out).mono ?_) | (with_reducible refine (same_calls K4 A c l l.length (some ⟨gc, 0, none⟩) capc (l.set j (⟨l[j].f0, l[j].f1, l[j].f2, (l[j].f3.set p ⟨(l[j].f3[p]).f0, (l[j].f3[p]).f1, wrap64 ((l[j].f3[p]).f2 + 1)⟩)⟩ : S44)) l.length _ _ rfl (List.length_set ..) (Kd.C_below HR.out HS.out.below) hc (HCf.out _ HS.out) hcapc HK4.out).mono ?_) | (with_reducible refine (same_calls K2 (some ⟨gd, 0, none⟩) capd l l.length A c l l.length _ _ rfl rfl (HS.out.atC (.there (.there .here))).2 hcapd (Kd.C_below HR.out HS.out.below) hc HK2.out).mono ?_) | (with_reducible refine (same_calls K5 A c l l.length A c (l.take (l.length - 1)) (l.length - 1) _ _ rfl (by rw [List.length_take]; omega) (Kd.C_below HR.out HS.out.below) hc (by rw [List.length_take, Nat.min_eq_left (by omega)]; exact H.C_take (Kd.C_below HR.out HS.out.below) (by omega)) (by omega) HK5.out).mono ?_)); rintro e w_ ⟨rfl, hb⟩; have hs := HS.out.keep hb; clear HS hb; have HS := Aside0.mk hs; clear hs)
          )
        go_ret
        exact ⟨rfl, HS.out.below⟩
end Go.Proofs.Ytfocaefnmfkojaa.Q
namespace Go.Proofs.Ytfocaefnmfkojaa.historyCopies
open Go.RowKit Go.Proofs.Ytfocaefnmfkojaa.Q Go.Proofs.YtfocaefnmfkojaaW.PrintWords
theorem walk_historyCopies (W : World) (A : Option Addr) (c : Nat) (l : List S44) (hC : Kd.C k44 W A l.length l) (hc : l.length ≤ c) (wf : H.wfH l) (x : Int) (hx : (Lit.int IntKind.u8 x).wf = true) (y : Int) (hy : (Lit.int IntKind.u8 y).wf = true) :
    Calls Try.prog 8 #[.slice A l.length c, .int .u8 x, .int .u8 y] W fun e W' => e = .returned (.bool true) ∧ Below W.heap.size W W' := Q.walk_historyCopies W A c l hC hc wf x hx y hy
end Go.Proofs.Ytfocaefnmfkojaa.historyCopies
namespace Go.Proofs.Ytfocaefnmfkojaa.historyCopies
open Go.ChangeShapes Go.WideShapes Go.ChangeAt Go.RowKit Go.Joins
set_option linter.unusedVariables false
theorem own : ownKnob Try.prog.godebug = none := by kernel_rfl
theorem laidOut : laidOutB Try.prog = true := by kernel_rfl
set_option maxRecDepth 100000 in
theorem lifted (os : Os) (started : os.Started) (H : Type) (enc : TypeId × Value → H) :
    ReturnsInHanded {} Try.checked os 8 .any (Rows.historyCopiesSpec.pre6 enc Try.prog Try.f8 Rows.historyCopiesRow.domain false) (Rows.historyCopiesSpec.post enc Try.prog Try.f8 false true false false) := by
  refine returnsInHanded_of_change_sized (C := Try.checked) own started (by kernel_rfl) Try.func8
    (ChangeSpec.witness6 (enc := enc) (C := Try.checked) false ⟨#[], #[.slice none 0 0, .int .u8 0, .int .u8 0], []⟩ 8 (by kernel_rfl) (by kernel_rfl) (by kernel_rfl) (by kernel_rfl)) ?_
  intro W base args ds gs before hval0 hW hcnd hsz0 _
  have hsz : (DataW.weightsEach Try.prog (Try.f8.params.toList ++ Rows.historyCopiesSpec.plain.varTypes Try.prog) (ds ++ gs)).all (· ≤ reachBytes) = true := hsz0
  have hval : ∀ (j : Nat) t v, Try.f8.params[j]? = some t → args[j]? = some v → Value.okWide Try.prog W .any base t v := hval0
  have hW' := hW
  obtain ⟨p, q, hA0, hV, rfl, hfz, hnd⟩ := hW
  have hA : DataW.TrodAll enc Try.prog W 0 (fun _ => true) true Try.f8.params.toList args.toList ds p := hA0
  rw [Try.params8] at hA hval hsz
  obtain ⟨v0, vs0, d0, ds0, p0, q0, hargs, rfl, rfl, h0, r0⟩ := trodAll_cons hA
  obtain ⟨v1, vs1, d1, ds1, p1, q1, rfl, rfl, rfl, h1, r1⟩ := trodAll_cons r0
  obtain ⟨v2, vs2, d2, ds2, p2, q2, rfl, rfl, rfl, h2, r2⟩ := trodAll_cons r1
  obtain ⟨rfl, rfl, rfl⟩ := trodAll_nil r2
  obtain rfl : args = #[v0, v1, v2] := by cases args; simp_all
  obtain ⟨rfl, rfl⟩ := trodVars_none hV
  obtain ⟨A0, len0, c0, rfl⟩ := okWide_slice Try.underlying23 (hval 0 23 v0 rfl rfl)
  have k0 := h0
  have lt0 : ∀ x ∈ p0, x.block < W.heap.size := by obtain ⟨m, hm⟩ := k0; exact DataW.trod_lt m _ _ _ hm
  obtain ⟨l0, hl0, hc0, hC0, wf0⟩ := Go.Proofs.Ytfocaefnmfkojaa.H.slice_in Go.Proofs.Ytfocaefnmfkojaa.H.opensH h0 (Go.Proofs.Ytfocaefnmfkojaa.H.weights_at hsz (j := 0) rfl rfl)
  subst hl0
  obtain ⟨a1, rfl, rfl, rfl, w1⟩ := open_int Try.underlying5 (hval 1 5 v1 rfl rfl) h1
  obtain ⟨a2, rfl, rfl, rfl, w2⟩ := open_int Try.underlying5 (hval 2 5 v2 rfl rfl) h2
  clear hA0 hval0 hsz0 hsz
  refine (walk_historyCopies W A0 c0 l0 hC0 hc0 wf0 a1 w1 a2 w2).mono fun e W' ⟨he, bel⟩ => ?_
  subst he
  exact ⟨_, rfl, _, _, _, [], _, [], hW', trodAll_mk1 (shut_bool Try.underlying4 _), (trodAll_cons_mk (Below.trod laidOut (by kernel_rfl) (of_decide_eq_true (by kernel_rfl)) k0 bel lt0) (trodAll_cons_mk (shut_int Try.underlying5 w1) (trodAll_cons_mk (shut_int Try.underlying5 w2) trodAll_mk0))), rfl, bel.frame _, fun h => by cases h⟩
theorem over : Rows.historyCopiesRow.holds Try.pinned (OpenSpec.ofChange Rows.historyCopiesSpec) :=
  OpenClaim.holds_of_wide 8 Try.f8 rfl rfl rfl rfl rfl rfl rfl ⟨rfl, rfl, rfl, rfl, rfl⟩ rfl rfl rfl rfl rfl (by kernel_rfl) Try.func8 (by kernel_rfl)
    (of_decide_eq_true (by kernel_rfl)) (by unfold Func.isWrapper; first | (rw [if_pos (by decide +kernel)]; kernel_rfl) | (rw [if_neg (by decide +kernel)]; exact ⟨rfl, rfl⟩))
    (fun os started H enc _ => lifted os started H enc)
theorem proved : Rows.HistoryCopiesSaid := over
end Go.Proofs.Ytfocaefnmfkojaa.historyCopies
namespace Go.Proofs.Ytfocaefnmfkojaa
theorem historyCopies_holds : Rows.HistoryCopiesSaid := historyCopies.proved
end Go.Proofs.Ytfocaefnmfkojaa
