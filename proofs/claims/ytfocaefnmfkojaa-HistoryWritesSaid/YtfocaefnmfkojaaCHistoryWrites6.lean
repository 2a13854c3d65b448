/- HistoryWrites: the walks and the plain law. -/
import Derived.Test.YtfocaefnmfkojaaCHistoryWrites5
import Derived.ChangeOld
import Derived.Deep.Slices
import Derived.Lib.SmallJoins
import Derived.OpenShut
import Derived.ProofKit
import Derived.ShutString
import Derived.SizedLaws
import Derived.Test.YtfocaefnmfkojaaRows
namespace Go.Proofs.Ytfocaefnmfkojaa.H
open Go.RowKit Go.Proofs.YtfocaefnmfkojaaW.PrintWords
set_option linter.unusedVariables false
set_option linter.unusedSimpArgs false
def Opens {α : Type} (P : Program) (t : TypeId) (d : Kd α) (wf : α → Prop) : Prop :=
  ∀ (H : Type) (enc : TypeId × Value → H) (w : World) (base : Nat) (spare : Nat → Bool) (held : Bool) (fuel : Nat) (cs : List Value) (D : DataW H) (ps : List MemPlace),
    DataW.trod enc P w base spare held fuel t cs = some (D, ps) → (∀ n ∈ D.weights P t, n ≤ 140737488351232) → ∃ x, d.K w x cs ∧ wf x
theorem Opens.int {P : Program} {t : TypeId} {k : IntKind} (ht : P.underlying t = some (.int k)) : Opens P t (Kd.int k) (fun x => (Lit.int k x).wf = true) := by
  intro H enc w base spare held fuel cs D ps h _
  obtain ⟨n, rfl, _, hn⟩ := DataW.trod_int ht h
  exact ⟨n, rfl, hn⟩
theorem Opens.bool {P : Program} {t : TypeId} (ht : P.underlying t = some .bool) : Opens P t Kd.bool (fun _ => True) := by
  intro H enc w base spare held fuel cs D ps h _
  obtain ⟨b, rfl, _⟩ := DataW.trod_bool ht h
  exact ⟨b, rfl, trivial⟩
theorem cells?_get {w : World} {base : Nat} {a : Addr} {n : Nat} {cs : List Value} (h : w.cells? base a n = some cs) : cs.length = n ∧ ∀ i u, cs[i]? = some u → w.cell? (a.add i) = some u := by
  unfold World.cells? at h
  split at h
  · have key : ∀ (l : List Nat) (cs : List Value), l.mapM (fun i => w.cell? (a.add i)) = some cs → cs.length = l.length ∧ ∀ (i : Nat) (u : Value), cs[i]? = some u → ∃ m, l[i]? = some m ∧ w.cell? (a.add m) = some u := by
      intro l
      induction l with
      | nil =>
        intro cs h
        obtain rfl : [] = cs := by simpa using h
        exact ⟨rfl, fun i u hu => by simp at hu⟩
      | cons x l ih =>
        intro cs h
        rw [List.mapM_cons] at h
        cases hx : w.cell? (a.add x) with
        | none => simp [hx] at h
        | some y =>
          cases hl : l.mapM (fun i => w.cell? (a.add i)) with
          | none => simp [hx, hl] at h
          | some ys =>
            obtain rfl : y :: ys = cs := by simpa [hx, hl] using h
            obtain ⟨h1, h2⟩ := ih ys hl
            refine ⟨by simp [h1], fun i u hu => ?_⟩
            cases i with
            | zero =>
              obtain rfl : y = u := by simpa using hu
              exact ⟨x, rfl, hx⟩
            | succ i => exact h2 i u (by simpa using hu)
    obtain ⟨h1, h2⟩ := key _ _ h
    refine ⟨by simpa using h1, fun i u hu => ?_⟩
    obtain ⟨m, hm, hc⟩ := h2 i u hu
    obtain ⟨hlt, rfl⟩ := List.getElem?_eq_some_iff.1 hm
    rwa [List.getElem_range] at hc
  · cases h
theorem weightsAll_mem {H : Type} {P : Program} {e : TypeId} {d : DataW H} {n : Nat} (hn : n ∈ d.weights P e) : ∀ (ds : List (DataW H)), d ∈ ds → n ∈ DataW.weightsAll P e ds
  | x :: ds, h => by
    rw [DataW.weightsAll]
    rcases List.mem_cons.1 h with rfl | h
    · exact List.mem_append_left _ hn
    · exact List.mem_append_right _ (weightsAll_mem hn ds h)
theorem weightsEach_mem {H : Type} {P : Program} {t : TypeId} {d : DataW H} {n : Nat} (hn : n ∈ d.weights P t) : ∀ (ts : List TypeId) (ds : List (DataW H)) (i : Nat), ts[i]? = some t → ds[i]? = some d → n ∈ DataW.weightsEach P ts ds
  | a :: ts, x :: ds, 0, h, h' => by
    obtain rfl : a = t := by simpa using h
    obtain rfl : x = d := by simpa using h'
    rw [DataW.weightsEach]
    exact List.mem_append_left _ hn
  | a :: ts, x :: ds, i + 1, h, h' => by
    rw [DataW.weightsEach]
    exact List.mem_append_right _ (weightsEach_mem hn ts ds i (by simpa using h) (by simpa using h'))
  | [], _, i, h, _ => by simp at h
  | _ :: _, [], i, _, h' => by simp at h'
theorem Opens.slice {α : Type} {P : Program} {t e : TypeId} {d : Kd α} {wf : α → Prop} (ht : P.underlying t = some (.slice e)) (hc : P.cellsOf e = d.sz) (he : Opens P e d wf) :
    Opens P t (Kd.slice e d) (fun l => l.length ≤ maxLen ∧ l.length * P.bytesOf e ≤ 140737488351232 ∧ ∀ x ∈ l, wf x) := by
  intro H enc w base spare held fuel cs D ps h hw
  rcases Deep.open_slice ht h with ⟨rfl, hx⟩ | ⟨a, len, cap, m, n, Dd, Pl, rfl, hb, hl, hm, hmm, hx, hel⟩
  · exact ⟨[], ⟨none, 0, rfl, Nat.le_refl _, Kd.C_nil d w⟩, by simp, by simp, by simp⟩
  · obtain ⟨rfl, rfl⟩ := Prod.mk.inj hx
    have hlm : len ≤ m := by rw [hmm]; split <;> omega
    rw [DataW.weights, ht] at hw
    have hsz : len * P.bytesOf e ≤ 140737488351232 := by
      have := hw _ List.mem_cons_self
      simp only [List.length_map, List.length_range] at this
      exact Nat.le_trans (Nat.mul_le_mul_right _ (by omega)) this
    have hel2 : ∀ i, i < len → ∃ x cs', cs'.length = d.sz ∧ d.K w x cs' ∧ wf x ∧ ∀ j u, cs'[j]? = some u → w.cell? (a.add (i * d.sz + j)) = some u := by
      intro i hi
      obtain ⟨cs', hcs, htr⟩ := hel i (by omega)
      obtain ⟨x, hK, hwf⟩ := he H enc w base spare held n cs' _ _ htr (fun k hk => hw k (List.mem_cons_of_mem _ (List.mem_append_left _ (weightsAll_mem hk _ (List.mem_map.2 ⟨i, List.mem_range.2 hi, rfl⟩)))))
      obtain ⟨h1, h2⟩ := cells?_get hcs
      refine ⟨x, cs', by rw [h1, hc], hK, hwf, fun j u hu => ?_⟩
      have h3 := h2 j u hu
      rw [hc] at h3
      have ha : (a.add (i * d.sz)).add j = a.add (i * d.sz + j) := by
        unfold Addr.add
        by_cases e1 : i * d.sz = 0 <;> by_cases e2 : j = 0 <;> simp [e1, e2, Nat.add_assoc]
      rwa [ha] at h3
    have hpick : ∀ k, k ≤ len → ∃ l : List α, l.length = k ∧ (∀ x ∈ l, wf x) ∧ ∀ i p, l[i]? = some p → ∃ c, c.length = d.sz ∧ d.K w p c ∧ ∀ j u, c[j]? = some u → w.cell? (a.add (i * d.sz + j)) = some u := by
      intro k
      induction k with
      | zero => exact fun _ => ⟨[], rfl, by simp, fun i p hp => by simp at hp⟩
      | succ k ih =>
        intro hk
        obtain ⟨l, h1, h2, h3⟩ := ih (by omega)
        obtain ⟨x, cs', g1, g2, g3, g4⟩ := hel2 k (by omega)
        refine ⟨l ++ [x], by simp [h1], fun y hy => ?_, fun i p hp => ?_⟩
        · rcases List.mem_append.1 hy with hy | hy
          · exact h2 y hy
          · rw [List.mem_singleton.1 hy]; exact g3
        · rcases Nat.lt_trichotomy i k with hi | hi | hi
          · rw [List.getElem?_append_left (by omega)] at hp
            exact h3 i p hp
          · subst hi
            rw [List.getElem?_append_right (by omega)] at hp
            simp [h1] at hp
            subst hp
            exact ⟨cs', g1, g2, g4⟩
          · rw [List.getElem?_append_right (by omega)] at hp
            have : i - l.length ≠ 0 := by omega
            cases hh : i - l.length with
            | zero => omega
            | succ q => rw [hh] at hp; simp at hp
    obtain ⟨l, hl1, hl2, hl3⟩ := hpick len (Nat.le_refl _)
    subst hl1
    refine ⟨l, ⟨some a, cap, rfl, hl, rfl, by simp only [maxLen] at hm; omega, fun _ => ⟨a, rfl, hl3⟩⟩, by omega, hsz, hl2⟩
theorem Opens.fields {P : Program} {t : TypeId} {fs : Array Field} (ht : P.underlying t = some (.struct fs)) {H : Type} {enc : TypeId × Value → H} {w : World} {base : Nat} {spare : Nat → Bool} {held : Bool} {fuel : Nat} {cs : List Value} {D : DataW H} {ps : List MemPlace}
    (h : DataW.trod enc P w base spare held fuel t cs = some (D, ps)) (hw : ∀ n ∈ D.weights P t, n ≤ 140737488351232) :
    cs.length = P.cellsOf t ∧ ∀ (i : Nat) (f : Field), fs[i]? = some f → ∀ {α : Type} {d : Kd α} {wf : α → Prop}, Opens P f.type d wf → ∃ x, d.K w x ((cs.drop f.offset).take (P.cellsOf f.type)) ∧ wf x := by
  obtain ⟨xs, n, rfl, hx, hlen, hxs, hf⟩ := DataW.trod_struct ht h
  obtain ⟨rfl, rfl⟩ := Prod.mk.inj hx
  refine ⟨hlen, fun i f hi {α d wf} ho => ?_⟩
  have hlt : i < xs.length := by
    rw [hxs]
    exact (Array.getElem?_eq_some_iff.1 hi).1
  have h1 := hf i f hi
  rw [List.getElem?_eq_getElem hlt] at h1
  refine ho H enc w base spare held n _ (xs[i]).1 (xs[i]).2 h1 (fun k hk => hw k ?_)
  rw [DataW.weights, ht]
  refine weightsEach_mem hk _ _ i ?_ ?_
  · rw [List.getElem?_map, Array.getElem?_toList, hi]; rfl
  · rw [List.getElem?_map, List.getElem?_eq_getElem hlt]; rfl
end Go.Proofs.Ytfocaefnmfkojaa.H
namespace Go.Proofs.Ytfocaefnmfkojaa.H
open Go.RowKit Go.Proofs.Ytfocaefnmfkojaa.Q Go.Proofs.YtfocaefnmfkojaaW.PrintWords
set_option linter.unusedVariables false
set_option linter.unusedSimpArgs false
theorem len3 {α : Type} {cs : List α} (h : cs.length = 3) : ∃ a b c, cs = [a, b, c] := by
  match cs, h with
  | [a, b, c], _ => exact ⟨a, b, c, rfl⟩
theorem len4 {α : Type} {cs : List α} (h : cs.length = 4) : ∃ a b c d, cs = [a, b, c, d] := by
  match cs, h with
  | [a, b, c, d], _ => exact ⟨a, b, c, d, rfl⟩
def wfI (x : Int) : Prop := (Lit.int .i64 x).wf = true
def wfOp (o : S46) : Prop := wfI o.f1 ∧ wfI o.f2
theorem opensOp : Opens Try.prog 46 k46 wfOp := by
  intro H enc w base spare held fuel cs D ps h hw
  obtain ⟨hl, hf⟩ := Opens.fields Try.underlying46 h hw
  rw [show Try.prog.cellsOf 46 = 3 by kernel_rfl] at hl
  obtain ⟨c0, c1, c2, rfl⟩ := len3 hl
  obtain ⟨x0, h0, _⟩ := hf 0 _ rfl (Opens.bool Try.underlying4)
  obtain ⟨x1, h1, w1⟩ := hf 1 _ rfl (Opens.int Try.underlying3)
  obtain ⟨x2, h2, w2⟩ := hf 2 _ rfl (Opens.int Try.underlying3)
  rw [show Try.prog.cellsOf _ = 1 by kernel_rfl] at h0 h1 h2
  obtain rfl : c0 = .bool x0 := by have : [c0] = [.bool x0] := h0; simpa using this
  obtain rfl : c1 = .int .i64 x1 := by have : [c1] = [.int .i64 x1] := h1; simpa using this
  obtain rfl : c2 = .int .i64 x2 := by have : [c2] = [.int .i64 x2] := h2; simpa using this
  exact ⟨⟨x0, x1, x2⟩, k46_mk w ⟨x0, x1, x2⟩, w1, w2⟩
def wfOps (l : List S46) : Prop := l.length ≤ maxLen ∧ l.length * 24 ≤ 140737488351232 ∧ ∀ x ∈ l, wfOp x
theorem opensOps : Opens Try.prog 42 (Kd.slice 46 k46) wfOps := by
  have h := Opens.slice Try.underlying42 (show Try.prog.cellsOf 46 = 3 by kernel_rfl) opensOp
  rw [show Try.prog.bytesOf 46 = 24 by kernel_rfl] at h
  exact h
def wfTxn (t : S44) : Prop := wfI t.f0 ∧ wfI t.f1 ∧ wfI t.f2 ∧ wfOps t.f3
theorem opensTxn : Opens Try.prog 44 k44 wfTxn := by
  intro H enc w base spare held fuel cs D ps h hw
  obtain ⟨hl, hf⟩ := Opens.fields Try.underlying44 h hw
  rw [show Try.prog.cellsOf 44 = 4 by kernel_rfl] at hl
  obtain ⟨c0, c1, c2, c3, rfl⟩ := len4 hl
  obtain ⟨x0, h0, w0⟩ := hf 0 _ rfl (Opens.int Try.underlying3)
  obtain ⟨x1, h1, w1⟩ := hf 1 _ rfl (Opens.int Try.underlying3)
  obtain ⟨x2, h2, w2⟩ := hf 2 _ rfl (Opens.int Try.underlying3)
  obtain ⟨x3, h3, w3⟩ := hf 3 _ rfl opensOps
  rw [show Try.prog.cellsOf _ = 1 by kernel_rfl] at h0 h1 h2 h3
  obtain rfl : c0 = .int .i64 x0 := by have : [c0] = [.int .i64 x0] := h0; simpa using this
  obtain rfl : c1 = .int .i64 x1 := by have : [c1] = [.int .i64 x1] := h1; simpa using this
  obtain rfl : c2 = .int .i64 x2 := by have : [c2] = [.int .i64 x2] := h2; simpa using this
  obtain ⟨A, c, he, hc, hC⟩ := h3
  obtain rfl : c3 = .slice A x3.length c := by have : [c3] = [.slice A x3.length c] := he; simpa using this
  exact ⟨⟨x0, x1, x2, x3⟩, k44_mk w ⟨x0, x1, x2, x3⟩ hc hC, w0, w1, w2, w3⟩
def wfH (l : List S44) : Prop := l.length ≤ maxLen ∧ l.length * 48 ≤ 140737488351232 ∧ ∀ x ∈ l, wfTxn x
theorem opensH : Opens Try.prog 23 (Kd.slice 44 k44) wfH := by
  have h := Opens.slice Try.underlying23 (show Try.prog.cellsOf 44 = 4 by kernel_rfl) opensTxn
  rw [show Try.prog.bytesOf 44 = 48 by kernel_rfl] at h
  exact h
theorem slice_in {α : Type} {P : Program} {t e : TypeId} {d : Kd α} {wf : List α → Prop} (ho : Opens P t (Kd.slice e d) wf) {H : Type} {enc : TypeId × Value → H} {w : World} {base : Nat} {spare : Nat → Bool} {held : Bool} {a : Option Addr} {len cap : Nat} {D : DataW H} {ps : List MemPlace}
    (h : DataW.Trod enc P w base spare held t (.slice a len cap) D ps) (hw : ∀ n ∈ D.weights P t, n ≤ 140737488351232) : ∃ l : List α, len = l.length ∧ l.length ≤ cap ∧ d.C w a l.length l ∧ wf l := by
  obtain ⟨fuel, hf⟩ := h
  obtain ⟨l, ⟨A, c, he, hc, hC⟩, hwf⟩ := ho H enc w base spare held fuel _ D ps hf hw
  simp [Value.cells] at he
  obtain ⟨rfl, rfl, rfl⟩ := he
  exact ⟨l, rfl, hc, hC, hwf⟩
theorem weights_at {H : Type} {P : Program} {ts : List TypeId} {ds : List (DataW H)} (hsz : (DataW.weightsEach P ts ds).all (· ≤ reachBytes) = true) {j : Nat} {t : TypeId} {d : DataW H} (ht : ts[j]? = some t) (hd : ds[j]? = some d) : ∀ n ∈ d.weights P t, n ≤ 140737488351232 := by
  intro n hn
  have := List.all_eq_true.1 hsz n (weightsEach_mem hn ts ds j ht hd)
  have := of_decide_eq_true this
  simpa [reachBytes] using this
end Go.Proofs.Ytfocaefnmfkojaa.H
namespace Go.Proofs.Ytfocaefnmfkojaa.Q
open Go.RowKit Go.Proofs.YtfocaefnmfkojaaW.PrintWords Go.Proofs.YtfocaefnmfkojaaW.PrintLast Go.Proofs.YtfocaefnmfkojaaW.PrintMore
open Go.Proofs.Ytfocaefnmfkojaa
set_option linter.unusedVariables false
set_option linter.unusedSimpArgs false
set_option maxHeartbeats 4000000 in
set_option maxRecDepth 100000 in
theorem walk_historyWrites (w : World) (A : Option Addr) (c : Nat) (l : List S44) (hC : Kd.C k44 w A l.length l) (hc : l.length ≤ c) (wf : H.wfH l) :
    Calls Try.prog 6 #[.slice A l.length c] w fun e w' => e = .returned (.bool true) ∧ Below w.heap.size w w' := by
  have hu44 := Try.underlying44
  have hu46 := Try.underlying46
  have hu48 := Try.underlying48
  have HR := Aside0.mk hC
  have hsz : ∀ t ∈ l, t.f3.length ≤ 4000000000000000000 := fun t ht => by have := (wf.2.2 t ht).2.2.2.2.1; omega
  have HWF := Aside0.mk wf
  obtain ⟨K1, hK1⟩ := (R.big_ev l hsz).rounds
  have HSP : Aside0 (burgagelaw06_speaks.f = some true) := ⟨rfl⟩
  clear hC wf hsz
  have HS := Aside0.mk (H.SH.start w)
  go_enter Try.func6, Try.ntmps6
  cases hbg : R.bigB l with
  | true =>
    rw [hbg, if_pos rfl] at hK1
    have HK1 := Aside0.mk hK1
    clear hK1 hbg
    go_wp2_with (first
      | (go_at_call 23; refine (burgagelaw06_speaks.calls _ _ HSP.out).mono ?_; rintro e w_ ⟨rfl, hb⟩; have hs := HS.out.keep hb; clear HS hb; have HS := Aside0.mk hs; clear hs)
      | (go_at_call 24; refine (burgagelaw06_Big.calls K1 _ _ _ _ _ (Kd.C_below HR.out HS.out.below) hc HK1.out).mono ?_; rintro e w_ ⟨rfl, hb⟩; have hs := HS.out.keep hb; clear HS hb; have HS := Aside0.mk hs; clear hs)
      )
    go_ret
    exact ⟨rfl, HS.out.below⟩
  | false =>
    rw [hbg, if_neg (by simp)] at hK1
    have HK1 := Aside0.mk hK1
    obtain ⟨hfw, hl100, hcn, hl1200⟩ := R.bigB_few hbg
    obtain ⟨K2, hK2⟩ := (R.check_ev l hfw).rounds
    have HK2 := Aside0.mk hK2
    have HL12 := Aside0.mk hl1200
    have HCN := Aside0.mk hcn
    clear hK1 hbg hl1200 hK2 hfw hcn
    by_cases hck : R.check l = 0
    · have HCK := Aside0.mk hck
      obtain ⟨_, _, _, T, hT⟩ := R.check_zero hck
      have HOK := Aside0.mk (R.check_okH hck)
      have HT := Aside0.mk hT
      have HLen : Aside0 (R.wrH l = (encW T).length) := ⟨by rw [R.encB_len, R.wAll_size l 0 [] T hT]; simp⟩
      have HWL : Aside0 (R.wrH l ≤ 1200) := ⟨Nat.le_trans (R.wrH_le l) HCN.out⟩
      rw [hck] at HK2
      clear hck hT
      go_wp2_with (first
        | (go_at_call 23; refine (burgagelaw06_speaks.calls _ _ HSP.out).mono ?_; rintro e w_ ⟨rfl, hb⟩; have hs := HS.out.keep hb; clear HS hb; have HS := Aside0.mk hs; clear hs)
        | (go_at_call 24; refine (burgagelaw06_Big.calls K1 _ _ _ _ _ (Kd.C_below HR.out HS.out.below) hc HK1.out).mono ?_; rintro e w_ ⟨rfl, hb⟩; have hs := HS.out.keep hb; clear HS hb; have HS := Aside0.mk hs; clear hs)
        | (go_at_call 16; refine (ref06_Check.calls K2 _ _ _ _ _ (Kd.C_below HR.out HS.out.below) hc HK2.out).mono ?_; rintro e w_ ⟨rfl, hb⟩; have hs := HS.out.keep hb; clear HS hb; have HS := Aside0.mk hs; clear hs)
        | (go_at_call 28; refine (history_Writes.once _ _ _ _ _ (Kd.C_below HR.out HS.out.below) hc HOK.out HT.out).mono ?_; rintro e w_ ⟨m2, rfl, him, hge, hb⟩; have hs := HS.out.push hb (H.mp Try.prog 3 m2 (encW T)) (fun q => q = m2) ⟨fun _ => Iff.rfl, him⟩ (fun q hq => by rw [show q = m2 from hq]; exact hge); clear HS him hge hb; have HS := Aside0.mk hs; clear hs)
        )
      go_loopg [5, 27] l.length (fun g b i wr => ∃ (j n : Nat), b = .int .i64 (n : Int) ∧ i = .int .i64 (j : Int) ∧ Aside0 (g + j = l.length) ∧ Aside0 (H.SH w wr [H.mp Try.prog 3 m2 (encW T)]) ∧ Aside0 (n + R.wrH (l.drop j) = R.wrH l))
      case atStart => exact ⟨0, 0, rfl, rfl, ⟨rfl⟩, HS, ⟨by simp⟩⟩
      case round =>
        clear HS
        obtain ⟨j, n, rfl, rfl, HG, HS, HI⟩ := hrel
        by_cases hj : j < l.length
        · have hjb : decide ((j : Int) < (l.length : Int)) = true := decide_eq_true (by omega)
          have hlo := HL12.out _ (List.getElem_mem hj)
          go_wp2_with (first
            | (skip; (with_reducible refine H.gate_idx rfl ?_); refine' H.ev_idx0 HS.out HR.out ?q9hw ?q9ho ?q9hx ?q9hix Try.underlying23 sz44 hj ?_; (case q9hw => rfl); (case q9ho => rfl); (case q9hx => rfl); (case q9hix => rfl); intro p1 cs1 hK1 hp1; obtain ⟨A3, c3, rfl, hc3, hC3⟩ := k44_open hK1; have HC3 := Aside0.mk hC3; clear hC3; have HP1 := Aside0.mk hp1; clear hp1 hK1)
            | ((with_reducible refine H.gate_load rfl ?_); first | (refine' H.ev_loadb HS.out ?q9hw ?q9ho ?q9hx ?q9hu ?q9hd ?q9hat ?q9hv ?_; (case q9hw => rfl); (case q9ho => rfl); (case q9hx => rfl); (case q9hu => first | exact Try.underlying3 | exact Try.underlying4 | exact Try.underlying42 | exact Try.underlying46 | exact Try.underlying44 | exact Try.underlying23 | exact Try.underlying39 | exact Try.underlying48); (case q9hd => rfl); (case q9hat => first | exact .here | exact .there .here | exact .there (.there .here) | exact .there (.there (.there .here)) | exact .there (.there (.there (.there .here))) | exact .there (.there (.there (.there (.there .here))))); (case q9hv => rfl)) | (refine' H.ev_loadw HS.out ?q9hw ?q9ho ?q9hx ?q9hu ?q9hd ?q9hat ?q9hi ?_; (case q9hw => rfl); (case q9ho => rfl); (case q9hx => rfl); (case q9hu => first | exact Try.underlying3 | exact Try.underlying4 | exact Try.underlying42 | exact Try.underlying46 | exact Try.underlying44 | exact Try.underlying23 | exact Try.underlying39 | exact Try.underlying48); (case q9hd => rfl); (case q9hat => first | exact .here | exact .there .here | exact .there (.there .here) | exact .there (.there (.there .here)) | exact .there (.there (.there (.there .here))) | exact .there (.there (.there (.there (.there .here))))); (case q9hi => first | exact sz3 | exact sz4 | exact sz42 | exact sz46 | exact sz44 | exact sz23 | exact sz39 | exact sz48)) | (refine' H.ev_loadr ?q9hw ?q9ho ?q9hx ?q9hu ?q9hd HP1.out ?q9hi ?q9hcs ?_; (case q9hw => rfl); (case q9ho => rfl); (case q9hx => rfl); (case q9hu => first | exact Try.underlying3 | exact Try.underlying4 | exact Try.underlying42 | exact Try.underlying46 | exact Try.underlying44 | exact Try.underlying23 | exact Try.underlying39 | exact Try.underlying48); (case q9hd => rfl); (case q9hi => first | exact sz3 | exact sz4 | exact sz42 | exact sz46 | exact sz44 | exact sz23 | exact sz39 | exact sz48); (case q9hcs => rfl)) | (refine' H.ev_load0 ?q9hw ?q9ho ?q9hx ?q9hu ?q9hd HP1.out ?_; (case q9hw => rfl); (case q9ho => rfl); (case q9hx => rfl); (case q9hu => first | exact Try.underlying3 | exact Try.underlying4 | exact Try.underlying42 | exact Try.underlying46 | exact Try.underlying44 | exact Try.underlying23 | exact Try.underlying39 | exact Try.underlying48); (case q9hd => rfl)))
            | (skip; (with_reducible refine H.gate_alloc rfl ?_); refine' H.ev_alloc HS.out ?q9hw (t := 44) ?q9ho (zv44 _) ?q9hc ?_; (case q9hw => rfl); (case q9ho => rfl); (case q9hc => (try simp only [Value.cells]); rfl); intro b6 w_ hs; clear HS; have HS := Aside0.mk hs; clear hs)
            | ((with_reducible refine H.gate_sto rfl ?_); first | (refine' H.ev_store HS.out ?q9hw ?q9ho ?q9hx ?q9hy ?q9hv ?q9hi ?q9hat ?q9hlt ?q9hcs ?_; (case q9hw => rfl); (case q9ho => rfl); (case q9hx => rfl); (case q9hy => rfl); (case q9hv => rfl); (case q9hi => first | exact sz3 | exact sz4 | exact sz42 | exact sz46 | exact sz44 | exact sz23 | exact sz39 | exact sz48); (case q9hat => first | exact .here | exact .there .here | exact .there (.there .here) | exact .there (.there (.there .here)) | exact .there (.there (.there (.there .here))) | exact .there (.there (.there (.there (.there .here))))); (case q9hlt => first | exact Nat.le_of_ble_eq_true rfl | (simp; done) | (simp; omega)); (case q9hcs => (try simp only [Value.cells, List.setIfInBounds_toArray, List.set_cons_zero, List.set_cons_succ, Nat.zero_add, Nat.reduceAdd]); rfl); intro w_ hs; clear HS; have HS := Aside0.mk hs; clear hs) | (refine' H.ev_stores HS.out ?q9hw ?q9ho ?q9hx ?q9hy ?q9hv ?q9hi ?q9hat ?q9hlt ?q9hcs ?_; (case q9hw => rfl); (case q9ho => rfl); (case q9hx => rfl); (case q9hy => rfl); (case q9hv => simp [Value.oneCell']); (case q9hi => first | exact sz3 | exact sz4 | exact sz42 | exact sz46 | exact sz44 | exact sz23 | exact sz39 | exact sz48); (case q9hat => first | exact .here | exact .there .here | exact .there (.there .here) | exact .there (.there (.there .here)) | exact .there (.there (.there (.there .here))) | exact .there (.there (.there (.there (.there .here))))); (case q9hlt => first | exact Nat.le_of_ble_eq_true rfl | (simp; done) | (simp; omega)); (case q9hcs => (try simp only [H.setAll, Value.cells, List.setIfInBounds_toArray, List.set_cons_zero, List.set_cons_succ, Nat.zero_add, Nat.reduceAdd]); rfl); intro w_ hs; clear HS; have HS := Aside0.mk hs; clear hs))
            | ((with_reducible refine H.gate_load rfl ?_); first | (refine' H.ev_loadb HS.out ?q9hw ?q9ho ?q9hx ?q9hu ?q9hd ?q9hat ?q9hv ?_; (case q9hw => rfl); (case q9ho => rfl); (case q9hx => rfl); (case q9hu => first | exact Try.underlying3 | exact Try.underlying4 | exact Try.underlying42 | exact Try.underlying46 | exact Try.underlying44 | exact Try.underlying23 | exact Try.underlying39 | exact Try.underlying48); (case q9hd => rfl); (case q9hat => first | exact .here | exact .there .here | exact .there (.there .here) | exact .there (.there (.there .here)) | exact .there (.there (.there (.there .here))) | exact .there (.there (.there (.there (.there .here))))); (case q9hv => rfl)) | (refine' H.ev_loadw HS.out ?q9hw ?q9ho ?q9hx ?q9hu ?q9hd ?q9hat ?q9hi ?_; (case q9hw => rfl); (case q9ho => rfl); (case q9hx => rfl); (case q9hu => first | exact Try.underlying3 | exact Try.underlying4 | exact Try.underlying42 | exact Try.underlying46 | exact Try.underlying44 | exact Try.underlying23 | exact Try.underlying39 | exact Try.underlying48); (case q9hd => rfl); (case q9hat => first | exact .here | exact .there .here | exact .there (.there .here) | exact .there (.there (.there .here)) | exact .there (.there (.there (.there .here))) | exact .there (.there (.there (.there (.there .here))))); (case q9hi => first | exact sz3 | exact sz4 | exact sz42 | exact sz46 | exact sz44 | exact sz23 | exact sz39 | exact sz48)))
            )
          go_loopg [5, 35] (l[j].f3.length) (fun g b i wr => ∃ (q n1 : Nat), b = .int .i64 (n1 : Int) ∧ i = .int .i64 (q : Int) ∧ Aside0 (g + q = l[j].f3.length) ∧ Aside0 (H.SH w wr [H.bk b6 44 #[.int .i64 l[j].f0, .int .i64 l[j].f1, .int .i64 l[j].f2, .slice A3 l[j].f3.length c3], H.mp Try.prog 3 m2 (encW T)]) ∧ Aside0 (n1 + R.wrL (l[j].f3.drop q) = n + R.wrL l[j].f3))
          case atStart => exact ⟨0, n, rfl, rfl, ⟨rfl⟩, ⟨HS.out.sub (by repeat (first | exact List.Sublist.slnil | refine List.Sublist.cons_cons _ ?_ | refine List.Sublist.cons _ ?_))⟩, ⟨rfl⟩⟩
          case round =>
            clear HS
            obtain ⟨q, n1, rfl, rfl, HG1, HS, HI3⟩ := hrel
            by_cases hq : q < l[j].f3.length
            · have hqb : decide ((q : Int) < (l[j].f3.length : Int)) = true := decide_eq_true (by omega)
              have hI4 := HI3.out
              rw [R.wrL_drop _ _ hq] at hI4
              cases hw : (l[j].f3[q]).f0 with
              | false =>
                rw [hw, if_neg (by simp)] at hI4
                have HI4 := Aside0.mk hI4
                clear hI4
                go_wp2_with (first
                  | (skip; (with_reducible refine H.gate_idx rfl ?_); refine' H.ev_idx (Kd.C_below HC3.out HS.out.below) ?q9hw ?q9ho ?q9hx ?q9hix Try.underlying42 sz46 hq ?_; (case q9hw => rfl); (case q9ho => rfl); (case q9hx => rfl); (case q9hix => rfl); intro p2 cs2 hK2 hp2; obtain rfl := k46_open hK2; rw [hw] at hp2; have HP2 := Aside0.mk hp2; clear hp2 hK2)
                  | ((with_reducible refine H.gate_load rfl ?_); first | (refine' H.ev_loadb HS.out ?q9hw ?q9ho ?q9hx ?q9hu ?q9hd ?q9hat ?q9hv ?_; (case q9hw => rfl); (case q9ho => rfl); (case q9hx => rfl); (case q9hu => first | exact Try.underlying3 | exact Try.underlying4 | exact Try.underlying42 | exact Try.underlying46 | exact Try.underlying44 | exact Try.underlying23 | exact Try.underlying39 | exact Try.underlying48); (case q9hd => rfl); (case q9hat => first | exact .here | exact .there .here | exact .there (.there .here) | exact .there (.there (.there .here)) | exact .there (.there (.there (.there .here))) | exact .there (.there (.there (.there (.there .here))))); (case q9hv => rfl)) | (refine' H.ev_loadw HS.out ?q9hw ?q9ho ?q9hx ?q9hu ?q9hd ?q9hat ?q9hi ?_; (case q9hw => rfl); (case q9ho => rfl); (case q9hx => rfl); (case q9hu => first | exact Try.underlying3 | exact Try.underlying4 | exact Try.underlying42 | exact Try.underlying46 | exact Try.underlying44 | exact Try.underlying23 | exact Try.underlying39 | exact Try.underlying48); (case q9hd => rfl); (case q9hat => first | exact .here | exact .there .here | exact .there (.there .here) | exact .there (.there (.there .here)) | exact .there (.there (.there (.there .here))) | exact .there (.there (.there (.there (.there .here))))); (case q9hi => first | exact sz3 | exact sz4 | exact sz42 | exact sz46 | exact sz44 | exact sz23 | exact sz39 | exact sz48)) | (refine' H.ev_loadr ?q9hw ?q9ho ?q9hx ?q9hu ?q9hd HP2.out ?q9hi ?q9hcs ?_; (case q9hw => rfl); (case q9ho => rfl); (case q9hx => rfl); (case q9hu => first | exact Try.underlying3 | exact Try.underlying4 | exact Try.underlying42 | exact Try.underlying46 | exact Try.underlying44 | exact Try.underlying23 | exact Try.underlying39 | exact Try.underlying48); (case q9hd => rfl); (case q9hi => first | exact sz3 | exact sz4 | exact sz42 | exact sz46 | exact sz44 | exact sz23 | exact sz39 | exact sz48); (case q9hcs => rfl)) | (refine' H.ev_load0 ?q9hw ?q9ho ?q9hx ?q9hu ?q9hd HP2.out ?_; (case q9hw => rfl); (case q9ho => rfl); (case q9hx => rfl); (case q9hu => first | exact Try.underlying3 | exact Try.underlying4 | exact Try.underlying42 | exact Try.underlying46 | exact Try.underlying44 | exact Try.underlying23 | exact Try.underlying39 | exact Try.underlying48); (case q9hd => rfl)))
                  | (skip; (with_reducible refine H.gate_alloc rfl ?_); refine' H.ev_alloc HS.out ?q9hw (t := 46) ?q9ho (zv46 _) ?q9hc ?_; (case q9hw => rfl); (case q9ho => rfl); (case q9hc => (try simp only [Value.cells]); rfl); intro b8 w_ hs; clear HS; have HS := Aside0.mk hs; clear hs)
                  | ((with_reducible refine H.gate_sto rfl ?_); first | (refine' H.ev_store HS.out ?q9hw ?q9ho ?q9hx ?q9hy ?q9hv ?q9hi ?q9hat ?q9hlt ?q9hcs ?_; (case q9hw => rfl); (case q9ho => rfl); (case q9hx => rfl); (case q9hy => rfl); (case q9hv => rfl); (case q9hi => first | exact sz3 | exact sz4 | exact sz42 | exact sz46 | exact sz44 | exact sz23 | exact sz39 | exact sz48); (case q9hat => first | exact .here | exact .there .here | exact .there (.there .here) | exact .there (.there (.there .here)) | exact .there (.there (.there (.there .here))) | exact .there (.there (.there (.there (.there .here))))); (case q9hlt => first | exact Nat.le_of_ble_eq_true rfl | (simp; done) | (simp; omega)); (case q9hcs => (try simp only [Value.cells, List.setIfInBounds_toArray, List.set_cons_zero, List.set_cons_succ, Nat.zero_add, Nat.reduceAdd]); rfl); intro w_ hs; clear HS; have HS := Aside0.mk hs; clear hs) | (refine' H.ev_stores HS.out ?q9hw ?q9ho ?q9hx ?q9hy ?q9hv ?q9hi ?q9hat ?q9hlt ?q9hcs ?_; (case q9hw => rfl); (case q9ho => rfl); (case q9hx => rfl); (case q9hy => rfl); (case q9hv => simp [Value.oneCell']); (case q9hi => first | exact sz3 | exact sz4 | exact sz42 | exact sz46 | exact sz44 | exact sz23 | exact sz39 | exact sz48); (case q9hat => first | exact .here | exact .there .here | exact .there (.there .here) | exact .there (.there (.there .here)) | exact .there (.there (.there (.there .here))) | exact .there (.there (.there (.there (.there .here))))); (case q9hlt => first | exact Nat.le_of_ble_eq_true rfl | (simp; done) | (simp; omega)); (case q9hcs => (try simp only [H.setAll, Value.cells, List.setIfInBounds_toArray, List.set_cons_zero, List.set_cons_succ, Nat.zero_add, Nat.reduceAdd]); rfl); intro w_ hs; clear HS; have HS := Aside0.mk hs; clear hs))
                  )
                go_roundg (l[j].f3.length - (q + 1))
                case measure => have := HG1.out; omega
                case rel => exact ⟨q + 1, n1, rfl, by first | go_num | (simp; omega), ⟨by have := HG1.out; omega⟩, ⟨HS.out.sub (by repeat (first | exact List.Sublist.slnil | refine List.Sublist.cons_cons _ ?_ | refine List.Sublist.cons _ ?_))⟩, ⟨by have := HI4.out; omega⟩⟩
              | true =>
                rw [hw, if_pos rfl] at hI4
                have hn1 : n1 ≤ 1200 := by
                  have h0 := HI.out
                  have h1 := HWL.out
                  rw [R.wrH_drop _ _ hj] at h0
                  have h2 := hI4
                  omega
                have hHI : Aside0 (n1 + 1 + R.wrL (l[j].f3.drop (q + 1)) = n + R.wrL l[j].f3) := ⟨by omega⟩
                have hm := List.all_eq_true.mp (R.okH_mem HOK.out (List.getElem_mem hj)).2 _ (List.getElem_mem hq)
                have hk := R.I64_val hm
                have HV : Aside0 (H.getL (encW T) (l[j].f3[q]).f2 = some (R.wV ((j : Int), (l[j].f3[q]).f1, R.value l[j].f3 (l[j].f3[q]).f1 == (l[j].f3[q]).f2))) := ⟨by
                  rw [R.encB_get, R.check_get HCK.out HT.out hj hq hw]; rfl⟩
                obtain ⟨K3, hK3⟩ := (R.last_ev l[j] (l[j].f3[q]).f1 (l[j].f3[q]).f2 (by unfold R.Few; omega)).rounds
                have HK3 := Aside0.mk hK3
                clear hI4 hK3 hm
                go_wp2_with (first
                  | (skip; (with_reducible refine H.gate_idx rfl ?_); refine' H.ev_idx (Kd.C_below HC3.out HS.out.below) ?q9hw ?q9ho ?q9hx ?q9hix Try.underlying42 sz46 hq ?_; (case q9hw => rfl); (case q9ho => rfl); (case q9hx => rfl); (case q9hix => rfl); intro p2 cs2 hK2 hp2; obtain rfl := k46_open hK2; rw [hw] at hp2; have HP2 := Aside0.mk hp2; clear hp2 hK2)
                  | ((with_reducible refine H.gate_load rfl ?_); first | (refine' H.ev_loadb HS.out ?q9hw ?q9ho ?q9hx ?q9hu ?q9hd ?q9hat ?q9hv ?_; (case q9hw => rfl); (case q9ho => rfl); (case q9hx => rfl); (case q9hu => first | exact Try.underlying3 | exact Try.underlying4 | exact Try.underlying42 | exact Try.underlying46 | exact Try.underlying44 | exact Try.underlying23 | exact Try.underlying39 | exact Try.underlying48); (case q9hd => rfl); (case q9hat => first | exact .here | exact .there .here | exact .there (.there .here) | exact .there (.there (.there .here)) | exact .there (.there (.there (.there .here))) | exact .there (.there (.there (.there (.there .here))))); (case q9hv => rfl)) | (refine' H.ev_loadw HS.out ?q9hw ?q9ho ?q9hx ?q9hu ?q9hd ?q9hat ?q9hi ?_; (case q9hw => rfl); (case q9ho => rfl); (case q9hx => rfl); (case q9hu => first | exact Try.underlying3 | exact Try.underlying4 | exact Try.underlying42 | exact Try.underlying46 | exact Try.underlying44 | exact Try.underlying23 | exact Try.underlying39 | exact Try.underlying48); (case q9hd => rfl); (case q9hat => first | exact .here | exact .there .here | exact .there (.there .here) | exact .there (.there (.there .here)) | exact .there (.there (.there (.there .here))) | exact .there (.there (.there (.there (.there .here))))); (case q9hi => first | exact sz3 | exact sz4 | exact sz42 | exact sz46 | exact sz44 | exact sz23 | exact sz39 | exact sz48)) | (refine' H.ev_loadr ?q9hw ?q9ho ?q9hx ?q9hu ?q9hd HP2.out ?q9hi ?q9hcs ?_; (case q9hw => rfl); (case q9ho => rfl); (case q9hx => rfl); (case q9hu => first | exact Try.underlying3 | exact Try.underlying4 | exact Try.underlying42 | exact Try.underlying46 | exact Try.underlying44 | exact Try.underlying23 | exact Try.underlying39 | exact Try.underlying48); (case q9hd => rfl); (case q9hi => first | exact sz3 | exact sz4 | exact sz42 | exact sz46 | exact sz44 | exact sz23 | exact sz39 | exact sz48); (case q9hcs => rfl)) | (refine' H.ev_load0 ?q9hw ?q9ho ?q9hx ?q9hu ?q9hd HP2.out ?_; (case q9hw => rfl); (case q9ho => rfl); (case q9hx => rfl); (case q9hu => first | exact Try.underlying3 | exact Try.underlying4 | exact Try.underlying42 | exact Try.underlying46 | exact Try.underlying44 | exact Try.underlying23 | exact Try.underlying39 | exact Try.underlying48); (case q9hd => rfl)))
                  | (skip; (with_reducible refine H.gate_alloc rfl ?_); refine' H.ev_alloc HS.out ?q9hw (t := 46) ?q9ho (zv46 _) ?q9hc ?_; (case q9hw => rfl); (case q9ho => rfl); (case q9hc => (try simp only [Value.cells]); rfl); intro b8 w_ hs; clear HS; have HS := Aside0.mk hs; clear hs)
                  | ((with_reducible refine H.gate_sto rfl ?_); first | (refine' H.ev_store HS.out ?q9hw ?q9ho ?q9hx ?q9hy ?q9hv ?q9hi ?q9hat ?q9hlt ?q9hcs ?_; (case q9hw => rfl); (case q9ho => rfl); (case q9hx => rfl); (case q9hy => rfl); (case q9hv => rfl); (case q9hi => first | exact sz3 | exact sz4 | exact sz42 | exact sz46 | exact sz44 | exact sz23 | exact sz39 | exact sz48); (case q9hat => first | exact .here | exact .there .here | exact .there (.there .here) | exact .there (.there (.there .here)) | exact .there (.there (.there (.there .here))) | exact .there (.there (.there (.there (.there .here))))); (case q9hlt => first | exact Nat.le_of_ble_eq_true rfl | (simp; done) | (simp; omega)); (case q9hcs => (try simp only [Value.cells, List.setIfInBounds_toArray, List.set_cons_zero, List.set_cons_succ, Nat.zero_add, Nat.reduceAdd]); rfl); intro w_ hs; clear HS; have HS := Aside0.mk hs; clear hs) | (refine' H.ev_stores HS.out ?q9hw ?q9ho ?q9hx ?q9hy ?q9hv ?q9hi ?q9hat ?q9hlt ?q9hcs ?_; (case q9hw => rfl); (case q9ho => rfl); (case q9hx => rfl); (case q9hy => rfl); (case q9hv => simp [Value.oneCell']); (case q9hi => first | exact sz3 | exact sz4 | exact sz42 | exact sz46 | exact sz44 | exact sz23 | exact sz39 | exact sz48); (case q9hat => first | exact .here | exact .there .here | exact .there (.there .here) | exact .there (.there (.there .here)) | exact .there (.there (.there (.there .here))) | exact .there (.there (.there (.there (.there .here))))); (case q9hlt => first | exact Nat.le_of_ble_eq_true rfl | (simp; done) | (simp; omega)); (case q9hcs => (try simp only [H.setAll, Value.cells, List.setIfInBounds_toArray, List.set_cons_zero, List.set_cons_succ, Nat.zero_add, Nat.reduceAdd]); rfl); intro w_ hs; clear HS; have HS := Aside0.mk hs; clear hs))
                  )
                refine H.hd_start (by kernel_rfl) HS.out (fun w_ hs => ?_); clear HS; have HS := Aside0.mk hs; clear hs
                (refine' H.hd_pure HS.out ?q9hs ?hf ?hr ?hQ ?q9hw ?q9hrun ?_; (case q9hs => kernel_rfl); (case hf => kernel_rfl); (case hr => kernel_rfl); (case hQ => exact fun _ _ _ _ h => h); (case q9hw => rfl); (case q9hrun => intro x_; first | (go_simp; done) | (go_simp; rfl))); try simp only [Act.put, List.setIfInBounds_toArray, List.set_cons_zero, List.set_cons_succ]
                (refine' H.hd_pure HS.out ?q9hs ?hf ?hr ?hQ ?q9hw ?q9hrun ?_; (case q9hs => kernel_rfl); (case hf => kernel_rfl); (case hr => kernel_rfl); (case hQ => exact fun _ _ _ _ h => h); (case q9hw => rfl); (case q9hrun => intro x_; first | (go_simp; done) | (go_simp; rfl))); try simp only [Act.put, List.setIfInBounds_toArray, List.set_cons_zero, List.set_cons_succ]
                (refine' H.hd_loadb HS.out ?q9hs ?hf ?hr ?hQ ?q9hw ?q9ho ?q9hx ?q9hu ?q9hd ?q9hat ?q9hv ?_; (case q9hs => kernel_rfl); (case hf => kernel_rfl); (case hr => kernel_rfl); (case hQ => exact fun _ _ _ _ h => h); (case q9hw => rfl); (case q9ho => rfl); (case q9hx => rfl); (case q9hu => first | exact Try.underlying3 | exact Try.underlying4 | exact Try.underlying42 | exact Try.underlying46 | exact Try.underlying44 | exact Try.underlying23 | exact Try.underlying39 | exact Try.underlying48); (case q9hd => rfl); (case q9hat => first | exact .here | exact .there .here | exact .there (.there .here) | exact .there (.there (.there .here)) | exact .there (.there (.there (.there .here))) | exact .there (.there (.there (.there (.there .here))))); (case q9hv => rfl)); try simp only [Act.put, List.setIfInBounds_toArray, List.set_cons_zero, List.set_cons_succ]
                (refine' H.hd_mget HS.out (v := .agg #[.int .i64 (j : Int), .int .i64 (l[j].f3[q]).f1, .bool (R.value l[j].f3 (l[j].f3[q]).f1 == (l[j].f3[q]).f2)]) ?q9hs ?hf ?hr ?hQ ?q9hw ?q9ho Try.underlying3 Try.underlying39 zv48 ?q9hm ?q9hx ?q9hat hk ?q9hv ?_; (case q9hs => kernel_rfl); (case hf => kernel_rfl); (case hr => kernel_rfl); (case hQ => exact fun _ _ _ _ h => h); (case q9hw => rfl); (case q9ho => rfl); (case q9hm => rfl); (case q9hx => rfl); (case q9hat => first | exact .here | exact .there .here | exact .there (.there .here) | exact .there (.there (.there .here)) | exact .there (.there (.there (.there .here))) | exact .there (.there (.there (.there (.there .here))))); (case q9hv => rw [HV.out]; rfl)); try simp only [Act.put, List.setIfInBounds_toArray, List.set_cons_zero, List.set_cons_succ]
                (refine' H.hd_pure HS.out ?q9hs ?hf ?hr ?hQ ?q9hw ?q9hrun ?_; (case q9hs => kernel_rfl); (case hf => kernel_rfl); (case hr => kernel_rfl); (case hQ => exact fun _ _ _ _ h => h); (case q9hw => rfl); (case q9hrun => intro x_; first | (go_simp; done) | (go_simp; rfl))); try simp only [Act.put, List.setIfInBounds_toArray, List.set_cons_zero, List.set_cons_succ]
                (refine' H.hd_pure HS.out ?q9hs ?hf ?hr ?hQ ?q9hw ?q9hrun ?_; (case q9hs => kernel_rfl); (case hf => kernel_rfl); (case hr => kernel_rfl); (case hQ => exact fun _ _ _ _ h => h); (case q9hw => rfl); (case q9hrun => intro x_; first | (go_simp; done) | (go_simp; rfl))); try simp only [Act.put, List.setIfInBounds_toArray, List.set_cons_zero, List.set_cons_succ]
                (refine' H.hd_loadb HS.out ?q9hs ?hf ?hr ?hQ ?q9hw ?q9ho ?q9hx ?q9hu ?q9hd ?q9hat ?q9hv ?_; (case q9hs => kernel_rfl); (case hf => kernel_rfl); (case hr => kernel_rfl); (case hQ => exact fun _ _ _ _ h => h); (case q9hw => rfl); (case q9ho => rfl); (case q9hx => rfl); (case q9hu => first | exact Try.underlying3 | exact Try.underlying4 | exact Try.underlying42 | exact Try.underlying46 | exact Try.underlying44 | exact Try.underlying23 | exact Try.underlying39 | exact Try.underlying48); (case q9hd => rfl); (case q9hat => first | exact .here | exact .there .here | exact .there (.there .here) | exact .there (.there (.there .here)) | exact .there (.there (.there (.there .here))) | exact .there (.there (.there (.there (.there .here))))); (case q9hv => rfl)); try simp only [Act.put, List.setIfInBounds_toArray, List.set_cons_zero, List.set_cons_succ]
                (refine' H.hd_loadw HS.out ?q9hs ?hf ?hr ?hQ ?q9hw ?q9ho ?q9hx ?q9hu ?q9hd ?q9hat ?q9hi ?_; (case q9hs => kernel_rfl); (case hf => kernel_rfl); (case hr => kernel_rfl); (case hQ => exact fun _ _ _ _ h => h); (case q9hw => rfl); (case q9ho => rfl); (case q9hx => rfl); (case q9hu => first | exact Try.underlying3 | exact Try.underlying4 | exact Try.underlying42 | exact Try.underlying46 | exact Try.underlying44 | exact Try.underlying23 | exact Try.underlying39 | exact Try.underlying48); (case q9hd => rfl); (case q9hat => first | exact .here | exact .there .here | exact .there (.there .here) | exact .there (.there (.there .here)) | exact .there (.there (.there (.there .here))) | exact .there (.there (.there (.there (.there .here))))); (case q9hi => first | exact sz3 | exact sz4 | exact sz42 | exact sz46 | exact sz44 | exact sz23 | exact sz39 | exact sz48)); try simp only [Act.put, List.setIfInBounds_toArray, List.set_cons_zero, List.set_cons_succ]
                (refine' H.hd_pure HS.out ?q9hs ?hf ?hr ?hQ ?q9hw ?q9hrun ?_; (case q9hs => kernel_rfl); (case hf => kernel_rfl); (case hr => kernel_rfl); (case hQ => exact fun _ _ _ _ h => h); (case q9hw => rfl); (case q9hrun => intro x_; first | (go_simp; done) | (go_simp; rfl))); try simp only [Act.put, List.setIfInBounds_toArray, List.set_cons_zero, List.set_cons_succ]
                (refine' H.hd_loadb HS.out ?q9hs ?hf ?hr ?hQ ?q9hw ?q9ho ?q9hx ?q9hu ?q9hd ?q9hat ?q9hv ?_; (case q9hs => kernel_rfl); (case hf => kernel_rfl); (case hr => kernel_rfl); (case hQ => exact fun _ _ _ _ h => h); (case q9hw => rfl); (case q9ho => rfl); (case q9hx => rfl); (case q9hu => first | exact Try.underlying3 | exact Try.underlying4 | exact Try.underlying42 | exact Try.underlying46 | exact Try.underlying44 | exact Try.underlying23 | exact Try.underlying39 | exact Try.underlying48); (case q9hd => rfl); (case q9hat => first | exact .here | exact .there .here | exact .there (.there .here) | exact .there (.there (.there .here)) | exact .there (.there (.there (.there .here))) | exact .there (.there (.there (.there (.there .here))))); (case q9hv => rfl)); try simp only [Act.put, List.setIfInBounds_toArray, List.set_cons_zero, List.set_cons_succ]
                (refine' H.hd_pure HS.out ?q9hs ?hf ?hr ?hQ ?q9hw ?q9hrun ?_; (case q9hs => kernel_rfl); (case hf => kernel_rfl); (case hr => kernel_rfl); (case hQ => exact fun _ _ _ _ h => h); (case q9hw => rfl); (case q9hrun => intro x_; first | (go_simp; done) | (go_simp; rfl))); try simp only [Act.put, List.setIfInBounds_toArray, List.set_cons_zero, List.set_cons_succ]
                (refine' H.hd_loadb HS.out ?q9hs ?hf ?hr ?hQ ?q9hw ?q9ho ?q9hx ?q9hu ?q9hd ?q9hat ?q9hv ?_; (case q9hs => kernel_rfl); (case hf => kernel_rfl); (case hr => kernel_rfl); (case hQ => exact fun _ _ _ _ h => h); (case q9hw => rfl); (case q9ho => rfl); (case q9hx => rfl); (case q9hu => first | exact Try.underlying3 | exact Try.underlying4 | exact Try.underlying42 | exact Try.underlying46 | exact Try.underlying44 | exact Try.underlying23 | exact Try.underlying39 | exact Try.underlying48); (case q9hd => rfl); (case q9hat => first | exact .here | exact .there .here | exact .there (.there .here) | exact .there (.there (.there .here)) | exact .there (.there (.there (.there .here))) | exact .there (.there (.there (.there (.there .here))))); (case q9hv => rfl)); try simp only [Act.put, List.setIfInBounds_toArray, List.set_cons_zero, List.set_cons_succ]
                (refine' H.hd_call HS.out ?hr ?q9hw (f := 29) ?q9hrun ?_; (case hr => kernel_rfl); (case q9hw => rfl); (case q9hrun => first | (go_simp; done) | (go_simp; rfl))); (refine (ref06_Last.calls K3 _ _ _ _ _ _ _ _ _ _ (Kd.C_below HC3.out HS.out.below) hc3 HK3.out).mono ?_); rintro e w_ ⟨rfl, hb⟩; refine ⟨_, rfl, HS.out.keep hb, ?_⟩; have hs := HS.out.keep hb; clear HS hb; have HS := Aside0.mk hs; clear hs; try simp only [Act.put, List.setIfInBounds_toArray, List.set_cons_zero, List.set_cons_succ]
                (refine' H.hd_pure HS.out ?q9hs ?hf ?hr ?hQ ?q9hw ?q9hrun ?_; (case q9hs => kernel_rfl); (case hf => kernel_rfl); (case hr => kernel_rfl); (case hQ => exact fun _ _ _ _ h => h); (case q9hw => rfl); (case q9hrun => intro x_; first | (go_simp; done) | (go_simp; rfl))); try simp only [Act.put, List.setIfInBounds_toArray, List.set_cons_zero, List.set_cons_succ]
                (refine' H.hd_pure HS.out ?q9hs ?hf ?hr ?hQ ?q9hw ?q9hrun ?_; (case q9hs => kernel_rfl); (case hf => kernel_rfl); (case hr => kernel_rfl); (case hQ => exact fun _ _ _ _ h => h); (case q9hw => rfl); (case q9hrun => intro x_; first | (go_simp; done) | (go_simp; rfl))); try simp only [Act.put, List.setIfInBounds_toArray, List.set_cons_zero, List.set_cons_succ]
                refine H.hd_done (by kernel_rfl) ?_
                go_wp2
                go_roundg (l[j].f3.length - (q + 1))
                case measure => have := HG1.out; omega
                case rel => exact ⟨q + 1, n1 + 1, by first | go_num | (simp; omega), by first | go_num | (simp; omega), ⟨by have := HG1.out; omega⟩, ⟨HS.out.sub (by repeat (first | exact List.Sublist.slnil | refine List.Sublist.cons_cons _ ?_ | refine List.Sublist.cons _ ?_))⟩, hHI⟩
            · have hqb : decide ((q : Int) < (l[j].f3.length : Int)) = false := decide_eq_false (by omega)
              obtain rfl : q = l[j].f3.length := by have := HG1.out; omega
              go_wp2
              go_roundg (l.length - (j + 1))
              case measure => have := HG.out; omega
              case rel => exact ⟨j + 1, n1, rfl, by first | go_num | (simp; omega), ⟨by have := HG.out; omega⟩, ⟨HS.out.sub (by repeat (first | exact List.Sublist.slnil | refine List.Sublist.cons_cons _ ?_ | refine List.Sublist.cons _ ?_))⟩, ⟨by have h1 := HI.out; rw [R.wrH_drop _ _ hj] at h1; have h2 := HI3.out; rw [List.drop_length] at h2; simp only [R.wrL, List.countP_nil] at h1 h2 ⊢; omega⟩⟩
        · have hjb : decide ((j : Int) < (l.length : Int)) = false := decide_eq_false (by omega)
          obtain rfl : j = l.length := by have := HG.out; omega
          have hn : n = (encW T).length := by rw [← HLen.out]; have := HI.out; rw [List.drop_length] at this; simpa [R.wrH] using this
          have HN := Aside0.mk hn
          clear hn
          go_wp2_with (first
            | (at_len; refine H.ev_mlen HS.out rfl _ 39 rfl Try.underlying39 .here rfl HN.out ?_)
            )
          go_ret
          exact ⟨by simp, HS.out.below⟩
    · have hckb : (R.check l == 0) = false := beq_eq_false_iff_ne.mpr hck
      go_wp2_with (first
        | (go_at_call 23; refine (burgagelaw06_speaks.calls _ _ HSP.out).mono ?_; rintro e w_ ⟨rfl, hb⟩; have hs := HS.out.keep hb; clear HS hb; have HS := Aside0.mk hs; clear hs)
        | (go_at_call 24; refine (burgagelaw06_Big.calls K1 _ _ _ _ _ (Kd.C_below HR.out HS.out.below) hc HK1.out).mono ?_; rintro e w_ ⟨rfl, hb⟩; have hs := HS.out.keep hb; clear HS hb; have HS := Aside0.mk hs; clear hs)
        | (go_at_call 16; refine (ref06_Check.calls K2 _ _ _ _ _ (Kd.C_below HR.out HS.out.below) hc HK2.out).mono ?_; rintro e w_ ⟨rfl, hb⟩; have hs := HS.out.keep hb; clear HS hb; have HS := Aside0.mk hs; clear hs)
        )
      go_ret
      exact ⟨rfl, HS.out.below⟩
end Go.Proofs.Ytfocaefnmfkojaa.Q
namespace Go.Proofs.Ytfocaefnmfkojaa.historyWrites
open Go.RowKit Go.Proofs.Ytfocaefnmfkojaa.Q Go.Proofs.YtfocaefnmfkojaaW.PrintWords
theorem walk_historyWrites (W : World) (A : Option Addr) (c : Nat) (l : List S44) (hC : Kd.C k44 W A l.length l) (hc : l.length ≤ c) (wf : H.wfH l) :
    Calls Try.prog 6 #[.slice A l.length c] W fun e W' => e = .returned (.bool true) ∧ Below W.heap.size W W' := Q.walk_historyWrites W A c l hC hc wf
end Go.Proofs.Ytfocaefnmfkojaa.historyWrites
namespace Go.Proofs.Ytfocaefnmfkojaa.historyWrites
open Go.ChangeShapes Go.WideShapes Go.ChangeAt Go.RowKit Go.Joins
set_option linter.unusedVariables false
theorem own : ownKnob Try.prog.godebug = none := by kernel_rfl
theorem laidOut : laidOutB Try.prog = true := by kernel_rfl
set_option maxRecDepth 100000 in
theorem lifted (os : Os) (started : os.Started) (H : Type) (enc : TypeId × Value → H) :
    ReturnsInHanded {} Try.checked os 6 .any (Rows.historyWritesSpec.pre6 enc Try.prog Try.f6 Rows.historyWritesRow.domain false) (Rows.historyWritesSpec.post enc Try.prog Try.f6 false true false false) := by
  refine returnsInHanded_of_change_sized (C := Try.checked) own started (by kernel_rfl) Try.func6
    (ChangeSpec.witness6 (enc := enc) (C := Try.checked) false ⟨#[], #[.slice none 0 0], []⟩ 8 (by kernel_rfl) (by kernel_rfl) (by kernel_rfl) (by kernel_rfl)) ?_
  intro W base args ds gs before hval0 hW hcnd hsz0 _
  have hsz : (DataW.weightsEach Try.prog (Try.f6.params.toList ++ Rows.historyWritesSpec.plain.varTypes Try.prog) (ds ++ gs)).all (· ≤ reachBytes) = true := hsz0
  have hval : ∀ (j : Nat) t v, Try.f6.params[j]? = some t → args[j]? = some v → Value.okWide Try.prog W .any base t v := hval0
  have hW' := hW
  obtain ⟨p, q, hA0, hV, rfl, hfz, hnd⟩ := hW
  have hA : DataW.TrodAll enc Try.prog W 0 (fun _ => true) true Try.f6.params.toList args.toList ds p := hA0
  rw [Try.params6] at hA hval hsz
  obtain ⟨v0, vs0, d0, ds0, p0, q0, hargs, rfl, rfl, h0, r0⟩ := trodAll_cons hA
  obtain ⟨rfl, rfl, rfl⟩ := trodAll_nil r0
  obtain rfl : args = #[v0] := by cases args; simp_all
  obtain ⟨rfl, rfl⟩ := trodVars_none hV
  obtain ⟨A0, len0, c0, rfl⟩ := okWide_slice Try.underlying23 (hval 0 23 v0 rfl rfl)
  have k0 := h0
  have lt0 : ∀ x ∈ p0, x.block < W.heap.size := by obtain ⟨m, hm⟩ := k0; exact DataW.trod_lt m _ _ _ hm
  obtain ⟨l0, hl0, hc0, hC0, wf0⟩ := Go.Proofs.Ytfocaefnmfkojaa.H.slice_in Go.Proofs.Ytfocaefnmfkojaa.H.opensH h0 (Go.Proofs.Ytfocaefnmfkojaa.H.weights_at hsz (j := 0) rfl rfl)
  subst hl0
  clear hA0 hval0 hsz0 hsz
  refine (walk_historyWrites W A0 c0 l0 hC0 hc0 wf0).mono fun e W' ⟨he, bel⟩ => ?_
  subst he
  exact ⟨_, rfl, _, _, _, [], _, [], hW', trodAll_mk1 (shut_bool Try.underlying4 _), (trodAll_cons_mk (Below.trod laidOut (by kernel_rfl) (of_decide_eq_true (by kernel_rfl)) k0 bel lt0) trodAll_mk0), rfl, bel.frame _, fun h => by cases h⟩
theorem over : Rows.historyWritesRow.holds Try.pinned (OpenSpec.ofChange Rows.historyWritesSpec) :=
  OpenClaim.holds_of_wide 6 Try.f6 rfl rfl rfl rfl rfl rfl rfl ⟨rfl, rfl, rfl, rfl, rfl⟩ rfl rfl rfl rfl rfl (by kernel_rfl) Try.func6 (by kernel_rfl)
    (of_decide_eq_true (by kernel_rfl)) (by unfold Func.isWrapper; first | (rw [if_pos (by decide +kernel)]; kernel_rfl) | (rw [if_neg (by decide +kernel)]; exact ⟨rfl, rfl⟩))
    (fun os started H enc _ => lifted os started H enc)
theorem proved : Rows.HistoryWritesSaid := over
end Go.Proofs.Ytfocaefnmfkojaa.historyWrites
namespace Go.Proofs.Ytfocaefnmfkojaa
theorem historyWrites_holds : Rows.HistoryWritesSaid := historyWrites.proved
end Go.Proofs.Ytfocaefnmfkojaa
