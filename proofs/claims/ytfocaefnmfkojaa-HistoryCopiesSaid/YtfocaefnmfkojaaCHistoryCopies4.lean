/- A part of the proof of historyCopies_holds: words and contracts that its last text uses. -/
import Derived.Test.YtfocaefnmfkojaaCHistoryCopies3
import Derived.Maps.RangeWalk
import Derived.Outline
namespace Go.Proofs.Ytfocaefnmfkojaa.H
open Go.RowKit Go.Maps Go.Proofs.YtfocaefnmfkojaaW.PrintWords Go.Proofs.YtfocaefnmfkojaaW.PrintLast Go.Proofs.YtfocaefnmfkojaaW.PrintMore
set_option linter.unusedVariables false
set_option linter.unusedSimpArgs false
structure Asn where
  P : (Nat → Prop) → World → Prop
  lt : ∀ {S w}, P S w → ∀ k, S k → k < w.heap.size
  move : ∀ {S w w'}, P S w → (∀ k, S k → w'.heap[k]? = w.heap[k]?) → P S w'
def SHs (B : Nat) (w : World) : List Asn → List (Nat → Prop) → Prop
  | [], [] => True
  | A :: L, S :: Ss => A.P S w ∧ (∀ k, S k → B ≤ k) ∧ (∀ T ∈ Ss, ∀ k, S k → ¬ T k) ∧ SHs B w L Ss
  | _, _ => False
structure SH (w0 w : World) (L : List Asn) : Prop where
  below : Below w0.heap.size w0 w
  own : ∃ Ss, SHs w0.heap.size w L Ss
inductive At (A A' : Asn) : List Asn → List Asn → Prop
  | here {L} : At A A' (A :: L) (A' :: L)
  | there {a L L'} : At A A' L L' → At A A' (a :: L) (a :: L')
theorem SHs.lt {B : Nat} {w : World} : ∀ {L Ss}, SHs B w L Ss → ∀ T ∈ Ss, ∀ k, T k → k < w.heap.size
  | [], [], _, T, hT => by cases hT
  | A :: L, S :: Ss, h, T, hT => by
    rcases List.mem_cons.mp hT with rfl | hT
    · exact A.lt h.1
    · exact SHs.lt h.2.2.2 T hT
  | [], _ :: _, h, _, _ => h.elim
  | _ :: _, [], h, _, _ => h.elim
theorem SHs.move {B : Nat} {w w' : World} : ∀ {L Ss}, SHs B w L Ss → (∀ T ∈ Ss, ∀ k, T k → w'.heap[k]? = w.heap[k]?) → SHs B w' L Ss
  | [], [], _, _ => trivial
  | A :: L, S :: Ss, h, hm => ⟨A.move h.1 (hm S (List.mem_cons_self ..)), h.2.1, h.2.2.1, SHs.move h.2.2.2 (fun T hT => hm T (List.mem_cons_of_mem _ hT))⟩
  | [], _ :: _, h, _ => h.elim
  | _ :: _, [], h, _ => h.elim
structure Turn (w w' : World) (S : Nat → Prop) : Prop where
  os : w'.os = w.os
  tape : w'.tape = w.tape
  output : w'.output = w.output
  size : w.heap.size ≤ w'.heap.size
  block : ∀ k, k < w.heap.size → ¬ S k → w'.heap[k]? = w.heap[k]?
theorem Turn.of_below {w w' : World} (h : Below w.heap.size w w') (S : Nat → Prop) : Turn w w' S := ⟨h.os, h.tape, h.output, h.size, fun k hk _ => h.block k hk⟩
theorem Turn.of_grown {w w' : World} {row : Option Nat} {S : Nat → Prop} (h : w.grownBy w' row) (hS : ∀ k, row = some k → S k) : Turn w w' S := ⟨h.os, h.tape, h.output, h.size, fun k hk hn => h.block k hk (fun e => hn (hS k e.symm))⟩
theorem Turn.of_set (w : World) {p : Addr} (u : Value) {S : Nat → Prop} (hS : S p.block) : Turn w (w.setCell p u) S := ⟨rfl, rfl, rfl, by simp [World.setCell], fun k hk hn => Below.heap_setCell _ _ _ _ (fun e => hn (e ▸ hS))⟩
theorem Turn.mono {w w' : World} {S T : Nat → Prop} (h : Turn w w' S) (hST : ∀ k, S k → T k) : Turn w w' T := ⟨h.os, h.tape, h.output, h.size, fun k hk hn => h.block k hk (fun hs => hn (hST k hs))⟩
theorem Turn.trans {w w' w'' : World} {S : Nat → Prop} (h : Turn w w' S) (h' : Turn w' w'' S) : Turn w w'' S :=
  ⟨h'.os.trans h.os, h'.tape.trans h.tape, h'.output.trans h.output, Nat.le_trans h.size h'.size, fun k hk hn => (h'.block k (Nat.lt_of_lt_of_le hk h.size) hn).trans (h.block k hk hn)⟩
inductive AtF {ι : Type} (A : Asn) (A' : ι → Asn) : List Asn → (ι → List Asn) → Prop
  | here {L} : AtF A A' (A :: L) (fun i => A' i :: L)
  | there {a L L'} : AtF A A' L L' → AtF A A' (a :: L) (fun i => a :: L' i)
theorem SHs.focus {B : Nat} {w : World} {ι : Type} {A : Asn} {A' : ι → Asn} : ∀ {L L'}, AtF A A' L L' → ∀ {Ss}, SHs B w L Ss → B ≤ w.heap.size →
    ∃ S ∈ Ss, A.P S w ∧ (∀ k, S k → B ≤ k) ∧ ∀ i w', Turn w w' S → ∀ S', (A' i).P S' w' → (∀ k, S' k → S k ∨ w.heap.size ≤ k) → ∃ Ss', SHs B w' (L' i) Ss' ∧ ∀ T' ∈ Ss', ∀ k, T' k → (∃ T ∈ Ss, T k) ∨ w.heap.size ≤ k
  | _, _, .here (L := L), [], h, _ => h.elim
  | _, _, .here (L := L), S :: Ss, h, hle => by
    refine ⟨S, List.mem_cons_self .., h.1, h.2.1, fun i w' ht S' hA' hS' => ?_⟩
    refine ⟨S' :: Ss, ⟨hA', fun k hk => ?_, fun T hT k hk hTk => ?_, SHs.move h.2.2.2 fun T hT k hk => ?_⟩, ?_⟩
    · rcases hS' k hk with hk | hk
      · exact h.2.1 k hk
      · omega
    · rcases hS' k hk with hk | hk
      · exact h.2.2.1 T hT k hk hTk
      · have := SHs.lt h.2.2.2 T hT k hTk
        omega
    · exact ht.block k (SHs.lt h.2.2.2 T hT k hk) (fun hSk => h.2.2.1 T hT k hSk hk)
    · intro T' hT' k hk
      rcases List.mem_cons.mp hT' with rfl | hT'
      · rcases hS' k hk with hk | hk
        · exact .inl ⟨S, List.mem_cons_self .., hk⟩
        · exact .inr hk
      · exact .inl ⟨T', List.mem_cons_of_mem _ hT', hk⟩
  | _, _, .there hat, [], h, _ => h.elim
  | _, _, .there (a := a) hat, S :: Ss, h, hle => by
    obtain ⟨S0, hS0, hP, hB0, hf⟩ := SHs.focus hat h.2.2.2 hle
    refine ⟨S0, List.mem_cons_of_mem _ hS0, hP, hB0, fun i w' ht S' hA' hS' => ?_⟩
    obtain ⟨Ss', h', hT'⟩ := hf i w' ht S' hA' hS'
    refine ⟨S :: Ss', ⟨a.move h.1 fun k hk => ?_, h.2.1, fun T hT k hk hTk => ?_, h'⟩, ?_⟩
    · exact ht.block k (a.lt h.1 k hk) (fun hSk => h.2.2.1 S0 hS0 k hk hSk)
    · rcases hT' T hT k hTk with ⟨T0, hT0, hk0⟩ | hge
      · exact h.2.2.1 T0 hT0 k hk hk0
      · have := a.lt h.1 k hk
        omega
    · intro T hT k hk
      rcases List.mem_cons.mp hT with rfl | hT
      · exact .inl ⟨T, List.mem_cons_self .., hk⟩
      · rcases hT' T hT k hk with ⟨T0, hT0, hk0⟩ | hge
        · exact .inl ⟨T0, List.mem_cons_of_mem _ hT0, hk0⟩
        · exact .inr hge
section
variable {w0 w w' : World} {L L' : List Asn} {A A' : Asn}
theorem SH.start (w : World) : SH w w [] := ⟨Below.refl _ _, [], trivial⟩
theorem SH.le (h : SH w0 w L) : w0.heap.size ≤ w.heap.size := h.below.size
theorem SH.keep (h : SH w0 w L) (hb : Below w.heap.size w w') : SH w0 w' L := by
  obtain ⟨hB, Ss, hs⟩ := h
  exact ⟨hB.trans (hb.mono hB.size), Ss, hs.move fun T hT k hk => hb.block k (hs.lt T hT k hk)⟩
theorem SH.drew (h : SH w0 w L) : SH w0 w.drew L := h.keep (below_drew (Below.refl _ _))
theorem SH.drewN (h : SH w0 w L) (n : Nat) : SH w0 (w.drewN n) L := h.keep (pw_below_drewN (Below.refl _ _) n)
theorem SH.alloc (h : SH w0 w L) (o : Obj) : SH w0 (w.alloc o) L := h.keep (below_alloc (Below.refl _ _) o)
theorem SH.push (h : SH w0 w L) (hb : Below w.heap.size w w') (A : Asn) (S : Nat → Prop) (hA : A.P S w') (hS : ∀ k, S k → w.heap.size ≤ k) : SH w0 w' (A :: L) := by
  obtain ⟨hB, Ss, hs⟩ := h
  refine ⟨hB.trans (hb.mono hB.size), S :: Ss, hA, fun k hk => Nat.le_trans hB.size (hS k hk), fun T hT k hk hTk => ?_, hs.move fun T hT k hk => hb.block k (hs.lt T hT k hk)⟩
  have := hs.lt T hT k hTk
  have := hS k hk
  omega
theorem SH.focus {ι : Type} {A' : ι → Asn} {L' : ι → List Asn} (h : SH w0 w L) (hat : AtF A A' L L') : ∃ S, A.P S w ∧ (∀ k, S k → w0.heap.size ≤ k) ∧ ∀ i w', Turn w w' S → ∀ S', (A' i).P S' w' → (∀ k, S' k → S k ∨ w.heap.size ≤ k) → SH w0 w' (L' i) := by
  obtain ⟨hB, Ss, h⟩ := h
  obtain ⟨S, _, hP, hB0, hf⟩ := SHs.focus hat h hB.size
  refine ⟨S, hP, hB0, fun i w' ht S' hA' hS' => ?_⟩
  obtain ⟨Ss', h', _⟩ := hf i w' ht S' hA' hS'
  exact ⟨hB.trans ⟨ht.os, ht.tape, ht.output, ht.size, fun k hk => ht.block k (Nat.lt_of_lt_of_le hk hB.size) (fun hk' => by have := hB0 k hk'; omega)⟩, Ss', h'⟩
theorem At.toF : ∀ {L L'}, At A A' L L' → AtF A (fun _ : Unit => A') L (fun _ => L')
  | _, _, .here => .here
  | _, _, .there h => .there h.toF
theorem SH.upd (h : SH w0 w L) (hat : At A A' L L') (hs : ∀ S, A.P S w → (∀ k, S k → w0.heap.size ≤ k) → Turn w w' S ∧ ∃ S', A'.P S' w' ∧ ∀ k, S' k → S k ∨ w.heap.size ≤ k) : SH w0 w' L' := by
  obtain ⟨S, hP, hB, hf⟩ := h.focus hat.toF
  obtain ⟨ht, S', hA', hS'⟩ := hs S hP hB
  exact hf () w' ht S' hA' hS'
theorem SHs.get {B : Nat} : ∀ {L L'}, At A A' L L' → ∀ {Ss}, SHs B w L Ss → ∃ S, A.P S w ∧ ∀ k, S k → B ≤ k
  | _, _, .here, S :: Ss, h => ⟨S, h.1, h.2.1⟩
  | _, _, .there hat, S :: Ss, h => SHs.get hat h.2.2.2
  | _, _, .here, [], h => h.elim
  | _, _, .there _, [], h => h.elim
theorem SH.get' (h : SH w0 w L) (hat : At A A' L L') : ∃ S, A.P S w ∧ ∀ k, S k → w0.heap.size ≤ k := SHs.get hat h.own.choose_spec
theorem SHs.sub {B : Nat} : ∀ {L' L : List Asn}, L'.Sublist L → ∀ {Ss}, SHs B w L Ss → ∃ Ss', SHs B w L' Ss' ∧ ∀ T ∈ Ss', T ∈ Ss
  | _, _, .slnil, [], h => ⟨[], h, fun _ h => h⟩
  | _, _, .slnil, _ :: _, h => h.elim
  | _, _, .cons a s, S :: Ss, h => by
    obtain ⟨Ss', h', hm⟩ := SHs.sub s h.2.2.2
    exact ⟨Ss', h', fun T hT => List.mem_cons_of_mem _ (hm T hT)⟩
  | _, _, .cons_cons a s, S :: Ss, h => by
    obtain ⟨Ss', h', hm⟩ := SHs.sub s h.2.2.2
    refine ⟨S :: Ss', ⟨h.1, h.2.1, fun T hT => h.2.2.1 T (hm T hT), h'⟩, fun T hT => ?_⟩
    rcases List.mem_cons.mp hT with rfl | hT
    · exact List.mem_cons_self ..
    · exact List.mem_cons_of_mem _ (hm T hT)
  | _, _, .cons a s, [], h => h.elim
  | _, _, .cons_cons a s, [], h => h.elim
theorem SH.sub (h : SH w0 w L) (hs : L'.Sublist L) : SH w0 w L' := by
  obtain ⟨hB, Ss, h⟩ := h
  obtain ⟨Ss', h', _⟩ := SHs.sub hs h
  exact ⟨hB, Ss', h'⟩
theorem SH.drop (h : SH w0 w (A :: L)) : SH w0 w L := h.sub (List.sublist_cons_self ..)
theorem SH.swap (h : SH w0 w (A :: A' :: L)) : SH w0 w (A' :: A :: L) := by
  obtain ⟨hB, Ss, h⟩ := h
  match Ss, h with
  | S :: S' :: Ss, h => exact ⟨hB, S' :: S :: Ss, h.2.2.2.1, h.2.2.2.2.1, fun T hT k hk hTk => by
      rcases List.mem_cons.mp hT with rfl | hT
      · exact h.2.2.1 S' (List.mem_cons_self ..) k hTk hk
      · exact h.2.2.2.2.2.1 T hT k hk hTk, h.1, h.2.1, fun T hT => h.2.2.1 T (List.mem_cons_of_mem _ hT), h.2.2.2.2.2.2⟩
  | [S], h => exact h.2.2.2.elim
  | [], h => exact h.elim
theorem SH.old (h : SH w0 w L) {p : Addr} {v : Value} (hc : w0.cell? p = some v) : w.cell? p = some v := (h.below.cell (World.block_lt_of_cell? w0 _ hc)).trans hc
end
def bk (g : Nat) (t : TypeId) (cs : Array Value) : Asn where
  P S w := (∀ k, S k ↔ k = g) ∧ w.heap[g]? = some (.cells cs t (0, 0))
  lt h k hk := by rw [(h.1 k).mp hk]; exact blk_lt h.2
  move h hm := ⟨h.1, (hm _ ((h.1 _).mpr rfl)).trans h.2⟩
def mp (P : Program) (k : TypeId) (b : Nat) (l : List (Int × Value)) : Asn where
  P S w := (∀ q, S q ↔ q = b) ∧ IM P k w b l
  lt h q hq := by rw [(h.1 q).mp hq]; exact h.2.lt
  move h hm := ⟨h.1, h.2.same (hm _ ((h.1 _).mpr rfl))⟩
def rw' {α : Type} (base : Nat) (d : Kd α) (e : Nat) (v : Value) (xs : List α) : Asn where
  P S w := Kd.R d e w base S v xs ∧ ∀ k, S k → k < w.heap.size
  lt h k hk := h.2 k hk
  move h hm := ⟨Kd.R_move h.1 hm, fun k hk => heap_lt (hm k hk) (h.2 k hk)⟩
def vw {α : Type} (d : Kd α) (e : Nat) (v : Value) (xs : List α) : Asn where
  P S w := Kd.V d e w 0 S v xs ∧ ∀ k, S k → k < w.heap.size
  lt h k hk := h.2 k hk
  move h hm := ⟨by
    obtain ⟨A, c, e1, e2, hf⟩ := h.1
    exact ⟨A, c, e1, e2, Kd.F_step hf (fun k hk _ => hm k hk)⟩, fun k hk => heap_lt (hm k hk) (h.2 k hk)⟩
section
variable {P : Program} {w0 w : World} {ops : Array Oper} {rest : List Oper} {o : Oper} {a : Act} {Q : Exit → Act → World → Prop} {L L' : List Asn} {A' : Asn}
theorem SH.cells' {g : Nat} {t : TypeId} {cs : Array Value} (h : SH w0 w L) (hat : At (bk g t cs) A' L L') : w.heap[g]? = some (.cells cs t (0, 0)) := by
  obtain ⟨S, hS, _⟩ := h.get' hat
  exact hS.2
theorem SH.cell' {g : Nat} {t : TypeId} {cs : Array Value} (h : SH w0 w L) (hat : At (bk g t cs) A' L L') (i : Nat) : w.cell? ⟨g, i, none⟩ = cs[i]? := blk_cell (h.cells' hat) i
theorem SH.im' {k : TypeId} {b : Nat} {l : List (Int × Value)} (h : SH w0 w L) (hat : At (mp P k b l) A' L L') : IM P k w b l := by
  obtain ⟨S, hS, _⟩ := h.get' hat
  exact hS.2
theorem SH.set {g : Nat} {t : TypeId} {cs : Array Value} (h : SH w0 w L) (i : Nat) (u : Value) {cs' : Array Value} (hcs : cs.setIfInBounds i u = cs') (hat : At (bk g t cs) (bk g t cs') L L') : SH w0 (w.setCell ⟨g, i, none⟩ u) L' :=
  h.upd hat fun S hS _ => ⟨Turn.of_set w u ((hS.1 g).mpr rfl), S, ⟨hS.1, blk_put hS.2 i u hcs⟩, fun k hk => .inl hk⟩
theorem wl_plain (hw : Region.wanted o (yielded ops a.tmps) = true) (h : ∀ K : Act → World → Prop, (∀ a w, wpList P ops Q rest a w → K a w) → o.wp P a w K Q) : wpList P ops Q (o :: rest) a w :=
  wpList_step fun K hK => by rw [if_pos hw]; exact h K hK
theorem wl_run {w1 : World} {v : Value} (hw : Region.wanted o (yielded ops a.tmps) = true) (hrun : (execOp a.eval o).run P w = .ok (.value v) w1) (h : wpList P ops Q rest (a.put o.dst v) w1) : wpList P ops Q (o :: rest) a w := by
  refine wl_plain hw fun K hK => ?_
  unfold Oper.wp
  rw [hrun]
  exact hK _ _ h
theorem gate_load {t : TypeId} {x : Operand} (_ho : o.op = .load t x) (h : wpList P ops Q (o :: rest) a w) : wpList P ops Q (o :: rest) a w := h
theorem gate_sto {t : TypeId} {x y : Operand} (_ho : o.op = .store t x y) (h : wpList P ops Q (o :: rest) a w) : wpList P ops Q (o :: rest) a w := h
theorem gate_idx {t : TypeId} {x y : Operand} (_ho : o.op = .indexAddr t x y) (h : wpList P ops Q (o :: rest) a w) : wpList P ops Q (o :: rest) a w := h
theorem gate_box {t : TypeId} {x : Operand} (_ho : o.op = .box t x) (h : wpList P ops Q (o :: rest) a w) : wpList P ops Q (o :: rest) a w := h
theorem gate_alloc {t : TypeId} (_ho : o.op = .alloc t) (h : wpList P ops Q (o :: rest) a w) : wpList P ops Q (o :: rest) a w := h
theorem gate_mk {t : TypeId} (_ho : o.op = .makeMap t none) (h : wpList P ops Q (o :: rest) a w) : wpList P ops Q (o :: rest) a w := h
theorem gate_entry {x : Operand} (_ho : o.op = .entry x) (h : wpList P ops Q (o :: rest) a w) : wpList P ops Q (o :: rest) a w := h
theorem ev_box (HS : SH w0 w L) (hw : Region.wanted o (yielded ops a.tmps) = true) {cs : Array Value} {t : TypeId} (hrun : (execOp a.eval o).run P w = .ok (.value (.pointer (some ⟨w.heap.size, 0, none⟩))) (w.alloc (.cells cs t (0, 0))))
    (h : ∀ g w1, SH w0 w1 (bk g t cs :: L) → wpList P ops Q rest (a.put o.dst (.pointer (some ⟨g, 0, none⟩))) w1) : wpList P ops Q (o :: rest) a w :=
  wl_run hw hrun (h _ _ (HS.push (below_alloc (Below.refl _ _) _) _ (fun k => k = w.heap.size) ⟨fun _ => Iff.rfl, blk_new w _⟩ (fun k hk => Nat.le_of_eq hk.symm)))
theorem ev_val (hw : Region.wanted o (yielded ops a.tmps) = true) {v : Value} (hrun : (execOp a.eval o).run P w = .ok (.value v) w) (h : wpList P ops Q rest (a.put o.dst v) w) : wpList P ops Q (o :: rest) a w := wl_run hw hrun h
theorem run_load1 {ty : TypeId} {d : TypeDesc} (hu : P.underlying ty = some d) (hd : d.isRow = false) {p : Addr} {v : Value} (hc : w.cell? p = some v) : (loadVar ty p).run P w = .ok v w := by
  have hagg : (isAgg ty).run P w = .ok false w := by
    unfold isAgg
    rw [Sem.run_bind, run_underlying hu w]
    cases d <;> simp_all [TypeDesc.isRow]
  unfold loadVar
  rw [Sem.run_bind, hagg]
  simp [hc]
theorem ev_load (hw : Region.wanted o (yielded ops a.tmps) = true) {ty : TypeId} {x : Operand} (ho : o.op = .load ty x) {p : Addr} (hx : a.eval x = .pointer (some p)) {d : TypeDesc} (hu : P.underlying ty = some d) (hd : d.isRow = false) {v : Value} (hc : w.cell? p = some v)
    (h : wpList P ops Q rest (a.put o.dst v) w) : wpList P ops Q (o :: rest) a w := by
  refine ev_val hw ?_ h
  unfold execOp
  simp only [ho, hx, Instr.loadAt, Instr.sureAddr, Sem.run_bind, Sem.run_pure, Result.andThen_ok, run_load1 hu hd hc]
theorem run_store1 {ty : TypeId} (hi : (P.info? ty).map (·.size) = some 1) {g i : Nat} {t : TypeId} {cs : Array Value} (hg : w.heap[g]? = some (.cells cs t (0, 0))) (hlt : i < cs.size) {v : Value} (hv : v.oneCell' = true) : (storeVar ty ⟨g, i, none⟩ v).run P w = .ok () (w.setCell ⟨g, i, none⟩ v) := by
  have hcs : v.cells = #[v] := by cases v <;> first | rfl | cases hv
  have hc : w.cell? ⟨g, i, none⟩ = some cs[i] := (blk_cell hg i).trans (Array.getElem?_eq_getElem hlt)
  have hf : w.frozen? ⟨g, i, none⟩ = false := blk_frozen hg i
  cases hq : P.info? ty with
  | none => simp [hq] at hi
  | some q =>
    have hs : q.size = 1 := by simpa [hq] using hi
    have ha : (⟨g, i, none⟩ : Addr).add 0 = ⟨g, i, none⟩ := by unfold Addr.add; split <;> simp_all
    have hst : (store (⟨g, i, none⟩ : Addr) v).run P w = .ok () (w.setCell ⟨g, i, none⟩ v) := by rw [run_store P w _ v _ hv, hc]; simp [hf]
    have h2 : (storeCells (⟨g, i, none⟩ : Addr) [v]).run P w = .ok () (w.setCell ⟨g, i, none⟩ v) := by
      unfold storeCells
      rw [ha, Sem.run_bind, hst]
      simp [storeCells]
    unfold storeVar
    simp [Sem.run_bind, sizeOf, typeInfo, hq, hs, hcs, h2]
theorem ev_store (HS : SH w0 w L) (hw : Region.wanted o (yielded ops a.tmps) = true) {ty : TypeId} {x y : Operand} (ho : o.op = .store ty x y) {g i : Nat} (hx : a.eval x = .pointer (some ⟨g, i, none⟩)) {v : Value} (hy : a.eval y = v) (hv : v.oneCell' = true) (hi : (P.info? ty).map (·.size) = some 1)
    {t : TypeId} {cs cs' : Array Value} (hat : At (bk g t cs) (bk g t cs') L L') (hlt : i < cs.size) (hcs : cs.setIfInBounds i v = cs')
    (h : ∀ w1, SH w0 w1 L' → wpList P ops Q rest (a.put o.dst undef) w1) : wpList P ops Q (o :: rest) a w := by
  refine wl_plain hw fun K hK => ?_
  unfold Oper.wp execOp
  simp only [ho, hx, hy, Instr.storeAt, Instr.sureAddr, Sem.run_bind, Sem.run_pure, Result.andThen_ok, run_store1 hi (HS.cells' hat) hlt hv]
  exact hK _ _ (h _ (HS.set i v hcs hat))
theorem ev_mmake (HS : SH w0 w L) (hgd : o.guard = none) (t k : TypeId) (hop : o.op = Op.makeMap t none) (h : ∀ w1 b, SH w0 w1 (mp P k b [] :: L) → wpList P ops Q rest (a.put o.dst (.map (some b))) w1) : wpList P ops Q (o :: rest) a w :=
  wpList_im_make w hgd t k hop fun w' b hm hb hB => h w' b (HS.push hB _ (fun q => q = b) ⟨fun _ => Iff.rfl, hm⟩ (fun q hq => by omega))
theorem ev_mok (HS : SH w0 w L) (hgd : o.guard = none) {m x : Operand} {t : TypeId} (hop : o.op = Op.lookup t m x true) {k e : TypeId} (hk : P.underlying k = some (.int .i64)) (ht : P.underlying t = some (.map k e)) {z : Value} (hz : (zeroValue e).run P w = .ok z w)
    {b : Nat} (hm : a.eval m = .map (some b)) {i : Int} (hx : a.eval x = .int .i64 i) {l : List (Int × Value)} (hat : At (mp P k b l) (mp P k b l) L L') (hi : I64 i) {v : Value} {s : Bool} (hv : (getL l i).getD z = v) (hs : (getL l i).isSome = s)
    (h : wpList P ops Q rest (a.put o.dst (.tuple #[v, .bool s])) w) : wpList P ops Q (o :: rest) a w :=
  wpList_im_ok w hgd m x t hop hk ht hz (HS.im' hat) hi hv hs hm hx h
theorem ev_mget (HS : SH w0 w L) (hw : Region.wanted o (yielded ops a.tmps) = true) {m x : Operand} {t : TypeId} (hop : o.op = Op.lookup t m x false) {k e : TypeId} (hk : P.underlying k = some (.int .i64)) (ht : P.underlying t = some (.map k e)) {z : Value} (hz : (zeroValue e).run P w = .ok z w)
    {b : Nat} (hm : a.eval m = .map (some b)) {i : Int} (hx : a.eval x = .int .i64 i) {l : List (Int × Value)} (hat : At (mp P k b l) (mp P k b l) L L') (hi : I64 i) {v : Value} (hv : (getL l i).getD z = v)
    (h : wpList P ops Q rest (a.put o.dst v) w) : wpList P ops Q (o :: rest) a w := by
  subst hv
  refine ev_val hw ?_ h
  unfold execOp
  simp only [hop, hm, hx]
  simp [((HS.im' hat).look hk ht hz hi).2]
theorem ev_mput (HS : SH w0 w L) (hgd : o.guard = none) {m x v : Operand} {t : TypeId} (hop : o.op = Op.mapUpdate t m x v) {k e : TypeId} (hk : P.underlying k = some (.int .i64)) (ht : P.underlying t = some (.map k e))
    {b : Nat} (hm : a.eval m = .map (some b)) {i : Int} (hx : a.eval x = .int .i64 i) {u : Value} (hv : a.eval v = u) {l l' : List (Int × Value)} (hl' : putL l i u = l') (hat : At (mp P k b l) (mp P k b l') L L') (hi : I64 i) (hl : l.length < maxLen)
    (h : ∀ w1, SH w0 w1 L' → wpList P ops Q rest (a.put o.dst undef) w1) : wpList P ops Q (o :: rest) a w := by
  subst hl'
  exact wpList_im_store w hgd m x v t hop hk ht (HS.im' hat) hi hl hm hx hv fun w' him hgr => h w' (HS.upd hat fun S hS _ => ⟨Turn.of_grown hgr (fun k e => by cases e; exact (hS.1 b).mpr rfl), S, ⟨hS.1, him⟩, fun k hk => .inl hk⟩)
theorem ev_append {α : Type} (d : Kd α) (HS : SH w0 w L) (hgd : o.guard = none) {s x : Operand} {t e : TypeId} {z : Value} {bytes : Nat} (ho : o.op = .call { callee := .builtin .append, args := #[s, x], argTypes := #[t, t] })
    (ht : P.underlying t = some (.slice e)) (hinfo : (P.info? e).map (fun i => (i.zero, i.size, i.bytes)) = some (some z, d.sz, bytes)) (hz : z.cells.size = d.sz) (hs0 : 0 < d.sz) (hb0 : 0 < bytes)
    {v : Value} {xs : List α} {p : α} {cs : Array Value} (hs : a.eval s = v) (hx : a.eval x = .slice (some ⟨w.heap.size, 0, none⟩) 1 1) (hp : d.M w w0.heap.size (fun _ => False) p cs.toList)
    {L' : Value → List Asn} (hat : AtF (rw' w0.heap.size d e v xs) (fun v1 => rw' w0.heap.size d e v1 (xs ++ [p])) L L') (hl : (xs.length + 1) * bytes ≤ 140737488355328)
    (h : ∀ v1 w1, SH w0 w1 (L' v1) → wpList P ops Q rest (a.put o.dst v1) w1) : wpList P ops Q (o :: rest) a (w.alloc (.cells cs e)) := by
  obtain ⟨S0, hS0, hb0', hf⟩ := HS.focus hat
  refine Kd.R_append d (w0 := w0) (W := w) (cs := cs.toList) w0.heap.size hgd s x t e z bytes ho ht hinfo hz hs0 hb0 v xs p (fun k => S0 k ∨ w.heap.size ≤ k) (fun _ => False) hs hx hp (fun _ hk => hk.elim) (fun k hk => .inr hk) (Kd.R_mono hS0.1 (fun k hk => .inl hk)) HS.below HS.le hl ?_
  intro v1 w1 ho1 hb1 hg1 _
  refine h v1 w1 (hf v1 w1 (Turn.of_grown hg1 fun k e1 => ?_) (fun k => (S0 k ∨ w.heap.size ≤ k) ∧ k < w1.heap.size) ⟨?_, fun k hk => hk.2⟩ (fun k hk => hk.1))
  · exact hS0.1.1 k e1
  · exact Kd.R_mono (Kd.R_bound ho1) (fun k hk => ⟨hk.1, hk.2.2.1⟩)
theorem ev_alloc (HS : SH w0 w L) (hw : Region.wanted o (yielded ops a.tmps) = true) {t : TypeId} (ho : o.op = .alloc t) {z : Value} (hz : (zeroValue t).run P w = .ok z w) {cs : Array Value} (hc : z.cells = cs)
    (h : ∀ g w1, SH w0 w1 (bk g t cs :: L) → wpList P ops Q rest (a.put o.dst (.pointer (some ⟨g, 0, none⟩))) w1) : wpList P ops Q (o :: rest) a w := by
  refine ev_box HS hw ?_ h
  unfold execOp
  simp only [ho]
  simp [Instr.alloc, Sem.run_bind, hz, newVar, newRow, hc]
theorem ev_boxv (HS : SH w0 w L) (hw : Region.wanted o (yielded ops a.tmps) = true) {t : TypeId} {x : Operand} (ho : o.op = .box t x) {v : Value} (hx : a.eval x = v) {cs : Array Value} (hc : v.cells = cs)
    (h : ∀ g w1, SH w0 w1 (bk g t cs :: L) → wpList P ops Q rest (a.put o.dst (.pointer (some ⟨g, 0, none⟩))) w1) : wpList P ops Q (o :: rest) a w := by
  refine ev_box HS hw ?_ h
  unfold execOp
  simp only [ho, hx]
  simp [Instr.box, Sem.run_bind, newVar, newRow, hc]
theorem run_loads {ty : TypeId} {d : TypeDesc} (hu : P.underlying ty = some d) (hd : d.isRow = true) {p : Addr} {cs : List Value} (hc : ∀ q v, cs[q]? = some v → w.cell? (p.add q) = some v) (hi : (P.info? ty).map (·.size) = some cs.length) : (loadVar ty p).run P w = .ok (.agg cs.toArray) w := by
  have hl : (loadCells p cs.length).run P w = .ok cs.toArray w := run_loadCells_list (P := P) w p cs (fun j v hv => hc j v hv)
  cases hq : P.info? ty with
  | none => simp [hq] at hi
  | some i =>
    have hs : i.size = cs.length := by simpa [hq] using hi
    have hagg : (isAgg ty).run P w = .ok true w := by
      unfold isAgg
      rw [Sem.run_bind, run_underlying hu w]
      cases d <;> simp_all [TypeDesc.isRow]
    simp [loadVar, Sem.run_bind, hagg, sizeOf, typeInfo, hq, hs, hl]
theorem ev_loadr (hw : Region.wanted o (yielded ops a.tmps) = true) {ty : TypeId} {x : Operand} (ho : o.op = .load ty x) {p : Addr} (hx : a.eval x = .pointer (some p)) {d : TypeDesc} (hu : P.underlying ty = some d) (hd : d.isRow = true) {cs : List Value} (hc : ∀ q v, cs[q]? = some v → w.cell? (p.add q) = some v) (hi : (P.info? ty).map (·.size) = some cs.length)
    {c : Array Value} (hcs : cs.toArray = c) (h : wpList P ops Q rest (a.put o.dst (.agg c)) w) : wpList P ops Q (o :: rest) a w := by
  subst hcs
  refine ev_val hw ?_ h
  unfold execOp
  simp only [ho, hx, Instr.loadAt, Instr.sureAddr, Sem.run_bind, Sem.run_pure, Result.andThen_ok, run_loads hu hd hc hi]
theorem add_at' (g i q : Nat) : (⟨g, i, none⟩ : Addr).add q = ⟨g, i + q, none⟩ := by unfold Addr.add; split <;> simp_all
theorem ev_loadw (HS : SH w0 w L) (hw : Region.wanted o (yielded ops a.tmps) = true) {ty : TypeId} {x : Operand} (ho : o.op = .load ty x) {g : Nat} (hx : a.eval x = .pointer (some ⟨g, 0, none⟩)) {d : TypeDesc} (hu : P.underlying ty = some d) (hd : d.isRow = true) {t : TypeId} {cs : Array Value} (hat : At (bk g t cs) (bk g t cs) L L') (hi : (P.info? ty).map (·.size) = some cs.size)
    (h : wpList P ops Q rest (a.put o.dst (.agg cs)) w) : wpList P ops Q (o :: rest) a w :=
  ev_loadr hw ho hx hu hd (cs := cs.toList) (fun q v hv => by rw [add_at', HS.cell' hat, Nat.zero_add]; simpa using hv) (by simpa using hi) (by simp) h
theorem ev_loadb (HS : SH w0 w L) (hw : Region.wanted o (yielded ops a.tmps) = true) {ty : TypeId} {x : Operand} (ho : o.op = .load ty x) {g i : Nat} (hx : a.eval x = .pointer (some ⟨g, i, none⟩)) {d : TypeDesc} (hu : P.underlying ty = some d) (hd : d.isRow = false) {t : TypeId} {cs : Array Value} (hat : At (bk g t cs) (bk g t cs) L L') {v : Value} (hv : cs[i]? = some v)
    (h : wpList P ops Q rest (a.put o.dst v) w) : wpList P ops Q (o :: rest) a w := ev_load hw ho hx hu hd ((HS.cell' hat i).trans hv) h
def setAll (cs : Array Value) : Nat → List Value → Array Value
  | _, [] => cs
  | i, v :: vs => setAll (cs.setIfInBounds i v) (i + 1) vs
theorem heap_setCells (g : Nat) (t : TypeId) (vs : List Value) : ∀ (w : World) (i : Nat) (cs : Array Value), w.heap[g]? = some (.cells cs t (0, 0)) → (w.setCells g i vs).heap[g]? = some (.cells (setAll cs i vs) t (0, 0)) := by
  induction vs with
  | nil => intro w i cs h; exact h
  | cons v vs ih => intro w i cs h; exact ih _ _ _ (blk_put h i v rfl)
theorem turn_setCells (g : Nat) (vs : List Value) {S : Nat → Prop} (hS : S g) : ∀ (w : World) (i : Nat), Turn w (w.setCells g i vs) S := by
  induction vs with
  | nil => intro w i; exact ⟨rfl, rfl, rfl, Nat.le_refl _, fun _ _ _ => rfl⟩
  | cons v vs ih => intro w i; exact (Turn.of_set w (p := ⟨g, i, none⟩) v hS).trans (ih _ _)
theorem SH.sets {g : Nat} {t : TypeId} {cs : Array Value} (h : SH w0 w L) (i : Nat) (vs : List Value) {cs' : Array Value} (hcs : setAll cs i vs = cs') (hat : At (bk g t cs) (bk g t cs') L L') : SH w0 (w.setCells g i vs) L' :=
  h.upd hat fun S hS _ => ⟨turn_setCells g vs ((hS.1 g).mpr rfl) w i, S, ⟨hS.1, hcs ▸ heap_setCells g t vs w i cs hS.2⟩, fun k hk => .inl hk⟩
theorem ev_stores (HS : SH w0 w L) (hw : Region.wanted o (yielded ops a.tmps) = true) {ty : TypeId} {x y : Operand} (ho : o.op = .store ty x y) {g i : Nat} (hx : a.eval x = .pointer (some ⟨g, i, none⟩)) {vs : Array Value} (hy : a.eval y = .agg vs) (hv : vs.all (·.oneCell') = true) (hi : (P.info? ty).map (·.size) = some vs.size)
    {t : TypeId} {cs cs' : Array Value} (hat : At (bk g t cs) (bk g t cs') L L') (hlt : i + vs.size ≤ cs.size) (hcs : setAll cs i vs.toList = cs')
    (h : ∀ w1, SH w0 w1 L' → wpList P ops Q rest (a.put o.dst undef) w1) : wpList P ops Q (o :: rest) a w := by
  refine wl_plain hw fun K hK => wp_store_mid ty x y ho g i vs hx hy (fun j hj => ?_) hi hv (hK _ _ (h _ (HS.sets i vs.toList hcs hat)))
  have hj' : i + j < cs.size := by omega
  exact ⟨by rw [HS.cell' hat, Array.getElem?_eq_getElem hj']; rfl, blk_frozen (HS.cells' hat) _⟩
theorem add_add (ad : Addr) (m q : Nat) : (ad.add m).add q = ad.add (m + q) := by
  unfold Addr.add
  split <;> split <;> simp_all [Nat.add_assoc]
theorem ev_idx {α : Type} {d : Kd α} {A : Option Addr} {n c : Nat} {xs : List α} (HC : d.C w A n xs) (hw : Region.wanted o (yielded ops a.tmps) = true) {t e : TypeId} {x ix : Operand} (ho : o.op = .indexAddr t x ix) (hx : a.eval x = .slice A n c) {k : IntKind} {j : Nat} (hix : a.eval ix = .int k j) (ht : P.underlying t = some (.slice e)) (hsz : (P.info? e).map (·.size) = some d.sz) (hj : j < xs.length)
    (h : ∀ p cs, d.K w xs[j] cs → (∀ q v, cs[q]? = some v → w.cell? (p.add q) = some v) → wpList P ops Q rest (a.put o.dst (.pointer (some p))) w) : wpList P ops Q (o :: rest) a w := by
  obtain ⟨ad, e1, hc⟩ := HC.2.2 (by have := HC.1; omega)
  obtain ⟨cs, hs, hr, hcell⟩ := hc j _ (List.getElem?_eq_getElem hj)
  have hn := HC.1
  refine ev_val hw (v := .pointer (some (ad.add (j * d.sz)))) ?_ (h _ cs hr fun q v hv => by rw [add_add]; exact hcell q v hv)
  have hs' : (sizeOf e).run P w = .ok d.sz w := by
    cases hq : P.info? e with
    | none => simp [hq] at hsz
    | some q => simp [sizeOf, typeInfo, Sem.run_bind, hq, show q.size = d.sz by simpa [hq] using hsz]
  unfold execOp
  simp only [ho, hx, hix, e1]
  simp [Instr.indexAt, Sem.run_bind, asIntOf, run_underlying ht, hs', show (j : Int) < n by omega]
  intro h_; omega
theorem SH.nilrow {α : Type} (d : Kd α) (e : Nat) (h : SH w0 w L) : SH w0 w (rw' w0.heap.size d e (.slice none 0 0) [] :: L) :=
  h.push (Below.refl _ _) _ (fun _ => False) ⟨Kd.R_nil _ _ _ _ _, fun _ hk => hk.elim⟩ (fun _ hk => hk.elim)
theorem SH.row' {α : Type} {d : Kd α} {e : Nat} {v : Value} {xs : List α} {B : Nat} (h : SH w0 w L) (hat : At (rw' B d e v xs) A' L L') : ∃ A c, v = .slice A xs.length c ∧ xs.length ≤ c ∧ d.C w A xs.length xs := by
  obtain ⟨S, hS, _⟩ := h.get' hat
  exact Kd.R_reads hS.1
theorem SH.rowV' {α : Type} {d : Kd α} {e : Nat} {v : Value} {xs : List α} (h : SH w0 w L) (hat : At (vw d e v xs) A' L L') : ∃ A c, v = .slice A xs.length c ∧ xs.length ≤ c ∧ d.C w A xs.length xs := by
  obtain ⟨S, hS, _⟩ := h.get' hat
  obtain ⟨A, c, e1, e2, hf⟩ := hS.1
  exact ⟨A, c, e1, e2, Kd.F_now hf⟩
theorem ev_load0 (hw : Region.wanted o (yielded ops a.tmps) = true) {ty : TypeId} {x : Operand} (ho : o.op = .load ty x) {p : Addr} (hx : a.eval x = .pointer (some p)) {d : TypeDesc} (hu : P.underlying ty = some d) (hd : d.isRow = false) {v : Value} (hc : ∀ q u, [v][q]? = some u → w.cell? (p.add q) = some u)
    (h : wpList P ops Q rest (a.put o.dst v) w) : wpList P ops Q (o :: rest) a w :=
  ev_load hw ho hx hu hd (by have := hc 0 v rfl; rwa [show p.add 0 = p by unfold Addr.add; simp] at this) h
theorem SH.get {A : Asn} (h : SH w0 w L) (hat : At A A L L) : ∃ S, A.P S w ∧ ∀ k, S k → w0.heap.size ≤ k := h.get' hat
theorem SH.cells {g : Nat} {t : TypeId} {cs : Array Value} (h : SH w0 w L) (hat : At (bk g t cs) (bk g t cs) L L) : w.heap[g]? = some (.cells cs t (0, 0)) := h.cells' hat
theorem SH.cell {g : Nat} {t : TypeId} {cs : Array Value} (h : SH w0 w L) (hat : At (bk g t cs) (bk g t cs) L L) (i : Nat) : w.cell? ⟨g, i, none⟩ = cs[i]? := h.cell' hat i
theorem SH.im {k : TypeId} {b : Nat} {l : List (Int × Value)} (h : SH w0 w L) (hat : At (mp P k b l) (mp P k b l) L L) : IM P k w b l := h.im' hat
theorem SH.row {α : Type} {d : Kd α} {e : Nat} {v : Value} {xs : List α} {B : Nat} (h : SH w0 w L) (hat : At (rw' B d e v xs) (rw' B d e v xs) L L) : ∃ A c, v = .slice A xs.length c ∧ xs.length ≤ c ∧ d.C w A xs.length xs := h.row' hat
theorem SH.rowV {α : Type} {d : Kd α} {e : Nat} {v : Value} {xs : List α} (h : SH w0 w L) (hat : At (vw d e v xs) (vw d e v xs) L L) : ∃ A c, v = .slice A xs.length c ∧ xs.length ≤ c ∧ d.C w A xs.length xs := h.rowV' hat
theorem ev_make0 {α : Type} (d : Kd α) (HS : SH w0 w L) (hgd : o.guard = none) {t e : TypeId} {l c : Operand} (ho : o.op = .makeSlice t l c) (ht : P.underlying t = some (.slice e)) {z : Value} {bytes : Nat} (hinfo : (P.info? e).map (fun i => (i.zero, i.size, i.bytes)) = some (some z, d.sz, bytes))
    {kl kc : IntKind} {n : Nat} (hl : a.eval l = .int kl 0) (hc : a.eval c = .int kc n) (hn : bytes * n ≤ 281474976710656) (hm : n ≤ maxLen)
    (h : ∀ v w1, SH w0 w1 (rw' w0.heap.size d e v [] :: L) → wpList P ops Q rest (a.put o.dst v) w1) : wpList P ops Q (o :: rest) a w := by
  cases hq : P.info? e with
  | none => simp [hq] at hinfo
  | some i =>
    have hi : i.zero = some z ∧ i.size = d.sz ∧ i.bytes = bytes := by simpa [hq] using hinfo
    refine wpList_make_own w hgd l c t ho w.heap.size e i z d.sz ht hq hi.1 hi.2.1 kl kc n n hl hc rfl (by rw [hi.2.2]; exact hn) hm (Nat.le_refl _) ?_
    intro w' hown hgr
    have hB : Below w.heap.size w w' := ⟨hgr.os, hgr.tape, hgr.output, hgr.size, fun k hk => hgr.block k hk (by simp)⟩
    have hlt : w.heap.size < w'.heap.size := own_lt hown _ rfl
    refine h _ w' (HS.push hB _ (fun k => k = w.heap.size) ⟨⟨fun k hk => ?_, [], own_weaken hown HS.le, Reps.none _ _⟩, fun k hk => hk ▸ hlt⟩ fun k hk => Nat.le_of_eq hk.symm)
    simpa [Value.ownBlock] using hk.symm
theorem ev_mlen (HS : SH w0 w L) (hw : Region.wanted o (yielded ops a.tmps) = true) (m : Operand) (t : TypeId) (hop : o.op = Op.call { callee := Callee.builtin Builtin.len, args := #[m], argTypes := #[t] }) {k e : TypeId} (ht : P.underlying t = some (.map k e)) {b : Nat} {l : List (Int × Value)} (hat : At (mp P k b l) (mp P k b l) L L) (hm : a.eval m = .map (some b)) {n : Nat} (hn : n = l.length)
    (hK : wpList P ops Q rest (a.put o.dst (.int .i64 n)) w) : wpList P ops Q (o :: rest) a w := by
  subst hn
  refine ev_val hw ?_ hK
  unfold execOp
  simp [hop, resolve, invoke, builtin, hm, (HS.im hat).len ht]
theorem ev_idx0 {α : Type} {d : Kd α} {A : Option Addr} {n c : Nat} {xs : List α} (HS : SH w0 w L) (HC : d.C w0 A n xs) (hw : Region.wanted o (yielded ops a.tmps) = true) {t e : TypeId} {x ix : Operand} (ho : o.op = .indexAddr t x ix) (hx : a.eval x = .slice A n c) {k : IntKind} {j : Nat} (hix : a.eval ix = .int k j) (ht : P.underlying t = some (.slice e)) (hsz : (P.info? e).map (·.size) = some d.sz) (hj : j < xs.length)
    (h : ∀ p cs, d.K w0 xs[j] cs → (∀ q v, cs[q]? = some v → w.cell? (p.add q) = some v) → wpList P ops Q rest (a.put o.dst (.pointer (some p))) w) : wpList P ops Q (o :: rest) a w := by
  obtain ⟨ad, e1, hc⟩ := HC.2.2 (by have := HC.1; omega)
  obtain ⟨cs, hs, hr, hcell⟩ := hc j _ (List.getElem?_eq_getElem hj)
  have hn := HC.1
  refine ev_val hw (v := .pointer (some (ad.add (j * d.sz)))) ?_ (h _ cs hr fun q v hv => HS.old (by rw [add_add]; exact hcell q v hv))
  have hs' : (sizeOf e).run P w = .ok d.sz w := by
    cases hq : P.info? e with
    | none => simp [hq] at hsz
    | some q => simp [sizeOf, typeInfo, Sem.run_bind, hq, show q.size = d.sz by simpa [hq] using hsz]
  unfold execOp
  simp only [ho, hx, hix, e1]
  simp [Instr.indexAt, Sem.run_bind, asIntOf, run_underlying ht, hs', show (j : Int) < n by omega]
  intro h_; omega
theorem SH.atC {α : Type} {d : Kd α} {e : Nat} {A : Option Addr} {n c : Nat} {xs : List α} (h : SH w0 w L) (hat : At (vw d e (.slice A n c) xs) (vw d e (.slice A n c) xs) L L) : n = xs.length ∧ d.C w A n xs := by
  obtain ⟨A', c', e1, e2, hc⟩ := h.rowV hat
  injection e1 with h1 h2 h3
  subst h1 h2
  exact ⟨rfl, hc⟩
theorem SH.pushRV {α : Type} {d : Kd α} {e : Nat} {v : Value} {xs : List α} {ok : Nat → Prop} {w' : World} (h : SH w0 w L) (hr : Kd.R d e w' w.heap.size ok v xs) (hb : Below w.heap.size w w') : SH w0 w' (vw d e v xs :: L) := by
  have h2 := Kd.R_bound hr
  refine h.push hb _ (fun k => ok k ∧ w.heap.size ≤ k ∧ k < w'.heap.size) ⟨?_, fun k hk => hk.2.2⟩ (fun k hk => hk.2.1)
  obtain ⟨A, c, e1, e2, _⟩ := Kd.R_reads hr
  refine ⟨A, c, e1, e2, fun W' hW' => ?_⟩
  have h3 := Kd.R_move (Kd.R_mono h2 (fun k hk => (⟨hk.1, hk.2.1, hk.2.2.1⟩ : ok k ∧ w.heap.size ≤ k ∧ k < w'.heap.size))) (fun k hk => hW' k hk hk.2.2)
  obtain ⟨A', c', e1', e2', hc⟩ := Kd.R_reads h3
  rw [e1] at e1'
  injection e1' with h1 _ _
  rw [h1]
  exact hc
theorem ev_lit (HS : SH w0 w L) (hw : Region.wanted o (yielded ops a.tmps) = true) {n : Nat} {cs : Array Value} {e : TypeId} (hrun : (execOp a.eval o).run P w = .ok (.value (.slice (some ⟨w.heap.size, 0, none⟩) n n)) (w.alloc (.cells cs e (0, 0))))
    (h : ∀ g w1, SH w0 w1 (bk g e cs :: L) → wpList P ops Q rest (a.put o.dst (.slice (some ⟨g, 0, none⟩) n n)) w1) : wpList P ops Q (o :: rest) a w :=
  wl_run hw hrun (h _ _ (HS.push (below_alloc (Below.refl _ _) _) _ (fun k => k = w.heap.size) ⟨fun _ => Iff.rfl, blk_new w _⟩ (fun k hk => Nat.le_of_eq hk.symm)))
theorem gate_bs {t : TypeId} {n : Nat} {ps : Array (Nat × Operand)} (_ho : o.op = .buildSlice t n ps) (h : wpList P ops Q (o :: rest) a w) : wpList P ops Q (o :: rest) a w := h
theorem C_of {α : Type} (d : Kd α) {b : Nat} {cs : Array Value} {e : TypeId} (hb : w.heap[b]? = some (.cells cs e (0, 0))) (xs : List α) (hl : xs.length ≤ 9223372036854775807) (h : ∀ j p, xs[j]? = some p → ∃ c, c.length = d.sz ∧ d.K w p c ∧ ∀ i u, c[i]? = some u → cs[j * d.sz + i]? = some u) :
    d.C w (some ⟨b, 0, none⟩) xs.length xs :=
  ⟨rfl, hl, fun _ => ⟨_, rfl, fun j p hj => by
    obtain ⟨c, h1, h2, h3⟩ := h j p hj
    refine ⟨c, h1, h2, fun i u hu => ?_⟩
    rw [add_at', blk_cell hb, Nat.zero_add]
    exact h3 i u hu⟩⟩
end
end Go.Proofs.Ytfocaefnmfkojaa.H
namespace Go.Proofs.Ytfocaefnmfkojaa.H
open Go.RowKit Go.Maps Go.Proofs.YtfocaefnmfkojaaW.PrintWords Go.Proofs.YtfocaefnmfkojaaW.PrintLast Go.Proofs.YtfocaefnmfkojaaW.PrintMore
set_option linter.unusedVariables false
set_option linter.unusedSimpArgs false
theorem getL_some_mem {l : List (Int × Value)} {i : Int} {v : Value} (h : getL l i = some v) : (i, v) ∈ l := by
  induction l with
  | nil => simp [getL_nil] at h
  | cons p l ih =>
    rw [getL_cons] at h
    by_cases hp : p.1 = i
    · rw [if_pos hp] at h
      cases h
      subst hp
      exact List.mem_cons_self ..
    · rw [if_neg hp] at h
      exact List.mem_cons_of_mem _ (ih h)
def offL (l : List (Int × Value)) (i : Int) : List (Int × Value) := l.filter fun p => !(p.1 == i)
theorem Apart.off {l : List (Int × Value)} (h : Apart l) (i : Int) : Apart (offL l i) := h.filter _
theorem getL_off (l : List (Int × Value)) (i j : Int) : getL (offL l i) j = if j = i then none else getL l j := by
  induction l with
  | nil => simp [offL, getL_nil]
  | cons p l ih =>
    unfold offL at ih ⊢
    rw [List.filter_cons]
    by_cases hp : p.1 = i
    · rw [if_neg (by simp [hp]), ih, getL_cons]
      by_cases hj : j = i
      · simp [hj]
      · rw [if_neg hj, if_neg hj, if_neg (fun e => hj (e.symm.trans hp))]
    · rw [if_pos (by simpa using hp), getL_cons, getL_cons, ih]
      by_cases hj : j = i
      · subst hj; simp [hp]
      · simp [hj]
theorem off_perm {l : List (Int × Value)} (h : Apart l) {i : Int} {v : Value} (hv : getL l i = some v) : l.Perm ((i, v) :: offL l i) := by
  induction l with
  | nil => simp [getL_nil] at hv
  | cons p l ih =>
    obtain ⟨h1, h2⟩ := List.pairwise_cons.mp h
    rw [getL_cons] at hv
    by_cases hp : p.1 = i
    · rw [if_pos hp] at hv
      have hpe : p = (i, v) := by cases hv; subst hp; rfl
      subst hpe
      refine List.Perm.cons _ ?_
      have : offL ((i, v) :: l) i = l := by
        unfold offL
        rw [List.filter_cons, if_neg (by simp), List.filter_eq_self]
        intro q hq
        have := h1 q hq
        simpa using fun e : q.1 = i => this e.symm
      rw [this]
    · rw [if_neg hp] at hv
      have : offL (p :: l) i = p :: offL l i := by unfold offL; rw [List.filter_cons, if_pos (by simpa using hp)]
      rw [this]
      exact ((ih h2 hv).cons p).trans (List.Perm.swap _ _ _)
theorem off_len {l : List (Int × Value)} (h : Apart l) {i : Int} {v : Value} (hv : getL l i = some v) : (offL l i).length + 1 = l.length := by
  rw [(off_perm h hv).length_eq, List.length_cons]
def Rg (P : Program) (k : TypeId) (w : World) (b r : Nat) (l td : List (Int × Value)) : Prop :=
  Apart l ∧ (∀ p ∈ l, I64 p.1) ∧ Apart td ∧ (∀ i v, getL td i = some v → getL l i = some v) ∧ ∃ D left cnt, w.ranges P k RV b r l.length D left cnt ∧ Maps.size D = l.length ∧
    (∀ i, Maps.has D (KL i) = (getL l i).isSome ∧ ∀ z, D.atKey (KL i) z = match getL l i with | some v => .held v | none => z) ∧ ∀ i, left (KL i) = (getL td i).isSome
section
variable {P : Program} {k e t : TypeId} {w w' : World} {b r : Nat} {l td : List (Int × Value)}
theorem Rg.same (h : Rg P k w b r l td) (hb : w'.heap[b]? = w.heap[b]?) (hr : w'.heap[r]? = w.heap[r]?) : Rg P k w' b r l td := by
  obtain ⟨h1, h2, h3, h4, D, left, cnt, ⟨es, cl, since, seen, c0, a1, a2, a3, a4, a5, a6⟩, h6⟩ := h
  exact ⟨h1, h2, h3, h4, D, left, cnt, ⟨es, cl, since, seen, c0, hb.trans a1, a2, a3, a4, hr.trans a5, a6⟩, h6⟩
theorem Rg.lt (h : Rg P k w b r l td) : r < w.heap.size := h.2.2.2.2.choose_spec.choose_spec.choose_spec.1.lt
theorem Rg.ltb (h : Rg P k w b r l td) : b < w.heap.size := h.2.2.2.2.choose_spec.choose_spec.choose_spec.1.owns.lt
theorem Rg.im (h : Rg P k w b r l td) : IM P k w b l := by
  obtain ⟨h1, h2, h3, h4, D, left, cnt, hr, h5, h6, h7⟩ := h
  exact ⟨h1, h2, D, hr.owns, h5, h6⟩
end
def rg (P : Program) (k : TypeId) (b r : Nat) (l td : List (Int × Value)) : Asn where
  P S w := (∀ q, S q ↔ q = b ∨ q = r) ∧ Rg P k w b r l td
  lt h q hq := by
    rcases (h.1 q).mp hq with rfl | rfl
    · exact h.2.ltb
    · exact h.2.lt
  move h hm := ⟨h.1, h.2.same (hm _ ((h.1 _).mpr (.inl rfl))) (hm _ ((h.1 _).mpr (.inr rfl)))⟩
section
variable {P : Program} {w0 w : World} {ops : Array Oper} {rest : List Oper} {o : Oper} {a : Act} {Q : Exit → Act → World → Prop} {L L' : List Asn}
theorem ev_mrange (HS : SH w0 w L) (hg : o.guard = none) {m : Operand} {t : TypeId} (hop : o.op = Op.range t m) {k e : TypeId} (hk : P.underlying k = some (.int .i64)) (ht : P.underlying t = some (.map k e)) {b : Nat} (hm : a.eval m = .map (some b)) {l : List (Int × Value)}
    {L' : Nat → List Asn} (hat : AtF (mp P k b l) (fun r => rg P k b r l l) L L') (h : ∀ r w1, SH w0 w1 (L' r) → wpList P ops Q rest (a.put o.dst (.pointer (some ⟨r, 0, none⟩))) w1) : wpList P ops Q (o :: rest) a w := by
  obtain ⟨S, ⟨hS, h1, h2, D, h3, h4, h5⟩, _, hf⟩ := HS.focus hat
  refine wpList_range_own w hg m t hop k e (int_keyed hk) ht RV b l.length D hm h3 fun w' hr hgr hsz => h _ w' (hf _ w' (Turn.of_grown hgr fun _ e => by cases e) (fun q => q = b ∨ q = w.heap.size) ⟨fun _ => Iff.rfl, h1, h2, h1, fun _ _ h => h, D, _, _, hr, h4, h5, fun i => (h5 i).1⟩ fun q hq => ?_)
  rcases hq with rfl | rfl
  · exact .inl ((hS _).mpr rfl)
  · exact .inr (Nat.le_refl _)
theorem ev_mnext (HS : SH w0 w L) (hg : o.guard = none) {it : Operand} (hop : o.op = Op.next it false) {k : TypeId} (hk : P.underlying k = some (.int .i64)) {b r : Nat} {l td : List (Int × Value)} (hit : a.eval it = .pointer (some ⟨r, 0, none⟩))
    {L' : List (Int × Value) → List Asn} (hat : AtF (rg P k b r l td) (fun td' => rg P k b r l td') L L')
    (hDone : td = [] → wpList P ops Q rest (a.put o.dst (.tuple #[.bool false])) w)
    (hMore : ∀ (x : Int) (v : Value) (w' : World), I64 x → getL td x = some v → getL l x = some v → SH w0 w' (L' (offL td x)) → (Instr.entry (.pointer (some ⟨r, 0, none⟩))).run P w' = .ok (.tuple #[.int .i64 x, v]) w' → wpList P ops Q rest (a.put o.dst (.tuple #[.bool true, .int .i64 x, v])) w') :
    wpList P ops Q (o :: rest) a w := by
  obtain ⟨S, ⟨hS, h1, h2, h3, h4, D, left, cnt, hr, h5, h6, h7⟩, _, hf⟩ := HS.focus hat
  refine wpList_next_ranges w hg it hop k (int_keyed hk) RV (Value.int .i64) id (fun key kl hkey => by obtain ⟨x, rfl, _⟩ := keyOf_int_inv hk hkey; exact ⟨x, rfl⟩) (fun v y _ => ⟨v, rfl⟩) b r l.length D left cnt hit hr (fun _ hl => hDone ?_) ?_
  · cases td with
    | nil => rfl
    | cons p td =>
      have := h7 p.1
      rw [hl, getL_cons, if_pos rfl] at this
      simp at this
  · intro x v kl y w' cnt' hkey hlk hv hat' hrg hlt hgr hsz hen
    obtain ⟨x', ex, rfl, hwx⟩ := keyOf_int_inv hk hkey
    cases ex
    simp only [RV, id, Option.some.injEq] at hv
    subst hv
    have hx := h7 x
    rw [hlk] at hx
    obtain ⟨u, hu⟩ := Option.isSome_iff_exists.mp hx.symm
    have hul := h4 x u hu
    have huv : u = v := by
      have := (h6 x).2 (.held u)
      rw [hat' (.held u), hul] at this
      simp only [DataW.held.injEq] at this
      exact this.symm
    subst huv
    refine hMore x u w' ?_ hu hul (hf _ w' (Turn.of_grown hgr fun q e => by cases e; exact (hS _).mpr (.inr rfl)) S ⟨hS, h1, h2, h3.off x, fun i v' hv' => ?_, D, _, _, hrg, h5, h6, fun i => ?_⟩ fun q hq => .inl hq) hen
    · exact h2 _ (getL_some_mem hul)
    · rw [getL_off] at hv'
      by_cases e : i = x
      · rw [if_pos e] at hv'; cases hv'
      · rw [if_neg e] at hv'; exact h4 i v' hv'
    · rw [getL_off, h7 i]
      by_cases e : i = x
      · subst e; simp [Lit.sameKey]
      · have : (Lit.int .i64 i).sameKey (Lit.int .i64 x) = false := sameKey_ne (fun h => e (by injection h))
        rw [this, if_neg e]; simp
theorem ev_entry (hw : Region.wanted o (yielded ops a.tmps) = true) {it : Operand} (hop : o.op = Op.entry it) {p v : Value} (hx : a.eval it = p) (hen : (Instr.entry p).run P w = .ok v w) (h : wpList P ops Q rest (a.put o.dst v) w) : wpList P ops Q (o :: rest) a w := by
  refine ev_val hw ?_ h
  unfold execOp
  simp only [hop, hx]
  simp [hen]
end
end Go.Proofs.Ytfocaefnmfkojaa.H
namespace Go.Proofs.Ytfocaefnmfkojaa.R
open Go.RowKit Go.Proofs.Ytfocaefnmfkojaa.Q Go.Proofs.YtfocaefnmfkojaaW.PrintWords Go.Proofs.YtfocaefnmfkojaaW.PrintLast
set_option linter.unusedVariables false
set_option linter.unusedSimpArgs false
def keysOk (l : List Op) : Bool := l.all fun o => decide (0 ≤ o.f1 ∧ o.f1 ≤ 63)
theorem keysOk_at {l : List Op} (h : keysOk l = true) (j : Nat) (hj : j < l.length) : 0 ≤ (l[j]).f1 ∧ (l[j]).f1 ≤ 63 := by
  have := List.all_eq_true.mp h _ (List.getElem_mem hj)
  simpa using this
theorem keysOk_mem {l : List Op} (h : keysOk l = true) (o : Op) (ho : o ∈ l) : 0 ≤ o.f1 ∧ o.f1 ≤ 63 := by
  have := List.all_eq_true.mp h _ ho
  simpa using this
theorem I64_key {i : Int} (h : 0 ≤ i ∧ i ≤ 63) : H.I64 i := ⟨by omega, by omega⟩
def byKeys (X : List Op) : List Op := keys64.flatMap fun key : Nat => X.filter fun o => o.f1 == (key : Int)
theorem flatMap_one {α : Type} (f g : Nat → List α) (x : α) (k0 : Nat) : ∀ L : List Nat, L.Nodup → k0 ∈ L → (∀ k, g k = if k = k0 then x :: f k else f k) → (L.flatMap g).Perm (x :: L.flatMap f)
  | [], _, h, _ => by cases h
  | k :: L, hn, hm, hg => by
    obtain ⟨h1, h2⟩ := List.nodup_cons.mp hn
    rw [List.flatMap_cons, List.flatMap_cons]
    by_cases e : k = k0
    · subst e
      rw [hg k, if_pos rfl]
      have : L.flatMap g = L.flatMap f := by
        unfold List.flatMap
        congr 1
        refine List.map_congr_left fun q hq => ?_
        rw [hg q, if_neg (fun e2 => h1 (by rw [← e2]; exact hq))]
      rw [this]
      exact List.Perm.refl _
    · rw [hg k, if_neg e]
      have hm' : k0 ∈ L := by
        rcases List.mem_cons.mp hm with h | h
        · exact absurd h.symm e
        · exact h
      exact ((flatMap_one f g x k0 L h2 hm' hg).append_left (f k)).trans List.perm_middle
theorem byKeys_perm : ∀ X : List Op, (∀ o ∈ X, 0 ≤ o.f1 ∧ o.f1 ≤ 63) → (byKeys X).Perm X
  | [], _ => by
    have : byKeys [] = [] := by unfold byKeys; simp
    rw [this]
  | x :: X, h => by
    have hx := h x (List.mem_cons_self ..)
    refine (flatMap_one (fun key : Nat => X.filter fun o : Op => o.f1 == (key : Int)) (fun key : Nat => (x :: X).filter fun o : Op => o.f1 == (key : Int)) x x.f1.toNat keys64 List.nodup_range (by unfold keys64; rw [List.mem_range]; omega) fun k => ?_).trans ((byKeys_perm X fun o ho => h o (List.mem_cons_of_mem _ ho)).cons x)
    rw [List.filter_cons]
    by_cases e : k = x.f1.toNat
    · rw [if_pos e, if_pos (by rw [e]; simp; omega)]
    · rw [if_neg e, if_neg (by simp; omega)]
theorem flatMap_up (f : Nat → List Op) (hf : ∀ k, ∀ o ∈ f k, o.f1 = (k : Int)) (h1 : ∀ k, (f k).length ≤ 1) : ∀ L : List Nat, L.Pairwise (· < ·) → (L.flatMap f).Pairwise fun x y => x.f1 < y.f1
  | [], _ => by simp
  | k :: L, h => by
    obtain ⟨h2, h3⟩ := List.pairwise_cons.mp h
    rw [List.flatMap_cons, List.pairwise_append]
    refine ⟨?_, flatMap_up f hf h1 L h3, fun a ha b hb => ?_⟩
    · match hk : f k with
      | [] => simp
      | [x] => simp
      | x :: y :: z => have := h1 k; rw [hk] at this; simp at this
    · obtain ⟨q, hq, hb⟩ := List.mem_flatMap.mp hb
      rw [hf k a ha, hf q b hb]
      have := h2 q hq
      omega
theorem filter_one {X : List Op} (h : X.Pairwise fun x y => x.f1 ≠ y.f1) (key : Int) : (X.filter fun o => o.f1 == key).length ≤ 1 := by
  match hk : X.filter fun o => o.f1 == key with
  | [] => rw [hk]; simp
  | [x] => rw [hk]; simp
  | x :: y :: z =>
    have h2 := h.filter fun o => o.f1 == key
    rw [hk] at h2
    have hx : x ∈ X.filter fun o => o.f1 == key := by rw [hk]; simp
    have hy : y ∈ X.filter fun o => o.f1 == key := by rw [hk]; simp
    have e1 := (List.mem_filter.mp hx).2
    have e2 := (List.mem_filter.mp hy).2
    have := (List.pairwise_cons.mp h2).1 y (by simp)
    simp only [beq_iff_eq] at e1 e2
    exact absurd (e1.trans e2.symm) this
theorem byKeys_up {X : List Op} (h : X.Pairwise fun x y => x.f1 ≠ y.f1) : (byKeys X).Pairwise fun x y => x.f1 < y.f1 := by
  refine flatMap_up _ (fun k o ho => ?_) (fun k => filter_one h _) _ (by unfold keys64; exact List.pairwise_lt_range)
  have := (List.mem_filter.mp ho).2
  simpa using this
theorem byKey_run {X Y : List Op} (hf : Srt.Few Y) (p : Y.Perm X) (hd : X.Pairwise fun x y => x.f1 ≠ y.f1) (hk : ∀ o ∈ X, 0 ≤ o.f1 ∧ o.f1 ≤ 63) : Ev (fun k => txn_byKey.f k Y) (byKeys X) :=
  Srt.byKey_is hf ((byKeys_perm X hk).trans p.symm) (byKeys_up hd)
def lastM (l : List Op) (j : Nat) : List (Int × Value) := (l.take j).foldl (fun m o => H.putL m o.f1 (.int .i64 o.f2)) []
theorem lastM_succ (l : List Op) (j : Nat) (h : j < l.length) : lastM l (j + 1) = H.putL (lastM l j) (l[j]).f1 (.int .i64 (l[j]).f2) := by
  unfold lastM
  rw [List.take_succ_eq_append_getElem h, List.foldl_append]
  rfl
theorem lastM_get (l : List Op) (key : Int) : ∀ j, j ≤ l.length → H.getL (lastM l j) key = (prev l j key).map fun o => .int .i64 o.f2 := by
  intro j
  induction j with
  | zero => intro _; simp [lastM, prev, H.getL]
  | succ j ih =>
    intro hj
    rw [lastM_succ l j (by omega), prev_succ l j key (by omega)]
    by_cases h : (l[j]).f1 = key
    · rw [← h, H.getL_put_same, if_pos rfl]; rfl
    · rw [H.getL_put_other _ _ _ _ (fun e => h e.symm), ih (by omega), if_neg h]
theorem lastM_len (l : List Op) : ∀ j, j ≤ l.length → (lastM l j).length ≤ j := by
  intro j
  induction j with
  | zero => intro _; simp [lastM]
  | succ j ih =>
    intro hj
    rw [lastM_succ l j (by omega), H.putL_len]
    have := ih (by omega)
    split <;> omega
theorem steady_round (l : List Op) (j : Nat) (h : j < l.length) (hh : ∀ i, i < j → steadyAt l i = true) (hs : steadyAt l j = true) : ∀ i, i < j + 1 → steadyAt l i = true := by
  intro i hi
  rcases Nat.lt_or_ge i j with h1 | h1
  · exact hh i h1
  · obtain rfl : i = j := by omega
    exact hs
theorem steady_all (l : List Op) (hh : ∀ i, i < l.length → steadyAt l i = true) : steady l = true := by
  unfold steady
  rw [List.all_eq_true]
  intro i hi
  exact hh i (List.mem_range.mp hi)
theorem steady_not (l : List Op) (j : Nat) (h : j < l.length) (hs : steadyAt l j = false) : steady l = false := by
  unfold steady
  rw [List.all_eq_false]
  exact ⟨j, List.mem_range.mpr h, by simp [hs]⟩
theorem steadyAt_eq (l : List Op) (j : Nat) (h : j < l.length) : steadyAt l j = match prev l j (l[j]).f1 with | none => true | some p => (l[j]).f0 || p.f2 == (l[j]).f2 := by
  unfold steadyAt
  rw [List.getElem?_eq_getElem h]
  all_goals rfl
def seenM (l : List Op) (j : Nat) : List (Int × Value) := (l.take j).foldl (fun m o => H.putL m o.f1 (.agg #[])) []
theorem seenM_succ (l : List Op) (j : Nat) (h : j < l.length) : seenM l (j + 1) = H.putL (seenM l j) (l[j]).f1 (.agg #[]) := by
  unfold seenM
  rw [List.take_succ_eq_append_getElem h, List.foldl_append]
  rfl
theorem seenM_get (l : List Op) (key : Int) : ∀ j, j ≤ l.length → H.getL (seenM l j) key = (prev l j key).map fun _ => .agg #[] := by
  intro j
  induction j with
  | zero => intro _; simp [seenM, prev, H.getL]
  | succ j ih =>
    intro hj
    rw [seenM_succ l j (by omega), prev_succ l j key (by omega)]
    by_cases h : (l[j]).f1 = key
    · rw [← h, H.getL_put_same, if_pos rfl]; rfl
    · rw [H.getL_put_other _ _ _ _ (fun e => h e.symm), ih (by omega), if_neg h]
theorem seenM_len (l : List Op) : ∀ j, j ≤ l.length → (seenM l j).length ≤ j := by
  intro j
  induction j with
  | zero => intro _; simp [seenM]
  | succ j ih =>
    intro hj
    rw [seenM_succ l j (by omega), H.putL_len]
    have := ih (by omega)
    split <;> omega
def firstG (l : List Op) (j : Nat) : List Op := match l[j]? with
  | none => []
  | some o => if (prev l j o.f1).isNone && !o.f0 then [o] else []
def firstsG (l : List Op) (j : Nat) : List Op := (List.range j).flatMap (firstG l)
theorem firstG_eq (l : List Op) (j : Nat) (h : j < l.length) : firstG l j = if (prev l j (l[j]).f1).isNone && !(l[j]).f0 then [l[j]] else [] := by
  unfold firstG
  rw [List.getElem?_eq_getElem h]
theorem firstsG_succ (l : List Op) (j : Nat) : firstsG l (j + 1) = firstsG l j ++ firstG l j := by
  unfold firstsG
  rw [List.range_succ, List.flatMap_append]
  simp
theorem firstG_len (l : List Op) (j : Nat) : (firstG l j).length ≤ 1 := by
  unfold firstG
  split
  · simp
  · split <;> simp
theorem firstsG_len (l : List Op) : ∀ j, (firstsG l j).length ≤ j := by
  intro j
  induction j with
  | zero => simp [firstsG]
  | succ j ih =>
    rw [firstsG_succ, List.length_append]
    have := firstG_len l j
    omega
theorem prev_mem {l : List Op} {i : Nat} {key : Int} (h : ∃ j, ∃ hj : j < l.length, j < i ∧ (l[j]).f1 = key) : (prev l i key).isNone = false := by
  obtain ⟨j, hj, hji, e⟩ := h
  unfold prev
  rw [Option.isNone_eq_false_iff, List.find?_isSome]
  refine ⟨l[j], ?_, by simpa using e⟩
  rw [List.mem_reverse, List.mem_iff_getElem]
  exact ⟨j, by rw [List.length_take]; omega, by rw [List.getElem_take]⟩
theorem firstsG_mem {l : List Op} {n : Nat} {o : Op} (h : o ∈ firstsG l n) : ∃ j, ∃ hj : j < l.length, j < n ∧ o = l[j] ∧ (prev l j o.f1).isNone = true ∧ o.f0 = false := by
  obtain ⟨j, hj, ho⟩ := List.mem_flatMap.mp h
  have hjn := List.mem_range.mp hj
  rcases Nat.lt_or_ge j l.length with hl | hl
  · rw [firstG_eq l j hl] at ho
    split at ho
    · rename_i hc
      obtain rfl : o = l[j] := by simpa using ho
      simp only [Bool.and_eq_true, Bool.not_eq_true'] at hc
      exact ⟨j, hl, hjn, rfl, hc.1, hc.2⟩
    · cases ho
  · unfold firstG at ho
    rw [List.getElem?_eq_none hl] at ho
    cases ho
theorem firstsG_apart (l : List Op) : ∀ n, (firstsG l n).Pairwise fun x y => x.f1 ≠ y.f1 := by
  intro n
  induction n with
  | zero => simp [firstsG]
  | succ n ih =>
    rw [firstsG_succ, List.pairwise_append]
    refine ⟨ih, ?_, fun a ha b hb => ?_⟩
    · match h : firstG l n with
      | [] => simp
      | [x] => simp
      | x :: y :: z => have := firstG_len l n; rw [h] at this; simp at this
    · obtain ⟨j, hj, hjn, rfl, _, _⟩ := firstsG_mem ha
      rcases Nat.lt_or_ge n l.length with hl | hl
      · rw [firstG_eq l n hl] at hb
        split at hb
        · rename_i hc
          obtain rfl : b = l[n] := by simpa using hb
          intro e
          rw [prev_mem ⟨j, hj, hjn, e⟩] at hc
          simp at hc
        · cases hb
      · unfold firstG at hb
        rw [List.getElem?_eq_none hl] at hb
        cases hb
theorem readsKey_eq (l : List Op) (key : Int) : ∀ n, (List.range n).filterMap (firstAt l key) = (firstsG l n).filter fun o => o.f1 == key := by
  intro n
  induction n with
  | zero => simp [firstsG]
  | succ n ih =>
    rw [List.range_succ, List.filterMap_append, firstsG_succ, List.filter_append, ih]
    congr 1
    simp only [List.filterMap_cons, List.filterMap_nil]
    rcases Nat.lt_or_ge n l.length with hl | hl
    · rw [firstG_eq l n hl]
      unfold firstAt
      rw [List.getElem?_eq_getElem hl]
      simp only
      by_cases e : (l[n]).f1 = key
      · subst e
        cases hp : prev l n (l[n]).f1 <;> cases hf : (l[n]).f0 <;> simp [hp, hf]
      · rw [if_neg (by simp [e])]
        by_cases hc : ((prev l n (l[n]).f1).isNone && !(l[n]).f0) = true
        · rw [if_pos hc]; simp [e]
        · rw [if_neg hc]; simp
    · unfold firstAt firstG
      rw [List.getElem?_eq_none hl]
      simp
theorem reads_is (l : List Op) : reads l = byKeys (firstsG l l.length) := by
  unfold reads byKeys readsKey
  congr 1
  funext key
  exact readsKey_eq l key l.length
theorem firsts_keys {l : List Op} (h : keysOk l = true) : ∀ o ∈ firstsG l l.length, 0 ≤ o.f1 ∧ o.f1 ≤ 63 := by
  intro o ho
  obtain ⟨j, hj, _, rfl, _, _⟩ := firstsG_mem ho
  exact keysOk_at h j hj
theorem reads_run {l : List Op} (h : keysOk l = true) (hf : Srt.Few l) : Ev (fun k => txn_byKey.f k (firstsG l l.length)) (reads l) := by
  rw [reads_is]
  exact byKey_run (Nat.le_trans (firstsG_len l _) hf) (List.Perm.refl _) (firstsG_apart l _) (firsts_keys h)
def opV (o : Op) : Value := .agg #[.bool o.f0, .int .i64 o.f1, .int .i64 o.f2]
def putO : List Op → Op → List Op
  | [], o => [o]
  | p :: l, o => if p.f1 = o.f1 then o :: l else p :: putO l o
def lastO (l : List Op) (j : Nat) : List Op := (l.take j).foldl (fun m o => if o.f0 then putO m o else m) []
def mapO (X : List Op) : List (Int × Value) := X.map fun o => (o.f1, opV o)
theorem mapO_put (X : List Op) (o : Op) : mapO (putO X o) = H.putL (mapO X) o.f1 (opV o) := by
  induction X with
  | nil => rfl
  | cons p X ih =>
    unfold putO
    by_cases h : p.f1 = o.f1
    · rw [if_pos h]; simp [mapO, H.putL, h]
    · rw [if_neg h]
      unfold mapO at ih ⊢
      rw [List.map_cons, List.map_cons, H.putL, if_neg h, ih]
theorem lastO_succ (l : List Op) (j : Nat) (h : j < l.length) : lastO l (j + 1) = if (l[j]).f0 then putO (lastO l j) l[j] else lastO l j := by
  unfold lastO
  rw [List.take_succ_eq_append_getElem h, List.foldl_append]
  rfl
theorem putO_len (X : List Op) (o : Op) : (putO X o).length ≤ X.length + 1 := by
  induction X with
  | nil => simp [putO]
  | cons p X ih => unfold putO; split <;> simp <;> omega
theorem lastO_len (l : List Op) : ∀ j, j ≤ l.length → (lastO l j).length ≤ j := by
  intro j
  induction j with
  | zero => intro _; simp [lastO]
  | succ j ih =>
    intro hj
    rw [lastO_succ l j (by omega)]
    have := ih (by omega)
    have := putO_len (lastO l j) l[j]
    split <;> omega
theorem putO_mem {X : List Op} {o p : Op} (h : p ∈ putO X o) : p = o ∨ p ∈ X := by
  induction X with
  | nil => exact .inl (by simpa [putO] using h)
  | cons q X ih =>
    unfold putO at h
    by_cases e : q.f1 = o.f1
    · rw [if_pos e] at h
      rcases List.mem_cons.mp h with rfl | h
      · exact .inl rfl
      · exact .inr (List.mem_cons_of_mem _ h)
    · rw [if_neg e] at h
      rcases List.mem_cons.mp h with rfl | h
      · exact .inr (by simp)
      · rcases ih h with h | h
        · exact .inl h
        · exact .inr (List.mem_cons_of_mem _ h)
theorem putO_apart {X : List Op} (h : X.Pairwise fun x y => x.f1 ≠ y.f1) (o : Op) : (putO X o).Pairwise fun x y => x.f1 ≠ y.f1 := by
  induction X with
  | nil => simp [putO]
  | cons q X ih =>
    obtain ⟨h1, h2⟩ := List.pairwise_cons.mp h
    unfold putO
    by_cases e : q.f1 = o.f1
    · rw [if_pos e]
      exact List.pairwise_cons.mpr ⟨fun p hp => e ▸ h1 p hp, h2⟩
    · rw [if_neg e]
      refine List.pairwise_cons.mpr ⟨fun p hp => ?_, ih h2⟩
      rcases putO_mem hp with rfl | hp
      · exact e
      · exact h1 p hp
theorem lastO_apart (l : List Op) : ∀ j, j ≤ l.length → (lastO l j).Pairwise fun x y => x.f1 ≠ y.f1 := by
  intro j
  induction j with
  | zero => intro _; simp [lastO]
  | succ j ih =>
    intro hj
    rw [lastO_succ l j (by omega)]
    split
    · exact putO_apart (ih (by omega)) _
    · exact ih (by omega)
theorem lastO_mem (l : List Op) : ∀ j, j ≤ l.length → ∀ o ∈ lastO l j, o ∈ l := by
  intro j
  induction j with
  | zero => intro _ o ho; simp [lastO] at ho
  | succ j ih =>
    intro hj o ho
    rw [lastO_succ l j (by omega)] at ho
    split at ho
    · rcases putO_mem ho with rfl | ho
      · exact List.getElem_mem _
      · exact ih (by omega) o ho
    · exact ih (by omega) o ho
theorem putO_filter {X : List Op} (h : X.Pairwise fun x y => x.f1 ≠ y.f1) (o : Op) (key : Int) : (putO X o).filter (fun p => p.f1 == key) = if o.f1 = key then [o] else X.filter fun p => p.f1 == key := by
  induction X with
  | nil => by_cases e : o.f1 = key <;> simp [putO, e]
  | cons q X ih =>
    obtain ⟨h1, h2⟩ := List.pairwise_cons.mp h
    unfold putO
    by_cases e : q.f1 = o.f1
    · rw [if_pos e]
      by_cases e2 : o.f1 = key
      · rw [if_pos e2, List.filter_cons, if_pos (by simpa using e2)]
        have : X.filter (fun p => p.f1 == key) = [] := by
          rw [List.filter_eq_nil_iff]
          intro p hp
          have := h1 p hp
          simp only [beq_iff_eq]
          intro h3
          exact this (e.trans (e2.trans h3.symm))
        rw [this]
      · rw [if_neg e2, List.filter_cons, if_neg (by simpa using e2), List.filter_cons, if_neg (by rw [e]; simpa using e2)]
    · rw [if_neg e, List.filter_cons, ih h2]
      by_cases e2 : o.f1 = key
      · rw [if_pos e2, if_pos e2, if_neg (by simp; intro h3; exact e (h3.trans e2.symm))]
      · rw [if_neg e2, if_neg e2, List.filter_cons]
theorem lastW_take (l : List Op) (key : Int) : ∀ j, j ≤ l.length → (lastW (l.take j) key).toList = (lastO l j).filter fun o => o.f1 == key := by
  intro j
  induction j with
  | zero => intro _; simp [lastW, lastO]
  | succ j ih =>
    intro hj
    rw [lastO_succ l j (by omega), ← List.take_append_getElem (by omega : j < l.length)]
    have ih := ih (by omega)
    unfold lastW at ih ⊢
    rw [List.reverse_append, List.reverse_singleton, List.singleton_append, List.find?_cons]
    cases hf : (l[j]).f0 with
    | false => simpa [hf] using ih
    | true =>
      rw [if_pos rfl, putO_filter (lastO_apart l j (by omega))]
      by_cases e : (l[j]).f1 = key
      · simp [hf, e]
      · rw [if_neg e, ← ih, show ((true && (l[j]).f1 == key)) = false by simpa using e]
theorem writes_is (l : List Op) : writes l = byKeys (lastO l l.length) := by
  unfold writes byKeys
  congr 1
  funext key
  have := lastW_take l key l.length (Nat.le_refl _)
  rwa [List.take_length] at this
theorem writes_run {l Y : List Op} (h : keysOk l = true) (hf : Srt.Few l) (p : Y.Perm (lastO l l.length)) : Ev (fun k => txn_byKey.f k Y) (writes l) := by
  rw [writes_is]
  exact byKey_run (by rw [Srt.Few, p.length_eq]; exact Nat.le_trans (lastO_len l _ (Nat.le_refl _)) hf) p (lastO_apart l _ (Nat.le_refl _)) (fun o ho => keysOk_mem h o (lastO_mem l _ (Nat.le_refl _) o ho))
theorem mapO_get {X : List Op} {i : Int} {v : Value} (h : H.getL (mapO X) i = some v) : ∃ o ∈ X, o.f1 = i ∧ v = opV o := by
  have := H.getL_some_mem h
  obtain ⟨o, ho, e⟩ := List.mem_map.mp this
  cases e
  exact ⟨o, ho, rfl, rfl⟩
def unL : List Value → Op
  | [.bool b, .int _ i, .int _ j] => ⟨b, i, j⟩
  | _ => ⟨false, 0, 0⟩
def unO : Value → Op
  | .agg cs => unL cs.toList
  | _ => ⟨false, 0, 0⟩
theorem mapO_perm {X Y : List Op} (h : (mapO X).Perm (mapO Y)) : X.Perm Y := by
  have e : ∀ Z : List Op, (mapO Z).map (fun p => unO p.2) = Z := fun Z => by
    unfold mapO
    rw [List.map_map]
    conv => rhs; rw [← List.map_id Z]
    exact List.map_congr_left fun o _ => rfl
  have := h.map fun p => unO p.2
  rwa [e, e] at this
theorem mapO_step {Y : List Op} {td l : List (Int × Value)} {o : Op} (ha : H.Apart td) (h : H.getL td o.f1 = some (opV o)) (hp : (mapO Y ++ td).Perm l) : (mapO (Y ++ [o]) ++ H.offL td o.f1).Perm l := by
  refine List.Perm.trans ?_ hp
  unfold mapO
  rw [List.map_append, List.append_assoc]
  exact (H.off_perm ha h).symm.append_left _
end Go.Proofs.Ytfocaefnmfkojaa.R
namespace Go.Proofs.Ytfocaefnmfkojaa.R
open Go.RowKit Go.Proofs.Ytfocaefnmfkojaa.Q Go.Proofs.YtfocaefnmfkojaaW.PrintWords Go.Proofs.YtfocaefnmfkojaaW.PrintLast
set_option linter.unusedVariables false
set_option linter.unusedSimpArgs false
structure FewH (h : List Txn) : Prop where
  len : h.length ≤ 1000
  ops : ∀ t ∈ h, t.f3.length ≤ 7000000000000
theorem FewH.at {h : List Txn} (H : FewH h) (i : Nat) (hi : i < h.length) : (h[i]).f3.length ≤ 7000000000000 := H.ops _ (List.getElem_mem hi)
def isW (key v : Int) (o : Op) : Bool := o.f0 && (o.f1 == key && o.f2 == v)
def writer (h : List Txn) (key v : Int) : Int := match h.findIdx? fun t => t.f3.any (isW key v) with
  | none => -1
  | some i => (i : Int)
theorem writer_some (h : List Txn) (key v : Int) (hw : 0 ≤ writer h key v) : ∃ (i : Nat) (hi : i < h.length), writer h key v = (i : Int) ∧ (h[i]).f3.any (isW key v) = true ∧ ∀ j (hj : j < i), (h[j]).f3.any (isW key v) = false := by
  unfold writer at hw ⊢
  cases hf : h.findIdx? fun t => t.f3.any (isW key v) with
  | none => rw [hf] at hw; simp at hw
  | some i =>
    obtain ⟨h1, h2, h3⟩ := List.findIdx?_eq_some_iff_getElem.1 hf
    exact ⟨i, h1, rfl, h2, fun j hj => by simpa using h3 j hj⟩
theorem writer_none (h : List Txn) (key v : Int) (hw : writer h key v < 0) : ∀ t ∈ h, t.f3.any (isW key v) = false := by
  unfold writer at hw
  cases hf : h.findIdx? fun t => t.f3.any (isW key v) with
  | none => exact fun t ht => by simpa using List.findIdx?_eq_none_iff.1 hf t ht
  | some i => rw [hf] at hw; simp at hw; omega
def isV (v : Int) (o : Op) : Bool := o.f0 && o.f2 == v
def timesL (l : List Op) (v : Int) : Nat := l.countP (isV v)
theorem timesL_cons (o : Op) (l : List Op) (v : Int) : timesL (o :: l) v = timesL l v + if isV v o = true then 1 else 0 := by
  unfold timesL
  rw [List.countP_cons]
def times (h : List Txn) (v : Int) : Nat := (h.map fun t => timesL t.f3 v).sum
def mayOp (o : Op) : Bool := decide (0 ≤ o.f1 ∧ o.f1 ≤ 63 ∧ 0 ≤ o.f2 ∧ o.f2 ≤ 2147483647 ∧ (o.f0 = true → o.f2 ≠ 0))
def mayTxn (t : Txn) : Bool := decide (0 ≤ t.f0 ∧ t.f0 ≤ 63 ∧ 0 ≤ t.f1 ∧ t.f1 < t.f2 ∧ t.f2 ≤ 2147483647 ∧ 1 ≤ t.f3.length ∧ t.f3.length ≤ 64) && t.f3.all mayOp
end Go.Proofs.Ytfocaefnmfkojaa.R
namespace Go.Proofs.Ytfocaefnmfkojaa.R
open Go.RowKit Go.Proofs.Ytfocaefnmfkojaa.Q Go.Proofs.YtfocaefnmfkojaaW.PrintWords Go.Proofs.YtfocaefnmfkojaaW.PrintLast
set_option linter.unusedVariables false
set_option linter.unusedSimpArgs false
def count (h : List Txn) : Nat := (h.map fun t => t.f3.length).sum
def pairOk (a b : Txn) : Bool := decide (a.f1 ≠ b.f1 ∧ a.f1 ≠ b.f2 ∧ a.f2 ≠ b.f1 ∧ a.f2 ≠ b.f2 ∧ (a.f0 = b.f0 → a.f2 ≤ b.f1))
def opOk (h : List Txn) (o : Op) : Bool := decide ((o.f0 = true → times h o.f2 = 1) ∧ (o.f0 = false → o.f2 ≠ 0 → 0 ≤ writer h o.f1 o.f2))
def pairAt (h : List Txn) (b : Txn) (k : Nat) : Bool := match h[k]? with
  | none => true
  | some a => pairOk a b
def txnOk (h : List Txn) (i : Nat) : Bool := match h[i]? with
  | none => true
  | some t => mayTxn t && ((List.range i).all (pairAt h t) && t.f3.all (opOk h))
def may (h : List Txn) : Bool := (List.range h.length).all (txnOk h)
def check (h : List Txn) : Int := if h.length > 64 ∨ count h > 1024 then 3 else if may h = true then 0 else 2
structure Good (h : List Txn) : Prop where
  len : h.length ≤ 64
  cnt : count h ≤ 1024
  may : may h = true
theorem Good.txn {h : List Txn} (g : Good h) (i : Nat) (hi : i < h.length) : mayTxn h[i] = true ∧ (∀ k, k < i → pairAt h h[i] k = true) ∧ ∀ o ∈ (h[i]).f3, opOk h o = true := by
  have h1 := List.all_eq_true.1 g.may i (List.mem_range.2 hi)
  unfold txnOk at h1
  rw [List.getElem?_eq_getElem hi] at h1
  simp only [Bool.and_eq_true] at h1
  exact ⟨h1.1, fun k hk => List.all_eq_true.1 h1.2.1 k (List.mem_range.2 hk), fun o ho => List.all_eq_true.1 h1.2.2 o ho⟩
theorem Good.pair {h : List Txn} (g : Good h) (k i : Nat) (hk : k < i) (hi : i < h.length) : (h[k]).f1 ≠ (h[i]).f1 ∧ (h[k]).f1 ≠ (h[i]).f2 ∧ (h[k]).f2 ≠ (h[i]).f1 ∧ (h[k]).f2 ≠ (h[i]).f2 ∧ ((h[k]).f0 = (h[i]).f0 → (h[k]).f2 ≤ (h[i]).f1) := by
  have h1 := (g.txn i hi).2.1 k hk
  unfold pairAt at h1
  rw [List.getElem?_eq_getElem (show k < h.length by omega)] at h1
  exact of_decide_eq_true h1
theorem Good.one {h : List Txn} (g : Good h) (i : Nat) (hi : i < h.length) : 0 ≤ (h[i]).f0 ∧ (h[i]).f0 ≤ 63 ∧ 0 ≤ (h[i]).f1 ∧ (h[i]).f1 < (h[i]).f2 ∧ (h[i]).f2 ≤ 2147483647 ∧ 1 ≤ (h[i]).f3.length ∧ (h[i]).f3.length ≤ 64 := by
  have h1 := (g.txn i hi).1
  unfold mayTxn at h1
  rw [Bool.and_eq_true] at h1
  exact of_decide_eq_true h1.1
theorem Good.op {h : List Txn} (g : Good h) (i : Nat) (hi : i < h.length) (o : Op) (ho : o ∈ (h[i]).f3) : (0 ≤ o.f1 ∧ o.f1 ≤ 63 ∧ 0 ≤ o.f2 ∧ o.f2 ≤ 2147483647 ∧ (o.f0 = true → o.f2 ≠ 0)) ∧ (o.f0 = true → times h o.f2 = 1) ∧ (o.f0 = false → o.f2 ≠ 0 → 0 ≤ writer h o.f1 o.f2) := by
  have h1 := (g.txn i hi).1
  unfold mayTxn at h1
  rw [Bool.and_eq_true] at h1
  exact ⟨of_decide_eq_true (List.all_eq_true.1 h1.2 o ho), of_decide_eq_true ((g.txn i hi).2.2 o ho)⟩
end Go.Proofs.Ytfocaefnmfkojaa.R
namespace Go.Proofs.Ytfocaefnmfkojaa.R
open Go.RowKit Go.Proofs.Ytfocaefnmfkojaa.Q Go.Proofs.YtfocaefnmfkojaaW.PrintWords Go.Proofs.YtfocaefnmfkojaaW.PrintLast
set_option linter.unusedVariables false
set_option linter.unusedSimpArgs false
def getB {β : Type} (l : List (Int × β)) (i : Int) : Option β := (l.find? fun p => p.1 == i).map (·.2)
def putB {β : Type} : List (Int × β) → Int → β → List (Int × β)
  | [], i, v => [(i, v)]
  | p :: l, i, v => if p.1 = i then (i, v) :: l else p :: putB l i v
section
variable {β : Type}
theorem getB_nil (i : Int) : getB ([] : List (Int × β)) i = none := rfl
theorem getB_cons (p : Int × β) (l : List (Int × β)) (i : Int) : getB (p :: l) i = if p.1 = i then some p.2 else getB l i := by
  unfold getB
  rw [List.find?_cons]
  by_cases h : p.1 = i
  · simp [h]
  · rw [show (p.1 == i) = false from beq_eq_false_iff_ne.mpr h, if_neg h]
theorem getB_put (l : List (Int × β)) (i j : Int) (v : β) : getB (putB l i v) j = if j = i then some v else getB l j := by
  induction l with
  | nil =>
    rw [putB, getB_cons]
    by_cases h : i = j
    · rw [if_pos h, if_pos h.symm]
    · rw [if_neg h, if_neg (fun e => h e.symm)]
  | cons p l ih =>
    unfold putB
    by_cases h : p.1 = i
    · rw [if_pos h, getB_cons, getB_cons]
      by_cases hj : j = i
      · rw [if_pos hj, if_pos hj.symm]
      · rw [if_neg hj, if_neg (fun e => hj e.symm), if_neg (fun e => hj (e.symm.trans h))]
    · rw [if_neg h, getB_cons, getB_cons, ih]
      by_cases hj : j = i
      · subst hj; rw [if_neg h, if_pos rfl, if_pos rfl]
      · rw [if_neg hj, if_neg hj]
theorem putB_len (l : List (Int × β)) (i : Int) (v : β) : (putB l i v).length = if (getB l i).isSome then l.length else l.length + 1 := by
  induction l with
  | nil => simp [putB, getB_nil]
  | cons p l ih =>
    unfold putB
    rw [getB_cons]
    by_cases h : p.1 = i
    · simp [h]
    · rw [if_neg h, if_neg h, List.length_cons, ih]
      split <;> simp
theorem putB_len_le (l : List (Int × β)) (i : Int) (v : β) : (putB l i v).length ≤ l.length + 1 := by
  rw [putB_len]
  split <;> omega
def encB (f : β → Value) (l : List (Int × β)) : List (Int × Value) := l.map fun p => (p.1, f p.2)
theorem encB_get (f : β → Value) (l : List (Int × β)) (i : Int) : H.getL (encB f l) i = (getB l i).map f := by
  induction l with
  | nil => rfl
  | cons p l ih =>
    unfold encB at ih ⊢
    rw [List.map_cons, H.getL_cons, getB_cons, ih]
    split <;> rfl
theorem encB_put (f : β → Value) (l : List (Int × β)) (i : Int) (v : β) : encB f (putB l i v) = H.putL (encB f l) i (f v) := by
  induction l with
  | nil => rfl
  | cons p l ih =>
    unfold putB
    by_cases h : p.1 = i
    · rw [if_pos h]; simp [encB, H.putL, h]
    · rw [if_neg h]
      unfold encB at ih ⊢
      rw [List.map_cons, List.map_cons, H.putL, if_neg h, ih]
theorem encB_len (f : β → Value) (l : List (Int × β)) : (encB f l).length = l.length := by simp [encB]
end
abbrev TM := List (Int × (Int × Int × Bool))
def wV (x : Int × Int × Bool) : Value := .agg #[.int .i64 x.1, .int .i64 x.2.1, .bool x.2.2]
def wOps (i : Int) : TM → List Op → Option TM
  | T, [] => some T
  | T, o :: l => if o.f0 then (if (getB T o.f2).isSome then none else wOps i (putB T o.f2 (i, o.f1, false)) l) else wOps i T l
def mark (T : TM) (v : Int) : TM := putB T v (((getB T v).getD (0, 0, false)).1, ((getB T v).getD (0, 0, false)).2.1, true)
def wMark : TM → List Op → TM
  | T, [] => T
  | T, o :: l => wMark (mark T o.f2) l
def wAll (i : Int) : TM → List Txn → Option TM
  | T, [] => some T
  | T, t :: h => match wOps i T t.f3 with
    | none => none
    | some T' => wAll (i + 1) (wMark T' (writes t.f3)) h
def okT (t : Txn) : Bool := decide (t.f3.length ≤ 10000) && t.f3.all mayOp
def okH (h : List Txn) : Bool := decide (h.length ≤ 1000) && h.all okT
theorem okH_len {h : List Txn} (g : okH h = true) : h.length ≤ 1000 := by
  unfold okH at g
  simp only [Bool.and_eq_true, decide_eq_true_eq] at g
  exact g.1
theorem okH_mem {h : List Txn} (g : okH h = true) {t : Txn} (ht : t ∈ h) : t.f3.length ≤ 10000 ∧ t.f3.all mayOp = true := by
  unfold okH at g
  simp only [Bool.and_eq_true, decide_eq_true_eq] at g
  have := List.all_eq_true.mp g.2 t ht
  unfold okT at this
  simpa using this
theorem mayOp_get {o : Op} (h : mayOp o = true) : 0 ≤ o.f1 ∧ o.f1 ≤ 63 ∧ 0 ≤ o.f2 ∧ o.f2 ≤ 2147483647 ∧ (o.f0 = true → o.f2 ≠ 0) := by
  exact of_decide_eq_true h
theorem mayOps_keys {l : List Op} (h : l.all mayOp = true) : keysOk l = true := by
  unfold keysOk
  rw [List.all_eq_true] at h ⊢
  intro o ho
  have := mayOp_get (h o ho)
  simp
  omega
theorem I64_val {o : Op} (h : mayOp o = true) : H.I64 o.f2 := ⟨by have := mayOp_get h; omega, by have := mayOp_get h; omega⟩
theorem writes_mem {l : List Op} {o : Op} (h : o ∈ writes l) : o ∈ l ∧ o.f0 = true := by
  unfold writes at h
  obtain ⟨k, hk, ho⟩ := List.mem_flatMap.mp h
  have := lastW_key l (k : Int) o (by simpa using ho)
  exact ⟨this.2.2, this.1⟩
def U : Value := .agg #[]
def late (e : List (Int × Int)) (t : Txn) : Bool := match getB e t.f0 with | some x => decide (x > t.f1) | none => false
def stampsL : List (Int × Unit) → List (Int × Int) → List Txn → Bool
  | _, _, [] => true
  | s, e, t :: h =>
    if (getB s t.f1).isSome then false
    else if (getB (putB s t.f1 ()) t.f2).isSome then false
    else if late e t then false
    else stampsL (putB (putB s t.f1 ()) t.f2 ()) (putB e t.f0 t.f2) h
end Go.Proofs.Ytfocaefnmfkojaa.R
namespace Go.Proofs.Ytfocaefnmfkojaa.R
open Go.RowKit Go.Proofs.Ytfocaefnmfkojaa.Q Go.Proofs.YtfocaefnmfkojaaW.PrintWords Go.Proofs.YtfocaefnmfkojaaW.PrintLast
set_option linter.unusedVariables false
set_option linter.unusedSimpArgs false
theorem isV_iff (v : Int) (o : Op) : isV v o = true ↔ o.f0 = true ∧ o.f2 = v := by simp [isV]
theorem timesL_pos {l : List Op} {o : Op} (h : o ∈ l) (hw : o.f0 = true) : 1 ≤ timesL l o.f2 := by
  unfold timesL
  exact List.countP_pos_iff.mpr ⟨o, h, (isV_iff _ _).mpr ⟨hw, rfl⟩⟩
theorem timesL_mem {l : List Op} {v : Int} (h : 1 ≤ timesL l v) : ∃ o ∈ l, o.f0 = true ∧ o.f2 = v := by
  obtain ⟨o, ho, h2⟩ := List.countP_pos_iff.mp h
  exact ⟨o, ho, (isV_iff _ _).mp h2⟩
theorem times_cons (t : Txn) (h : List Txn) (v : Int) : times (t :: h) v = timesL t.f3 v + times h v := by simp [times]
theorem times_pos {h : List Txn} {t : Txn} (ht : t ∈ h) {v : Int} (hv : 1 ≤ timesL t.f3 v) : 1 ≤ times h v := by
  induction h with
  | nil => cases ht
  | cons u h ih =>
    rw [times_cons]
    rcases List.mem_cons.mp ht with rfl | ht
    · omega
    · have := ih ht; omega
theorem times_mem {h : List Txn} {v : Int} (hv : 1 ≤ times h v) : ∃ t ∈ h, 1 ≤ timesL t.f3 v := by
  induction h with
  | nil => simp [times] at hv
  | cons u h ih =>
    rw [times_cons] at hv
    by_cases h1 : 1 ≤ timesL u.f3 v
    · exact ⟨u, List.mem_cons_self .., h1⟩
    · obtain ⟨t, ht, h2⟩ := ih (by omega)
      exact ⟨t, List.mem_cons_of_mem _ ht, h2⟩
theorem wOps_some (i : Int) : ∀ (l : List Op) (T T' : TM), wOps i T l = some T' → (∀ v, timesL l v = 0 → getB T' v = getB T v) ∧ (∀ o ∈ l, o.f0 = true → getB T' o.f2 = some (i, o.f1, false) ∧ getB T o.f2 = none) ∧ ∀ v, timesL l v ≤ 1
  | [], T, T', h => by cases h; exact ⟨fun _ _ => rfl, by simp, by simp [timesL]⟩
  | p :: l, T, T', h => by
    unfold wOps at h
    by_cases hw : p.f0 = true
    · rw [if_pos hw] at h
      by_cases hs : (getB T p.f2).isSome = true
      · rw [if_pos hs] at h; cases h
      · rw [if_neg hs] at h
        have hn : getB T p.f2 = none := by simpa using hs
        obtain ⟨h1, h2, h3⟩ := wOps_some i l _ _ h
        have hz : timesL l p.f2 = 0 := by
          rcases Nat.eq_zero_or_pos (timesL l p.f2) with h0 | h0
          · exact h0
          · obtain ⟨o, ho, hof, hov⟩ := timesL_mem h0
            have := (h2 o ho hof).2
            rw [hov, getB_put, if_pos rfl] at this
            cases this
        refine ⟨fun v hv => ?_, fun o ho hof => ?_, fun v => ?_⟩
        · rw [timesL_cons] at hv
          have hne : v ≠ p.f2 := by
            rintro rfl
            rw [if_pos ((isV_iff _ _).mpr ⟨hw, rfl⟩)] at hv
            omega
          rw [h1 v (by omega), getB_put, if_neg hne]
        · rcases List.mem_cons.mp ho with rfl | ho
          · exact ⟨by rw [h1 _ hz, getB_put, if_pos rfl], hn⟩
          · obtain ⟨a, b⟩ := h2 o ho hof
            refine ⟨a, ?_⟩
            rw [getB_put] at b
            split at b
            · cases b
            · exact b
        · rw [timesL_cons]
          by_cases e : v = p.f2
          · subst e; rw [hz]; split <;> omega
          · rw [if_neg (fun h => e ((isV_iff _ _).mp h).2.symm)]; exact h3 v
    · rw [if_neg hw] at h
      obtain ⟨h1, h2, h3⟩ := wOps_some i l _ _ h
      have e : ∀ v, timesL (p :: l) v = timesL l v := fun v => by rw [timesL_cons, if_neg (fun h => hw ((isV_iff _ _).mp h).1)]; omega
      refine ⟨fun v hv => h1 v (by rw [← e]; exact hv), fun o ho hof => ?_, fun v => by rw [e]; exact h3 v⟩
      rcases List.mem_cons.mp ho with rfl | ho
      · exact absurd hof hw
      · exact h2 o ho hof
theorem wOps_none (i : Int) : ∀ (l : List Op) (T : TM), wOps i T l = none → ∃ v, 2 ≤ timesL l v ∨ (1 ≤ timesL l v ∧ (getB T v).isSome = true)
  | [], T, h => by cases h
  | p :: l, T, h => by
    unfold wOps at h
    by_cases hw : p.f0 = true
    · rw [if_pos hw] at h
      have e : timesL (p :: l) p.f2 = timesL l p.f2 + 1 := by rw [timesL_cons, if_pos ((isV_iff _ _).mpr ⟨hw, rfl⟩)]
      by_cases hs : (getB T p.f2).isSome = true
      · exact ⟨p.f2, .inr ⟨by omega, hs⟩⟩
      · rw [if_neg hs] at h
        obtain ⟨v, hv⟩ := wOps_none i l _ h
        rcases hv with hv | ⟨hv, hv2⟩
        · exact ⟨v, .inl (by rw [timesL_cons]; omega)⟩
        · rw [getB_put] at hv2
          by_cases e2 : v = p.f2
          · subst e2; exact ⟨p.f2, .inl (by omega)⟩
          · rw [if_neg e2] at hv2
            exact ⟨v, .inr ⟨by rw [timesL_cons]; omega, hv2⟩⟩
    · rw [if_neg hw] at h
      obtain ⟨v, hv⟩ := wOps_none i l _ h
      refine ⟨v, ?_⟩
      rw [timesL_cons, if_neg (fun h => hw ((isV_iff _ _).mp h).1)]
      exact hv
theorem wMark_get : ∀ (ws : List Op) (T : TM) (v : Int), getB (wMark T ws) v = if ws.any (fun o => o.f2 == v) = true then some (((getB T v).getD (0, 0, false)).1, ((getB T v).getD (0, 0, false)).2.1, true) else getB T v
  | [], T, v => by simp [wMark]
  | o :: ws, T, v => by
    unfold wMark
    rw [wMark_get ws, List.any_cons]
    unfold mark
    rw [getB_put]
    by_cases e : v = o.f2
    · subst e
      rw [if_pos rfl, show ((o.f2 == o.f2) || ws.any fun p => p.f2 == o.f2) = true by simp, if_pos rfl]
      split <;> rfl
    · rw [if_neg e, show (o.f2 == v) = false from beq_eq_false_iff_ne.mpr (fun h => e h.symm), Bool.false_or]
theorem wAll_some : ∀ (h : List Txn) (i : Int) (T R : TM), wAll i T h = some R → (∀ v, times h v = 0 → getB R v = getB T v) ∧
    (∀ (j : Nat) (hj : j < h.length), ∀ o ∈ h[j].f3, o.f0 = true → getB R o.f2 = some (i + j, o.f1, (writes h[j].f3).any fun p => p.f2 == o.f2) ∧ getB T o.f2 = none) ∧ ∀ v, times h v ≤ 1
  | [], i, T, R, h => by cases h; exact ⟨fun _ _ => rfl, fun j hj => absurd hj (Nat.not_lt_zero j), by simp [times]⟩
  | t :: h, i, T, R, hR => by
    unfold wAll at hR
    cases hw : wOps i T t.f3 with
    | none => rw [hw] at hR; cases hR
    | some T' =>
      rw [hw] at hR
      obtain ⟨a1, a2, a3⟩ := wOps_some i _ _ _ hw
      obtain ⟨b1, b2, b3⟩ := wAll_some h _ _ _ hR
      have hm : ∀ v, timesL t.f3 v = 0 → getB (wMark T' (writes t.f3)) v = getB T v := fun v hv => by
        rw [wMark_get, if_neg, a1 v hv]
        intro hc
        obtain ⟨o, ho, he⟩ := List.any_eq_true.mp hc
        have := writes_mem ho
        have h2 := timesL_pos this.1 this.2
        simp only [beq_iff_eq] at he
        rw [he] at h2
        omega
      have hd : ∀ o ∈ t.f3, o.f0 = true → times h o.f2 = 0 := fun o ho hof => by
        rcases Nat.eq_zero_or_pos (times h o.f2) with h0 | h0
        · exact h0
        · obtain ⟨u, hu, hu2⟩ := times_mem h0
          obtain ⟨p, hp, hpf, hpv⟩ := timesL_mem hu2
          obtain ⟨j, hj, rfl⟩ := List.mem_iff_getElem.mp hu
          have := (b2 j hj p hp hpf).2
          rw [hpv, wMark_get, (a2 o ho hof).1] at this
          split at this <;> cases this
      refine ⟨fun v hv => ?_, fun j hj o ho hof => ?_, fun v => ?_⟩
      · rw [times_cons] at hv
        rw [b1 v (by omega), hm v (by omega)]
      · cases j with
        | zero =>
          have ho' : o ∈ t.f3 := ho
          refine ⟨?_, (a2 o ho' hof).2⟩
          rw [b1 _ (hd o ho' hof), wMark_get, (a2 o ho' hof).1]
          simp only [List.getElem_cons_zero, Option.getD_some, Int.natCast_zero, Int.add_zero]
          split
          · rename_i hc; rw [hc]
          · rename_i hc; rw [Bool.not_eq_true] at hc; rw [hc]
        | succ j =>
          have hj' : j < h.length := by simpa using hj
          have ho' : o ∈ (h[j]).f3 := by simpa using ho
          obtain ⟨c1, c2⟩ := b2 j hj' o ho' hof
          refine ⟨by rw [c1]; simp only [List.getElem_cons_succ]; congr 2; omega, ?_⟩
          have hz : timesL t.f3 o.f2 = 0 := by
            rcases Nat.eq_zero_or_pos (timesL t.f3 o.f2) with h0 | h0
            · exact h0
            · obtain ⟨p, hp, hpf, hpv⟩ := timesL_mem h0
              have := hd p hp hpf
              rw [hpv] at this
              have := times_pos (List.getElem_mem hj') (timesL_pos ho' hof)
              omega
          rw [← hm _ hz]; exact c2
      · rw [times_cons]
        have h1 := a3 v
        have h2 := b3 v
        rcases Nat.eq_zero_or_pos (timesL t.f3 v) with h0 | h0
        · omega
        · obtain ⟨p, hp, hpf, hpv⟩ := timesL_mem h0
          have := hd p hp hpf
          rw [hpv] at this
          omega
theorem wAll_none : ∀ (h : List Txn) (i : Int) (T : TM), wAll i T h = none → ∃ v, 2 ≤ times h v ∨ (1 ≤ times h v ∧ (getB T v).isSome = true)
  | [], i, T, h => by cases h
  | t :: h, i, T, hR => by
    unfold wAll at hR
    cases hw : wOps i T t.f3 with
    | none =>
      obtain ⟨v, hv⟩ := wOps_none i _ _ hw
      refine ⟨v, ?_⟩
      rw [times_cons]
      rcases hv with hv | ⟨hv, hv2⟩
      · exact .inl (by omega)
      · exact .inr ⟨by omega, hv2⟩
    | some T' =>
      rw [hw] at hR
      obtain ⟨a1, a2, a3⟩ := wOps_some i _ _ _ hw
      obtain ⟨v, hv⟩ := wAll_none h _ _ hR
      refine ⟨v, ?_⟩
      rw [times_cons]
      rcases hv with hv | ⟨hv, hv2⟩
      · exact .inl (by omega)
      · rcases Nat.eq_zero_or_pos (timesL t.f3 v) with h0 | h0
        · refine .inr ⟨by omega, ?_⟩
          rw [wMark_get] at hv2
          split at hv2
          · rename_i hc
            obtain ⟨o, ho, he⟩ := List.any_eq_true.mp hc
            have := writes_mem ho
            have h2 := timesL_pos this.1 this.2
            simp only [beq_iff_eq] at he
            rw [he] at h2
            omega
          · rw [← a1 v h0]; exact hv2
        · exact .inl (by omega)
theorem getB_unit {s : List (Int × Unit)} {i : Int} : (getB s i).isSome = true ↔ getB s i ≠ none := by cases getB s i <;> simp
theorem pairOk_iff (a b : Txn) : pairOk a b = true ↔ a.f1 ≠ b.f1 ∧ a.f1 ≠ b.f2 ∧ a.f2 ≠ b.f1 ∧ a.f2 ≠ b.f2 ∧ (a.f0 = b.f0 → a.f2 ≤ b.f1) := by
  unfold pairOk
  exact decide_eq_true_iff
theorem stampsL_iff : ∀ (h : List Txn) (s : List (Int × Unit)) (e : List (Int × Int)), (∀ t ∈ h, t.f1 < t.f2) →
    (stampsL s e h = true ↔ (∀ t ∈ h, getB s t.f1 = none ∧ getB s t.f2 = none ∧ ∀ x, getB e t.f0 = some x → x ≤ t.f1) ∧ h.Pairwise fun a b => pairOk a b = true)
  | [], s, e, _ => by simp [stampsL]
  | t :: h, s, e, hm => by
    have ih := stampsL_iff h (putB (putB s t.f1 ()) t.f2 ()) (putB e t.f0 t.f2) (fun u hu => hm u (List.mem_cons_of_mem _ hu))
    have ht := hm t (List.mem_cons_self ..)
    unfold stampsL
    by_cases h1 : (getB s t.f1).isSome = true
    · rw [if_pos h1]
      constructor
      · intro h; cases h
      · intro ⟨h2, _⟩
        exact absurd (h2 t (List.mem_cons_self ..)).1 (getB_unit.mp h1)
    · rw [if_neg h1]
      have h1' : getB s t.f1 = none := by simpa using h1
      have hp2 : getB (putB s t.f1 ()) t.f2 = getB s t.f2 := by rw [getB_put, if_neg (by omega)]
      rw [hp2]
      by_cases h2 : (getB s t.f2).isSome = true
      · rw [if_pos h2]
        constructor
        · intro h; cases h
        · intro ⟨h3, _⟩
          exact absurd (h3 t (List.mem_cons_self ..)).2.1 (getB_unit.mp h2)
      · rw [if_neg h2]
        have h2' : getB s t.f2 = none := by simpa using h2
        by_cases h3 : late e t = true
        · rw [if_pos h3]
          constructor
          · intro h; cases h
          · intro ⟨h4, _⟩
            have h5 := (h4 t (List.mem_cons_self ..)).2.2
            unfold late at h3
            cases hx : getB e t.f0 with
            | none => rw [hx] at h3; cases h3
            | some x =>
              rw [hx] at h3
              have := h5 x hx
              have := of_decide_eq_true h3
              omega
        · rw [if_neg h3, ih, List.pairwise_cons]
          have h3' : ∀ x, getB e t.f0 = some x → x ≤ t.f1 := fun x hx => by
            unfold late at h3
            rw [hx] at h3
            simp only [decide_eq_true_eq] at h3
            omega
          constructor
          · rintro ⟨ha, hp⟩
            refine ⟨fun u hu => ?_, fun u hu => ?_, hp⟩
            · rcases List.mem_cons.mp hu with rfl | hu
              · exact ⟨h1', h2', h3'⟩
              · obtain ⟨a1, a2, a3⟩ := ha u hu
                rw [getB_put, getB_put] at a1 a2
                refine ⟨?_, ?_, fun x hx => ?_⟩
                · split at a1
                  · cases a1
                  · split at a1
                    · cases a1
                    · exact a1
                · split at a2
                  · cases a2
                  · split at a2
                    · cases a2
                    · exact a2
                · by_cases e0 : u.f0 = t.f0
                  · have := a3 t.f2 (by rw [getB_put, if_pos e0])
                    have := h3' x (by rw [← e0]; exact hx)
                    omega
                  · exact a3 x (by rw [getB_put, if_neg e0]; exact hx)
            · obtain ⟨a1, a2, a3⟩ := ha u hu
              rw [getB_put, getB_put] at a1 a2
              rw [pairOk_iff]
              refine ⟨?_, ?_, ?_, ?_, fun e0 => a3 t.f2 (by rw [getB_put, if_pos e0.symm])⟩
              all_goals (intro e0; first | (rw [e0] at a1; simp at a1) | (rw [e0] at a2; simp at a2) | (rw [← e0] at a1; simp at a1) | (rw [← e0] at a2; simp at a2))
          · rintro ⟨ha, hp, hp2⟩
            refine ⟨fun u hu => ?_, hp2⟩
            obtain ⟨b1, b2, b3, b4, b5⟩ := (pairOk_iff _ _).mp (hp u hu)
            obtain ⟨a1, a2, a3⟩ := ha u (List.mem_cons_of_mem _ hu)
            refine ⟨?_, ?_, fun x hx => ?_⟩
            · rw [getB_put, getB_put, if_neg (fun h => b3 h.symm), if_neg (fun h => b1 h.symm)]; exact a1
            · rw [getB_put, getB_put, if_neg (fun h => b4 h.symm), if_neg (fun h => b2 h.symm)]; exact a2
            · rw [getB_put] at hx
              split at hx
              · rename_i e0
                cases hx
                exact b5 e0.symm
              · exact a3 x hx
def readOk (T : TM) (o : Op) : Bool := o.f0 || (o.f2 == 0 || match getB T o.f2 with | none => false | some x => x.2.1 == o.f1)
def checkG (l : List Txn) : Int :=
  if l.length > 64 ∨ count l > 1024 then 3 else if l.all mayTxn = false then 2 else match wAll 0 [] l with
  | none => 2
  | some T => if stampsL [] [] l = false then 2 else if l.all (fun t => t.f3.all (readOk T)) = true then 0 else 2
theorem may_iff (h : List Txn) : may h = true ↔ (∀ t ∈ h, mayTxn t = true) ∧ (h.Pairwise fun a b => pairOk a b = true) ∧ ∀ t ∈ h, ∀ o ∈ t.f3, opOk h o = true := by
  unfold may
  rw [List.all_eq_true]
  have key : ∀ i (hi : i < h.length), txnOk h i = true ↔ mayTxn h[i] = true ∧ (∀ k (hk : k < i), pairOk (h[k]'(Nat.lt_trans hk hi)) h[i] = true) ∧ ∀ o ∈ h[i].f3, opOk h o = true := fun i hi => by
    unfold txnOk
    rw [List.getElem?_eq_getElem hi]
    simp only [Bool.and_eq_true, List.all_eq_true]
    refine and_congr_right fun _ => and_congr ⟨fun hp k hk => ?_, fun hp k hk => ?_⟩ Iff.rfl
    · have := hp k (List.mem_range.mpr hk)
      unfold pairAt at this
      rwa [List.getElem?_eq_getElem (Nat.lt_trans hk hi)] at this
    · unfold pairAt
      rw [List.getElem?_eq_getElem (Nat.lt_trans (List.mem_range.mp hk) hi)]
      exact hp k (List.mem_range.mp hk)
  constructor
  · intro ha
    refine ⟨fun t ht => ?_, ?_, fun t ht => ?_⟩
    · obtain ⟨i, hi, rfl⟩ := List.mem_iff_getElem.mp ht
      exact ((key i hi).mp (ha i (List.mem_range.mpr hi))).1
    · rw [List.pairwise_iff_getElem]
      intro k i hk hi hki
      exact ((key i hi).mp (ha i (List.mem_range.mpr hi))).2.1 k hki
    · obtain ⟨i, hi, rfl⟩ := List.mem_iff_getElem.mp ht
      exact ((key i hi).mp (ha i (List.mem_range.mpr hi))).2.2
  · rintro ⟨h1, h2, h3⟩ i hi
    have hi := List.mem_range.mp hi
    refine (key i hi).mpr ⟨h1 _ (List.getElem_mem hi), fun k hk => ?_, h3 _ (List.getElem_mem hi)⟩
    exact List.pairwise_iff_getElem.mp h2 k i (Nat.lt_trans hk hi) hi hk
theorem mayTxn_get {t : Txn} (h : mayTxn t = true) : (0 ≤ t.f0 ∧ t.f0 ≤ 63 ∧ 0 ≤ t.f1 ∧ t.f1 < t.f2 ∧ t.f2 ≤ 2147483647 ∧ 1 ≤ t.f3.length ∧ t.f3.length ≤ 64) ∧ t.f3.all mayOp = true := by
  unfold mayTxn at h
  rw [Bool.and_eq_true] at h
  exact ⟨of_decide_eq_true h.1, h.2⟩
theorem writer_iff (h : List Txn) (key v : Int) : 0 ≤ writer h key v ↔ ∃ t ∈ h, ∃ o ∈ t.f3, o.f0 = true ∧ o.f1 = key ∧ o.f2 = v := by
  constructor
  · intro hw
    obtain ⟨i, hi, _, ha, _⟩ := writer_some h key v hw
    obtain ⟨o, ho, h2⟩ := List.any_eq_true.mp ha
    refine ⟨h[i], List.getElem_mem hi, o, ho, ?_⟩
    unfold isW at h2
    simpa [and_assoc] using h2
  · rintro ⟨t, ht, o, ho, h1, h2, h3⟩
    rcases Int.lt_or_le (writer h key v) 0 with hn | hn
    · have := writer_none h key v hn t ht
      rw [List.any_eq_false] at this
      exact absurd (by unfold isW; simp [h1, h2, h3]) (this o ho)
    · exact hn
theorem check_is (l : List Txn) : checkG l = check l := by
  unfold checkG check
  by_cases h1 : l.length > 64 ∨ count l > 1024
  · rw [if_pos h1, if_pos h1]
  · rw [if_neg h1, if_neg h1]
    by_cases h2 : l.all mayTxn = true
    · rw [if_neg (by rw [h2]; simp)]
      have hm : ∀ t ∈ l, mayTxn t = true := List.all_eq_true.mp h2
      have hst := stampsL_iff l [] [] (fun t ht => (mayTxn_get (hm t ht)).1.2.2.2.1)
      have hst' : stampsL [] [] l = true ↔ l.Pairwise fun a b => pairOk a b = true := by rw [hst]; simp [getB_nil]
      cases hw : wAll 0 [] l with
      | none =>
        have hn : ¬ may l = true := fun hmay => by
          obtain ⟨_, _, h5⟩ := (may_iff l).mp hmay
          obtain ⟨v, hv⟩ := wAll_none l 0 [] hw
          rcases hv with hv | ⟨_, hv⟩
          · obtain ⟨t, ht, h6⟩ := times_mem (show 1 ≤ times l v by omega)
            obtain ⟨o, ho, hof, rfl⟩ := timesL_mem h6
            have := (of_decide_eq_true (h5 t ht o ho)).1 hof
            omega
          · simp [getB_nil] at hv
        rw [if_neg hn]
      | some T =>
        obtain ⟨w1, w2, w3⟩ := wAll_some l 0 [] T hw
        show (if stampsL [] [] l = false then 2 else if l.all (fun t => t.f3.all (readOk T)) = true then 0 else 2) = _
        by_cases h3 : stampsL [] [] l = true
        · rw [if_neg (by rw [h3]; simp)]
          by_cases h4 : l.all (fun t => t.f3.all (readOk T)) = true
          · rw [if_pos h4, if_pos]
            refine (may_iff l).mpr ⟨hm, hst'.mp h3, fun t ht o ho => ?_⟩
            refine decide_eq_true ⟨fun hof => ?_, fun hof hz => ?_⟩
            · have := times_pos ht (timesL_pos ho hof)
              have := w3 o.f2
              omega
            · have h5 := List.all_eq_true.mp (List.all_eq_true.mp h4 t ht) o ho
              unfold readOk at h5
              rw [hof, Bool.false_or, show (o.f2 == 0) = false from beq_eq_false_iff_ne.mpr hz, Bool.false_or] at h5
              cases hg : getB T o.f2 with
              | none => rw [hg] at h5; cases h5
              | some x =>
                rw [hg] at h5
                have hx : x.2.1 = o.f1 := by simpa using h5
                rcases Nat.eq_zero_or_pos (times l o.f2) with h0 | h0
                · rw [w1 _ h0, getB_nil] at hg; cases hg
                · obtain ⟨u, hu, h6⟩ := times_mem h0
                  obtain ⟨p, hp, hpf, hpv⟩ := timesL_mem h6
                  obtain ⟨j, hj, rfl⟩ := List.mem_iff_getElem.mp hu
                  have h7 := (w2 j hj p hp hpf).1
                  rw [hpv, hg] at h7
                  injection h7 with h7
                  refine (writer_iff l o.f1 o.f2).mpr ⟨_, hu, p, hp, hpf, ?_, hpv⟩
                  rw [← hx, h7]
          · rw [if_neg h4, if_neg]
            intro hmay
            obtain ⟨_, _, h5⟩ := (may_iff l).mp hmay
            refine h4 (List.all_eq_true.mpr fun t ht => List.all_eq_true.mpr fun o ho => ?_)
            unfold readOk
            cases hof : o.f0 with
            | true => rfl
            | false =>
              rw [Bool.false_or]
              by_cases hz : o.f2 = 0
              · rw [show (o.f2 == 0) = true by simpa using hz]; rfl
              · rw [show (o.f2 == 0) = false from beq_eq_false_iff_ne.mpr hz, Bool.false_or]
                obtain ⟨u, hu, p, hp, hpf, hpk, hpv⟩ := (writer_iff l o.f1 o.f2).mp ((of_decide_eq_true (h5 t ht o ho)).2 hof hz)
                obtain ⟨j, hj, rfl⟩ := List.mem_iff_getElem.mp hu
                have h7 := (w2 j hj p hp hpf).1
                rw [hpv] at h7
                rw [h7]
                simpa using hpk
        · rw [if_pos (by simpa using h3), if_neg]
          intro hmay
          exact h3 (hst'.mpr ((may_iff l).mp hmay).2.1)
    · rw [if_pos (by simpa using h2), if_neg]
      intro hmay
      exact h2 (List.all_eq_true.mpr ((may_iff l).mp hmay).1)
end Go.Proofs.Ytfocaefnmfkojaa.R
namespace Go.Proofs.Ytfocaefnmfkojaa.R
open Go.RowKit Go.Proofs.Ytfocaefnmfkojaa.Q Go.Proofs.YtfocaefnmfkojaaW.PrintWords Go.Proofs.YtfocaefnmfkojaaW.PrintLast
set_option linter.unusedVariables false
set_option linter.unusedSimpArgs false
theorem opRight_f (a : Bool) (b c : Int) : op_Right.f a b c = some (mayOp ⟨a, b, c⟩) := by
  unfold op_Right.f
  show _ = some (decide (0 ≤ b ∧ b ≤ 63 ∧ 0 ≤ c ∧ c ≤ 2147483647 ∧ (a = true → c ≠ 0)))
  by_cases h1 : b < 0
  · rw [if_pos h1, decide_eq_false (by omega)]
  · rw [if_neg h1]
    by_cases h2 : b ≥ 64
    · rw [if_pos h2, decide_eq_false (by omega)]
    · rw [if_neg h2]
      by_cases h3 : c < 0
      · rw [if_pos h3, decide_eq_false (by omega)]
      · rw [if_neg h3]
        by_cases h4 : c > 2147483647
        · rw [if_pos h4, decide_eq_false (by omega)]
        · rw [if_neg h4]
          cases a with
          | false => rw [if_neg (by simp), decide_eq_true ⟨by omega, by omega, by omega, by omega, by simp⟩]
          | true =>
            rw [if_pos rfl]
            by_cases h5 : c > 0
            · rw [decide_eq_true h5, decide_eq_true ⟨by omega, by omega, by omega, by omega, fun _ => by omega⟩]
            · rw [decide_eq_false h5, decide_eq_false]
              intro h6
              have := h6.2.2.2.2 rfl
              omega
theorem right_loop (l : List Op) (hl : Few l) : ∀ d i : Nat, i + d = l.length → Ev (fun k => txn_Right.l0 k l (l.length : Int) (i : Int)) ((l.drop i).all mayOp) := by
  intro d
  induction d with
  | zero =>
    intro i hi
    rw [drop_end l i (by omega)]
    refine Ev.step (fun k => by rw [txn_Right.l0]) ?_
    simp only [if_neg (show ¬ (i : Int) < (l.length : Int) by omega)]
    exact Ev.now _
  | succ d ih =>
    intro i hi
    have hlt : i < l.length := by omega
    have h := ih (i + 1) (by omega)
    rw [drop_at l i hlt, List.all_cons]
    refine Ev.step (fun k => by rw [txn_Right.l0]) ?_
    simp only [if_pos (show (i : Int) < (l.length : Int) by omega), if_pos (show 0 ≤ (i : Int) by omega), rdOp l i hlt, wrapN i (by unfold Few at hl; omega), opRight_f, Option.bind_some]
    cases mayOp l[i] with
    | true => simp only [if_true, Bool.true_and]; exact h
    | false => simp only [Bool.false_eq_true, if_false, Bool.false_and]; exact Ev.now _
theorem right_ev (t : Txn) (hl : Few t.f3) : Ev (fun k => txn_Right.f k t.f0 t.f1 t.f2 t.f3) (mayTxn t) := by
  have yes : Ev (fun k => txn_Right.j0 k true t.f0 t.f1 t.f2 t.f3) false := by
    refine Ev.step (fun k => by rw [txn_Right.j0]) ?_
    simp only [if_true]
    exact Ev.now _
  unfold txn_Right.f mayTxn
  by_cases h1 : t.f0 < 0
  · simp only [if_pos h1]; rw [decide_eq_false (by omega), Bool.false_and]; exact yes
  · simp only [if_neg h1]
    by_cases h2 : t.f0 ≥ 64
    · simp only [if_pos h2]; rw [decide_eq_false (by omega), Bool.false_and]; exact yes
    · simp only [if_neg h2]
      by_cases h3 : t.f1 < 0
      · simp only [if_pos h3]; rw [decide_eq_false (by omega), Bool.false_and]; exact yes
      · simp only [if_neg h3]
        by_cases h4 : t.f1 ≥ t.f2
        · simp only [if_pos h4]; rw [decide_eq_false (by omega), Bool.false_and]; exact yes
        · simp only [if_neg h4]
          by_cases h5 : t.f2 > 2147483647
          · simp only [if_pos h5]; rw [decide_eq_false (by omega), Bool.false_and]; exact yes
          · simp only [if_neg h5]
            by_cases h6 : (t.f3.length : Int) < 1
            · simp only [if_pos h6]; rw [decide_eq_false (by omega), Bool.false_and]; exact yes
            · simp only [if_neg h6]
              by_cases h7 : (t.f3.length : Int) > 64
              · simp only [decide_eq_true h7]; rw [decide_eq_false (by omega), Bool.false_and]; exact yes
              · simp only [decide_eq_false h7]
                rw [decide_eq_true ⟨by omega, by omega, by omega, by omega, by omega, by omega, by omega⟩, Bool.true_and]
                refine Ev.step (fun k => by rw [txn_Right.j0]) ?_
                simp only [Bool.false_eq_true, if_false]
                exact right_loop t.f3 hl t.f3.length 0 (by omega)
theorem ops_loop (h : List Txn) (H : FewH h) : ∀ d (i n : Nat), i + d = h.length → n + d * 7000000000000 ≤ 1000000000000000000 → Ev (fun k => history_Ops.l0 k (n : Int) h (h.length : Int) (i : Int)) ((n + count (h.drop i) : Nat) : Int) := by
  intro d
  induction d with
  | zero =>
    intro i n hi hb
    rw [drop_end h i (by omega)]
    refine Ev.step (fun k => by rw [history_Ops.l0]) ?_
    simp only [if_neg (show ¬ (i : Int) < (h.length : Int) by omega)]
    exact Ev.now _
  | succ d ih =>
    intro i n hi hb
    have hlt : i < h.length := by omega
    have hops := H.at i hlt
    refine Ev.step (fun k => by rw [history_Ops.l0]) ?_
    have e : wrap64 ((n : Int) + ((h[i]).f3.length : Int)) = ((n + (h[i]).f3.length : Nat) : Int) := by
      rw [wrapI _ (by omega) (by omega)]
      omega
    simp only [if_pos (show (i : Int) < (h.length : Int) by omega), if_pos (show 0 ≤ (i : Int) by omega), rdTxn h i hlt, wrapN i (by have := H.len; omega), e]
    refine Ev.ofEq (ih (i + 1) _ (by omega) (by omega)) ?_
    rw [drop_at h i hlt]
    simp only [count, List.map_cons, List.sum_cons]
    omega
theorem ops_ev (h : List Txn) (H : FewH h) : Ev (fun k => history_Ops.f k h) (count h : Int) := by
  have := ops_loop h H h.length 0 0 (by omega) (by have := H.len; omega)
  unfold history_Ops.f
  simpa using this
def bigB (h : List Txn) : Bool := decide (h.length > 100 ∨ count h > 1200)
theorem count_drop (h : List Txn) (i : Nat) (hi : i < h.length) : count (h.drop i) = (h[i]).f3.length + count (h.drop (i + 1)) := by
  rw [drop_at h i hi]
  simp only [count, List.map_cons, List.sum_cons]
theorem big_loop (h : List Txn) (hl : h.length ≤ 100) (hs : ∀ t ∈ h, t.f3.length ≤ 4000000000000000000) : ∀ d (i n : Nat), i + d = h.length → n ≤ 1200 → Ev (fun k => burgagelaw06_Big.l0 k (n : Int) h (h.length : Int) (i : Int)) (if n + count (h.drop i) > 1200 then 1 else 0) := by
  intro d
  induction d with
  | zero =>
    intro i n hi hn
    rw [drop_end h i (by omega)]
    refine Ev.step (fun k => by rw [burgagelaw06_Big.l0]) ?_
    simp only [if_neg (show ¬ (i : Int) < (h.length : Int) by omega)]
    rw [if_neg (by simp [count]; omega)]
    exact Ev.now _
  | succ d ih =>
    intro i n hi hn
    have hlt : i < h.length := by omega
    have hops := hs _ (List.getElem_mem hlt)
    refine Ev.step (fun k => by rw [burgagelaw06_Big.l0]) ?_
    have e : wrap64 ((n : Int) + ((h[i]).f3.length : Int)) = ((n + (h[i]).f3.length : Nat) : Int) := by
      rw [wrapI _ (by omega) (by omega)]
      omega
    simp only [if_pos (show (i : Int) < (h.length : Int) by omega), if_pos (show 0 ≤ (i : Int) by omega), rdTxn h i hlt, wrapN i (by omega), e]
    have hc := count_drop h i hlt
    by_cases hb : n + (h[i]).f3.length > 1200
    · simp only [if_pos (show ((n + (h[i]).f3.length : Nat) : Int) > 1200 by omega)]
      rw [if_pos (by omega)]
      exact Ev.now _
    · simp only [if_neg (show ¬ ((n + (h[i]).f3.length : Nat) : Int) > 1200 by omega)]
      refine Ev.ofEq (ih (i + 1) _ (by omega) (by omega)) ?_
      rw [hc, Nat.add_assoc]
theorem big_ev (h : List Txn) (hs : ∀ t ∈ h, t.f3.length ≤ 4000000000000000000) : Ev (fun k => burgagelaw06_Big.f k h) (if bigB h = true then 1 else 0) := by
  unfold burgagelaw06_Big.f bigB
  by_cases h1 : h.length > 100
  · simp only [if_pos (show (h.length : Int) > 100 by omega)]
    rw [if_pos (by simp [h1])]
    exact Ev.now _
  · simp only [if_neg (show ¬ (h.length : Int) > 100 by omega)]
    refine Ev.ofEq (big_loop h (by omega) hs h.length 0 0 (by omega) (by omega)) ?_
    by_cases h2 : count h > 1200
    · rw [if_pos (by simpa using h2), if_pos (by simp [h2])]
    · rw [if_neg (by simpa using h2), if_neg (by simp; omega)]
theorem le_count {h : List Txn} {t : Txn} (ht : t ∈ h) : t.f3.length ≤ count h := by
  induction h with
  | nil => cases ht
  | cons u h ih =>
    simp only [count, List.map_cons, List.sum_cons] at ih ⊢
    rcases List.mem_cons.mp ht with rfl | ht
    · omega
    · have := ih ht; omega
theorem bigB_few {h : List Txn} (hb : bigB h = false) : FewH h ∧ h.length ≤ 100 ∧ count h ≤ 1200 ∧ ∀ t ∈ h, t.f3.length ≤ 1200 := by
  unfold bigB at hb
  have hb := of_decide_eq_false hb
  have h2 : ∀ t ∈ h, t.f3.length ≤ count h := fun t ht => le_count ht
  exact ⟨⟨by omega, fun t ht => by have := h2 t ht; omega⟩, by omega, by omega, fun t ht => by have := h2 t ht; omega⟩
end Go.Proofs.Ytfocaefnmfkojaa.R
namespace Go.Proofs.Ytfocaefnmfkojaa.R
open Go.RowKit Go.Proofs.Ytfocaefnmfkojaa.Q Go.Proofs.YtfocaefnmfkojaaW.PrintWords Go.Proofs.YtfocaefnmfkojaaW.PrintLast
set_option linter.unusedVariables false
set_option linter.unusedSimpArgs false
def sameO (o p : Op) : Bool := (o.f0 == p.f0) && ((o.f1 == p.f1) && (o.f2 == p.f2))
def sameL : List Op → List Op → Bool
  | [], [] => true
  | o :: l, p :: m => sameO o p && sameL l m
  | _, _ => false
def sameT (t u : Txn) : Bool := (t.f0 == u.f0) && ((t.f1 == u.f1) && ((t.f2 == u.f2) && sameL t.f3 u.f3))
def sameH : List Txn → List Txn → Bool
  | [], [] => true
  | t :: l, u :: m => sameT t u && sameH l m
  | _, _ => false
theorem sameO_iff (o p : Op) : sameO o p = true ↔ o = p := by
  obtain ⟨a, b, c⟩ := o
  obtain ⟨a', b', c'⟩ := p
  simp [sameO]
theorem sameL_iff : ∀ l m : List Op, sameL l m = true ↔ l = m
  | [], [] => by simp [sameL]
  | [], _ :: _ => by simp [sameL]
  | _ :: _, [] => by simp [sameL]
  | o :: l, p :: m => by simp [sameL, sameO_iff, sameL_iff l m]
theorem sameT_iff (t u : Txn) : sameT t u = true ↔ t = u := by
  obtain ⟨a, b, c, d⟩ := t
  obtain ⟨a', b', c', d'⟩ := u
  simp [sameT, sameL_iff]
theorem sameH_iff : ∀ l m : List Txn, sameH l m = true ↔ l = m
  | [], [] => by simp [sameH]
  | [], _ :: _ => by simp [sameH]
  | _ :: _, [] => by simp [sameH]
  | o :: l, p :: m => by simp [sameH, sameT_iff, sameH_iff l m]
theorem same_inner (a b : List Txn) (n i : Int) (l m : List Op) (t0 t1 t2 : Int) (hl : Few l) (e : l.length = m.length) (X : Bool) (hX : Ev (fun k => history_Same.l0 k b a n (wrap64 (i + 1))) X) :
    ∀ d q : Nat, q + d = l.length → Ev (fun k => history_Same.l1 k b a n i l (l.length : Int) (q : Int) t0 t1 t2 m) (sameL (l.drop q) (m.drop q) && X) := by
  intro d
  induction d with
  | zero =>
    intro q hq
    rw [drop_end l q (by omega), drop_end m q (by omega)]
    refine Ev.step (fun k => by rw [history_Same.l1]) ?_
    simp only [if_neg (show ¬ (q : Int) < (l.length : Int) by omega)]
    simpa [sameL] using hX
  | succ d ih =>
    intro q hq
    have hlt : q < l.length := by omega
    have hlm : q < m.length := by omega
    have h := ih (q + 1) (by omega)
    rw [drop_at l q hlt, drop_at m q hlm, sameL]
    refine Ev.step (fun k => by rw [history_Same.l1]) ?_
    simp only [if_pos (show (q : Int) < (l.length : Int) by omega), if_pos (show 0 ≤ (q : Int) by omega), if_pos (show (q : Int) < (m.length : Int) by omega), rdOp l q hlt, rdOp m q hlm, wrapN q (by unfold Few at hl; omega)]
    by_cases h1 : sameO l[q] m[q] = true
    · rw [h1, Bool.true_and]
      have h2 := (sameO_iff _ _).mp h1
      rw [h2]
      simpa using h
    · rw [Bool.not_eq_true] at h1
      rw [h1]
      have h2 : (!((m[q]).f0 == (l[q]).f0) || (!((m[q]).f1 == (l[q]).f1) || !((m[q]).f2 == (l[q]).f2))) = true := by
        unfold sameO at h1
        rw [Bool.eq_iff_iff]
        simp only [Bool.and_eq_false_iff, beq_eq_false_iff_ne] at h1
        simp only [Bool.or_eq_true, Bool.not_eq_true', beq_eq_false_iff_ne, iff_true]
        rcases h1 with h | h | h
        · exact .inl (fun e => h e.symm)
        · exact .inr (.inl (fun e => h e.symm))
        · exact .inr (.inr (fun e => h e.symm))
      simp only [h2, if_true]
      simp only [Bool.false_and]
      exact Ev.now _
theorem same_outer (a b : List Txn) (ha : a.length ≤ 1000000) (hs : ∀ t ∈ a, t.f3.length ≤ 1000000) (e : a.length = b.length) : ∀ d i : Nat, i + d = a.length → Ev (fun k => history_Same.l0 k b a (a.length : Int) (i : Int)) (sameH (a.drop i) (b.drop i)) := by
  intro d
  induction d with
  | zero =>
    intro i hi
    rw [drop_end a i (by omega), drop_end b i (by omega)]
    refine Ev.step (fun k => by rw [history_Same.l0]) ?_
    simp only [if_neg (show ¬ (i : Int) < (a.length : Int) by omega)]
    exact Ev.now _
  | succ d ih =>
    intro i hi
    have hlt : i < a.length := by omega
    have hlb : i < b.length := by omega
    have h := ih (i + 1) (by omega)
    rw [drop_at a i hlt, drop_at b i hlb, sameH]
    refine Ev.step (fun k => by rw [history_Same.l0]) ?_
    simp only [if_pos (show (i : Int) < (a.length : Int) by omega), if_pos (show 0 ≤ (i : Int) by omega), if_pos (show (i : Int) < (b.length : Int) by omega), rdTxn a i hlt, rdTxn b i hlb]
    have no : sameT a[i] b[i] = false → ∀ x y z u v w p q, Ev (fun k => history_Same.j1 k b a (a.length : Int) (i : Int) true x y z u v w p q) (sameT a[i] b[i] && sameH (a.drop (i + 1)) (b.drop (i + 1))) := fun e x y z u v w p q => by
      rw [e, Bool.false_and]
      refine Ev.step (fun k => by rw [history_Same.j1]) ?_
      simp only [if_true]
      exact Ev.now _
    by_cases h0 : (a[i]).f0 = (b[i]).f0
    · simp only [if_pos h0]
      by_cases h1 : (a[i]).f1 = (b[i]).f1
      · simp only [if_pos h1]
        by_cases h2 : (a[i]).f2 = (b[i]).f2
        · simp only [if_pos h2]
          by_cases h3 : (a[i]).f3.length = (b[i]).f3.length
          · have h4 : ((((a[i]).f3.length : Int) != ((b[i]).f3.length : Int))) = false := by simp [h3]
            rw [h4]
            refine Ev.step (fun k => by rw [history_Same.j1]) ?_
            simp only [Bool.false_eq_true, if_false]
            have h5 : sameT a[i] b[i] = sameL (a[i]).f3 (b[i]).f3 := by simp [sameT, h0, h1, h2]
            rw [h5]
            have := hs _ (List.getElem_mem hlt)
            exact same_inner a b (a.length : Int) (i : Int) _ _ _ _ _ (by unfold Few; omega) h3 _ (by rw [wrapN i (by omega)]; exact h) _ 0 (by simp; rfl)
          · have h4 : ((((a[i]).f3.length : Int) != ((b[i]).f3.length : Int))) = true := by simp; omega
            rw [h4]
            refine no ?_ _ _ _ _ _ _ _ _
            rw [← Bool.not_eq_true, sameT_iff]
            intro e5
            rw [e5] at h3
            exact h3 rfl
        · simp only [if_neg h2]
          exact no (by simp [sameT, h2]) _ _ _ _ _ _ _ _
      · simp only [if_neg h1]
        exact no (by simp [sameT, h1]) _ _ _ _ _ _ _ _
    · simp only [if_neg h0]
      exact no (by simp [sameT, h0]) _ _ _ _ _ _ _ _
theorem same_ev (a b : List Txn) (ha : a.length ≤ 1000000) (hs : ∀ t ∈ a, t.f3.length ≤ 1000000) : Ev (fun k => history_Same.f k a b) (sameH a b) := by
  unfold history_Same.f
  by_cases e : a.length = b.length
  · simp only [if_pos (show (a.length : Int) = (b.length : Int) by omega)]
    exact same_outer a b ha hs e a.length 0 (by omega)
  · simp only [if_neg (show ¬ (a.length : Int) = (b.length : Int) by omega)]
    rw [show sameH a b = false from by rw [← Bool.not_eq_true, sameH_iff]; intro e5; rw [e5] at e; exact e rfl]
    exact Ev.now _
end Go.Proofs.Ytfocaefnmfkojaa.R
namespace Go.Proofs.Ytfocaefnmfkojaa.H
open Go.RowKit
set_option linter.unusedVariables false
set_option linter.unusedSimpArgs false
section
variable {P : Program} {w0 w : World} {ops : Array Oper} {rest : List Oper} {o : Oper} {a : Act} {Q : Exit → Act → World → Prop} {L : List Asn} {i fuel : Nat} {listed : Array Bool}
def HG (P : Program) (ops : Array Oper) (Q : Exit → Act → World → Prop) (w0 : World) (L : List Asn) (i : Nat) (rest : List Oper) (fuel : Nat) (listed : Array Bool) (a : Act) (w : World) : Prop :=
  ops.toList.drop i = rest → wpAnyH P .any ops Q (fun x => SH w0 x L) fuel listed a w
end
end Go.Proofs.Ytfocaefnmfkojaa.H
namespace Go.Proofs.Ytfocaefnmfkojaa.H
open Go.RowKit Go.Maps Go.Proofs.Ytfocaefnmfkojaa.Q Go.Proofs.YtfocaefnmfkojaaW.PrintWords Go.Proofs.YtfocaefnmfkojaaW.PrintLast Go.Proofs.YtfocaefnmfkojaaW.PrintMore
set_option linter.unusedVariables false
set_option linter.unusedSimpArgs false
section
variable {w0 w w' : World} {L L' L1 L2 : List Asn} {A A' B' : Asn}
theorem SHs.perm {B : Nat} {L L' : List Asn} (hp : L.Perm L') : ∀ {Ss}, SHs B w L Ss → ∃ Ss', SHs B w L' Ss' ∧ ∀ T ∈ Ss', T ∈ Ss := by
  induction hp with
  | nil => exact fun {Ss} h => ⟨Ss, h, fun _ h => h⟩
  | cons x _ ih =>
    intro Ss h
    match Ss, h with
    | S :: Ss, h =>
      obtain ⟨Ss', h', hm⟩ := ih h.2.2.2
      refine ⟨S :: Ss', ⟨h.1, h.2.1, fun T hT => h.2.2.1 T (hm T hT), h'⟩, fun T hT => ?_⟩
      rcases List.mem_cons.mp hT with rfl | hT
      · exact List.mem_cons_self ..
      · exact List.mem_cons_of_mem _ (hm T hT)
    | [], h => exact h.elim
  | swap x y l =>
    intro Ss h
    match Ss, h with
    | S :: S' :: Ss, h =>
      refine ⟨S' :: S :: Ss, ⟨h.2.2.2.1, h.2.2.2.2.1, fun T hT k hk hTk => ?_, h.1, h.2.1, fun T hT => h.2.2.1 T (List.mem_cons_of_mem _ hT), h.2.2.2.2.2.2⟩, fun T hT => ?_⟩
      · rcases List.mem_cons.mp hT with rfl | hT
        · exact h.2.2.1 S' (List.mem_cons_self ..) k hTk hk
        · exact h.2.2.2.2.2.1 T hT k hk hTk
      · rcases List.mem_cons.mp hT with rfl | hT
        · exact List.mem_cons_of_mem _ (List.mem_cons_self ..)
        · rcases List.mem_cons.mp hT with rfl | hT
          · exact List.mem_cons_self ..
          · exact List.mem_cons_of_mem _ (List.mem_cons_of_mem _ hT)
    | [S], h => exact h.2.2.2.elim
    | [], h => exact h.elim
  | trans _ _ ih1 ih2 =>
    intro Ss h
    obtain ⟨Ss1, h1, m1⟩ := ih1 h
    obtain ⟨Ss2, h2, m2⟩ := ih2 h1
    exact ⟨Ss2, h2, fun T hT => m1 T (m2 T hT)⟩
theorem SH.perm (h : SH w0 w L) (hp : L.Perm L') : SH w0 w L' := by
  obtain ⟨hB, Ss, h⟩ := h
  obtain ⟨Ss', h', _⟩ := SHs.perm hp h
  exact ⟨hB, Ss', h'⟩
theorem SHs.mem {B : Nat} : ∀ {L Ss}, SHs B w L Ss → A ∈ L → ∃ S, A.P S w
  | A1 :: L, S :: Ss, h, hm => by
    rcases List.mem_cons.mp hm with rfl | hm
    · exact ⟨S, h.1⟩
    · exact SHs.mem h.2.2.2 hm
  | _ :: _, [], h, _ => h.elim
theorem SHs.lower {B B0 : Nat} (hB : B0 ≤ B) : ∀ {L Ss}, SHs B w L Ss → SHs B0 w L Ss
  | [], [], _ => trivial
  | A1 :: L, S :: Ss, h => ⟨h.1, fun k hk => Nat.le_trans hB (h.2.1 k hk), h.2.2.1, SHs.lower hB h.2.2.2⟩
  | _ :: _, [], h => h.elim
  | [], _ :: _, h => h.elim
theorem SHs.above {B : Nat} : ∀ {L Ss}, SHs B w L Ss → ∀ T ∈ Ss, ∀ k, T k → B ≤ k
  | A1 :: L, S :: Ss, h, T, hT, k, hk => by
    rcases List.mem_cons.mp hT with rfl | hT
    · exact h.2.1 k hk
    · exact SHs.above h.2.2.2 T hT k hk
  | [], [], _, T, hT, _, _ => by cases hT
  | _ :: _, [], h, _, _, _, _ => h.elim
  | [], _ :: _, h, _, _, _, _ => h.elim
theorem SHs.append {B : Nat} : ∀ {L1 Ss1 L2 Ss2}, SHs B w L1 Ss1 → SHs B w L2 Ss2 → (∀ S ∈ Ss1, ∀ T ∈ Ss2, ∀ k, S k → ¬ T k) → SHs B w (L1 ++ L2) (Ss1 ++ Ss2)
  | [], [], _, _, _, h2, _ => h2
  | A1 :: L, S :: Ss, L2, Ss2, h1, h2, hd => ⟨h1.1, h1.2.1, fun T hT => by
      rcases List.mem_append.mp hT with hT | hT
      · exact h1.2.2.1 T hT
      · exact hd S (List.mem_cons_self ..) T hT, SHs.append h1.2.2.2 h2 (fun S' hS' => hd S' (List.mem_cons_of_mem _ hS'))⟩
  | _ :: _, [], _, _, h, _, _ => h.elim
  | [], _ :: _, _, _, h, _, _ => h.elim
theorem SHs.part {B : Nat} : ∀ {L1 L2 : List Asn} {Ss}, SHs B w (L1 ++ L2) Ss → ∃ Ss1 Ss2, SHs B w L1 Ss1 ∧ SHs B w L2 Ss2 ∧ (∀ S ∈ Ss1, ∀ T ∈ Ss2, ∀ k, S k → ¬ T k) ∧ (∀ T ∈ Ss1, T ∈ Ss) ∧ (∀ T ∈ Ss2, T ∈ Ss)
  | [], L2, Ss, h => ⟨[], Ss, trivial, h, (fun S hS => by cases hS), (fun S hS => by cases hS), fun _ h => h⟩
  | A1 :: L, L2, S :: Ss, h => by
    have h' : A1.P S w ∧ (∀ k, S k → B ≤ k) ∧ (∀ T ∈ Ss, ∀ k, S k → ¬ T k) ∧ SHs B w (L ++ L2) Ss := h
    obtain ⟨Ss1, Ss2, h1, h2, hd, m1, m2⟩ := SHs.part h'.2.2.2
    refine ⟨S :: Ss1, Ss2, ⟨h'.1, h'.2.1, fun T hT => h'.2.2.1 T (m1 T hT), h1⟩, h2, fun S' hS' T hT => ?_, fun T hT => ?_, fun T hT => List.mem_cons_of_mem _ (m2 T hT)⟩
    · rcases List.mem_cons.mp hS' with rfl | hS'
      · exact h'.2.2.1 T (m2 T hT)
      · exact hd S' hS' T hT
    · rcases List.mem_cons.mp hT with rfl | hT
      · exact List.mem_cons_self ..
      · exact List.mem_cons_of_mem _ (m1 T hT)
  | _ :: _, _, [], h => h.elim
theorem SH.merge (h : SH w0 w L) (h2 : SH w w' L2) : SH w0 w' (L2 ++ L) := by
  obtain ⟨hB, Ss, h⟩ := h
  obtain ⟨hB2, Ss2, h2⟩ := h2
  have hm : SHs w0.heap.size w' L Ss := h.move fun T hT k hk => hB2.block k (h.lt T hT k hk)
  refine ⟨hB.trans (hB2.mono hB.size), Ss2 ++ Ss, SHs.append (SHs.lower hB.size h2) hm fun S hS T hT k hk hTk => ?_⟩
  have := SHs.above h2 S hS k hk
  have := h.lt T hT k hTk
  omega
theorem SH.fold {α : Type} {d : Kd α} {e n c : Nat} {ad : Option Addr} {xs : List α} (h : SH w0 w (L1 ++ L)) (hn : n = xs.length) (hc : n ≤ c)
    (hC : ∀ W', (∃ Ss, SHs w0.heap.size W' L1 Ss) → d.C W' ad n xs) : SH w0 w (vw d e (.slice ad n c) xs :: L) := by
  obtain ⟨hB, Ss, h⟩ := h
  obtain ⟨Ss1, Ss2, h1, h2, hd, _, _⟩ := SHs.part h
  subst hn
  refine ⟨hB, (fun k => ∃ T ∈ Ss1, T k) :: Ss2, ⟨⟨ad, c, rfl, hc, fun W' hW => hC W' ⟨Ss1, h1.move fun T hT k hk => hW k ⟨T, hT, hk⟩ (h1.lt T hT k hk)⟩⟩, ?_⟩, ?_, ?_, h2⟩
  · rintro k ⟨T, hT, hk⟩
    exact h1.lt T hT k hk
  · rintro k ⟨T, hT, hk⟩
    exact SHs.above h1 T hT k hk
  · rintro T hT k ⟨S, hS, hk⟩
    exact hd S hS T hT k hk
theorem SH.weak (h : SH w0 w (A :: L)) (hA : ∀ S, A.P S w → (∀ k, S k → w0.heap.size ≤ k) → ∃ S', A'.P S' w ∧ ∀ k, S' k → S k) : SH w0 w (A' :: L) := by
  obtain ⟨hB, Ss, h⟩ := h
  match Ss, h with
  | S :: Ss, h =>
    obtain ⟨S', hS', hm⟩ := hA S h.1 h.2.1
    exact ⟨hB, S' :: Ss, hS', fun k hk => h.2.1 k (hm k hk), fun T hT k hk => h.2.2.1 T hT k (hm k hk), h.2.2.2⟩
  | [], h => exact h.elim
end
structure V4 where
  a : Value
  b : Value
  c : Value
  d : Value
  one : ∀ u ∈ [a, b, c, d], u.oneCell' = true
def V4.l (x : V4) : List Value := [x.a, x.b, x.c, x.d]
def kraw : Kd V4 where
  sz := 4
  E := []
  K := fun _ x cs => cs = x.l
  M := fun _ _ _ x cs => cs = x.l
  K_len := fun h => by rw [h]; rfl
  K_one := fun h u hu => by rw [h] at hu; exact V4.one _ u hu
  K_below := fun _ h => h
  K_of_M := fun h => h
  M_mono := fun _ h => h
  M_bound := fun h => h
  M_move := fun _ h => h
  M_lower := fun _ h => h
def tV (t : S44) (A : Option Addr) (n c : Nat) : V4 := ⟨.int .i64 t.f0, .int .i64 t.f1, .int .i64 t.f2, .slice A n c, by simp [Value.oneCell']⟩
end Go.Proofs.Ytfocaefnmfkojaa.H
namespace Go.Proofs.Ytfocaefnmfkojaa.H
open Go.RowKit Go.Maps Go.Proofs.Ytfocaefnmfkojaa.Q Go.Proofs.YtfocaefnmfkojaaW.PrintWords Go.Proofs.YtfocaefnmfkojaaW.PrintLast Go.Proofs.YtfocaefnmfkojaaW.PrintMore
set_option linter.unusedVariables false
set_option linter.unusedSimpArgs false
section
variable {P : Program} {w0 w : World} {ops : Array Oper} {rest : List Oper} {o : Oper} {a : Act} {Q : Exit → Act → World → Prop} {L L' : List Asn}
theorem ev_copied {α : Type} (d : Kd α) (HS : SH w0 w L) (hgd : o.guard = none) {s x : Operand} {t e : TypeId} {z : Value} {bytes : Nat} (ho : o.op = .call { callee := .builtin .append, args := #[s, x], argTypes := #[t, t] })
    (ht : P.underlying t = some (.slice e)) (hinfo : (P.info? e).map (fun i => (i.zero, i.size, i.bytes)) = some (some z, d.sz, bytes)) (hz : z.cells.size = d.sz) (hs0 : 0 < d.sz) (hb0 : 0 < bytes)
    {ys : List α} {A : Option Addr} {m c : Nat} (hs : a.eval s = .slice none 0 0) (hx : a.eval x = .slice A m c) (HR : d.C w A m ys)
    (hKM : ∀ x cs, d.K w x cs → d.M w w0.heap.size (fun _ => False) x cs) (hl : m * bytes ≤ 140737488355328)
    (h : ∀ A1 c1 w1, SH w0 w1 (rw' w0.heap.size d e (.slice A1 ys.length c1) ys :: L) → wpList P ops Q rest (a.put o.dst (.slice A1 ys.length c1)) w1) : wpList P ops Q (o :: rest) a w := by
  refine Kd.R_append_rows d (w0 := w0) (W := w) w0.heap.size hgd s x t e z bytes ho ht hinfo hz hs0 hb0 (.slice none 0 0) [] ys A m c (fun k => w.heap.size ≤ k) (fun _ => False) hs hx (Kd.R_nil d e w _ _) HR hKM (fun _ hk => hk.elim) (fun _ hk => hk) HS.below HS.le (by simpa using hl) ?_
  intro v1 w1 ho1 hb1 hg1 _
  rw [List.nil_append] at ho1
  obtain ⟨A1, c1, rfl⟩ := Kd.R_slice ho1
  refine h A1 c1 w1 (HS.push ⟨hg1.os, hg1.tape, hg1.output, hg1.size, fun k hk => hg1.block k hk (by simp [Value.ownBlock])⟩ _ (fun k => w.heap.size ≤ k ∧ k < w1.heap.size) ⟨Kd.R_mono (Kd.R_bound ho1) (fun k hk => ⟨hk.1, hk.2.2.1⟩), fun k hk => hk.2⟩ (fun k hk => hk.1))
theorem ev_idxb (hw : Region.wanted o (yielded ops a.tmps) = true) {t e : TypeId} {x ix : Operand} (ho : o.op = .indexAddr t x ix) {g n c sz : Nat} (hx : a.eval x = .slice (some ⟨g, 0, none⟩) n c) {k : IntKind} {j : Nat} (hix : a.eval ix = .int k j) (ht : P.underlying t = some (.slice e)) (hsz : (P.info? e).map (·.size) = some sz) (hj : j < n)
    (h : wpList P ops Q rest (a.put o.dst (.pointer (some ⟨g, j * sz, none⟩))) w) : wpList P ops Q (o :: rest) a w := by
  refine ev_val hw ?_ h
  have hs' : (sizeOf e).run P w = .ok sz w := by
    cases hq : P.info? e with
    | none => simp [hq] at hsz
    | some q => simp [sizeOf, typeInfo, Sem.run_bind, hq, show q.size = sz by simpa [hq] using hsz]
  unfold execOp
  simp only [ho, hx, hix]
  simp [Instr.indexAt, Sem.run_bind, asIntOf, run_underlying ht, hs', show (j : Int) < n by omega, add_at']
  intro h_; omega
end
section
variable {w0 w : World} {L : List Asn}
theorem SH.openRow {α : Type} {d : Kd α} {xs : List α} {v : Value} {B e : Nat} (h : SH w0 w (rw' B d e v xs :: L)) (hne : 0 < xs.length) : ∃ g cap cur, v = .slice (some ⟨g, 0, none⟩) xs.length cap ∧ xs.length ≤ cap ∧ xs.length ≤ 9223372036854775807 ∧
    (∀ j (hj : j < xs.length), ∃ cs, cs.length = d.sz ∧ d.K w xs[j] cs ∧ ∀ f u, cs[f]? = some u → cur[j * d.sz + f]? = some u) ∧ SH w0 w (bk g e cur :: L) := by
  obtain ⟨S, hS, _⟩ := h.get .here
  obtain ⟨h0, inner, ho, hr⟩ := hS.1
  obtain ⟨hl, ho⟩ := ho
  rcases ho with ⟨rfl, h00⟩ | ⟨g, cap, cur, rfl, hB, hg, hnc, hcm, hsz, htk⟩
  · omega
  refine ⟨g, cap, cur, rfl, hnc, by unfold maxLen at hcm; omega, fun j hj => ?_, h.weak fun S' hS' _ => ?_⟩
  · have hj2 := hr.2 j _ (List.getElem?_eq_getElem hj)
    have hK := d.K_of_M hj2
    refine ⟨_, d.K_len hK, hK, fun f u hf => ?_⟩
    have hfl : f < d.sz := by
      have := (List.getElem?_eq_some_iff.mp hf).1
      rw [d.K_len hK] at this
      exact this
    rw [List.getElem?_take_of_lt hfl, List.getElem?_drop, ← htk, List.getElem?_take] at hf
    split at hf
    · simpa using hf
    · cases hf
  · obtain ⟨h0', inner', ho', _⟩ := hS'.1
    obtain ⟨_, ho'⟩ := ho'
    rcases ho' with ⟨hv, _⟩ | ⟨g', cap', cur', hv, _, hg', _⟩
    · cases hv
    · cases hv
      rw [hg] at hg'
      cases hg'
      exact ⟨fun k => k = g, ⟨fun _ => Iff.rfl, hg⟩, fun k hk => by subst hk; exact h0' _ rfl⟩
theorem C_of_bk {α : Type} {d : Kd α} {xs : List α} {cur : Array Value} {g e : Nat} (hg : w.heap[g]? = some (.cells cur e (0, 0))) (hn : xs.length ≤ 9223372036854775807)
    (h : ∀ j (hj : j < xs.length), ∃ cs, cs.length = d.sz ∧ d.K w xs[j] cs ∧ ∀ f u, cs[f]? = some u → cur[j * d.sz + f]? = some u) : d.C w (some ⟨g, 0, none⟩) xs.length xs := by
  refine ⟨rfl, hn, fun _ => ⟨_, rfl, fun j p hj => ?_⟩⟩
  obtain ⟨hlt, rfl⟩ := List.getElem?_eq_some_iff.mp hj
  obtain ⟨cs, h1, h2, h3⟩ := h j hlt
  refine ⟨cs, h1, h2, fun f u hf => ?_⟩
  rw [add_at', blk_cell hg, Nat.zero_add]
  exact h3 f u hf
abbrev Sl := Option Addr × Nat
def fT (l : List S44) (q : Nat) : S44 := l.getD q z44
def fV (l : List S44) (vs : Nat → Sl) (q : Nat) : V4 := tV (fT l q) (vs q).1 (fT l q).f3.length (vs q).2
def fA (B : Nat) (l : List S44) (vs : Nat → Sl) (q : Nat) : Asn := rw' B k46 46 (.slice (vs q).1 (fT l q).f3.length (vs q).2) (fT l q).f3
theorem fT_get {l : List S44} {q : Nat} (h : q < l.length) : fT l q = l[q] := by simp [fT, h]
theorem C_txns {l : List S44} {vs : Nat → Sl} {cur : Array Value} {g e : Nat} (hg : w.heap[g]? = some (.cells cur e (0, 0))) (hn : l.length ≤ 9223372036854775807)
    (hc : ∀ j < l.length, ∀ f u, (fV l vs j).l[f]? = some u → cur[j * 4 + f]? = some u) (hi : ∀ j < l.length, (fT l j).f3.length ≤ (vs j).2 ∧ k46.C w (vs j).1 (fT l j).f3.length (fT l j).f3) : k44.C w (some ⟨g, 0, none⟩) l.length l :=
  C_of_bk hg hn fun j hj => by
    obtain ⟨h1, h2⟩ := hi j hj
    have h3 := hc j hj
    unfold fV at h3
    rw [fT_get hj] at h1 h2 h3
    exact ⟨_, rfl, k44_mk w l[j] h1 h2, h3⟩
theorem fA_C {B : Nat} {l : List S44} {vs : Nat → Sl} {q : Nat} {S : Nat → Prop} (h : (fA B l vs q).P S w) : (fT l q).f3.length ≤ (vs q).2 ∧ k46.C w (vs q).1 (fT l q).f3.length (fT l q).f3 := by
  obtain ⟨A, c, e1, e2, h3⟩ := Kd.R_reads h.1
  cases e1
  exact ⟨e2, h3⟩
theorem copy_C {B B1 : Nat} {l : List S44} {vs : Nat → Sl} {cur : Array Value} {g e : Nat} {Ss : List (Nat → Prop)} (h : SHs B1 w (bk g e cur :: (List.range l.length).map (fA B l vs)) Ss) (hn : l.length ≤ 9223372036854775807)
    (hc : ∀ j < l.length, ∀ f u, (fV l vs j).l[f]? = some u → cur[j * 4 + f]? = some u) : k44.C w (some ⟨g, 0, none⟩) l.length l := by
  match Ss, h with
  | S :: Ss, h =>
    refine C_txns h.1.2 hn hc fun j hj => ?_
    obtain ⟨S', hS'⟩ := SHs.mem h.2.2.2 (List.mem_map_of_mem (List.mem_range.mpr hj))
    exact fA_C hS'
  | [], h => exact h.elim
theorem copy_step {B : Nat} {l : List S44} {vs : Nat → Sl} {j : Nat} {t : S44} (ht : fT l j = t) {A7 : Option Addr} {c7 : Nat} {v1 : Value}
    (h : SH w0 w (rw' B k46 46 (.slice A7 t.f3.length c7) t.f3 :: rw' B kraw 44 v1 ((List.range j).map (fV l vs) ++ [tV t A7 t.f3.length c7]) :: (List.range j).map (fA B l vs))) :
    SH w0 w (rw' B kraw 44 v1 ((List.range (j + 1)).map (fV l fun q => if q = j then (A7, c7) else vs q)) :: (List.range (j + 1)).map (fA B l fun q => if q = j then (A7, c7) else vs q)) := by
  subst ht
  have e1 : (List.range j).map (fV l fun q => if q = j then (A7, c7) else vs q) = (List.range j).map (fV l vs) := List.map_congr_left fun q hq => by
    have : q ≠ j := by have := List.mem_range.mp hq; omega
    simp [fV, this]
  have e2 : (List.range j).map (fA B l fun q => if q = j then (A7, c7) else vs q) = (List.range j).map (fA B l vs) := List.map_congr_left fun q hq => by
    have : q ≠ j := by have := List.mem_range.mp hq; omega
    simp [fA, this]
  rw [List.range_succ, List.map_append, List.map_append, e1, e2]
  have e3 : [tV (fT l j) A7 (fT l j).f3.length c7] = List.map (fV l fun q => if q = j then (A7, c7) else vs q) [j] := by simp [fV]
  have e4 : [rw' B k46 46 (.slice A7 (fT l j).f3.length c7) (fT l j).f3] = List.map (fA B l fun q => if q = j then (A7, c7) else vs q) [j] := by simp [fA]
  rw [← e3, ← e4]
  refine h.perm ?_
  refine (List.Perm.swap ..).trans (List.Perm.cons _ ?_)
  exact List.perm_append_comm (l₁ := [_])
end
end Go.Proofs.Ytfocaefnmfkojaa.H
namespace Go.Proofs.Ytfocaefnmfkojaa.H
open Go.RowKit Go.Maps Go.Proofs.Ytfocaefnmfkojaa.Q Go.Proofs.YtfocaefnmfkojaaW.PrintWords Go.Proofs.YtfocaefnmfkojaaW.PrintLast Go.Proofs.YtfocaefnmfkojaaW.PrintMore
set_option linter.unusedVariables false
set_option linter.unusedSimpArgs false
section
variable {w0 w w' : World} {L L' : List Asn}
theorem SH.openCopy {B : Nat} {l : List S44} {vs : Nat → Sl} {v : Value} (h : SH w0 w (rw' B kraw 44 v ((List.range l.length).map (fV l vs)) :: L)) (hne : 0 < l.length) :
    ∃ g cap cur, v = .slice (some ⟨g, 0, none⟩) l.length cap ∧ l.length ≤ cap ∧ cur.size = cur.size ∧ (∀ j < l.length, ∀ f u, (fV l vs j).l[f]? = some u → cur[j * 4 + f]? = some u) ∧ SH w0 w (bk g 44 cur :: L) := by
  obtain ⟨g, cap, cur, e1, h1, _, h2, h3⟩ := h.openRow (by simpa using hne)
  simp only [List.length_map, List.length_range] at e1 h1 h2
  refine ⟨g, cap, cur, e1, h1, rfl, fun j hj f u hf => ?_, h3⟩
  obtain ⟨cs, _, hK, hc⟩ := h2 j hj
  have hK' : cs = (fV l vs j).l := by
    have : cs = V4.l ((List.map (fV l vs) (List.range l.length))[j]'(by simpa using hj)) := hK
    simpa using this
  exact hc f u (by rw [hK']; exact hf)
theorem SH.foldCopy {B : Nat} {l : List S44} {vs : Nat → Sl} {g cap : Nat} {cur : Array Value} (h : SH w0 w (bk g 44 cur :: ((List.range l.length).map (fA B l vs) ++ L))) (hcap : l.length ≤ cap) (hn : l.length ≤ 9223372036854775807)
    (hc : ∀ j < l.length, ∀ f u, (fV l vs j).l[f]? = some u → cur[j * 4 + f]? = some u) : SH w0 w (vw k44 44 (.slice (some ⟨g, 0, none⟩) l.length cap) l :: L) :=
  SH.fold (L1 := bk g 44 cur :: (List.range l.length).map (fA B l vs)) h rfl hcap fun W' ⟨Ss, hSs⟩ => copy_C hSs hn hc
theorem SH.mem {A : Asn} (h : SH w0 w L) (hA : A ∈ L) : ∃ S, A.P S w := by
  obtain ⟨_, Ss, h⟩ := h
  exact SHs.mem h hA
theorem SH.changed {l : List S44} {vs : Nat → Sl} {g e : Nat} {cur : Array Value} (h : SH w0 w L) (hb : bk g e cur ∈ L) (hn : l.length ≤ 9223372036854775807)
    (hc : ∀ j < l.length, ∀ f u, (fV l vs j).l[f]? = some u → cur[j * 4 + f]? = some u) (hi : ∀ j < l.length, ∃ B, fA B l vs j ∈ L) : k44.C w (some ⟨g, 0, none⟩) l.length l := by
  obtain ⟨S, hS⟩ := h.mem hb
  refine C_txns hS.2 hn hc fun j hj => ?_
  obtain ⟨B, hB⟩ := hi j hj
  obtain ⟨S', hS'⟩ := h.mem hB
  exact fA_C hS'
theorem SH.pick {B : Nat} {l : List S44} {vs : Nat → Sl} {j n : Nat} (hB : w0.heap.size ≤ B) (hj : j < n) (h : SH w0 w ((List.range n).map (fA B l vs) ++ L)) : ∃ Lo, SH w0 w (fA w0.heap.size l vs j :: (Lo ++ L)) ∧ ∀ q < n, q ≠ j → fA B l vs q ∈ Lo := by
  refine ⟨((List.range n).erase j).map (fA B l vs), ?_, fun q hq hne => List.mem_map_of_mem ((List.mem_erase_of_ne hne).mpr (List.mem_range.mpr hq))⟩
  have hp : (List.range n).Perm (j :: (List.range n).erase j) := List.perm_cons_erase (List.mem_range.mpr hj)
  have h2 : SH w0 w (fA B l vs j :: (((List.range n).erase j).map (fA B l vs) ++ L)) := h.perm ((hp.map (fA B l vs)).append_right L)
  exact h2.weak fun S hS _ => ⟨S, ⟨Kd.R_lower hS.1 hB, hS.2⟩, fun _ hk => hk⟩
theorem C_take {α : Type} {d : Kd α} {A : Option Addr} {n m : Nat} {xs : List α} (h : d.C w A n xs) (hm : m ≤ n) : d.C w A m (xs.take m) := by
  obtain ⟨h1, h2, h3⟩ := h
  refine ⟨by rw [List.length_take]; omega, by omega, fun hp => ?_⟩
  obtain ⟨ad, e, hc⟩ := h3 (by omega)
  refine ⟨ad, e, fun j p hj => hc j p ?_⟩
  rw [List.getElem?_take] at hj
  split at hj
  · exact hj
  · cases hj
theorem C_nil' {α : Type} (d : Kd α) (A : Option Addr) (w : World) : d.C w A ([] : List α).length [] := ⟨rfl, by simp, fun h => absurd h (by simp)⟩
theorem u8_wf {x : Int} (h : (Lit.int IntKind.u8 x).wf = true) : 0 ≤ x ∧ x ≤ 255 := by
  have h2 : (decide ((0 : Int) ≤ x) && decide (x ≤ (255 : Int))) = true := h
  simpa using h2
theorem fT_set_eq {l : List S44} {j : Nat} (hj : j < l.length) (t : S44) : fT (l.set j t) j = t := by
  rw [fT_get (by simpa using hj)]; simp
theorem fT_set_ne {l : List S44} {j q : Nat} (h : q ≠ j) (t : S44) : fT (l.set j t) q = fT l q := by
  unfold fT
  simp only [List.getD_eq_getElem?_getD]
  rw [List.getElem?_set_ne (fun e => h e.symm)]
theorem cur_set {l : List S44} {vs vs' : Nat → Sl} {cur : Array Value} {j f0 : Nat} {u0 : Value} {t' : S44} (hj : j < l.length) (hc : ∀ q < l.length, ∀ f u, (fV l vs q).l[f]? = some u → cur[q * 4 + f]? = some u)
    (hf0 : f0 < 4) (hv : (tV t' (vs' j).1 t'.f3.length (vs' j).2).l = ((fV l vs j).l).set f0 u0) (hvs : ∀ q, q ≠ j → vs' q = vs q) :
    ∀ q < (l.set j t').length, ∀ f u, (fV (l.set j t') vs' q).l[f]? = some u → (cur.setIfInBounds (j * 4 + f0) u0)[q * 4 + f]? = some u := by
  intro q hq f u hf
  rw [List.length_set] at hq
  have hf4 : f < 4 := (List.getElem?_eq_some_iff.mp hf).1
  have hsz : ∀ f, f < 4 → j * 4 + f < cur.size := fun f hf => by
    have h1 : f < (fV l vs j).l.length := hf
    have := hc j hj f _ (List.getElem?_eq_getElem h1)
    exact (Array.getElem?_eq_some_iff.mp this).1
  rw [Array.getElem?_setIfInBounds]
  by_cases hqj : q = j
  · subst hqj
    unfold fV at hf
    rw [fT_set_eq hj, hv] at hf
    by_cases hff : f = f0
    · subst hff
      rw [List.getElem?_set_self (show f < (fV l vs q).l.length from hf4)] at hf
      rw [if_pos rfl, if_pos (hsz f hf4)]
      exact hf
    · rw [List.getElem?_set_ne (fun e => hff e.symm)] at hf
      rw [if_neg (by omega)]
      exact hc q hj f u hf
  · rw [if_neg (by omega)]
    unfold fV at hf
    rw [fT_set_ne hqj, hvs q hqj] at hf
    exact hc q hq f u hf
theorem fA_ne {B : Nat} {l : List S44} {vs vs' : Nat → Sl} {j q : Nat} (hq : q ≠ j) (hvs : ∀ q, q ≠ j → vs' q = vs q) (t : S44) : fA B (l.set j t) vs' q = fA B l vs q := by
  unfold fA
  rw [fT_set_ne hq, hvs q hq]
theorem fA_eq {B : Nat} {l : List S44} {vs' : Nat → Sl} {j : Nat} (hj : j < l.length) (t : S44) : fA B (l.set j t) vs' j = rw' B k46 46 (.slice (vs' j).1 t.f3.length (vs' j).2) t.f3 := by
  unfold fA
  rw [fT_set_eq hj]
theorem SH.changed1 {B1 B : Nat} {l : List S44} {vs vs' : Nat → Sl} {g e : Nat} {cur cur' : Array Value} {j : Nat} {t' : S44} (h : SH w0 w L) (hj : j < l.length) (hn : l.length ≤ 9223372036854775807) (hb : bk g e cur' ∈ L)
    (hc : ∀ q < (l.set j t').length, ∀ f u, (fV (l.set j t') vs' q).l[f]? = some u → cur'[q * 4 + f]? = some u) (hvs : ∀ q, q ≠ j → vs' q = vs q)
    (hA : rw' B k46 46 (.slice (vs' j).1 t'.f3.length (vs' j).2) t'.f3 ∈ L) (hi : ∀ q < l.length, q ≠ j → fA B1 l vs q ∈ L) : k44.C w (some ⟨g, 0, none⟩) (l.set j t').length (l.set j t') :=
  h.changed hb (by simpa using hn) hc fun q hq => by
    by_cases hqj : q = j
    · subst hqj
      exact ⟨B, by rw [fA_eq hj]; exact hA⟩
    · exact ⟨B1, by rw [fA_ne hqj hvs]; exact hi q (by simpa using hq) hqj⟩
theorem wrap_ne (x : Int) : wrap64 (x + 1) ≠ x := by
  unfold wrap64
  omega
theorem set_ne {l : List S44} {j : Nat} (hj : j < l.length) {t : S44} (ht : t ≠ l[j]) : l.set j t ≠ l := fun e => by
  have h1 := fT_set_eq hj t
  rw [e, fT_get hj] at h1
  exact ht h1.symm
theorem SH.slice_of {α : Type} {d : Kd α} {B e : Nat} {v : Value} {xs : List α} (h : SH w0 w L) (hat : At (rw' B d e v xs) (rw' B d e v xs) L L) : ∃ A c, v = .slice A xs.length c := by
  obtain ⟨A, c, e1, _, _⟩ := h.row hat
  exact ⟨A, c, e1⟩
theorem SH.changed2 {B1 : Nat} {l : List S44} {vs : Nat → Sl} {g e gi ei capi : Nat} {cur curi : Array Value} {j : Nat} {t' : S44} (h : SH w0 w L) (hj : j < l.length) (hn : l.length ≤ 9223372036854775807) (hb : bk g e cur ∈ L) (hbi : bk gi ei curi ∈ L)
    (hc : ∀ q < (l.set j t').length, ∀ f u, (fV (l.set j t') vs q).l[f]? = some u → cur[q * 4 + f]? = some u) (hv : vs j = (some ⟨gi, 0, none⟩, capi)) (hcap : t'.f3.length ≤ capi) (hn3 : t'.f3.length ≤ 9223372036854775807)
    (hci : ∀ q (hq : q < t'.f3.length), curi[q * 3]? = some (.bool (t'.f3[q]).f0) ∧ curi[q * 3 + 1]? = some (.int .i64 (t'.f3[q]).f1) ∧ curi[q * 3 + 2]? = some (.int .i64 (t'.f3[q]).f2)) (hi : ∀ q < l.length, q ≠ j → fA B1 l vs q ∈ L) : k44.C w (some ⟨g, 0, none⟩) (l.set j t').length (l.set j t') := by
  obtain ⟨S, hS⟩ := h.mem hb
  obtain ⟨Si, hSi⟩ := h.mem hbi
  refine C_txns hS.2 (by simpa using hn) hc fun q hq => ?_
  by_cases hqj : q = j
  · subst hqj
    rw [fT_set_eq hj, hv]
    refine ⟨hcap, C_of_bk hSi.2 hn3 fun q2 hq2 => ⟨_, rfl, k46_mk w _, fun f u hf => ?_⟩⟩
    obtain ⟨h1, h2, h3⟩ := hci q2 hq2
    match f, hf with
    | 0, hf => cases hf; exact h1
    | 1, hf => cases hf; exact h2
    | 2, hf => cases hf; exact h3
  · rw [fT_set_ne hqj]
    obtain ⟨S', hS'⟩ := h.mem (hi q (by simpa using hq) hqj)
    exact fA_C hS'
theorem ops_cells {ops : List S46} {cur : Array Value} (h : ∀ j (hj : j < ops.length), ∃ cs, cs.length = k46.sz ∧ k46.K w ops[j] cs ∧ ∀ f u, cs[f]? = some u → cur[j * k46.sz + f]? = some u) (q : Nat) (hq : q < ops.length) :
    cur[q * 3]? = some (.bool (ops[q]).f0) ∧ cur[q * 3 + 1]? = some (.int .i64 (ops[q]).f1) ∧ cur[q * 3 + 2]? = some (.int .i64 (ops[q]).f2) := by
  obtain ⟨cs, _, hK, hc⟩ := h q hq
  obtain rfl := k46_open hK
  exact ⟨hc 0 _ rfl, hc 1 _ rfl, hc 2 _ rfl⟩
theorem ops_set {ops : List S46} {cur : Array Value} (h : ∀ q (hq : q < ops.length), cur[q * 3]? = some (.bool (ops[q]).f0) ∧ cur[q * 3 + 1]? = some (.int .i64 (ops[q]).f1) ∧ cur[q * 3 + 2]? = some (.int .i64 (ops[q]).f2)) {p : Nat} (hp : p < ops.length) (x : Int) :
    ∀ q (hq : q < (ops.set p ⟨(ops[p]).f0, (ops[p]).f1, x⟩).length), (cur.setIfInBounds (p * 3 + 2) (.int .i64 x))[q * 3]? = some (.bool ((ops.set p ⟨(ops[p]).f0, (ops[p]).f1, x⟩)[q]).f0) ∧ (cur.setIfInBounds (p * 3 + 2) (.int .i64 x))[q * 3 + 1]? = some (.int .i64 ((ops.set p ⟨(ops[p]).f0, (ops[p]).f1, x⟩)[q]).f1) ∧ (cur.setIfInBounds (p * 3 + 2) (.int .i64 x))[q * 3 + 2]? = some (.int .i64 ((ops.set p ⟨(ops[p]).f0, (ops[p]).f1, x⟩)[q]).f2) := by
  intro q hq
  rw [List.length_set] at hq
  obtain ⟨h1, h2, h3⟩ := h q hq
  have hsz : p * 3 + 2 < cur.size := (Array.getElem?_eq_some_iff.mp (h p hp).2.2).1
  simp only [Array.getElem?_setIfInBounds]
  rw [if_neg (show ¬ p * 3 + 2 = q * 3 by omega), if_neg (show ¬ p * 3 + 2 = q * 3 + 1 by omega)]
  by_cases hqp : q = p
  · subst hqp
    simp [hsz, h1, h2]
  · rw [if_neg (show ¬ p * 3 + 2 = q * 3 + 2 by omega), List.getElem_set_ne (fun e => hqp e.symm)]
    exact ⟨h1, h2, h3⟩
end
end Go.Proofs.Ytfocaefnmfkojaa.H
namespace Go.Proofs.Ytfocaefnmfkojaa.Q
set_option maxRecDepth 10000
theorem zv3 (w : World) : (zeroValue 3).run Try.prog w = .ok (.int .i64 0) w := by kernel_rfl
theorem sz3 : (Try.prog.info? 3).map (·.size) = some 1 := by kernel_rfl
theorem sz4 : (Try.prog.info? 4).map (·.size) = some 1 := by kernel_rfl
theorem sz36 : (Try.prog.info? 36).map (·.size) = some 1 := by kernel_rfl
theorem zv130 (w : World) : (zeroValue 130).run Try.prog w = .ok (.agg #[]) w := by kernel_rfl
theorem sz130 : (Try.prog.info? 130).map (·.size) = some 0 := by kernel_rfl
theorem zv46 (w : World) : (zeroValue 46).run Try.prog w = .ok (.agg #[.bool false, .int .i64 0, .int .i64 0]) w := by kernel_rfl
theorem sz46 : (Try.prog.info? 46).map (·.size) = some 3 := by kernel_rfl
theorem zv44 (w : World) : (zeroValue 44).run Try.prog w = .ok (.agg #[.int .i64 0, .int .i64 0, .int .i64 0, .slice none 0 0]) w := by kernel_rfl
theorem sz44 : (Try.prog.info? 44).map (·.size) = some 4 := by kernel_rfl
theorem zv48 (w : World) : (zeroValue 48).run Try.prog w = .ok (.agg #[.int .i64 0, .int .i64 0, .bool false]) w := by kernel_rfl
theorem sz48 : (Try.prog.info? 48).map (·.size) = some 3 := by kernel_rfl
theorem sz42 : (Try.prog.info? 42).map (·.size) = some 1 := by kernel_rfl
theorem sz23 : (Try.prog.info? 23).map (·.size) = some 1 := by kernel_rfl
theorem sz50 : (Try.prog.info? 50).map (·.size) = some 1 := by kernel_rfl
theorem sz128 : (Try.prog.info? 128).map (·.size) = some 1 := by kernel_rfl
theorem sz133 : (Try.prog.info? 133).map (·.size) = some 1 := by kernel_rfl
theorem sz39 : (Try.prog.info? 39).map (·.size) = some 1 := by kernel_rfl
end Go.Proofs.Ytfocaefnmfkojaa.Q
namespace Go.Proofs.Ytfocaefnmfkojaa.Q
open Go.RowKit Go.Proofs.YtfocaefnmfkojaaW.PrintWords Go.Proofs.YtfocaefnmfkojaaW.PrintLast Go.Proofs.YtfocaefnmfkojaaW.PrintMore
open Go.Proofs.Ytfocaefnmfkojaa
set_option linter.unusedVariables false
set_option linter.unusedSimpArgs false
set_option maxHeartbeats 2000000 in
set_option maxRecDepth 100000 in
theorem history_Copy.calls (w : World) (A : Option Addr) (c : Nat) (l : List S44) (hC : Kd.C k44 w A l.length l) (hc : l.length ≤ c) (hl1 : l.length ≤ 1000) (hl2 : ∀ t ∈ l, t.f3.length ≤ 10000) :
    Calls Try.prog 31 #[.slice A l.length c] w fun e w' => ∃ (v : Value) (vs : Nat → H.Sl), e = .returned v ∧ H.SH w w' (H.rw' w.heap.size H.kraw 44 v ((List.range l.length).map (H.fV l vs)) :: (List.range l.length).map (H.fA w.heap.size l vs)) := by
  have hu44 := Try.underlying44
  have hu46 := Try.underlying46
  have HR := Aside0.mk hC
  have HL := Aside0.mk hl2
  clear hC hl2
  have HS := Aside0.mk (H.SH.start w)
  go_enter Try.func31, Try.ntmps31
  go_wp2_with (first
    | (skip; at_make; refine' H.ev_make0 H.kraw (n := l.length) HS.out ?q9hw ?q9ho Try.underlying23 info44 ?q9hl ?q9hc (by omega) (by unfold maxLen; omega) ?_; (case q9hw => rfl); (case q9ho => rfl); (case q9hl => rfl); (case q9hc => rfl); intro v6 w_ hs; clear HS; have HS := Aside0.mk hs; clear hs)
    )
  go_loopg [3, 11] l.length (fun g b i wr => ∃ (j : Nat) (v : Value) (vs : Nat → H.Sl), b = v ∧ i = .int .i64 (j : Int) ∧ Aside0 (g + j = l.length) ∧ Aside0 (H.SH w wr (H.rw' w.heap.size H.kraw 44 v ((List.range j).map (H.fV l vs)) :: (List.range j).map (H.fA w.heap.size l vs))))
  case atStart => exact ⟨0, v6, fun _ => (none, 0), rfl, rfl, ⟨rfl⟩, HS⟩
  case round =>
    clear HS
    obtain ⟨j, v, vs, rfl, rfl, HG, HS⟩ := hrel
    by_cases hj : j < l.length
    · have hjb : decide ((j : Int) < (l.length : Int)) = true := decide_eq_true (by omega)
      have hlo := HL.out _ (List.getElem_mem hj)
      go_wp2_with (first
        | (skip; (with_reducible refine H.gate_idx rfl ?_); refine' H.ev_idx0 HS.out HR.out ?q9hw ?q9ho ?q9hx ?q9hix Try.underlying23 sz44 hj ?_; (case q9hw => rfl); (case q9ho => rfl); (case q9hx => rfl); (case q9hix => rfl); intro p1 cs1 hK1 hp1; obtain ⟨A3, c3, rfl, hc3, hC3⟩ := k44_open hK1; have HC3 := Aside0.mk hC3; clear hC3; have HP1 := Aside0.mk hp1; clear hp1 hK1)
        | ((with_reducible refine H.gate_load rfl ?_); first | (refine' H.ev_loadb HS.out ?q9hw ?q9ho ?q9hx ?q9hu ?q9hd ?q9hat ?q9hv ?_; (case q9hw => rfl); (case q9ho => rfl); (case q9hx => rfl); (case q9hu => first | exact Try.underlying3 | exact Try.underlying4 | exact Try.underlying42 | exact Try.underlying46 | exact Try.underlying44 | exact Try.underlying23); (case q9hd => rfl); (case q9hat => first | exact .here | exact .there .here | exact .there (.there .here) | exact .there (.there (.there .here)) | exact .there (.there (.there (.there .here))) | exact .there (.there (.there (.there (.there .here))))); (case q9hv => rfl)) | (refine' H.ev_loadw HS.out ?q9hw ?q9ho ?q9hx ?q9hu ?q9hd ?q9hat ?q9hi ?_; (case q9hw => rfl); (case q9ho => rfl); (case q9hx => rfl); (case q9hu => first | exact Try.underlying3 | exact Try.underlying4 | exact Try.underlying42 | exact Try.underlying46 | exact Try.underlying44 | exact Try.underlying23); (case q9hd => rfl); (case q9hat => first | exact .here | exact .there .here | exact .there (.there .here) | exact .there (.there (.there .here)) | exact .there (.there (.there (.there .here))) | exact .there (.there (.there (.there (.there .here))))); (case q9hi => first | exact sz3 | exact sz4 | exact sz42 | exact sz46 | exact sz44 | exact sz23)) | (refine' H.ev_loadr ?q9hw ?q9ho ?q9hx ?q9hu ?q9hd HP1.out ?q9hi ?q9hcs ?_; (case q9hw => rfl); (case q9ho => rfl); (case q9hx => rfl); (case q9hu => first | exact Try.underlying3 | exact Try.underlying4 | exact Try.underlying42 | exact Try.underlying46 | exact Try.underlying44 | exact Try.underlying23); (case q9hd => rfl); (case q9hi => first | exact sz3 | exact sz4 | exact sz42 | exact sz46 | exact sz44 | exact sz23); (case q9hcs => rfl)) | (refine' H.ev_load0 ?q9hw ?q9ho ?q9hx ?q9hu ?q9hd HP1.out ?_; (case q9hw => rfl); (case q9ho => rfl); (case q9hx => rfl); (case q9hu => first | exact Try.underlying3 | exact Try.underlying4 | exact Try.underlying42 | exact Try.underlying46 | exact Try.underlying44 | exact Try.underlying23); (case q9hd => rfl)))
        | (skip; (with_reducible refine H.gate_alloc rfl ?_); refine' H.ev_alloc HS.out ?q9hw (t := 44) ?q9ho (zv44 _) ?q9hc ?_; (case q9hw => rfl); (case q9ho => rfl); (case q9hc => (try simp only [Value.cells]); rfl); intro b6 w_ hs; clear HS; have HS := Aside0.mk hs; clear hs)
        | ((with_reducible refine H.gate_sto rfl ?_); first | (refine' H.ev_store HS.out ?q9hw ?q9ho ?q9hx ?q9hy ?q9hv ?q9hi ?q9hat ?q9hlt ?q9hcs ?_; (case q9hw => rfl); (case q9ho => rfl); (case q9hx => rfl); (case q9hy => rfl); (case q9hv => rfl); (case q9hi => first | exact sz3 | exact sz4 | exact sz42 | exact sz46 | exact sz44 | exact sz23); (case q9hat => first | exact .here | exact .there .here | exact .there (.there .here) | exact .there (.there (.there .here)) | exact .there (.there (.there (.there .here))) | exact .there (.there (.there (.there (.there .here))))); (case q9hlt => first | exact Nat.le_of_ble_eq_true rfl | (simp; done) | (simp; omega)); (case q9hcs => (try simp only [Value.cells, List.setIfInBounds_toArray, List.set_cons_zero, List.set_cons_succ, Nat.zero_add, Nat.reduceAdd]); rfl); intro w_ hs; clear HS; have HS := Aside0.mk hs; clear hs) | (refine' H.ev_stores HS.out ?q9hw ?q9ho ?q9hx ?q9hy ?q9hv ?q9hi ?q9hat ?q9hlt ?q9hcs ?_; (case q9hw => rfl); (case q9ho => rfl); (case q9hx => rfl); (case q9hy => rfl); (case q9hv => simp [Value.oneCell']); (case q9hi => first | exact sz3 | exact sz4 | exact sz42 | exact sz46 | exact sz44 | exact sz23); (case q9hat => first | exact .here | exact .there .here | exact .there (.there .here) | exact .there (.there (.there .here)) | exact .there (.there (.there (.there .here))) | exact .there (.there (.there (.there (.there .here))))); (case q9hlt => first | exact Nat.le_of_ble_eq_true rfl | (simp; done) | (simp; omega)); (case q9hcs => (try simp only [H.setAll, Value.cells, List.setIfInBounds_toArray, List.set_cons_zero, List.set_cons_succ, Nat.zero_add, Nat.reduceAdd]); rfl); intro w_ hs; clear HS; have HS := Aside0.mk hs; clear hs))
        | ((with_reducible refine H.gate_load rfl ?_); first | (refine' H.ev_loadb HS.out ?q9hw ?q9ho ?q9hx ?q9hu ?q9hd ?q9hat ?q9hv ?_; (case q9hw => rfl); (case q9ho => rfl); (case q9hx => rfl); (case q9hu => first | exact Try.underlying3 | exact Try.underlying4 | exact Try.underlying42 | exact Try.underlying46 | exact Try.underlying44 | exact Try.underlying23); (case q9hd => rfl); (case q9hat => first | exact .here | exact .there .here | exact .there (.there .here) | exact .there (.there (.there .here)) | exact .there (.there (.there (.there .here))) | exact .there (.there (.there (.there (.there .here))))); (case q9hv => rfl)) | (refine' H.ev_loadw HS.out ?q9hw ?q9ho ?q9hx ?q9hu ?q9hd ?q9hat ?q9hi ?_; (case q9hw => rfl); (case q9ho => rfl); (case q9hx => rfl); (case q9hu => first | exact Try.underlying3 | exact Try.underlying4 | exact Try.underlying42 | exact Try.underlying46 | exact Try.underlying44 | exact Try.underlying23); (case q9hd => rfl); (case q9hat => first | exact .here | exact .there .here | exact .there (.there .here) | exact .there (.there (.there .here)) | exact .there (.there (.there (.there .here))) | exact .there (.there (.there (.there (.there .here))))); (case q9hi => first | exact sz3 | exact sz4 | exact sz42 | exact sz46 | exact sz44 | exact sz23)))
        | ((with_reducible refine H.gate_sto rfl ?_); first | (refine' H.ev_store HS.out ?q9hw ?q9ho ?q9hx ?q9hy ?q9hv ?q9hi ?q9hat ?q9hlt ?q9hcs ?_; (case q9hw => rfl); (case q9ho => rfl); (case q9hx => rfl); (case q9hy => rfl); (case q9hv => rfl); (case q9hi => first | exact sz3 | exact sz4 | exact sz42 | exact sz46 | exact sz44 | exact sz23); (case q9hat => first | exact .here | exact .there .here | exact .there (.there .here) | exact .there (.there (.there .here)) | exact .there (.there (.there (.there .here))) | exact .there (.there (.there (.there (.there .here))))); (case q9hlt => first | exact Nat.le_of_ble_eq_true rfl | (simp; done) | (simp; omega)); (case q9hcs => (try simp only [Value.cells, List.setIfInBounds_toArray, List.set_cons_zero, List.set_cons_succ, Nat.zero_add, Nat.reduceAdd]); rfl); intro w_ hs; clear HS; have HS := Aside0.mk hs; clear hs) | (refine' H.ev_stores HS.out ?q9hw ?q9ho ?q9hx ?q9hy ?q9hv ?q9hi ?q9hat ?q9hlt ?q9hcs ?_; (case q9hw => rfl); (case q9ho => rfl); (case q9hx => rfl); (case q9hy => rfl); (case q9hv => simp [Value.oneCell']); (case q9hi => first | exact sz3 | exact sz4 | exact sz42 | exact sz46 | exact sz44 | exact sz23); (case q9hat => first | exact .here | exact .there .here | exact .there (.there .here) | exact .there (.there (.there .here)) | exact .there (.there (.there (.there .here))) | exact .there (.there (.there (.there (.there .here))))); (case q9hlt => first | exact Nat.le_of_ble_eq_true rfl | (simp; done) | (simp; omega)); (case q9hcs => (try simp only [H.setAll, Value.cells, List.setIfInBounds_toArray, List.set_cons_zero, List.set_cons_succ, Nat.zero_add, Nat.reduceAdd]); rfl); intro w_ hs; clear HS; have HS := Aside0.mk hs; clear hs))
        | ((with_reducible refine gate_dst (N := 17) rfl ?_); (with_reducible refine gate_builtin (b := .append) rfl ?_); refine' H.ev_copied k46 HS.out ?q9hw ?q9ho Try.underlying42 info46 rfl (by decide) (by decide) ?q9hs ?q9hx (Kd.C_below HC3.out HS.out.below) (fun x cs h => by obtain rfl := k46_open h; exact k46_mkM _ _ _ x) (by omega) ?_; (case q9hw => rfl); (case q9ho => rfl); (case q9hs => rfl); (case q9hx => rfl); intro A7 c7 w_ hs; clear HS; have HS := Aside0.mk hs; clear hs)
        | ((with_reducible refine gate_dst (N := 22) rfl ?_); (with_reducible refine gate_builtin (b := .append) rfl ?_); refine' H.ev_append H.kraw HS.out ?q9hw ?q9ho Try.underlying23 info44 rfl (by decide) (by decide) (p := H.tV l[j] A7 l[j].f3.length c7) ?q9hs ?q9hx ?q9hp ?q9hat ?q9hl ?_; (case q9hw => rfl); (case q9ho => rfl); (case q9hs => rfl); (case q9hx => rfl); (case q9hp => rfl); (case q9hat => first | exact .here | exact .there .here | exact .there (.there .here) | exact .there (.there (.there .here)) | exact .there (.there (.there (.there .here))) | exact .there (.there (.there (.there (.there .here))))); (case q9hl => simp; omega); intro v1 w_ hs; clear HS; have HS := Aside0.mk hs; clear hs)
        )
      go_roundg (l.length - (j + 1))
      case measure => have := HG.out; omega
      case rel => exact ⟨j + 1, v1, (fun q => if q = j then (A7, c7) else vs q), rfl, by first | go_num | (simp; omega), ⟨by have := HG.out; omega⟩, ⟨H.copy_step (H.fT_get hj) (HS.out.sub (by repeat (first | exact List.Sublist.slnil | exact List.Sublist.refl _ | refine List.Sublist.cons_cons _ ?_ | refine List.Sublist.cons _ ?_)))⟩⟩
    · have hjb : decide ((j : Int) < (l.length : Int)) = false := decide_eq_false (by omega)
      obtain rfl : j = l.length := by have := HG.out; omega
      go_wp2
      go_ret
      exact ⟨_, vs, rfl, HS.out⟩
end Go.Proofs.Ytfocaefnmfkojaa.Q
namespace Go.Proofs.Ytfocaefnmfkojaa.Q
open Go.RowKit Go.Proofs.YtfocaefnmfkojaaW.PrintWords Go.Proofs.YtfocaefnmfkojaaW.PrintLast Go.Proofs.YtfocaefnmfkojaaW.PrintMore
open Go.Proofs.Ytfocaefnmfkojaa
set_option linter.unusedVariables false
set_option linter.unusedSimpArgs false
def okOps (l : List S46) : Bool := R.keysOk l && decide (l.length ≤ 1000000000000)
theorem okOps_get {l : List S46} (h : okOps l = true) : R.keysOk l = true ∧ l.length ≤ 1000000000000 := by
  unfold okOps at h
  simpa using h
theorem guard_some {α : Type} {c : Bool} {x r : α} (h : (if c = true then some x else none) = some r) : c = true ∧ x = r := by
  by_cases hc : c = true
  · rw [if_pos hc] at h; exact ⟨hc, Option.some.inj h⟩
  · rw [if_neg hc] at h; cases h
def txn_Steady.f (a b c : Int) (l : List S46) : Option Bool := if okOps l = true then some (R.steady l) else none
set_option maxHeartbeats 4000000 in
set_option maxRecDepth 100000 in
theorem txn_Steady.calls (a0_0 : Int) (a0_1 : Int) (a0_2 : Int) (A0_3 : Option Addr) (c0_3 : Nat) (l0_3 : List (S46)) (r : Bool) (w : World) (hr0_3 : Kd.C k46 w A0_3 l0_3.length l0_3) (hc0_3 : l0_3.length ≤ c0_3) (h : txn_Steady.f a0_0 a0_1 a0_2 l0_3 = some r) :
    Calls Try.prog 97 #[.agg #[.int .i64 a0_0, .int .i64 a0_1, .int .i64 a0_2, .slice A0_3 l0_3.length c0_3]] w fun e w' => e = .returned (.bool r) ∧ Below w.heap.size w w' := by
  have hu44 := Try.underlying44
  have hu46 := Try.underlying46
  have HR := Aside0.mk hr0_3
  obtain ⟨hg, hr⟩ := guard_some h
  have HE := Aside0.mk hr
  have HO := Aside0.mk (okOps_get hg).1
  have hlen := (okOps_get hg).2
  clear h hg hr hr0_3 hc0_3
  have HS := Aside0.mk (H.SH.start w)
  go_enter Try.func97, Try.ntmps97
  go_wp2_with (first
    | (skip; (with_reducible refine H.gate_box rfl ?_); refine' H.ev_boxv HS.out ?q9hw (t := 44) ?q9ho ?q9hx ?q9hc ?_; (case q9hw => rfl); (case q9ho => rfl); (case q9hx => rfl); (case q9hc => rfl); intro b1 w_ hs; clear HS; have HS := Aside0.mk hs; clear hs)
    | (skip; (with_reducible refine H.gate_mk rfl ?_); refine' H.ev_mmake HS.out ?q9hw 50 3 ?q9ho ?_; (case q9hw => rfl); (case q9ho => rfl); intro w_ m hs; clear HS; have HS := Aside0.mk hs; clear hs)
    | ((with_reducible refine H.gate_load rfl ?_); first | (refine' H.ev_loadb HS.out ?q9hw ?q9ho ?q9hx ?q9hu ?q9hd ?q9hat ?q9hv ?_; (case q9hw => rfl); (case q9ho => rfl); (case q9hx => rfl); (case q9hu => first | exact Try.underlying3 | exact Try.underlying4 | exact Try.underlying42 | exact Try.underlying46 | exact Try.underlying44 | exact Try.underlying130 | exact Try.underlying128 | exact Try.underlying50 | exact Try.underlying133); (case q9hd => rfl); (case q9hat => first | exact .here | exact .there .here | exact .there (.there .here) | exact .there (.there (.there .here)) | exact .there (.there (.there (.there .here))) | exact .there (.there (.there (.there (.there .here))))); (case q9hv => rfl)) | (refine' H.ev_loadw HS.out ?q9hw ?q9ho ?q9hx ?q9hu ?q9hd ?q9hat ?q9hi ?_; (case q9hw => rfl); (case q9ho => rfl); (case q9hx => rfl); (case q9hu => first | exact Try.underlying3 | exact Try.underlying4 | exact Try.underlying42 | exact Try.underlying46 | exact Try.underlying44 | exact Try.underlying130 | exact Try.underlying128 | exact Try.underlying50 | exact Try.underlying133); (case q9hd => rfl); (case q9hat => first | exact .here | exact .there .here | exact .there (.there .here) | exact .there (.there (.there .here)) | exact .there (.there (.there (.there .here))) | exact .there (.there (.there (.there (.there .here))))); (case q9hi => first | exact sz3 | exact sz4 | exact sz42 | exact sz46 | exact sz44 | exact sz130 | exact sz128 | exact sz50 | exact sz133)))
    )
  go_loopg [12] l0_3.length (fun g i wr => ∃ j : Nat, i = .int .i64 (j : Int) ∧ Aside0 (g + j = l0_3.length) ∧ Aside0 (H.SH w wr [H.mp Try.prog 3 m (R.lastM l0_3 j)]) ∧ Aside0 (∀ i, i < j → R.steadyAt l0_3 i = true))
  case atStart => exact ⟨0, rfl, ⟨rfl⟩, ⟨HS.out.sub (by repeat (first | exact List.Sublist.slnil | refine List.Sublist.cons_cons _ ?_ | refine List.Sublist.cons _ ?_))⟩, ⟨fun i hi => absurd hi (Nat.not_lt_zero i)⟩⟩
  case round =>
    obtain ⟨j, rfl, HG, HS, HI⟩ := hrel
    by_cases hj : j < l0_3.length
    · have hjb : decide ((j : Int) < (l0_3.length : Int)) = true := decide_eq_true (by omega)
      have hk := R.I64_key (R.keysOk_at HO.out j hj)
      have HGet := Aside0.mk (R.lastM_get l0_3 (l0_3[j]).f1 j (by omega))
      have HF := Aside0.mk (R.steadyAt_eq l0_3 j hj)
      have hl' := R.lastM_len l0_3 j (by omega)
      cases hp : R.prev l0_3 j (l0_3[j]).f1 with
      | none =>
        rw [hp] at HGet HF
        clear hp
        go_wp2_with (first
          | (skip; (with_reducible refine H.gate_idx rfl ?_); refine' H.ev_idx (Kd.C_below HR.out HS.out.below) ?q9hw ?q9ho ?q9hx ?q9hix Try.underlying42 sz46 hj ?_; (case q9hw => rfl); (case q9ho => rfl); (case q9hx => rfl); (case q9hix => rfl); intro p1 cs1 hK1 hp1; obtain rfl := k46_open hK1; skip; have HP1 := Aside0.mk hp1; clear hp1 hK1)
          | ((with_reducible refine H.gate_load rfl ?_); first | (refine' H.ev_loadb HS.out ?q9hw ?q9ho ?q9hx ?q9hu ?q9hd ?q9hat ?q9hv ?_; (case q9hw => rfl); (case q9ho => rfl); (case q9hx => rfl); (case q9hu => first | exact Try.underlying3 | exact Try.underlying4 | exact Try.underlying42 | exact Try.underlying46 | exact Try.underlying44 | exact Try.underlying130 | exact Try.underlying128 | exact Try.underlying50 | exact Try.underlying133); (case q9hd => rfl); (case q9hat => first | exact .here | exact .there .here | exact .there (.there .here) | exact .there (.there (.there .here)) | exact .there (.there (.there (.there .here))) | exact .there (.there (.there (.there (.there .here))))); (case q9hv => rfl)) | (refine' H.ev_loadw HS.out ?q9hw ?q9ho ?q9hx ?q9hu ?q9hd ?q9hat ?q9hi ?_; (case q9hw => rfl); (case q9ho => rfl); (case q9hx => rfl); (case q9hu => first | exact Try.underlying3 | exact Try.underlying4 | exact Try.underlying42 | exact Try.underlying46 | exact Try.underlying44 | exact Try.underlying130 | exact Try.underlying128 | exact Try.underlying50 | exact Try.underlying133); (case q9hd => rfl); (case q9hat => first | exact .here | exact .there .here | exact .there (.there .here) | exact .there (.there (.there .here)) | exact .there (.there (.there (.there .here))) | exact .there (.there (.there (.there (.there .here))))); (case q9hi => first | exact sz3 | exact sz4 | exact sz42 | exact sz46 | exact sz44 | exact sz130 | exact sz128 | exact sz50 | exact sz133)) | (refine' H.ev_loadr ?q9hw ?q9ho ?q9hx ?q9hu ?q9hd HP1.out ?q9hi ?q9hcs ?_; (case q9hw => rfl); (case q9ho => rfl); (case q9hx => rfl); (case q9hu => first | exact Try.underlying3 | exact Try.underlying4 | exact Try.underlying42 | exact Try.underlying46 | exact Try.underlying44 | exact Try.underlying130 | exact Try.underlying128 | exact Try.underlying50 | exact Try.underlying133); (case q9hd => rfl); (case q9hi => first | exact sz3 | exact sz4 | exact sz42 | exact sz46 | exact sz44 | exact sz130 | exact sz128 | exact sz50 | exact sz133); (case q9hcs => rfl)) | (refine' H.ev_load0 ?q9hw ?q9ho ?q9hx ?q9hu ?q9hd HP1.out ?_; (case q9hw => rfl); (case q9ho => rfl); (case q9hx => rfl); (case q9hu => first | exact Try.underlying3 | exact Try.underlying4 | exact Try.underlying42 | exact Try.underlying46 | exact Try.underlying44 | exact Try.underlying130 | exact Try.underlying128 | exact Try.underlying50 | exact Try.underlying133); (case q9hd => rfl)))
          | (skip; (with_reducible refine H.gate_alloc rfl ?_); refine' H.ev_alloc HS.out ?q9hw (t := 46) ?q9ho (zv46 _) ?q9hc ?_; (case q9hw => rfl); (case q9ho => rfl); (case q9hc => (try simp only [Value.cells]); rfl); intro b6 w_ hs; clear HS; have HS := Aside0.mk hs; clear hs)
          | ((with_reducible refine H.gate_sto rfl ?_); first | (refine' H.ev_store HS.out ?q9hw ?q9ho ?q9hx ?q9hy ?q9hv ?q9hi ?q9hat ?q9hlt ?q9hcs ?_; (case q9hw => rfl); (case q9ho => rfl); (case q9hx => rfl); (case q9hy => rfl); (case q9hv => rfl); (case q9hi => first | exact sz3 | exact sz4 | exact sz42 | exact sz46 | exact sz44 | exact sz130 | exact sz128 | exact sz50 | exact sz133); (case q9hat => first | exact .here | exact .there .here | exact .there (.there .here) | exact .there (.there (.there .here)) | exact .there (.there (.there (.there .here))) | exact .there (.there (.there (.there (.there .here))))); (case q9hlt => first | exact Nat.le_of_ble_eq_true rfl | (simp; done) | (simp; omega)); (case q9hcs => (try simp only [Value.cells, List.setIfInBounds_toArray, List.set_cons_zero, List.set_cons_succ, Nat.zero_add, Nat.reduceAdd]); rfl); intro w_ hs; clear HS; have HS := Aside0.mk hs; clear hs) | (refine' H.ev_stores HS.out ?q9hw ?q9ho ?q9hx ?q9hy ?q9hv ?q9hi ?q9hat ?q9hlt ?q9hcs ?_; (case q9hw => rfl); (case q9ho => rfl); (case q9hx => rfl); (case q9hy => rfl); (case q9hv => simp [Value.oneCell']); (case q9hi => first | exact sz3 | exact sz4 | exact sz42 | exact sz46 | exact sz44 | exact sz130 | exact sz128 | exact sz50 | exact sz133); (case q9hat => first | exact .here | exact .there .here | exact .there (.there .here) | exact .there (.there (.there .here)) | exact .there (.there (.there (.there .here))) | exact .there (.there (.there (.there (.there .here))))); (case q9hlt => first | exact Nat.le_of_ble_eq_true rfl | (simp; done) | (simp; omega)); (case q9hcs => (try simp only [H.setAll, Value.cells, List.setIfInBounds_toArray, List.set_cons_zero, List.set_cons_succ, Nat.zero_add, Nat.reduceAdd]); rfl); intro w_ hs; clear HS; have HS := Aside0.mk hs; clear hs))
          | (at_lookup; skip; refine' H.ev_mok HS.out (v := .int .i64 0) (s := false) ?q9hw ?q9ho Try.underlying3 Try.underlying50 (zv3 _) ?q9hm ?q9hx ?q9hat hk ?q9hv ?q9hs ?_; (case q9hw => rfl); (case q9ho => rfl); (case q9hm => rfl); (case q9hx => rfl); (case q9hat => first | exact .here | exact .there .here | exact .there (.there .here) | exact .there (.there (.there .here)) | exact .there (.there (.there (.there .here))) | exact .there (.there (.there (.there (.there .here))))); (case q9hv => rw [HGet.out]; rfl); (case q9hs => rw [HGet.out]; rfl))
          | (at_mapUpdate; first | (refine' H.ev_mput HS.out ?q9hw ?q9ho Try.underlying3 Try.underlying50 ?q9hm ?q9hx ?q9hv (R.lastM_succ l0_3 j hj).symm ?q9hat hk (by unfold maxLen; omega) ?_; (case q9hw => rfl); (case q9ho => rfl); (case q9hm => rfl); (case q9hx => rfl); (case q9hv => rfl); (case q9hat => first | exact .here | exact .there .here | exact .there (.there .here) | exact .there (.there (.there .here)) | exact .there (.there (.there (.there .here))) | exact .there (.there (.there (.there (.there .here))))); intro w_ hs; clear HS; have HS := Aside0.mk hs; clear hs))
          )
        go_roundg (l0_3.length - (j + 1))
        case measure => have := HG.out; omega
        case rel => exact ⟨j + 1, by first | go_num | (simp; omega), ⟨by have := HG.out; omega⟩, ⟨HS.out.sub (by repeat (first | exact List.Sublist.slnil | refine List.Sublist.cons_cons _ ?_ | refine List.Sublist.cons _ ?_))⟩, ⟨R.steady_round l0_3 j hj HI.out HF.out⟩⟩
      | some p =>
        rw [hp] at HGet HF
        clear hp
        cases hw : (l0_3[j]).f0 with
        | true =>
          rw [hw] at HF
          go_wp2_with (first
            | (skip; (with_reducible refine H.gate_idx rfl ?_); refine' H.ev_idx (Kd.C_below HR.out HS.out.below) ?q9hw ?q9ho ?q9hx ?q9hix Try.underlying42 sz46 hj ?_; (case q9hw => rfl); (case q9ho => rfl); (case q9hx => rfl); (case q9hix => rfl); intro p1 cs1 hK1 hp1; obtain rfl := k46_open hK1; skip; have HP1 := Aside0.mk hp1; clear hp1 hK1)
            | ((with_reducible refine H.gate_load rfl ?_); first | (refine' H.ev_loadb HS.out ?q9hw ?q9ho ?q9hx ?q9hu ?q9hd ?q9hat ?q9hv ?_; (case q9hw => rfl); (case q9ho => rfl); (case q9hx => rfl); (case q9hu => first | exact Try.underlying3 | exact Try.underlying4 | exact Try.underlying42 | exact Try.underlying46 | exact Try.underlying44 | exact Try.underlying130 | exact Try.underlying128 | exact Try.underlying50 | exact Try.underlying133); (case q9hd => rfl); (case q9hat => first | exact .here | exact .there .here | exact .there (.there .here) | exact .there (.there (.there .here)) | exact .there (.there (.there (.there .here))) | exact .there (.there (.there (.there (.there .here))))); (case q9hv => rfl)) | (refine' H.ev_loadw HS.out ?q9hw ?q9ho ?q9hx ?q9hu ?q9hd ?q9hat ?q9hi ?_; (case q9hw => rfl); (case q9ho => rfl); (case q9hx => rfl); (case q9hu => first | exact Try.underlying3 | exact Try.underlying4 | exact Try.underlying42 | exact Try.underlying46 | exact Try.underlying44 | exact Try.underlying130 | exact Try.underlying128 | exact Try.underlying50 | exact Try.underlying133); (case q9hd => rfl); (case q9hat => first | exact .here | exact .there .here | exact .there (.there .here) | exact .there (.there (.there .here)) | exact .there (.there (.there (.there .here))) | exact .there (.there (.there (.there (.there .here))))); (case q9hi => first | exact sz3 | exact sz4 | exact sz42 | exact sz46 | exact sz44 | exact sz130 | exact sz128 | exact sz50 | exact sz133)) | (refine' H.ev_loadr ?q9hw ?q9ho ?q9hx ?q9hu ?q9hd HP1.out ?q9hi ?q9hcs ?_; (case q9hw => rfl); (case q9ho => rfl); (case q9hx => rfl); (case q9hu => first | exact Try.underlying3 | exact Try.underlying4 | exact Try.underlying42 | exact Try.underlying46 | exact Try.underlying44 | exact Try.underlying130 | exact Try.underlying128 | exact Try.underlying50 | exact Try.underlying133); (case q9hd => rfl); (case q9hi => first | exact sz3 | exact sz4 | exact sz42 | exact sz46 | exact sz44 | exact sz130 | exact sz128 | exact sz50 | exact sz133); (case q9hcs => rfl)) | (refine' H.ev_load0 ?q9hw ?q9ho ?q9hx ?q9hu ?q9hd HP1.out ?_; (case q9hw => rfl); (case q9ho => rfl); (case q9hx => rfl); (case q9hu => first | exact Try.underlying3 | exact Try.underlying4 | exact Try.underlying42 | exact Try.underlying46 | exact Try.underlying44 | exact Try.underlying130 | exact Try.underlying128 | exact Try.underlying50 | exact Try.underlying133); (case q9hd => rfl)))
            | (skip; (with_reducible refine H.gate_alloc rfl ?_); refine' H.ev_alloc HS.out ?q9hw (t := 46) ?q9ho (zv46 _) ?q9hc ?_; (case q9hw => rfl); (case q9ho => rfl); (case q9hc => (try simp only [Value.cells]); rfl); intro b6 w_ hs; clear HS; have HS := Aside0.mk hs; clear hs)
            | ((with_reducible refine H.gate_sto rfl ?_); first | (refine' H.ev_store HS.out ?q9hw ?q9ho ?q9hx ?q9hy ?q9hv ?q9hi ?q9hat ?q9hlt ?q9hcs ?_; (case q9hw => rfl); (case q9ho => rfl); (case q9hx => rfl); (case q9hy => rfl); (case q9hv => rfl); (case q9hi => first | exact sz3 | exact sz4 | exact sz42 | exact sz46 | exact sz44 | exact sz130 | exact sz128 | exact sz50 | exact sz133); (case q9hat => first | exact .here | exact .there .here | exact .there (.there .here) | exact .there (.there (.there .here)) | exact .there (.there (.there (.there .here))) | exact .there (.there (.there (.there (.there .here))))); (case q9hlt => first | exact Nat.le_of_ble_eq_true rfl | (simp; done) | (simp; omega)); (case q9hcs => (try simp only [Value.cells, List.setIfInBounds_toArray, List.set_cons_zero, List.set_cons_succ, Nat.zero_add, Nat.reduceAdd]); rfl); intro w_ hs; clear HS; have HS := Aside0.mk hs; clear hs) | (refine' H.ev_stores HS.out ?q9hw ?q9ho ?q9hx ?q9hy ?q9hv ?q9hi ?q9hat ?q9hlt ?q9hcs ?_; (case q9hw => rfl); (case q9ho => rfl); (case q9hx => rfl); (case q9hy => rfl); (case q9hv => simp [Value.oneCell']); (case q9hi => first | exact sz3 | exact sz4 | exact sz42 | exact sz46 | exact sz44 | exact sz130 | exact sz128 | exact sz50 | exact sz133); (case q9hat => first | exact .here | exact .there .here | exact .there (.there .here) | exact .there (.there (.there .here)) | exact .there (.there (.there (.there .here))) | exact .there (.there (.there (.there (.there .here))))); (case q9hlt => first | exact Nat.le_of_ble_eq_true rfl | (simp; done) | (simp; omega)); (case q9hcs => (try simp only [H.setAll, Value.cells, List.setIfInBounds_toArray, List.set_cons_zero, List.set_cons_succ, Nat.zero_add, Nat.reduceAdd]); rfl); intro w_ hs; clear HS; have HS := Aside0.mk hs; clear hs))
            | (at_lookup; skip; refine' H.ev_mok HS.out (v := .int .i64 p.f2) (s := true) ?q9hw ?q9ho Try.underlying3 Try.underlying50 (zv3 _) ?q9hm ?q9hx ?q9hat hk ?q9hv ?q9hs ?_; (case q9hw => rfl); (case q9ho => rfl); (case q9hm => rfl); (case q9hx => rfl); (case q9hat => first | exact .here | exact .there .here | exact .there (.there .here) | exact .there (.there (.there .here)) | exact .there (.there (.there (.there .here))) | exact .there (.there (.there (.there (.there .here))))); (case q9hv => rw [HGet.out]; rfl); (case q9hs => rw [HGet.out]; rfl))
            | (at_mapUpdate; first | (refine' H.ev_mput HS.out ?q9hw ?q9ho Try.underlying3 Try.underlying50 ?q9hm ?q9hx ?q9hv (R.lastM_succ l0_3 j hj).symm ?q9hat hk (by unfold maxLen; omega) ?_; (case q9hw => rfl); (case q9ho => rfl); (case q9hm => rfl); (case q9hx => rfl); (case q9hv => rfl); (case q9hat => first | exact .here | exact .there .here | exact .there (.there .here) | exact .there (.there (.there .here)) | exact .there (.there (.there (.there .here))) | exact .there (.there (.there (.there (.there .here))))); intro w_ hs; clear HS; have HS := Aside0.mk hs; clear hs))
            )
          go_roundg (l0_3.length - (j + 1))
          case measure => have := HG.out; omega
          case rel => exact ⟨j + 1, by first | go_num | (simp; omega), ⟨by have := HG.out; omega⟩, ⟨HS.out.sub (by repeat (first | exact List.Sublist.slnil | refine List.Sublist.cons_cons _ ?_ | refine List.Sublist.cons _ ?_))⟩, ⟨R.steady_round l0_3 j hj HI.out HF.out⟩⟩
        | false =>
          have HF : Aside0 (R.steadyAt l0_3 j = (p.f2 == (l0_3[j]).f2)) := ⟨by rw [HF.out, hw]; rfl⟩
          by_cases hv : p.f2 = (l0_3[j]).f2
          · have hv1 : (p.f2 != (l0_3[j]).f2) = false := bne_eq_false_iff_eq.mpr hv
            have HV := Aside0.mk hv
            clear hv
            go_wp2_with (first
              | (skip; (with_reducible refine H.gate_idx rfl ?_); refine' H.ev_idx (Kd.C_below HR.out HS.out.below) ?q9hw ?q9ho ?q9hx ?q9hix Try.underlying42 sz46 hj ?_; (case q9hw => rfl); (case q9ho => rfl); (case q9hx => rfl); (case q9hix => rfl); intro p1 cs1 hK1 hp1; obtain rfl := k46_open hK1; skip; have HP1 := Aside0.mk hp1; clear hp1 hK1)
              | ((with_reducible refine H.gate_load rfl ?_); first | (refine' H.ev_loadb HS.out ?q9hw ?q9ho ?q9hx ?q9hu ?q9hd ?q9hat ?q9hv ?_; (case q9hw => rfl); (case q9ho => rfl); (case q9hx => rfl); (case q9hu => first | exact Try.underlying3 | exact Try.underlying4 | exact Try.underlying42 | exact Try.underlying46 | exact Try.underlying44 | exact Try.underlying130 | exact Try.underlying128 | exact Try.underlying50 | exact Try.underlying133); (case q9hd => rfl); (case q9hat => first | exact .here | exact .there .here | exact .there (.there .here) | exact .there (.there (.there .here)) | exact .there (.there (.there (.there .here))) | exact .there (.there (.there (.there (.there .here))))); (case q9hv => rfl)) | (refine' H.ev_loadw HS.out ?q9hw ?q9ho ?q9hx ?q9hu ?q9hd ?q9hat ?q9hi ?_; (case q9hw => rfl); (case q9ho => rfl); (case q9hx => rfl); (case q9hu => first | exact Try.underlying3 | exact Try.underlying4 | exact Try.underlying42 | exact Try.underlying46 | exact Try.underlying44 | exact Try.underlying130 | exact Try.underlying128 | exact Try.underlying50 | exact Try.underlying133); (case q9hd => rfl); (case q9hat => first | exact .here | exact .there .here | exact .there (.there .here) | exact .there (.there (.there .here)) | exact .there (.there (.there (.there .here))) | exact .there (.there (.there (.there (.there .here))))); (case q9hi => first | exact sz3 | exact sz4 | exact sz42 | exact sz46 | exact sz44 | exact sz130 | exact sz128 | exact sz50 | exact sz133)) | (refine' H.ev_loadr ?q9hw ?q9ho ?q9hx ?q9hu ?q9hd HP1.out ?q9hi ?q9hcs ?_; (case q9hw => rfl); (case q9ho => rfl); (case q9hx => rfl); (case q9hu => first | exact Try.underlying3 | exact Try.underlying4 | exact Try.underlying42 | exact Try.underlying46 | exact Try.underlying44 | exact Try.underlying130 | exact Try.underlying128 | exact Try.underlying50 | exact Try.underlying133); (case q9hd => rfl); (case q9hi => first | exact sz3 | exact sz4 | exact sz42 | exact sz46 | exact sz44 | exact sz130 | exact sz128 | exact sz50 | exact sz133); (case q9hcs => rfl)) | (refine' H.ev_load0 ?q9hw ?q9ho ?q9hx ?q9hu ?q9hd HP1.out ?_; (case q9hw => rfl); (case q9ho => rfl); (case q9hx => rfl); (case q9hu => first | exact Try.underlying3 | exact Try.underlying4 | exact Try.underlying42 | exact Try.underlying46 | exact Try.underlying44 | exact Try.underlying130 | exact Try.underlying128 | exact Try.underlying50 | exact Try.underlying133); (case q9hd => rfl)))
              | (skip; (with_reducible refine H.gate_alloc rfl ?_); refine' H.ev_alloc HS.out ?q9hw (t := 46) ?q9ho (zv46 _) ?q9hc ?_; (case q9hw => rfl); (case q9ho => rfl); (case q9hc => (try simp only [Value.cells]); rfl); intro b6 w_ hs; clear HS; have HS := Aside0.mk hs; clear hs)
              | ((with_reducible refine H.gate_sto rfl ?_); first | (refine' H.ev_store HS.out ?q9hw ?q9ho ?q9hx ?q9hy ?q9hv ?q9hi ?q9hat ?q9hlt ?q9hcs ?_; (case q9hw => rfl); (case q9ho => rfl); (case q9hx => rfl); (case q9hy => rfl); (case q9hv => rfl); (case q9hi => first | exact sz3 | exact sz4 | exact sz42 | exact sz46 | exact sz44 | exact sz130 | exact sz128 | exact sz50 | exact sz133); (case q9hat => first | exact .here | exact .there .here | exact .there (.there .here) | exact .there (.there (.there .here)) | exact .there (.there (.there (.there .here))) | exact .there (.there (.there (.there (.there .here))))); (case q9hlt => first | exact Nat.le_of_ble_eq_true rfl | (simp; done) | (simp; omega)); (case q9hcs => (try simp only [Value.cells, List.setIfInBounds_toArray, List.set_cons_zero, List.set_cons_succ, Nat.zero_add, Nat.reduceAdd]); rfl); intro w_ hs; clear HS; have HS := Aside0.mk hs; clear hs) | (refine' H.ev_stores HS.out ?q9hw ?q9ho ?q9hx ?q9hy ?q9hv ?q9hi ?q9hat ?q9hlt ?q9hcs ?_; (case q9hw => rfl); (case q9ho => rfl); (case q9hx => rfl); (case q9hy => rfl); (case q9hv => simp [Value.oneCell']); (case q9hi => first | exact sz3 | exact sz4 | exact sz42 | exact sz46 | exact sz44 | exact sz130 | exact sz128 | exact sz50 | exact sz133); (case q9hat => first | exact .here | exact .there .here | exact .there (.there .here) | exact .there (.there (.there .here)) | exact .there (.there (.there (.there .here))) | exact .there (.there (.there (.there (.there .here))))); (case q9hlt => first | exact Nat.le_of_ble_eq_true rfl | (simp; done) | (simp; omega)); (case q9hcs => (try simp only [H.setAll, Value.cells, List.setIfInBounds_toArray, List.set_cons_zero, List.set_cons_succ, Nat.zero_add, Nat.reduceAdd]); rfl); intro w_ hs; clear HS; have HS := Aside0.mk hs; clear hs))
              | (at_lookup; skip; refine' H.ev_mok HS.out (v := .int .i64 p.f2) (s := true) ?q9hw ?q9ho Try.underlying3 Try.underlying50 (zv3 _) ?q9hm ?q9hx ?q9hat hk ?q9hv ?q9hs ?_; (case q9hw => rfl); (case q9ho => rfl); (case q9hm => rfl); (case q9hx => rfl); (case q9hat => first | exact .here | exact .there .here | exact .there (.there .here) | exact .there (.there (.there .here)) | exact .there (.there (.there (.there .here))) | exact .there (.there (.there (.there (.there .here))))); (case q9hv => rw [HGet.out]; rfl); (case q9hs => rw [HGet.out]; rfl))
              | (at_mapUpdate; first | (refine' H.ev_mput HS.out ?q9hw ?q9ho Try.underlying3 Try.underlying50 ?q9hm ?q9hx ?q9hv (R.lastM_succ l0_3 j hj).symm ?q9hat hk (by unfold maxLen; omega) ?_; (case q9hw => rfl); (case q9ho => rfl); (case q9hm => rfl); (case q9hx => rfl); (case q9hv => rfl); (case q9hat => first | exact .here | exact .there .here | exact .there (.there .here) | exact .there (.there (.there .here)) | exact .there (.there (.there (.there .here))) | exact .there (.there (.there (.there (.there .here))))); intro w_ hs; clear HS; have HS := Aside0.mk hs; clear hs))
              )
            go_roundg (l0_3.length - (j + 1))
            case measure => have := HG.out; omega
            case rel => exact ⟨j + 1, by first | go_num | (simp; omega), ⟨by have := HG.out; omega⟩, ⟨HS.out.sub (by repeat (first | exact List.Sublist.slnil | refine List.Sublist.cons_cons _ ?_ | refine List.Sublist.cons _ ?_))⟩, ⟨R.steady_round l0_3 j hj HI.out (HF.out.trans (beq_iff_eq.mpr HV.out))⟩⟩
          · have hv1 : (p.f2 != (l0_3[j]).f2) = true := bne_iff_ne.mpr hv
            have HV := Aside0.mk hv
            clear hv
            go_wp2_with (first
              | (skip; (with_reducible refine H.gate_idx rfl ?_); refine' H.ev_idx (Kd.C_below HR.out HS.out.below) ?q9hw ?q9ho ?q9hx ?q9hix Try.underlying42 sz46 hj ?_; (case q9hw => rfl); (case q9ho => rfl); (case q9hx => rfl); (case q9hix => rfl); intro p1 cs1 hK1 hp1; obtain rfl := k46_open hK1; skip; have HP1 := Aside0.mk hp1; clear hp1 hK1)
              | ((with_reducible refine H.gate_load rfl ?_); first | (refine' H.ev_loadb HS.out ?q9hw ?q9ho ?q9hx ?q9hu ?q9hd ?q9hat ?q9hv ?_; (case q9hw => rfl); (case q9ho => rfl); (case q9hx => rfl); (case q9hu => first | exact Try.underlying3 | exact Try.underlying4 | exact Try.underlying42 | exact Try.underlying46 | exact Try.underlying44 | exact Try.underlying130 | exact Try.underlying128 | exact Try.underlying50 | exact Try.underlying133); (case q9hd => rfl); (case q9hat => first | exact .here | exact .there .here | exact .there (.there .here) | exact .there (.there (.there .here)) | exact .there (.there (.there (.there .here))) | exact .there (.there (.there (.there (.there .here))))); (case q9hv => rfl)) | (refine' H.ev_loadw HS.out ?q9hw ?q9ho ?q9hx ?q9hu ?q9hd ?q9hat ?q9hi ?_; (case q9hw => rfl); (case q9ho => rfl); (case q9hx => rfl); (case q9hu => first | exact Try.underlying3 | exact Try.underlying4 | exact Try.underlying42 | exact Try.underlying46 | exact Try.underlying44 | exact Try.underlying130 | exact Try.underlying128 | exact Try.underlying50 | exact Try.underlying133); (case q9hd => rfl); (case q9hat => first | exact .here | exact .there .here | exact .there (.there .here) | exact .there (.there (.there .here)) | exact .there (.there (.there (.there .here))) | exact .there (.there (.there (.there (.there .here))))); (case q9hi => first | exact sz3 | exact sz4 | exact sz42 | exact sz46 | exact sz44 | exact sz130 | exact sz128 | exact sz50 | exact sz133)) | (refine' H.ev_loadr ?q9hw ?q9ho ?q9hx ?q9hu ?q9hd HP1.out ?q9hi ?q9hcs ?_; (case q9hw => rfl); (case q9ho => rfl); (case q9hx => rfl); (case q9hu => first | exact Try.underlying3 | exact Try.underlying4 | exact Try.underlying42 | exact Try.underlying46 | exact Try.underlying44 | exact Try.underlying130 | exact Try.underlying128 | exact Try.underlying50 | exact Try.underlying133); (case q9hd => rfl); (case q9hi => first | exact sz3 | exact sz4 | exact sz42 | exact sz46 | exact sz44 | exact sz130 | exact sz128 | exact sz50 | exact sz133); (case q9hcs => rfl)) | (refine' H.ev_load0 ?q9hw ?q9ho ?q9hx ?q9hu ?q9hd HP1.out ?_; (case q9hw => rfl); (case q9ho => rfl); (case q9hx => rfl); (case q9hu => first | exact Try.underlying3 | exact Try.underlying4 | exact Try.underlying42 | exact Try.underlying46 | exact Try.underlying44 | exact Try.underlying130 | exact Try.underlying128 | exact Try.underlying50 | exact Try.underlying133); (case q9hd => rfl)))
              | (skip; (with_reducible refine H.gate_alloc rfl ?_); refine' H.ev_alloc HS.out ?q9hw (t := 46) ?q9ho (zv46 _) ?q9hc ?_; (case q9hw => rfl); (case q9ho => rfl); (case q9hc => (try simp only [Value.cells]); rfl); intro b6 w_ hs; clear HS; have HS := Aside0.mk hs; clear hs)
              | ((with_reducible refine H.gate_sto rfl ?_); first | (refine' H.ev_store HS.out ?q9hw ?q9ho ?q9hx ?q9hy ?q9hv ?q9hi ?q9hat ?q9hlt ?q9hcs ?_; (case q9hw => rfl); (case q9ho => rfl); (case q9hx => rfl); (case q9hy => rfl); (case q9hv => rfl); (case q9hi => first | exact sz3 | exact sz4 | exact sz42 | exact sz46 | exact sz44 | exact sz130 | exact sz128 | exact sz50 | exact sz133); (case q9hat => first | exact .here | exact .there .here | exact .there (.there .here) | exact .there (.there (.there .here)) | exact .there (.there (.there (.there .here))) | exact .there (.there (.there (.there (.there .here))))); (case q9hlt => first | exact Nat.le_of_ble_eq_true rfl | (simp; done) | (simp; omega)); (case q9hcs => (try simp only [Value.cells, List.setIfInBounds_toArray, List.set_cons_zero, List.set_cons_succ, Nat.zero_add, Nat.reduceAdd]); rfl); intro w_ hs; clear HS; have HS := Aside0.mk hs; clear hs) | (refine' H.ev_stores HS.out ?q9hw ?q9ho ?q9hx ?q9hy ?q9hv ?q9hi ?q9hat ?q9hlt ?q9hcs ?_; (case q9hw => rfl); (case q9ho => rfl); (case q9hx => rfl); (case q9hy => rfl); (case q9hv => simp [Value.oneCell']); (case q9hi => first | exact sz3 | exact sz4 | exact sz42 | exact sz46 | exact sz44 | exact sz130 | exact sz128 | exact sz50 | exact sz133); (case q9hat => first | exact .here | exact .there .here | exact .there (.there .here) | exact .there (.there (.there .here)) | exact .there (.there (.there (.there .here))) | exact .there (.there (.there (.there (.there .here))))); (case q9hlt => first | exact Nat.le_of_ble_eq_true rfl | (simp; done) | (simp; omega)); (case q9hcs => (try simp only [H.setAll, Value.cells, List.setIfInBounds_toArray, List.set_cons_zero, List.set_cons_succ, Nat.zero_add, Nat.reduceAdd]); rfl); intro w_ hs; clear HS; have HS := Aside0.mk hs; clear hs))
              | (at_lookup; skip; refine' H.ev_mok HS.out (v := .int .i64 p.f2) (s := true) ?q9hw ?q9ho Try.underlying3 Try.underlying50 (zv3 _) ?q9hm ?q9hx ?q9hat hk ?q9hv ?q9hs ?_; (case q9hw => rfl); (case q9ho => rfl); (case q9hm => rfl); (case q9hx => rfl); (case q9hat => first | exact .here | exact .there .here | exact .there (.there .here) | exact .there (.there (.there .here)) | exact .there (.there (.there (.there .here))) | exact .there (.there (.there (.there (.there .here))))); (case q9hv => rw [HGet.out]; rfl); (case q9hs => rw [HGet.out]; rfl))
              )
            go_ret
            exact ⟨by rw [← HE.out, R.steady_not l0_3 j hj (HF.out.trans (beq_eq_false_iff_ne.mpr HV.out))]; rfl, HS.out.below⟩
    · have hjb : decide ((j : Int) < (l0_3.length : Int)) = false := decide_eq_false (by omega)
      obtain rfl : j = l0_3.length := by have := HG.out; omega
      go_wp2
      go_ret
      exact ⟨by rw [← HE.out, R.steady_all l0_3 HI.out]; rfl, HS.out.below⟩
def txn_Reads.f (a b c : Int) (l : List S46) : Option (List S46) := if okOps l = true then some (R.reads l) else none
set_option maxHeartbeats 4000000 in
set_option maxRecDepth 100000 in
theorem txn_Reads.calls (a0_0 : Int) (a0_1 : Int) (a0_2 : Int) (A0_3 : Option Addr) (c0_3 : Nat) (l0_3 : List (S46)) (r : List S46) (w : World) (hr0_3 : Kd.C k46 w A0_3 l0_3.length l0_3) (hc0_3 : l0_3.length ≤ c0_3) (h : txn_Reads.f a0_0 a0_1 a0_2 l0_3 = some r) :
    Calls Try.prog 98 #[.agg #[.int .i64 a0_0, .int .i64 a0_1, .int .i64 a0_2, .slice A0_3 l0_3.length c0_3]] w fun e w' => ∃ v0_ : Value, e = .returned (v0_) ∧ Kd.R k46 46 w' w.heap.size (fun _ => True) v0_ r ∧ Below w.heap.size w w' := by
  have hu44 := Try.underlying44
  have hu46 := Try.underlying46
  have HR := Aside0.mk hr0_3
  obtain ⟨hg, hr⟩ := guard_some h
  have HE := Aside0.mk hr
  have HO := Aside0.mk (okOps_get hg).1
  have hlen := (okOps_get hg).2
  clear h hg hr hr0_3 hc0_3
  have HS := Aside0.mk (H.SH.start w)
  go_enter Try.func98, Try.ntmps98
  go_wp2_with (first
    | (skip; (with_reducible refine H.gate_box rfl ?_); refine' H.ev_boxv HS.out ?q9hw (t := 44) ?q9ho ?q9hx ?q9hc ?_; (case q9hw => rfl); (case q9ho => rfl); (case q9hx => rfl); (case q9hc => rfl); intro b1 w_ hs; clear HS; have HS := Aside0.mk hs; clear hs)
    | (skip; (with_reducible refine H.gate_mk rfl ?_); refine' H.ev_mmake HS.out ?q9hw 128 3 ?q9ho ?_; (case q9hw => rfl); (case q9ho => rfl); intro w_ m hs; clear HS; have HS := Aside0.mk hs; clear hs)
    | ((with_reducible refine H.gate_load rfl ?_); first | (refine' H.ev_loadb HS.out ?q9hw ?q9ho ?q9hx ?q9hu ?q9hd ?q9hat ?q9hv ?_; (case q9hw => rfl); (case q9ho => rfl); (case q9hx => rfl); (case q9hu => first | exact Try.underlying3 | exact Try.underlying4 | exact Try.underlying42 | exact Try.underlying46 | exact Try.underlying44 | exact Try.underlying130 | exact Try.underlying128 | exact Try.underlying50 | exact Try.underlying133); (case q9hd => rfl); (case q9hat => first | exact .here | exact .there .here | exact .there (.there .here) | exact .there (.there (.there .here)) | exact .there (.there (.there (.there .here))) | exact .there (.there (.there (.there (.there .here))))); (case q9hv => rfl)) | (refine' H.ev_loadw HS.out ?q9hw ?q9ho ?q9hx ?q9hu ?q9hd ?q9hat ?q9hi ?_; (case q9hw => rfl); (case q9ho => rfl); (case q9hx => rfl); (case q9hu => first | exact Try.underlying3 | exact Try.underlying4 | exact Try.underlying42 | exact Try.underlying46 | exact Try.underlying44 | exact Try.underlying130 | exact Try.underlying128 | exact Try.underlying50 | exact Try.underlying133); (case q9hd => rfl); (case q9hat => first | exact .here | exact .there .here | exact .there (.there .here) | exact .there (.there (.there .here)) | exact .there (.there (.there (.there .here))) | exact .there (.there (.there (.there (.there .here))))); (case q9hi => first | exact sz3 | exact sz4 | exact sz42 | exact sz46 | exact sz44 | exact sz130 | exact sz128 | exact sz50 | exact sz133)))
    )
  go_loopg [4, 13] l0_3.length (fun g v i wr => ∃ j : Nat, i = .int .i64 (j : Int) ∧ Aside0 (g + j = l0_3.length) ∧ Aside0 (H.SH w wr [H.rw' w.heap.size k46 46 v (R.firstsG l0_3 j), H.mp Try.prog 3 m (R.seenM l0_3 j)]))
  case atStart => exact ⟨0, rfl, ⟨rfl⟩, ⟨H.SH.nilrow _ _ (HS.out.sub (by repeat (first | exact List.Sublist.slnil | refine List.Sublist.cons_cons _ ?_ | refine List.Sublist.cons _ ?_)))⟩⟩
  case round =>
    obtain ⟨j, rfl, HG, HS⟩ := hrel
    by_cases hj : j < l0_3.length
    · have hjb : decide ((j : Int) < (l0_3.length : Int)) = true := decide_eq_true (by omega)
      have hk := R.I64_key (R.keysOk_at HO.out j hj)
      have HGet := Aside0.mk (R.seenM_get l0_3 (l0_3[j]).f1 j (by omega))
      have HF := Aside0.mk (R.firstG_eq l0_3 j hj)
      have hl' := R.seenM_len l0_3 j (by omega)
      have hl2 := R.firstsG_len l0_3 j
      cases hp : R.prev l0_3 j (l0_3[j]).f1 with
      | some p =>
        rw [hp] at HGet HF
        clear hp
        go_wp2_with (first
          | (skip; (with_reducible refine H.gate_idx rfl ?_); refine' H.ev_idx (Kd.C_below HR.out HS.out.below) ?q9hw ?q9ho ?q9hx ?q9hix Try.underlying42 sz46 hj ?_; (case q9hw => rfl); (case q9ho => rfl); (case q9hx => rfl); (case q9hix => rfl); intro p1 cs1 hK1 hp1; obtain rfl := k46_open hK1; skip; have HP1 := Aside0.mk hp1; clear hp1 hK1)
          | ((with_reducible refine H.gate_load rfl ?_); first | (refine' H.ev_loadb HS.out ?q9hw ?q9ho ?q9hx ?q9hu ?q9hd ?q9hat ?q9hv ?_; (case q9hw => rfl); (case q9ho => rfl); (case q9hx => rfl); (case q9hu => first | exact Try.underlying3 | exact Try.underlying4 | exact Try.underlying42 | exact Try.underlying46 | exact Try.underlying44 | exact Try.underlying130 | exact Try.underlying128 | exact Try.underlying50 | exact Try.underlying133); (case q9hd => rfl); (case q9hat => first | exact .here | exact .there .here | exact .there (.there .here) | exact .there (.there (.there .here)) | exact .there (.there (.there (.there .here))) | exact .there (.there (.there (.there (.there .here))))); (case q9hv => rfl)) | (refine' H.ev_loadw HS.out ?q9hw ?q9ho ?q9hx ?q9hu ?q9hd ?q9hat ?q9hi ?_; (case q9hw => rfl); (case q9ho => rfl); (case q9hx => rfl); (case q9hu => first | exact Try.underlying3 | exact Try.underlying4 | exact Try.underlying42 | exact Try.underlying46 | exact Try.underlying44 | exact Try.underlying130 | exact Try.underlying128 | exact Try.underlying50 | exact Try.underlying133); (case q9hd => rfl); (case q9hat => first | exact .here | exact .there .here | exact .there (.there .here) | exact .there (.there (.there .here)) | exact .there (.there (.there (.there .here))) | exact .there (.there (.there (.there (.there .here))))); (case q9hi => first | exact sz3 | exact sz4 | exact sz42 | exact sz46 | exact sz44 | exact sz130 | exact sz128 | exact sz50 | exact sz133)) | (refine' H.ev_loadr ?q9hw ?q9ho ?q9hx ?q9hu ?q9hd HP1.out ?q9hi ?q9hcs ?_; (case q9hw => rfl); (case q9ho => rfl); (case q9hx => rfl); (case q9hu => first | exact Try.underlying3 | exact Try.underlying4 | exact Try.underlying42 | exact Try.underlying46 | exact Try.underlying44 | exact Try.underlying130 | exact Try.underlying128 | exact Try.underlying50 | exact Try.underlying133); (case q9hd => rfl); (case q9hi => first | exact sz3 | exact sz4 | exact sz42 | exact sz46 | exact sz44 | exact sz130 | exact sz128 | exact sz50 | exact sz133); (case q9hcs => rfl)) | (refine' H.ev_load0 ?q9hw ?q9ho ?q9hx ?q9hu ?q9hd HP1.out ?_; (case q9hw => rfl); (case q9ho => rfl); (case q9hx => rfl); (case q9hu => first | exact Try.underlying3 | exact Try.underlying4 | exact Try.underlying42 | exact Try.underlying46 | exact Try.underlying44 | exact Try.underlying130 | exact Try.underlying128 | exact Try.underlying50 | exact Try.underlying133); (case q9hd => rfl)))
          | (skip; (with_reducible refine H.gate_alloc rfl ?_); refine' H.ev_alloc HS.out ?q9hw (t := 46) ?q9ho (zv46 _) ?q9hc ?_; (case q9hw => rfl); (case q9ho => rfl); (case q9hc => (try simp only [Value.cells]); rfl); intro b6 w_ hs; clear HS; have HS := Aside0.mk hs; clear hs)
          | ((with_reducible refine H.gate_sto rfl ?_); first | (refine' H.ev_store HS.out ?q9hw ?q9ho ?q9hx ?q9hy ?q9hv ?q9hi ?q9hat ?q9hlt ?q9hcs ?_; (case q9hw => rfl); (case q9ho => rfl); (case q9hx => rfl); (case q9hy => rfl); (case q9hv => rfl); (case q9hi => first | exact sz3 | exact sz4 | exact sz42 | exact sz46 | exact sz44 | exact sz130 | exact sz128 | exact sz50 | exact sz133); (case q9hat => first | exact .here | exact .there .here | exact .there (.there .here) | exact .there (.there (.there .here)) | exact .there (.there (.there (.there .here))) | exact .there (.there (.there (.there (.there .here))))); (case q9hlt => first | exact Nat.le_of_ble_eq_true rfl | (simp; done) | (simp; omega)); (case q9hcs => (try simp only [Value.cells, List.setIfInBounds_toArray, List.set_cons_zero, List.set_cons_succ, Nat.zero_add, Nat.reduceAdd]); rfl); intro w_ hs; clear HS; have HS := Aside0.mk hs; clear hs) | (refine' H.ev_stores HS.out ?q9hw ?q9ho ?q9hx ?q9hy ?q9hv ?q9hi ?q9hat ?q9hlt ?q9hcs ?_; (case q9hw => rfl); (case q9ho => rfl); (case q9hx => rfl); (case q9hy => rfl); (case q9hv => simp [Value.oneCell']); (case q9hi => first | exact sz3 | exact sz4 | exact sz42 | exact sz46 | exact sz44 | exact sz130 | exact sz128 | exact sz50 | exact sz133); (case q9hat => first | exact .here | exact .there .here | exact .there (.there .here) | exact .there (.there (.there .here)) | exact .there (.there (.there (.there .here))) | exact .there (.there (.there (.there (.there .here))))); (case q9hlt => first | exact Nat.le_of_ble_eq_true rfl | (simp; done) | (simp; omega)); (case q9hcs => (try simp only [H.setAll, Value.cells, List.setIfInBounds_toArray, List.set_cons_zero, List.set_cons_succ, Nat.zero_add, Nat.reduceAdd]); rfl); intro w_ hs; clear HS; have HS := Aside0.mk hs; clear hs))
          | (at_lookup; skip; refine' H.ev_mok HS.out (v := .agg #[]) (s := true) ?q9hw ?q9ho Try.underlying3 Try.underlying128 (zv130 _) ?q9hm ?q9hx ?q9hat hk ?q9hv ?q9hs ?_; (case q9hw => rfl); (case q9ho => rfl); (case q9hm => rfl); (case q9hx => rfl); (case q9hat => first | exact .here | exact .there .here | exact .there (.there .here) | exact .there (.there (.there .here)) | exact .there (.there (.there (.there .here))) | exact .there (.there (.there (.there (.there .here))))); (case q9hv => rw [HGet.out]; rfl); (case q9hs => rw [HGet.out]; rfl))
          | (skip; (with_reducible refine H.gate_alloc rfl ?_); refine' H.ev_alloc HS.out ?q9hw (t := 130) ?q9ho (zv130 _) ?q9hc ?_; (case q9hw => rfl); (case q9ho => rfl); (case q9hc => (try simp only [Value.cells]); rfl); intro b7 w_ hs; clear HS; have HS := Aside0.mk hs; clear hs)
          | (at_mapUpdate; first | (refine' H.ev_mput HS.out ?q9hw ?q9ho Try.underlying3 Try.underlying128 ?q9hm ?q9hx ?q9hv (R.seenM_succ l0_3 j hj).symm ?q9hat hk (by unfold maxLen; omega) ?_; (case q9hw => rfl); (case q9ho => rfl); (case q9hm => rfl); (case q9hx => rfl); (case q9hv => rfl); (case q9hat => first | exact .here | exact .there .here | exact .there (.there .here) | exact .there (.there (.there .here)) | exact .there (.there (.there (.there .here))) | exact .there (.there (.there (.there (.there .here))))); intro w_ hs; clear HS; have HS := Aside0.mk hs; clear hs))
          )
        go_roundg (l0_3.length - (j + 1))
        case measure => have := HG.out; omega
        case rel => exact ⟨j + 1, by first | go_num | (simp; omega), ⟨by have := HG.out; omega⟩, ⟨by rw [R.firstsG_succ, HF.out]; simp only [Option.isNone_some, Bool.false_and, Bool.false_eq_true, if_false, List.append_nil]; exact HS.out.sub (by repeat (first | exact List.Sublist.slnil | refine List.Sublist.cons_cons _ ?_ | refine List.Sublist.cons _ ?_))⟩⟩
      | none =>
        rw [hp] at HGet HF
        clear hp
        cases hw : (l0_3[j]).f0 with
        | true =>
          go_wp2_with (first
            | (skip; (with_reducible refine H.gate_idx rfl ?_); refine' H.ev_idx (Kd.C_below HR.out HS.out.below) ?q9hw ?q9ho ?q9hx ?q9hix Try.underlying42 sz46 hj ?_; (case q9hw => rfl); (case q9ho => rfl); (case q9hx => rfl); (case q9hix => rfl); intro p1 cs1 hK1 hp1; obtain rfl := k46_open hK1; skip; have HP1 := Aside0.mk hp1; clear hp1 hK1)
            | ((with_reducible refine H.gate_load rfl ?_); first | (refine' H.ev_loadb HS.out ?q9hw ?q9ho ?q9hx ?q9hu ?q9hd ?q9hat ?q9hv ?_; (case q9hw => rfl); (case q9ho => rfl); (case q9hx => rfl); (case q9hu => first | exact Try.underlying3 | exact Try.underlying4 | exact Try.underlying42 | exact Try.underlying46 | exact Try.underlying44 | exact Try.underlying130 | exact Try.underlying128 | exact Try.underlying50 | exact Try.underlying133); (case q9hd => rfl); (case q9hat => first | exact .here | exact .there .here | exact .there (.there .here) | exact .there (.there (.there .here)) | exact .there (.there (.there (.there .here))) | exact .there (.there (.there (.there (.there .here))))); (case q9hv => rfl)) | (refine' H.ev_loadw HS.out ?q9hw ?q9ho ?q9hx ?q9hu ?q9hd ?q9hat ?q9hi ?_; (case q9hw => rfl); (case q9ho => rfl); (case q9hx => rfl); (case q9hu => first | exact Try.underlying3 | exact Try.underlying4 | exact Try.underlying42 | exact Try.underlying46 | exact Try.underlying44 | exact Try.underlying130 | exact Try.underlying128 | exact Try.underlying50 | exact Try.underlying133); (case q9hd => rfl); (case q9hat => first | exact .here | exact .there .here | exact .there (.there .here) | exact .there (.there (.there .here)) | exact .there (.there (.there (.there .here))) | exact .there (.there (.there (.there (.there .here))))); (case q9hi => first | exact sz3 | exact sz4 | exact sz42 | exact sz46 | exact sz44 | exact sz130 | exact sz128 | exact sz50 | exact sz133)) | (refine' H.ev_loadr ?q9hw ?q9ho ?q9hx ?q9hu ?q9hd HP1.out ?q9hi ?q9hcs ?_; (case q9hw => rfl); (case q9ho => rfl); (case q9hx => rfl); (case q9hu => first | exact Try.underlying3 | exact Try.underlying4 | exact Try.underlying42 | exact Try.underlying46 | exact Try.underlying44 | exact Try.underlying130 | exact Try.underlying128 | exact Try.underlying50 | exact Try.underlying133); (case q9hd => rfl); (case q9hi => first | exact sz3 | exact sz4 | exact sz42 | exact sz46 | exact sz44 | exact sz130 | exact sz128 | exact sz50 | exact sz133); (case q9hcs => rfl)) | (refine' H.ev_load0 ?q9hw ?q9ho ?q9hx ?q9hu ?q9hd HP1.out ?_; (case q9hw => rfl); (case q9ho => rfl); (case q9hx => rfl); (case q9hu => first | exact Try.underlying3 | exact Try.underlying4 | exact Try.underlying42 | exact Try.underlying46 | exact Try.underlying44 | exact Try.underlying130 | exact Try.underlying128 | exact Try.underlying50 | exact Try.underlying133); (case q9hd => rfl)))
            | (skip; (with_reducible refine H.gate_alloc rfl ?_); refine' H.ev_alloc HS.out ?q9hw (t := 46) ?q9ho (zv46 _) ?q9hc ?_; (case q9hw => rfl); (case q9ho => rfl); (case q9hc => (try simp only [Value.cells]); rfl); intro b6 w_ hs; clear HS; have HS := Aside0.mk hs; clear hs)
            | ((with_reducible refine H.gate_sto rfl ?_); first | (refine' H.ev_store HS.out ?q9hw ?q9ho ?q9hx ?q9hy ?q9hv ?q9hi ?q9hat ?q9hlt ?q9hcs ?_; (case q9hw => rfl); (case q9ho => rfl); (case q9hx => rfl); (case q9hy => rfl); (case q9hv => rfl); (case q9hi => first | exact sz3 | exact sz4 | exact sz42 | exact sz46 | exact sz44 | exact sz130 | exact sz128 | exact sz50 | exact sz133); (case q9hat => first | exact .here | exact .there .here | exact .there (.there .here) | exact .there (.there (.there .here)) | exact .there (.there (.there (.there .here))) | exact .there (.there (.there (.there (.there .here))))); (case q9hlt => first | exact Nat.le_of_ble_eq_true rfl | (simp; done) | (simp; omega)); (case q9hcs => (try simp only [Value.cells, List.setIfInBounds_toArray, List.set_cons_zero, List.set_cons_succ, Nat.zero_add, Nat.reduceAdd]); rfl); intro w_ hs; clear HS; have HS := Aside0.mk hs; clear hs) | (refine' H.ev_stores HS.out ?q9hw ?q9ho ?q9hx ?q9hy ?q9hv ?q9hi ?q9hat ?q9hlt ?q9hcs ?_; (case q9hw => rfl); (case q9ho => rfl); (case q9hx => rfl); (case q9hy => rfl); (case q9hv => simp [Value.oneCell']); (case q9hi => first | exact sz3 | exact sz4 | exact sz42 | exact sz46 | exact sz44 | exact sz130 | exact sz128 | exact sz50 | exact sz133); (case q9hat => first | exact .here | exact .there .here | exact .there (.there .here) | exact .there (.there (.there .here)) | exact .there (.there (.there (.there .here))) | exact .there (.there (.there (.there (.there .here))))); (case q9hlt => first | exact Nat.le_of_ble_eq_true rfl | (simp; done) | (simp; omega)); (case q9hcs => (try simp only [H.setAll, Value.cells, List.setIfInBounds_toArray, List.set_cons_zero, List.set_cons_succ, Nat.zero_add, Nat.reduceAdd]); rfl); intro w_ hs; clear HS; have HS := Aside0.mk hs; clear hs))
            | (at_lookup; skip; refine' H.ev_mok HS.out (v := .agg #[]) (s := false) ?q9hw ?q9ho Try.underlying3 Try.underlying128 (zv130 _) ?q9hm ?q9hx ?q9hat hk ?q9hv ?q9hs ?_; (case q9hw => rfl); (case q9ho => rfl); (case q9hm => rfl); (case q9hx => rfl); (case q9hat => first | exact .here | exact .there .here | exact .there (.there .here) | exact .there (.there (.there .here)) | exact .there (.there (.there (.there .here))) | exact .there (.there (.there (.there (.there .here))))); (case q9hv => rw [HGet.out]; rfl); (case q9hs => rw [HGet.out]; rfl))
            | (skip; (with_reducible refine H.gate_alloc rfl ?_); refine' H.ev_alloc HS.out ?q9hw (t := 130) ?q9ho (zv130 _) ?q9hc ?_; (case q9hw => rfl); (case q9ho => rfl); (case q9hc => (try simp only [Value.cells]); rfl); intro b7 w_ hs; clear HS; have HS := Aside0.mk hs; clear hs)
            | (at_mapUpdate; first | (refine' H.ev_mput HS.out ?q9hw ?q9ho Try.underlying3 Try.underlying128 ?q9hm ?q9hx ?q9hv (R.seenM_succ l0_3 j hj).symm ?q9hat hk (by unfold maxLen; omega) ?_; (case q9hw => rfl); (case q9ho => rfl); (case q9hm => rfl); (case q9hx => rfl); (case q9hv => rfl); (case q9hat => first | exact .here | exact .there .here | exact .there (.there .here) | exact .there (.there (.there .here)) | exact .there (.there (.there (.there .here))) | exact .there (.there (.there (.there (.there .here))))); intro w_ hs; clear HS; have HS := Aside0.mk hs; clear hs))
            )
          go_roundg (l0_3.length - (j + 1))
          case measure => have := HG.out; omega
          case rel => exact ⟨j + 1, by first | go_num | (simp; omega), ⟨by have := HG.out; omega⟩, ⟨by rw [R.firstsG_succ, HF.out, hw]; simp only [Option.isNone_none, Bool.true_and, Bool.not_true, Bool.false_eq_true, if_false, List.append_nil]; exact HS.out.sub (by repeat (first | exact List.Sublist.slnil | refine List.Sublist.cons_cons _ ?_ | refine List.Sublist.cons _ ?_))⟩⟩
        | false =>
          have HM : Aside0 (∀ w', k46.M w' w.heap.size (fun _ => False) l0_3[j] [.bool false, .int .i64 l0_3[j].f1, .int .i64 l0_3[j].f2]) := ⟨fun w' => by have := k46_mkM w' w.heap.size (fun _ => False) l0_3[j]; rw [hw] at this; exact this⟩
          go_wp2_with (first
            | (skip; (with_reducible refine H.gate_idx rfl ?_); refine' H.ev_idx (Kd.C_below HR.out HS.out.below) ?q9hw ?q9ho ?q9hx ?q9hix Try.underlying42 sz46 hj ?_; (case q9hw => rfl); (case q9ho => rfl); (case q9hx => rfl); (case q9hix => rfl); intro p1 cs1 hK1 hp1; obtain rfl := k46_open hK1; skip; have HP1 := Aside0.mk hp1; clear hp1 hK1)
            | ((with_reducible refine H.gate_load rfl ?_); first | (refine' H.ev_loadb HS.out ?q9hw ?q9ho ?q9hx ?q9hu ?q9hd ?q9hat ?q9hv ?_; (case q9hw => rfl); (case q9ho => rfl); (case q9hx => rfl); (case q9hu => first | exact Try.underlying3 | exact Try.underlying4 | exact Try.underlying42 | exact Try.underlying46 | exact Try.underlying44 | exact Try.underlying130 | exact Try.underlying128 | exact Try.underlying50 | exact Try.underlying133); (case q9hd => rfl); (case q9hat => first | exact .here | exact .there .here | exact .there (.there .here) | exact .there (.there (.there .here)) | exact .there (.there (.there (.there .here))) | exact .there (.there (.there (.there (.there .here))))); (case q9hv => rfl)) | (refine' H.ev_loadw HS.out ?q9hw ?q9ho ?q9hx ?q9hu ?q9hd ?q9hat ?q9hi ?_; (case q9hw => rfl); (case q9ho => rfl); (case q9hx => rfl); (case q9hu => first | exact Try.underlying3 | exact Try.underlying4 | exact Try.underlying42 | exact Try.underlying46 | exact Try.underlying44 | exact Try.underlying130 | exact Try.underlying128 | exact Try.underlying50 | exact Try.underlying133); (case q9hd => rfl); (case q9hat => first | exact .here | exact .there .here | exact .there (.there .here) | exact .there (.there (.there .here)) | exact .there (.there (.there (.there .here))) | exact .there (.there (.there (.there (.there .here))))); (case q9hi => first | exact sz3 | exact sz4 | exact sz42 | exact sz46 | exact sz44 | exact sz130 | exact sz128 | exact sz50 | exact sz133)) | (refine' H.ev_loadr ?q9hw ?q9ho ?q9hx ?q9hu ?q9hd HP1.out ?q9hi ?q9hcs ?_; (case q9hw => rfl); (case q9ho => rfl); (case q9hx => rfl); (case q9hu => first | exact Try.underlying3 | exact Try.underlying4 | exact Try.underlying42 | exact Try.underlying46 | exact Try.underlying44 | exact Try.underlying130 | exact Try.underlying128 | exact Try.underlying50 | exact Try.underlying133); (case q9hd => rfl); (case q9hi => first | exact sz3 | exact sz4 | exact sz42 | exact sz46 | exact sz44 | exact sz130 | exact sz128 | exact sz50 | exact sz133); (case q9hcs => rfl)) | (refine' H.ev_load0 ?q9hw ?q9ho ?q9hx ?q9hu ?q9hd HP1.out ?_; (case q9hw => rfl); (case q9ho => rfl); (case q9hx => rfl); (case q9hu => first | exact Try.underlying3 | exact Try.underlying4 | exact Try.underlying42 | exact Try.underlying46 | exact Try.underlying44 | exact Try.underlying130 | exact Try.underlying128 | exact Try.underlying50 | exact Try.underlying133); (case q9hd => rfl)))
            | (skip; (with_reducible refine H.gate_alloc rfl ?_); refine' H.ev_alloc HS.out ?q9hw (t := 46) ?q9ho (zv46 _) ?q9hc ?_; (case q9hw => rfl); (case q9ho => rfl); (case q9hc => (try simp only [Value.cells]); rfl); intro b6 w_ hs; clear HS; have HS := Aside0.mk hs; clear hs)
            | ((with_reducible refine H.gate_sto rfl ?_); first | (refine' H.ev_store HS.out ?q9hw ?q9ho ?q9hx ?q9hy ?q9hv ?q9hi ?q9hat ?q9hlt ?q9hcs ?_; (case q9hw => rfl); (case q9ho => rfl); (case q9hx => rfl); (case q9hy => rfl); (case q9hv => rfl); (case q9hi => first | exact sz3 | exact sz4 | exact sz42 | exact sz46 | exact sz44 | exact sz130 | exact sz128 | exact sz50 | exact sz133); (case q9hat => first | exact .here | exact .there .here | exact .there (.there .here) | exact .there (.there (.there .here)) | exact .there (.there (.there (.there .here))) | exact .there (.there (.there (.there (.there .here))))); (case q9hlt => first | exact Nat.le_of_ble_eq_true rfl | (simp; done) | (simp; omega)); (case q9hcs => (try simp only [Value.cells, List.setIfInBounds_toArray, List.set_cons_zero, List.set_cons_succ, Nat.zero_add, Nat.reduceAdd]); rfl); intro w_ hs; clear HS; have HS := Aside0.mk hs; clear hs) | (refine' H.ev_stores HS.out ?q9hw ?q9ho ?q9hx ?q9hy ?q9hv ?q9hi ?q9hat ?q9hlt ?q9hcs ?_; (case q9hw => rfl); (case q9ho => rfl); (case q9hx => rfl); (case q9hy => rfl); (case q9hv => simp [Value.oneCell']); (case q9hi => first | exact sz3 | exact sz4 | exact sz42 | exact sz46 | exact sz44 | exact sz130 | exact sz128 | exact sz50 | exact sz133); (case q9hat => first | exact .here | exact .there .here | exact .there (.there .here) | exact .there (.there (.there .here)) | exact .there (.there (.there (.there .here))) | exact .there (.there (.there (.there (.there .here))))); (case q9hlt => first | exact Nat.le_of_ble_eq_true rfl | (simp; done) | (simp; omega)); (case q9hcs => (try simp only [H.setAll, Value.cells, List.setIfInBounds_toArray, List.set_cons_zero, List.set_cons_succ, Nat.zero_add, Nat.reduceAdd]); rfl); intro w_ hs; clear HS; have HS := Aside0.mk hs; clear hs))
            | (at_lookup; skip; refine' H.ev_mok HS.out (v := .agg #[]) (s := false) ?q9hw ?q9ho Try.underlying3 Try.underlying128 (zv130 _) ?q9hm ?q9hx ?q9hat hk ?q9hv ?q9hs ?_; (case q9hw => rfl); (case q9ho => rfl); (case q9hm => rfl); (case q9hx => rfl); (case q9hat => first | exact .here | exact .there .here | exact .there (.there .here) | exact .there (.there (.there .here)) | exact .there (.there (.there (.there .here))) | exact .there (.there (.there (.there (.there .here))))); (case q9hv => rw [HGet.out]; rfl); (case q9hs => rw [HGet.out]; rfl))
            | (skip; (with_reducible refine H.gate_alloc rfl ?_); refine' H.ev_alloc HS.out ?q9hw (t := 130) ?q9ho (zv130 _) ?q9hc ?_; (case q9hw => rfl); (case q9ho => rfl); (case q9hc => (try simp only [Value.cells]); rfl); intro b7 w_ hs; clear HS; have HS := Aside0.mk hs; clear hs)
            | (skip; (with_reducible refine gate_builtin (b := .append) rfl ?_); refine' H.ev_append k46 HS.out ?q9hw ?q9ho Try.underlying42 info46 rfl (by decide) (by decide) (p := l0_3[j]) ?q9hs ?q9hx ?q9hp ?q9hat ?q9hl ?_; (case q9hw => rfl); (case q9ho => rfl); (case q9hs => rfl); (case q9hx => rfl); (case q9hp => exact HM.out _); (case q9hat => first | exact .here | exact .there .here | exact .there (.there .here) | exact .there (.there (.there .here)) | exact .there (.there (.there (.there .here))) | exact .there (.there (.there (.there (.there .here))))); (case q9hl => omega); intro v1 w_ hs; clear HS; have HS := Aside0.mk hs; clear hs)
            | (at_mapUpdate; first | (refine' H.ev_mput HS.out ?q9hw ?q9ho Try.underlying3 Try.underlying128 ?q9hm ?q9hx ?q9hv (R.seenM_succ l0_3 j hj).symm ?q9hat hk (by unfold maxLen; omega) ?_; (case q9hw => rfl); (case q9ho => rfl); (case q9hm => rfl); (case q9hx => rfl); (case q9hv => rfl); (case q9hat => first | exact .here | exact .there .here | exact .there (.there .here) | exact .there (.there (.there .here)) | exact .there (.there (.there (.there .here))) | exact .there (.there (.there (.there (.there .here))))); intro w_ hs; clear HS; have HS := Aside0.mk hs; clear hs))
            )
          go_roundg (l0_3.length - (j + 1))
          case measure => have := HG.out; omega
          case rel => exact ⟨j + 1, by first | go_num | (simp; omega), ⟨by have := HG.out; omega⟩, ⟨by rw [R.firstsG_succ, HF.out, hw]; simp only [Option.isNone_none, Bool.true_and, Bool.not_false, if_true]; exact HS.out.sub (by repeat (first | exact List.Sublist.slnil | refine List.Sublist.cons_cons _ ?_ | refine List.Sublist.cons _ ?_))⟩⟩
    · have hjb : decide ((j : Int) < (l0_3.length : Int)) = false := decide_eq_false (by omega)
      obtain rfl : j = l0_3.length := by have := HG.out; omega
      obtain ⟨S, hS, _⟩ := HS.out.get .here
      have HSR := Aside0.mk hS.1
      obtain ⟨K, hK⟩ := R.reads_run HO.out hlen
      have HK := Aside0.mk (hK K (Nat.le_refl _))
      clear hS hK
      go_wp2_with (go_at_call 95; refine (txn_byKey.calls K S _ _ _ w _ HS.out.below HSR.out HK.out).mono ?_; rintro e w_ ⟨v0, rfl, hR, hb, hk⟩; have HRr := Aside0.mk hR; have HB := Aside0.mk hb; clear hR hb hk)
      go_ret
      exact ⟨_, rfl, by rw [← HE.out]; exact Kd.R_mono HRr.out (fun _ _ => trivial), HB.out⟩
def txn_Writes.f (a b c : Int) (l : List S46) : Option (List S46) := if okOps l = true then some (R.writes l) else none
set_option maxHeartbeats 4000000 in
set_option maxRecDepth 100000 in
theorem txn_Writes.calls (a0_0 : Int) (a0_1 : Int) (a0_2 : Int) (A0_3 : Option Addr) (c0_3 : Nat) (l0_3 : List (S46)) (r : List S46) (w : World) (hr0_3 : Kd.C k46 w A0_3 l0_3.length l0_3) (hc0_3 : l0_3.length ≤ c0_3) (h : txn_Writes.f a0_0 a0_1 a0_2 l0_3 = some r) :
    Calls Try.prog 63 #[.agg #[.int .i64 a0_0, .int .i64 a0_1, .int .i64 a0_2, .slice A0_3 l0_3.length c0_3]] w fun e w' => ∃ v0_ : Value, e = .returned (v0_) ∧ Kd.R k46 46 w' w.heap.size (fun _ => True) v0_ r ∧ Below w.heap.size w w' := by
  have hu44 := Try.underlying44
  have hu46 := Try.underlying46
  have HR := Aside0.mk hr0_3
  obtain ⟨hg, hr⟩ := guard_some h
  have HE := Aside0.mk hr
  have HO := Aside0.mk (okOps_get hg).1
  have hlen := (okOps_get hg).2
  clear h hg hr hr0_3 hc0_3
  have HS := Aside0.mk (H.SH.start w)
  go_enter Try.func63, Try.ntmps63
  go_wp2_with (first
    | (skip; (with_reducible refine H.gate_box rfl ?_); refine' H.ev_boxv HS.out ?q9hw (t := 44) ?q9ho ?q9hx ?q9hc ?_; (case q9hw => rfl); (case q9ho => rfl); (case q9hx => rfl); (case q9hc => rfl); intro b1 w_ hs; clear HS; have HS := Aside0.mk hs; clear hs)
    | (skip; (with_reducible refine H.gate_mk rfl ?_); refine' H.ev_mmake HS.out ?q9hw 133 3 ?q9ho ?_; (case q9hw => rfl); (case q9ho => rfl); intro w_ m hs; clear HS; have HS := Aside0.mk hs; clear hs)
    | ((with_reducible refine H.gate_load rfl ?_); first | (refine' H.ev_loadb HS.out ?q9hw ?q9ho ?q9hx ?q9hu ?q9hd ?q9hat ?q9hv ?_; (case q9hw => rfl); (case q9ho => rfl); (case q9hx => rfl); (case q9hu => first | exact Try.underlying3 | exact Try.underlying4 | exact Try.underlying42 | exact Try.underlying46 | exact Try.underlying44 | exact Try.underlying130 | exact Try.underlying128 | exact Try.underlying50 | exact Try.underlying133); (case q9hd => rfl); (case q9hat => first | exact .here | exact .there .here | exact .there (.there .here) | exact .there (.there (.there .here)) | exact .there (.there (.there (.there .here))) | exact .there (.there (.there (.there (.there .here))))); (case q9hv => rfl)) | (refine' H.ev_loadw HS.out ?q9hw ?q9ho ?q9hx ?q9hu ?q9hd ?q9hat ?q9hi ?_; (case q9hw => rfl); (case q9ho => rfl); (case q9hx => rfl); (case q9hu => first | exact Try.underlying3 | exact Try.underlying4 | exact Try.underlying42 | exact Try.underlying46 | exact Try.underlying44 | exact Try.underlying130 | exact Try.underlying128 | exact Try.underlying50 | exact Try.underlying133); (case q9hd => rfl); (case q9hat => first | exact .here | exact .there .here | exact .there (.there .here) | exact .there (.there (.there .here)) | exact .there (.there (.there (.there .here))) | exact .there (.there (.there (.there (.there .here))))); (case q9hi => first | exact sz3 | exact sz4 | exact sz42 | exact sz46 | exact sz44 | exact sz130 | exact sz128 | exact sz50 | exact sz133)))
    )
  go_loopg [13] l0_3.length (fun g i wr => ∃ j : Nat, i = .int .i64 (j : Int) ∧ Aside0 (g + j = l0_3.length) ∧ Aside0 (H.SH w wr [H.mp Try.prog 3 m (R.mapO (R.lastO l0_3 j))]))
  case atStart => exact ⟨0, rfl, ⟨rfl⟩, ⟨HS.out.sub (by repeat (first | exact List.Sublist.slnil | refine List.Sublist.cons_cons _ ?_ | refine List.Sublist.cons _ ?_))⟩⟩
  case round =>
    obtain ⟨j, rfl, HG, HS⟩ := hrel
    by_cases hj : j < l0_3.length
    · have hjb : decide ((j : Int) < (l0_3.length : Int)) = true := decide_eq_true (by omega)
      have hk := R.I64_key (R.keysOk_at HO.out j hj)
      have HF := Aside0.mk (R.lastO_succ l0_3 j hj)
      have hl' := R.lastO_len l0_3 j (by omega)
      have HL : Aside0 ((R.mapO (R.lastO l0_3 j)).length < maxLen) := ⟨by unfold R.mapO maxLen; rw [List.length_map]; omega⟩
      cases hw : (l0_3[j]).f0 with
      | true =>
        have HPV : Aside0 (H.putL (R.mapO (R.lastO l0_3 j)) (l0_3[j]).f1 (.agg #[.bool l0_3[j].f0, .int .i64 l0_3[j].f1, .int .i64 l0_3[j].f2]) = R.mapO (R.lastO l0_3 (j + 1))) := ⟨by rw [HF.out, if_pos hw, R.mapO_put]; rfl⟩
        have HPU : Aside0 (H.putL (R.mapO (R.lastO l0_3 j)) (l0_3[j]).f1 (.agg #[.bool true, .int .i64 l0_3[j].f1, .int .i64 l0_3[j].f2]) = R.mapO (R.lastO l0_3 (j + 1))) := ⟨by rw [HF.out, if_pos hw, R.mapO_put]; unfold R.opV; rw [hw]⟩
        go_wp2_with (first
          | (skip; (with_reducible refine H.gate_idx rfl ?_); refine' H.ev_idx (Kd.C_below HR.out HS.out.below) ?q9hw ?q9ho ?q9hx ?q9hix Try.underlying42 sz46 hj ?_; (case q9hw => rfl); (case q9ho => rfl); (case q9hx => rfl); (case q9hix => rfl); intro p1 cs1 hK1 hp1; obtain rfl := k46_open hK1; rw [hw] at hp1; have HP1 := Aside0.mk hp1; clear hp1 hK1)
          | ((with_reducible refine H.gate_load rfl ?_); first | (refine' H.ev_loadb HS.out ?q9hw ?q9ho ?q9hx ?q9hu ?q9hd ?q9hat ?q9hv ?_; (case q9hw => rfl); (case q9ho => rfl); (case q9hx => rfl); (case q9hu => first | exact Try.underlying3 | exact Try.underlying4 | exact Try.underlying42 | exact Try.underlying46 | exact Try.underlying44 | exact Try.underlying130 | exact Try.underlying128 | exact Try.underlying50 | exact Try.underlying133); (case q9hd => rfl); (case q9hat => first | exact .here | exact .there .here | exact .there (.there .here) | exact .there (.there (.there .here)) | exact .there (.there (.there (.there .here))) | exact .there (.there (.there (.there (.there .here))))); (case q9hv => rfl)) | (refine' H.ev_loadw HS.out ?q9hw ?q9ho ?q9hx ?q9hu ?q9hd ?q9hat ?q9hi ?_; (case q9hw => rfl); (case q9ho => rfl); (case q9hx => rfl); (case q9hu => first | exact Try.underlying3 | exact Try.underlying4 | exact Try.underlying42 | exact Try.underlying46 | exact Try.underlying44 | exact Try.underlying130 | exact Try.underlying128 | exact Try.underlying50 | exact Try.underlying133); (case q9hd => rfl); (case q9hat => first | exact .here | exact .there .here | exact .there (.there .here) | exact .there (.there (.there .here)) | exact .there (.there (.there (.there .here))) | exact .there (.there (.there (.there (.there .here))))); (case q9hi => first | exact sz3 | exact sz4 | exact sz42 | exact sz46 | exact sz44 | exact sz130 | exact sz128 | exact sz50 | exact sz133)) | (refine' H.ev_loadr ?q9hw ?q9ho ?q9hx ?q9hu ?q9hd HP1.out ?q9hi ?q9hcs ?_; (case q9hw => rfl); (case q9ho => rfl); (case q9hx => rfl); (case q9hu => first | exact Try.underlying3 | exact Try.underlying4 | exact Try.underlying42 | exact Try.underlying46 | exact Try.underlying44 | exact Try.underlying130 | exact Try.underlying128 | exact Try.underlying50 | exact Try.underlying133); (case q9hd => rfl); (case q9hi => first | exact sz3 | exact sz4 | exact sz42 | exact sz46 | exact sz44 | exact sz130 | exact sz128 | exact sz50 | exact sz133); (case q9hcs => rfl)) | (refine' H.ev_load0 ?q9hw ?q9ho ?q9hx ?q9hu ?q9hd HP1.out ?_; (case q9hw => rfl); (case q9ho => rfl); (case q9hx => rfl); (case q9hu => first | exact Try.underlying3 | exact Try.underlying4 | exact Try.underlying42 | exact Try.underlying46 | exact Try.underlying44 | exact Try.underlying130 | exact Try.underlying128 | exact Try.underlying50 | exact Try.underlying133); (case q9hd => rfl)))
          | (skip; (with_reducible refine H.gate_alloc rfl ?_); refine' H.ev_alloc HS.out ?q9hw (t := 46) ?q9ho (zv46 _) ?q9hc ?_; (case q9hw => rfl); (case q9ho => rfl); (case q9hc => (try simp only [Value.cells]); rfl); intro b6 w_ hs; clear HS; have HS := Aside0.mk hs; clear hs)
          | ((with_reducible refine H.gate_sto rfl ?_); first | (refine' H.ev_store HS.out ?q9hw ?q9ho ?q9hx ?q9hy ?q9hv ?q9hi ?q9hat ?q9hlt ?q9hcs ?_; (case q9hw => rfl); (case q9ho => rfl); (case q9hx => rfl); (case q9hy => rfl); (case q9hv => rfl); (case q9hi => first | exact sz3 | exact sz4 | exact sz42 | exact sz46 | exact sz44 | exact sz130 | exact sz128 | exact sz50 | exact sz133); (case q9hat => first | exact .here | exact .there .here | exact .there (.there .here) | exact .there (.there (.there .here)) | exact .there (.there (.there (.there .here))) | exact .there (.there (.there (.there (.there .here))))); (case q9hlt => first | exact Nat.le_of_ble_eq_true rfl | (simp; done) | (simp; omega)); (case q9hcs => (try simp only [Value.cells, List.setIfInBounds_toArray, List.set_cons_zero, List.set_cons_succ, Nat.zero_add, Nat.reduceAdd]); rfl); intro w_ hs; clear HS; have HS := Aside0.mk hs; clear hs) | (refine' H.ev_stores HS.out ?q9hw ?q9ho ?q9hx ?q9hy ?q9hv ?q9hi ?q9hat ?q9hlt ?q9hcs ?_; (case q9hw => rfl); (case q9ho => rfl); (case q9hx => rfl); (case q9hy => rfl); (case q9hv => simp [Value.oneCell']); (case q9hi => first | exact sz3 | exact sz4 | exact sz42 | exact sz46 | exact sz44 | exact sz130 | exact sz128 | exact sz50 | exact sz133); (case q9hat => first | exact .here | exact .there .here | exact .there (.there .here) | exact .there (.there (.there .here)) | exact .there (.there (.there (.there .here))) | exact .there (.there (.there (.there (.there .here))))); (case q9hlt => first | exact Nat.le_of_ble_eq_true rfl | (simp; done) | (simp; omega)); (case q9hcs => (try simp only [H.setAll, Value.cells, List.setIfInBounds_toArray, List.set_cons_zero, List.set_cons_succ, Nat.zero_add, Nat.reduceAdd]); rfl); intro w_ hs; clear HS; have HS := Aside0.mk hs; clear hs))
          | (at_mapUpdate; first | (refine' H.ev_mput HS.out ?q9hw ?q9ho Try.underlying3 Try.underlying133 ?q9hm ?q9hx ?q9hv HPU.out ?q9hat hk HL.out ?_; (case q9hw => rfl); (case q9ho => rfl); (case q9hm => rfl); (case q9hx => rfl); (case q9hv => rfl); (case q9hat => first | exact .here | exact .there .here | exact .there (.there .here) | exact .there (.there (.there .here)) | exact .there (.there (.there (.there .here))) | exact .there (.there (.there (.there (.there .here))))); intro w_ hs; clear HS; have HS := Aside0.mk hs; clear hs) | (refine' H.ev_mput HS.out ?q9hw ?q9ho Try.underlying3 Try.underlying133 ?q9hm ?q9hx ?q9hv HPV.out ?q9hat hk HL.out ?_; (case q9hw => rfl); (case q9ho => rfl); (case q9hm => rfl); (case q9hx => rfl); (case q9hv => rfl); (case q9hat => first | exact .here | exact .there .here | exact .there (.there .here) | exact .there (.there (.there .here)) | exact .there (.there (.there (.there .here))) | exact .there (.there (.there (.there (.there .here))))); intro w_ hs; clear HS; have HS := Aside0.mk hs; clear hs))
          )
        go_roundg (l0_3.length - (j + 1))
        case measure => have := HG.out; omega
        case rel => exact ⟨j + 1, by first | go_num | (simp; omega), ⟨by have := HG.out; omega⟩, ⟨HS.out.sub (by repeat (first | exact List.Sublist.slnil | refine List.Sublist.cons_cons _ ?_ | refine List.Sublist.cons _ ?_))⟩⟩
      | false =>
        go_wp2_with (first
          | (skip; (with_reducible refine H.gate_idx rfl ?_); refine' H.ev_idx (Kd.C_below HR.out HS.out.below) ?q9hw ?q9ho ?q9hx ?q9hix Try.underlying42 sz46 hj ?_; (case q9hw => rfl); (case q9ho => rfl); (case q9hx => rfl); (case q9hix => rfl); intro p1 cs1 hK1 hp1; obtain rfl := k46_open hK1; rw [hw] at hp1; have HP1 := Aside0.mk hp1; clear hp1 hK1)
          | ((with_reducible refine H.gate_load rfl ?_); first | (refine' H.ev_loadb HS.out ?q9hw ?q9ho ?q9hx ?q9hu ?q9hd ?q9hat ?q9hv ?_; (case q9hw => rfl); (case q9ho => rfl); (case q9hx => rfl); (case q9hu => first | exact Try.underlying3 | exact Try.underlying4 | exact Try.underlying42 | exact Try.underlying46 | exact Try.underlying44 | exact Try.underlying130 | exact Try.underlying128 | exact Try.underlying50 | exact Try.underlying133); (case q9hd => rfl); (case q9hat => first | exact .here | exact .there .here | exact .there (.there .here) | exact .there (.there (.there .here)) | exact .there (.there (.there (.there .here))) | exact .there (.there (.there (.there (.there .here))))); (case q9hv => rfl)) | (refine' H.ev_loadw HS.out ?q9hw ?q9ho ?q9hx ?q9hu ?q9hd ?q9hat ?q9hi ?_; (case q9hw => rfl); (case q9ho => rfl); (case q9hx => rfl); (case q9hu => first | exact Try.underlying3 | exact Try.underlying4 | exact Try.underlying42 | exact Try.underlying46 | exact Try.underlying44 | exact Try.underlying130 | exact Try.underlying128 | exact Try.underlying50 | exact Try.underlying133); (case q9hd => rfl); (case q9hat => first | exact .here | exact .there .here | exact .there (.there .here) | exact .there (.there (.there .here)) | exact .there (.there (.there (.there .here))) | exact .there (.there (.there (.there (.there .here))))); (case q9hi => first | exact sz3 | exact sz4 | exact sz42 | exact sz46 | exact sz44 | exact sz130 | exact sz128 | exact sz50 | exact sz133)) | (refine' H.ev_loadr ?q9hw ?q9ho ?q9hx ?q9hu ?q9hd HP1.out ?q9hi ?q9hcs ?_; (case q9hw => rfl); (case q9ho => rfl); (case q9hx => rfl); (case q9hu => first | exact Try.underlying3 | exact Try.underlying4 | exact Try.underlying42 | exact Try.underlying46 | exact Try.underlying44 | exact Try.underlying130 | exact Try.underlying128 | exact Try.underlying50 | exact Try.underlying133); (case q9hd => rfl); (case q9hi => first | exact sz3 | exact sz4 | exact sz42 | exact sz46 | exact sz44 | exact sz130 | exact sz128 | exact sz50 | exact sz133); (case q9hcs => rfl)) | (refine' H.ev_load0 ?q9hw ?q9ho ?q9hx ?q9hu ?q9hd HP1.out ?_; (case q9hw => rfl); (case q9ho => rfl); (case q9hx => rfl); (case q9hu => first | exact Try.underlying3 | exact Try.underlying4 | exact Try.underlying42 | exact Try.underlying46 | exact Try.underlying44 | exact Try.underlying130 | exact Try.underlying128 | exact Try.underlying50 | exact Try.underlying133); (case q9hd => rfl)))
          | (skip; (with_reducible refine H.gate_alloc rfl ?_); refine' H.ev_alloc HS.out ?q9hw (t := 46) ?q9ho (zv46 _) ?q9hc ?_; (case q9hw => rfl); (case q9ho => rfl); (case q9hc => (try simp only [Value.cells]); rfl); intro b6 w_ hs; clear HS; have HS := Aside0.mk hs; clear hs)
          | ((with_reducible refine H.gate_sto rfl ?_); first | (refine' H.ev_store HS.out ?q9hw ?q9ho ?q9hx ?q9hy ?q9hv ?q9hi ?q9hat ?q9hlt ?q9hcs ?_; (case q9hw => rfl); (case q9ho => rfl); (case q9hx => rfl); (case q9hy => rfl); (case q9hv => rfl); (case q9hi => first | exact sz3 | exact sz4 | exact sz42 | exact sz46 | exact sz44 | exact sz130 | exact sz128 | exact sz50 | exact sz133); (case q9hat => first | exact .here | exact .there .here | exact .there (.there .here) | exact .there (.there (.there .here)) | exact .there (.there (.there (.there .here))) | exact .there (.there (.there (.there (.there .here))))); (case q9hlt => first | exact Nat.le_of_ble_eq_true rfl | (simp; done) | (simp; omega)); (case q9hcs => (try simp only [Value.cells, List.setIfInBounds_toArray, List.set_cons_zero, List.set_cons_succ, Nat.zero_add, Nat.reduceAdd]); rfl); intro w_ hs; clear HS; have HS := Aside0.mk hs; clear hs) | (refine' H.ev_stores HS.out ?q9hw ?q9ho ?q9hx ?q9hy ?q9hv ?q9hi ?q9hat ?q9hlt ?q9hcs ?_; (case q9hw => rfl); (case q9ho => rfl); (case q9hx => rfl); (case q9hy => rfl); (case q9hv => simp [Value.oneCell']); (case q9hi => first | exact sz3 | exact sz4 | exact sz42 | exact sz46 | exact sz44 | exact sz130 | exact sz128 | exact sz50 | exact sz133); (case q9hat => first | exact .here | exact .there .here | exact .there (.there .here) | exact .there (.there (.there .here)) | exact .there (.there (.there (.there .here))) | exact .there (.there (.there (.there (.there .here))))); (case q9hlt => first | exact Nat.le_of_ble_eq_true rfl | (simp; done) | (simp; omega)); (case q9hcs => (try simp only [H.setAll, Value.cells, List.setIfInBounds_toArray, List.set_cons_zero, List.set_cons_succ, Nat.zero_add, Nat.reduceAdd]); rfl); intro w_ hs; clear HS; have HS := Aside0.mk hs; clear hs))
          )
        go_roundg (l0_3.length - (j + 1))
        case measure => have := HG.out; omega
        case rel => exact ⟨j + 1, by first | go_num | (simp; omega), ⟨by have := HG.out; omega⟩, ⟨by rw [HF.out, hw]; exact HS.out.sub (by repeat (first | exact List.Sublist.slnil | refine List.Sublist.cons_cons _ ?_ | refine List.Sublist.cons _ ?_))⟩⟩
    · have hjb : decide ((j : Int) < (l0_3.length : Int)) = false := decide_eq_false (by omega)
      obtain rfl : j = l0_3.length := by have := HG.out; omega
      have hl' := R.lastO_len l0_3 l0_3.length (Nat.le_refl _)
      obtain ⟨n, hn⟩ : ∃ n, n = (R.mapO (R.lastO l0_3 l0_3.length)).length := ⟨_, rfl⟩
      have hn2 : n ≤ 1000000000000 := by rw [hn]; unfold R.mapO; rw [List.length_map]; omega
      have HN := Aside0.mk hn
      clear hn
      have hl2 : 24 * n ≤ 281474976710656 := by omega
      go_wp2_with (first
        | (at_len; refine H.ev_mlen HS.out rfl _ 133 rfl Try.underlying133 .here rfl HN.out ?_)
        | (skip; at_make; refine' H.ev_make0 k46 HS.out ?q9hw ?q9ho Try.underlying42 info46 ?q9hl ?q9hc (by omega) (by unfold maxLen; omega) ?_; (case q9hw => rfl); (case q9ho => rfl); (case q9hl => rfl); (case q9hc => rfl); intro v6 w_ hs; clear HS; have HS := Aside0.mk hs; clear hs)
        | (skip; at_range; refine' H.ev_mrange HS.out ?q9hw ?q9ho Try.underlying3 Try.underlying133 ?q9hm ?q9hat ?_; (case q9hw => rfl); (case q9ho => rfl); (case q9hm => rfl); (case q9hat => first | exact .here | exact .there .here | exact .there (.there .here) | exact .there (.there (.there .here)) | exact .there (.there (.there (.there .here))) | exact .there (.there (.there (.there (.there .here))))); intro rr w_ hs; clear HS; have HS := Aside0.mk hs; clear hs)
        )
      go_frame
      go_loopg [6] ((R.mapO (R.lastO l0_3 l0_3.length)).length) (fun g v wr => ∃ (Y : List S46) (td : List (Int × Value)), Aside0 (g = td.length) ∧ Aside0 (H.SH w wr [H.rw' w.heap.size k46 46 v Y, H.rg Try.prog 3 m rr (R.mapO (R.lastO l0_3 l0_3.length)) td]) ∧ Aside0 (H.Apart td) ∧ Aside0 ((R.mapO Y ++ td).Perm (R.mapO (R.lastO l0_3 l0_3.length))))
      case atStart => exact ⟨[], _, ⟨rfl⟩, HS, ⟨by obtain ⟨S, hS, _⟩ := HS.out.get (.there .here); exact hS.2.2.2.1⟩, ⟨List.Perm.refl _⟩⟩
      case round =>
        obtain ⟨Y, td, HG, HS, HA, HP⟩ := hrel
        have hY : Y.length ≤ 1000000000000 := by
          have := HP.out.length_eq
          unfold R.mapO at this
          simp only [List.length_append, List.length_map] at this
          omega
        go_wp2_with (first
          | (at_next; refine' H.ev_mnext HS.out ?q9hw ?q9ho Try.underlying3 ?q9hit ?q9hat ?_ ?_; (case q9hw => rfl); (case q9ho => rfl); (case q9hit => rfl); (case q9hat => first | exact .here | exact .there .here | exact .there (.there .here) | exact .there (.there (.there .here)) | exact .there (.there (.there (.there .here))) | exact .there (.there (.there (.there (.there .here))))); rotate_left; (intro x_ v_ w_ hI_ htd_ hl_ hs hen_; clear HS; have HS := Aside0.mk hs; clear hs; obtain ⟨o, ho_, rfl, rfl⟩ := R.mapO_get hl_; have HX := Aside0.mk htd_; have HEN := Aside0.mk hen_; clear htd_ hl_ hen_ hI_ ho_))
          | ((with_reducible refine H.gate_entry rfl ?_); refine' H.ev_entry ?q9hw ?q9ho ?q9hx HEN.out ?_; (case q9hw => rfl); (case q9ho => rfl); (case q9hx => rfl))
          | (skip; (with_reducible refine H.gate_alloc rfl ?_); refine' H.ev_alloc HS.out ?q9hw (t := 46) ?q9ho (zv46 _) ?q9hc ?_; (case q9hw => rfl); (case q9ho => rfl); (case q9hc => (try simp only [Value.cells]); rfl); intro b8 w_ hs; clear HS; have HS := Aside0.mk hs; clear hs)
          | ((with_reducible refine H.gate_sto rfl ?_); first | (refine' H.ev_store HS.out ?q9hw ?q9ho ?q9hx ?q9hy ?q9hv ?q9hi ?q9hat ?q9hlt ?q9hcs ?_; (case q9hw => rfl); (case q9ho => rfl); (case q9hx => rfl); (case q9hy => rfl); (case q9hv => rfl); (case q9hi => first | exact sz3 | exact sz4 | exact sz42 | exact sz46 | exact sz44 | exact sz130 | exact sz128 | exact sz50 | exact sz133); (case q9hat => first | exact .here | exact .there .here | exact .there (.there .here) | exact .there (.there (.there .here)) | exact .there (.there (.there (.there .here))) | exact .there (.there (.there (.there (.there .here))))); (case q9hlt => first | exact Nat.le_of_ble_eq_true rfl | (simp; done) | (simp; omega)); (case q9hcs => (try simp only [Value.cells, List.setIfInBounds_toArray, List.set_cons_zero, List.set_cons_succ, Nat.zero_add, Nat.reduceAdd]); rfl); intro w_ hs; clear HS; have HS := Aside0.mk hs; clear hs) | (refine' H.ev_stores HS.out ?q9hw ?q9ho ?q9hx ?q9hy ?q9hv ?q9hi ?q9hat ?q9hlt ?q9hcs ?_; (case q9hw => rfl); (case q9ho => rfl); (case q9hx => rfl); (case q9hy => rfl); (case q9hv => simp [Value.oneCell']); (case q9hi => first | exact sz3 | exact sz4 | exact sz42 | exact sz46 | exact sz44 | exact sz130 | exact sz128 | exact sz50 | exact sz133); (case q9hat => first | exact .here | exact .there .here | exact .there (.there .here) | exact .there (.there (.there .here)) | exact .there (.there (.there (.there .here))) | exact .there (.there (.there (.there (.there .here))))); (case q9hlt => first | exact Nat.le_of_ble_eq_true rfl | (simp; done) | (simp; omega)); (case q9hcs => (try simp only [H.setAll, Value.cells, List.setIfInBounds_toArray, List.set_cons_zero, List.set_cons_succ, Nat.zero_add, Nat.reduceAdd]); rfl); intro w_ hs; clear HS; have HS := Aside0.mk hs; clear hs))
          | ((with_reducible refine H.gate_load rfl ?_); first | (refine' H.ev_loadb HS.out ?q9hw ?q9ho ?q9hx ?q9hu ?q9hd ?q9hat ?q9hv ?_; (case q9hw => rfl); (case q9ho => rfl); (case q9hx => rfl); (case q9hu => first | exact Try.underlying3 | exact Try.underlying4 | exact Try.underlying42 | exact Try.underlying46 | exact Try.underlying44 | exact Try.underlying130 | exact Try.underlying128 | exact Try.underlying50 | exact Try.underlying133); (case q9hd => rfl); (case q9hat => first | exact .here | exact .there .here | exact .there (.there .here) | exact .there (.there (.there .here)) | exact .there (.there (.there (.there .here))) | exact .there (.there (.there (.there (.there .here))))); (case q9hv => rfl)) | (refine' H.ev_loadw HS.out ?q9hw ?q9ho ?q9hx ?q9hu ?q9hd ?q9hat ?q9hi ?_; (case q9hw => rfl); (case q9ho => rfl); (case q9hx => rfl); (case q9hu => first | exact Try.underlying3 | exact Try.underlying4 | exact Try.underlying42 | exact Try.underlying46 | exact Try.underlying44 | exact Try.underlying130 | exact Try.underlying128 | exact Try.underlying50 | exact Try.underlying133); (case q9hd => rfl); (case q9hat => first | exact .here | exact .there .here | exact .there (.there .here) | exact .there (.there (.there .here)) | exact .there (.there (.there (.there .here))) | exact .there (.there (.there (.there (.there .here))))); (case q9hi => first | exact sz3 | exact sz4 | exact sz42 | exact sz46 | exact sz44 | exact sz130 | exact sz128 | exact sz50 | exact sz133)))
          | (skip; (with_reducible refine gate_builtin (b := .append) rfl ?_); refine' H.ev_append k46 HS.out ?q9hw ?q9ho Try.underlying42 info46 rfl (by decide) (by decide) (p := o) ?q9hs ?q9hx ?q9hp ?q9hat ?q9hl ?_; (case q9hw => rfl); (case q9ho => rfl); (case q9hs => rfl); (case q9hx => rfl); (case q9hp => exact k46_mkM _ _ _ o); (case q9hat => first | exact .here | exact .there .here | exact .there (.there .here) | exact .there (.there (.there .here)) | exact .there (.there (.there (.there .here))) | exact .there (.there (.there (.there (.there .here))))); (case q9hl => omega); intro v1 w_ hs; clear HS; have HS := Aside0.mk hs; clear hs)
          )
        · go_roundg ((H.offL td o.f1).length)
          case measure => have := HG.out; have := H.off_len HA.out HX.out; omega
          case rel => exact ⟨Y ++ [o], H.offL td o.f1, ⟨rfl⟩, ⟨HS.out.sub (by repeat (first | exact List.Sublist.slnil | refine List.Sublist.cons_cons _ ?_ | refine List.Sublist.cons _ ?_))⟩, ⟨HA.out.off _⟩, ⟨R.mapO_step HA.out HX.out HP.out⟩⟩
        · intro htd
          have HP2 : Aside0 ((R.mapO Y).Perm (R.mapO (R.lastO l0_3 l0_3.length))) := ⟨by have := HP.out; rwa [htd, List.append_nil] at this⟩
          clear htd
          obtain ⟨S, hS, _⟩ := HS.out.get .here
          have HSR := Aside0.mk hS.1
          obtain ⟨K, hK⟩ := R.writes_run HO.out hlen (R.mapO_perm HP2.out)
          have HK := Aside0.mk (hK K (Nat.le_refl _))
          clear hS hK
          go_wp2_with (go_at_call 95; refine (txn_byKey.calls K S _ _ _ w _ HS.out.below HSR.out HK.out).mono ?_; rintro e w_ ⟨v0, rfl, hR, hb, hk⟩; have HRr := Aside0.mk hR; have HB := Aside0.mk hb; clear hR hb hk)
          go_ret
          exact ⟨_, rfl, by rw [← HE.out]; exact Kd.R_mono HRr.out (fun _ _ => trivial), HB.out⟩
end Go.Proofs.Ytfocaefnmfkojaa.Q
