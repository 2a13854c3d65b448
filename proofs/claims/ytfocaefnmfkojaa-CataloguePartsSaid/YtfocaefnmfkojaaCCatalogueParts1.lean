/- A part of the proof of catalogueParts_holds: words and contracts that its last text uses. -/
import Derived.Test.YtfocaefnmfkojaaCCatalogueParts0
import Derived.Test.YtfocaefnmfkojaaProg
namespace Go.Proofs.Ytfocaefnmfkojaa.H
open Go.RowKit Go.Proofs.YtfocaefnmfkojaaW.PrintWords Go.Proofs.YtfocaefnmfkojaaW.PrintLast Go.Proofs.YtfocaefnmfkojaaW.PrintMore
set_option linter.unusedVariables false
set_option linter.unusedSimpArgs false
theorem cell_of_heap {W2 : World} {g : Nat} {inner : List Value} {e : TypeId} (h : W2.heap[g]? = some (.cells inner.toArray e (0, 0))) (m : Nat) (u : Value) (hu : inner[m]? = some u) : W2.cell? ⟨g, m, none⟩ = some u := by
  simp [World.cell?, h, hu]
theorem V_lit {α : Type} (d : Kd α) (e : Nat) (W : World) (base : Nat) (ok : Nat → Prop) (hok : ok W.heap.size) (xs : List α) (inner : List Value) (hl : xs.length ≤ 9223372036854775807)
    (h : ∀ j p, xs[j]? = some p → ∃ c, c.length = d.sz ∧ Kd.FK d W ok p c ∧ ∀ i u, c[i]? = some u → inner[j * d.sz + i]? = some u) :
    Kd.V d e (W.alloc (.cells inner.toArray e)) base ok (.slice (some ⟨W.heap.size, 0, none⟩) xs.length xs.length) xs := by
  refine ⟨_, _, rfl, Nat.le_refl _, fun W2 hW2 => ⟨rfl, hl, fun _ => ⟨_, rfl, fun j p hj => ?_⟩⟩⟩
  obtain ⟨c, hc, hK, hi⟩ := h j p hj
  have hsz : (W.alloc (.cells inner.toArray e)).heap.size = W.heap.size + 1 := by simp
  refine ⟨c, hc, hK W2 (fun k hk hlt => (hW2 k hk (by omega)).trans (Below.heap_alloc W _ k hlt)), fun i u hu => ?_⟩
  rw [add_plain]
  exact cell_of_heap ((hW2 _ hok (by omega)).trans (heap_alloc_new W _)) _ _ (hi i u hu)
theorem V_FK_slice {α : Type} {d : Kd α} {e base : Nat} {W : World} {ok : Nat → Prop} {A : Option Addr} {n c : Nat} {xs : List α} (h : Kd.V d e W base ok (.slice A n c) xs) : Kd.FK (Kd.slice e d) W ok xs [.slice A n c] := by
  obtain ⟨hn, hc, hf⟩ := Kd.V_at h
  subst hn
  exact Kd.FK_slice_mk hc hf
end Go.Proofs.Ytfocaefnmfkojaa.H
namespace Go.Proofs.Ytfocaefnmfkojaa.Q
open Go.RowKit Go.Proofs.YtfocaefnmfkojaaW.PrintWords Go.Proofs.YtfocaefnmfkojaaW.PrintLast Go.Proofs.YtfocaefnmfkojaaW.PrintMore
attribute [local go_sem] max2_int min2_int max_two min_two max_three min_three max_four min_four   -- for this text's walks alone
set_option linter.unusedVariables false
set_option linter.unusedSimpArgs false
def errW : Option Int → Value
 | none => .nilIface
 | some c => .iface 0 (.int .i64 c)
theorem errW_none : errW none = .nilIface := rfl
theorem errW_some (c : Int) : errW (some c) = .iface 0 (.int .i64 c) := rfl
theorem info3 : (Try.prog.info? 3).map (fun i => (i.zero, i.size, i.bytes)) = some (some (.int .i64 0), 1, 8) := by kernel_rfl
theorem info44 : (Try.prog.info? 44).map (fun i => (i.zero, i.size, i.bytes)) = some (some (.agg #[(.int .i64 0), (.int .i64 0), (.int .i64 0), (.slice none 0 0)]), 4, 48) := by kernel_rfl
theorem info46 : (Try.prog.info? 46).map (fun i => (i.zero, i.size, i.bytes)) = some (some (.agg #[(.bool false), (.int .i64 0), (.int .i64 0)]), 3, 24) := by kernel_rfl
theorem info86 : (Try.prog.info? 86).map (fun i => (i.zero, i.size, i.bytes)) = some (some (.agg #[(.int .i64 0), (.int .i64 0)]), 2, 16) := by kernel_rfl
theorem info154 : (Try.prog.info? 154).map (fun i => (i.zero, i.size, i.bytes)) = some (some (.agg #[(.int .i64 0), (.int .i64 0)]), 2, 16) := by kernel_rfl
structure S46 where
 f0 : Bool
 f1 : Int
 f2 : Int
def z46 : S46 := ⟨false, (0 : Int), (0 : Int)⟩
def k46 : Kd S46 := Kd.iso (Kd.pair Kd.bool (Kd.pair (Kd.int .i64) (Kd.int .i64))) (fun x : S46 => (x.f0, x.f1, x.f2))
theorem k46_open {w : World} {x : S46} {cs : List Value} (h : k46.K w x cs) : cs = [.bool x.f0, .int .i64 x.f1, .int .i64 x.f2] := by
 obtain ⟨_, _, rfl, rfl, ⟨_, _, rfl, rfl, rfl⟩⟩ := h
 exact rfl
theorem k46_mk (w : World) (x : S46)  : k46.K w x [.bool x.f0, .int .i64 x.f1, .int .i64 x.f2] := ⟨[.bool x.f0], [.int .i64 x.f1, .int .i64 x.f2], rfl, rfl, ⟨[.int .i64 x.f1], [.int .i64 x.f2], rfl, rfl, rfl⟩⟩
theorem k46_mkM (w : World) (base : Nat) (ok : Nat → Prop) (x : S46)  : k46.M w base ok x [.bool x.f0, .int .i64 x.f1, .int .i64 x.f2] := ⟨[.bool x.f0], [.int .i64 x.f1, .int .i64 x.f2], rfl, rfl, ⟨[.int .i64 x.f1], [.int .i64 x.f2], rfl, rfl, rfl⟩⟩
theorem k46_mkF (W : World) (ok : Nat → Prop) (x : S46) : Kd.FK k46 W ok x [.bool x.f0, .int .i64 x.f1, .int .i64 x.f2] := fun W2 _ => k46_mk W2 x
def rd_T46 (xs : List S46) (i : Int) : S46 := xs.getD i.toNat z46
theorem at_T46 {w : World} {A : Option Addr} {n : Nat} {xs : List S46} (h : Kd.C k46 w A n xs) (i : Int) (h0 : 0 ≤ i) (h1 : i < n) : ∃ ad , A = some ad ∧ w.cell? (ad.add (i.toNat * 3)) = some (.bool (rd_T46 xs i).f0) ∧ w.cell? ⟨(ad.add (i.toNat * 3)).block, (ad.add (i.toNat * 3)).off + 1, none⟩ = some (.int .i64 (rd_T46 xs i).f1) ∧ w.cell? ⟨(ad.add (i.toNat * 3)).block, (ad.add (i.toNat * 3)).off + 2, none⟩ = some (.int .i64 (rd_T46 xs i).f2) := by
 obtain ⟨ad, c, e, _, hK, hc0⟩ := Kd.C_get h z46 i h0 h1
 have hc : ∀ j u, c[j]? = some u → w.cell? (ad.add (i.toNat * 3 + j)) = some u := hc0
 obtain rfl := k46_open hK
 exact ⟨ad, e, hc 0 _ rfl, by rw [← add_field _ _ 1 (by omega)]; exact hc 1 _ rfl, by rw [← add_field _ _ 2 (by omega)]; exact hc 2 _ rfl⟩
def rd_L3 (xs : List (List S46)) (i : Int) : (List S46) := xs.getD i.toNat ([] : List S46)
theorem at_L3 {w : World} {A : Option Addr} {n : Nat} {xs : List (List S46)} (h : Kd.C (Kd.slice 46 k46) w A n xs) (i : Int) (h0 : 0 ≤ i) (h1 : i < n) : ∃ ad A0 c0, A = some ad ∧ w.cell? (ad.add i.toNat) = some (.slice A0 (rd_L3 xs i).length c0) ∧ (rd_L3 xs i).length ≤ c0 ∧ k46.C w A0 (rd_L3 xs i).length (rd_L3 xs i) := by
 obtain ⟨ad, c, e, _, hK, hc0⟩ := Kd.C_get h ([] : List S46) i h0 h1
 have hc : ∀ j u, c[j]? = some u → w.cell? (ad.add (i.toNat * 1 + j)) = some u := hc0
 obtain ⟨A0, c0, rfl, l0, g0⟩ := hK
 exact ⟨ad, A0, c0, e, by have hq := hc 0 _ rfl; rwa [Nat.mul_one, Nat.add_zero] at hq, l0, g0⟩
structure S44 where
 f0 : Int
 f1 : Int
 f2 : Int
 f3 : (List S46)
def z44 : S44 := ⟨(0 : Int), (0 : Int), (0 : Int), ([] : List S46)⟩
def k44 : Kd S44 := Kd.iso (Kd.pair (Kd.int .i64) (Kd.pair (Kd.int .i64) (Kd.pair (Kd.int .i64) (Kd.slice 46 k46)))) (fun x : S44 => (x.f0, x.f1, x.f2, x.f3))
theorem k44_open {w : World} {x : S44} {cs : List Value} (h : k44.K w x cs) : ∃ A3 c3, cs = [.int .i64 x.f0, .int .i64 x.f1, .int .i64 x.f2, .slice A3 x.f3.length c3] ∧ x.f3.length ≤ c3 ∧ k46.C w A3 x.f3.length x.f3 := by
 obtain ⟨_, _, rfl, rfl, ⟨_, _, rfl, rfl, ⟨_, _, rfl, rfl, ⟨A3, c3, rfl, l3, g3⟩⟩⟩⟩ := h
 exact ⟨A3, c3, rfl, l3, g3⟩
theorem k44_mk (w : World) (x : S44) {A3 : Option Addr} {c3 : Nat} (l3 : x.f3.length ≤ c3) (g3 : k46.C w A3 x.f3.length x.f3) : k44.K w x [.int .i64 x.f0, .int .i64 x.f1, .int .i64 x.f2, .slice A3 x.f3.length c3] := ⟨[.int .i64 x.f0], [.int .i64 x.f1, .int .i64 x.f2, .slice A3 x.f3.length c3], rfl, rfl, ⟨[.int .i64 x.f1], [.int .i64 x.f2, .slice A3 x.f3.length c3], rfl, rfl, ⟨[.int .i64 x.f2], [.slice A3 x.f3.length c3], rfl, rfl, ⟨A3, c3, rfl, l3, g3⟩⟩⟩⟩
theorem k44_mkF (W : World) (ok : Nat → Prop) (x : S44) {A3 : Option Addr} {c3 : Nat} (l3 : x.f3.length ≤ c3) (g3 : Kd.F k46 W ok A3 x.f3.length x.f3) : Kd.FK k44 W ok x [.int .i64 x.f0, .int .i64 x.f1, .int .i64 x.f2, .slice A3 x.f3.length c3] := fun W2 hW => k44_mk W2 x l3 (g3 W2 hW)
def rd_T44 (xs : List S44) (i : Int) : S44 := xs.getD i.toNat z44
theorem at_T44 {w : World} {A : Option Addr} {n : Nat} {xs : List S44} (h : Kd.C k44 w A n xs) (i : Int) (h0 : 0 ≤ i) (h1 : i < n) : ∃ ad A3 c3, A = some ad ∧ w.cell? (ad.add (i.toNat * 4)) = some (.int .i64 (rd_T44 xs i).f0) ∧ w.cell? ⟨(ad.add (i.toNat * 4)).block, (ad.add (i.toNat * 4)).off + 1, none⟩ = some (.int .i64 (rd_T44 xs i).f1) ∧ w.cell? ⟨(ad.add (i.toNat * 4)).block, (ad.add (i.toNat * 4)).off + 2, none⟩ = some (.int .i64 (rd_T44 xs i).f2) ∧ w.cell? ⟨(ad.add (i.toNat * 4)).block, (ad.add (i.toNat * 4)).off + 3, none⟩ = some (.slice A3 (rd_T44 xs i).f3.length c3) ∧ (rd_T44 xs i).f3.length ≤ c3 ∧ k46.C w A3 (rd_T44 xs i).f3.length (rd_T44 xs i).f3 := by
 obtain ⟨ad, c, e, _, hK, hc0⟩ := Kd.C_get h z44 i h0 h1
 have hc : ∀ j u, c[j]? = some u → w.cell? (ad.add (i.toNat * 4 + j)) = some u := hc0
 obtain ⟨A3, c3, rfl, l3, g3⟩ := k44_open hK
 exact ⟨ad, A3, c3, e, hc 0 _ rfl, by rw [← add_field _ _ 1 (by omega)]; exact hc 1 _ rfl, by rw [← add_field _ _ 2 (by omega)]; exact hc 2 _ rfl, by rw [← add_field _ _ 3 (by omega)]; exact hc 3 _ rfl, l3, g3⟩
structure S25 where
 f0 : ByteArray
 f1 : (List S44)
 f2 : Int
def z25 : S25 := ⟨(⟨#[]⟩ : ByteArray), ([] : List S44), (0 : Int)⟩
def k25 : Kd S25 := Kd.iso (Kd.pair Kd.string (Kd.pair (Kd.slice 44 k44) (Kd.int .i64))) (fun x : S25 => (x.f0, x.f1, x.f2))
theorem k25_open {w : World} {x : S25} {cs : List Value} (h : k25.K w x cs) : ∃ A1 c1, cs = [.string x.f0, .slice A1 x.f1.length c1, .int .i64 x.f2] ∧ x.f1.length ≤ c1 ∧ k44.C w A1 x.f1.length x.f1 := by
 obtain ⟨_, _, rfl, rfl, ⟨_, _, rfl, ⟨A1, c1, rfl, l1, g1⟩, rfl⟩⟩ := h
 exact ⟨A1, c1, rfl, l1, g1⟩
theorem k25_mk (w : World) (x : S25) {A1 : Option Addr} {c1 : Nat} (l1 : x.f1.length ≤ c1) (g1 : k44.C w A1 x.f1.length x.f1) : k25.K w x [.string x.f0, .slice A1 x.f1.length c1, .int .i64 x.f2] := ⟨[.string x.f0], [.slice A1 x.f1.length c1, .int .i64 x.f2], rfl, rfl, ⟨[.slice A1 x.f1.length c1], [.int .i64 x.f2], rfl, ⟨A1, c1, rfl, l1, g1⟩, rfl⟩⟩
theorem k25_openF {W : World} {ok : Nat → Prop} {x : S25} {cs : List Value} (h : Kd.FK k25 W ok x cs) : ∃ A1 c1, cs = [.string x.f0, .slice A1 x.f1.length c1, .int .i64 x.f2] ∧ x.f1.length ≤ c1 ∧ Kd.F k44 W ok A1 x.f1.length x.f1 := by
 obtain ⟨A1, c1, rfl, l1, _⟩ := k25_open (Kd.FK_now h)
 exact ⟨A1, c1, rfl, l1, (fun W' hW => by obtain ⟨A1_, c1_, he, l1_, g1_⟩ := k25_open (h W' hW); injection (Option.some.inj (show some (Value.slice A1 x.f1.length c1) = some (Value.slice A1_ x.f1.length c1_) from congrArg (fun l => l[1]?) he)) with ha_ _ _; rw [ha_]; exact g1_)⟩
theorem k25_mkF (W : World) (ok : Nat → Prop) (x : S25) {A1 : Option Addr} {c1 : Nat} (l1 : x.f1.length ≤ c1) (g1 : Kd.F k44 W ok A1 x.f1.length x.f1) : Kd.FK k25 W ok x [.string x.f0, .slice A1 x.f1.length c1, .int .i64 x.f2] := fun W2 hW => k25_mk W2 x l1 (g1 W2 hW)
def rd_T25 (xs : List S25) (i : Int) : S25 := xs.getD i.toNat z25
theorem at_T25 {w : World} {A : Option Addr} {n : Nat} {xs : List S25} (h : Kd.C k25 w A n xs) (i : Int) (h0 : 0 ≤ i) (h1 : i < n) : ∃ ad A1 c1, A = some ad ∧ w.cell? (ad.add (i.toNat * 3)) = some (.string (rd_T25 xs i).f0) ∧ w.cell? ⟨(ad.add (i.toNat * 3)).block, (ad.add (i.toNat * 3)).off + 1, none⟩ = some (.slice A1 (rd_T25 xs i).f1.length c1) ∧ w.cell? ⟨(ad.add (i.toNat * 3)).block, (ad.add (i.toNat * 3)).off + 2, none⟩ = some (.int .i64 (rd_T25 xs i).f2) ∧ (rd_T25 xs i).f1.length ≤ c1 ∧ k44.C w A1 (rd_T25 xs i).f1.length (rd_T25 xs i).f1 := by
 obtain ⟨ad, c, e, _, hK, hc0⟩ := Kd.C_get h z25 i h0 h1
 have hc : ∀ j u, c[j]? = some u → w.cell? (ad.add (i.toNat * 3 + j)) = some u := hc0
 obtain ⟨A1, c1, rfl, l1, g1⟩ := k25_open hK
 exact ⟨ad, A1, c1, e, hc 0 _ rfl, by rw [← add_field _ _ 1 (by omega)]; exact hc 1 _ rfl, by rw [← add_field _ _ 2 (by omega)]; exact hc 2 _ rfl, l1, g1⟩
structure S86 where
 f0 : Int
 f1 : Int
def z86 : S86 := ⟨(0 : Int), (0 : Int)⟩
def k86 : Kd S86 := Kd.iso (Kd.pair (Kd.int .i64) (Kd.int .i64)) (fun x : S86 => (x.f0, x.f1))
theorem k86_open {w : World} {x : S86} {cs : List Value} (h : k86.K w x cs) : cs = [.int .i64 x.f0, .int .i64 x.f1] := by
 obtain ⟨_, _, rfl, rfl, rfl⟩ := h
 exact rfl
theorem k86_mkM (w : World) (base : Nat) (ok : Nat → Prop) (x : S86)  : k86.M w base ok x [.int .i64 x.f0, .int .i64 x.f1] := ⟨[.int .i64 x.f0], [.int .i64 x.f1], rfl, rfl, rfl⟩
def rd_T86 (xs : List S86) (i : Int) : S86 := xs.getD i.toNat z86
theorem at_T86 {w : World} {A : Option Addr} {n : Nat} {xs : List S86} (h : Kd.C k86 w A n xs) (i : Int) (h0 : 0 ≤ i) (h1 : i < n) : ∃ ad , A = some ad ∧ w.cell? (ad.add (i.toNat * 2)) = some (.int .i64 (rd_T86 xs i).f0) ∧ w.cell? ⟨(ad.add (i.toNat * 2)).block, (ad.add (i.toNat * 2)).off + 1, none⟩ = some (.int .i64 (rd_T86 xs i).f1) := by
 obtain ⟨ad, c, e, _, hK, hc0⟩ := Kd.C_get h z86 i h0 h1
 have hc : ∀ j u, c[j]? = some u → w.cell? (ad.add (i.toNat * 2 + j)) = some u := hc0
 obtain rfl := k86_open hK
 exact ⟨ad, e, hc 0 _ rfl, by rw [← add_field _ _ 1 (by omega)]; exact hc 1 _ rfl⟩
structure S154 where
 f0 : Int
 f1 : Int
def z154 : S154 := ⟨(0 : Int), (0 : Int)⟩
def k154 : Kd S154 := Kd.iso (Kd.pair (Kd.int .i64) (Kd.int .i64)) (fun x : S154 => (x.f0, x.f1))
theorem k154_open {w : World} {x : S154} {cs : List Value} (h : k154.K w x cs) : cs = [.int .i64 x.f0, .int .i64 x.f1] := by
 obtain ⟨_, _, rfl, rfl, rfl⟩ := h
 exact rfl
theorem k154_mkM (w : World) (base : Nat) (ok : Nat → Prop) (x : S154)  : k154.M w base ok x [.int .i64 x.f0, .int .i64 x.f1] := ⟨[.int .i64 x.f0], [.int .i64 x.f1], rfl, rfl, rfl⟩
def rd_T154 (xs : List S154) (i : Int) : S154 := xs.getD i.toNat z154
theorem at_T154 {w : World} {A : Option Addr} {n : Nat} {xs : List S154} (h : Kd.C k154 w A n xs) (i : Int) (h0 : 0 ≤ i) (h1 : i < n) : ∃ ad , A = some ad ∧ w.cell? (ad.add (i.toNat * 2)) = some (.int .i64 (rd_T154 xs i).f0) ∧ w.cell? ⟨(ad.add (i.toNat * 2)).block, (ad.add (i.toNat * 2)).off + 1, none⟩ = some (.int .i64 (rd_T154 xs i).f1) := by
 obtain ⟨ad, c, e, _, hK, hc0⟩ := Kd.C_get h z154 i h0 h1
 have hc : ∀ j u, c[j]? = some u → w.cell? (ad.add (i.toNat * 2 + j)) = some u := hc0
 obtain rfl := k154_open hK
 exact ⟨ad, e, hc 0 _ rfl, by rw [← add_field _ _ 1 (by omega)]; exact hc 1 _ rfl⟩
end Go.Proofs.Ytfocaefnmfkojaa.Q
namespace Go.Proofs.Ytfocaefnmfkojaa.Q
open Go.RowKit Go.Proofs.YtfocaefnmfkojaaW.PrintWords Go.Proofs.YtfocaefnmfkojaaW.PrintLast Go.Proofs.YtfocaefnmfkojaaW.PrintMore
attribute [local go_sem] max2_int min2_int max_two min_two max_three min_three max_four min_four   -- for this text's walks alone
set_option linter.unusedVariables false
set_option linter.unusedSimpArgs false
def op_Write.f (a0 : Int) (a1 : Int) : Option (Bool × Int × Int) := some (true, a0, a1)
set_option maxHeartbeats 8000000 in
set_option maxRecDepth 100000 in
theorem op_Write.calls (a0 : Int) (a1 : Int) (r1 : Bool) (r2 : Int) (r3 : Int) (w : World) (h : op_Write.f a0 a1 = some (r1, r2, r3)) :
  Calls Try.prog 60 #[.int .i64 a0, .int .i64 a1] w fun e w' => e = .returned (.agg #[.bool r1, .int .i64 r2, .int .i64 r3]) ∧ Below w.heap.size w w' := by
 have hu46 := Try.underlying46
 have HB := Aside0.mk (Below.refl w.heap.size w)
 have H : (some (true, a0, a1)) = some (r1, r2, r3) := h
 clear h
 simp only [Option.some.injEq, Prod.mk.injEq] at H
 obtain ⟨rfl, rfl, rfl⟩ := H
 go_enter Try.func60, Try.ntmps60
 go_wp2_with (first | ((with_reducible refine gate_dst (N := 4) rfl ?_); refine box_event ?hg (N := 4) ?hd (cs := #[.bool false, .int .i64 0, .int .i64 0]) (t := 46) ?hr ?_; (case hd => rfl); (case hg => rfl); (case hr => first | (go_simp; done) | (go_simp; rfl)); intro gb101 hg w3 hbox hb; have n0_ := Aside0.mk (below_step (by repeat (first | (with_reducible first | exact HB.out | apply below_alloc | apply pw_below_drewN | apply below_drew1))) hb); have n1_ := Aside0.mk (hbox); have n2_ := Aside0.mk ((by rw [hg]; exact (below_size (by repeat (first | (with_reducible first | exact HB.out | apply below_alloc | apply pw_below_drewN | apply below_drew1)))) : w.heap.size ≤ gb101)); have n3_ := Aside0.mk ((by rw [hg]; exact (below_size (by repeat (first | (with_reducible first | exact HB.out | apply below_alloc | apply pw_below_drewN | apply below_drew1)))) : w.heap.size ≤ gb101)); clear HB; have HB := n0_; have BK101 := n1_; have GW101 := n2_; have GE101 := n3_; clear n0_ n1_ n2_ n3_; clear hb hbox hg; have hcz4_0 : w3.cell? ⟨gb101, 0, none⟩ = some (.bool false) := (blk_cell BK101.out 0).trans rfl; have hcz4_1 : w3.cell? ⟨gb101, 1, none⟩ = some (.int .i64 0) := (blk_cell BK101.out 1).trans rfl; have hcz4_2 : w3.cell? ⟨gb101, 2, none⟩ = some (.int .i64 0) := (blk_cell BK101.out 2).trans rfl; have hfz4_0 := blk_frozen BK101.out 0; have hfz4_1 := blk_frozen BK101.out 1; have hfz4_2 := blk_frozen BK101.out 2))
 refine bodyPost_ret (results_cell_row rfl _ _ gb101 46 #[.bool true, .int .i64 a0, .int .i64 a1] (0, 0) _ rfl (by (with_reducible repeat (first | refine blk_drewN ?_ _ | refine blk_drew ?_ | refine blk_alloc ?_ _)); refine blk_put (cs := #[.bool true, .int .i64 a0, .int .i64 0]) ?_ 2 _ rfl; (with_reducible repeat (first | refine blk_drewN ?_ _ | refine blk_drew ?_ | refine blk_alloc ?_ _)); refine blk_put (cs := #[.bool true, .int .i64 0, .int .i64 0]) ?_ 1 _ rfl; (with_reducible repeat (first | refine blk_drewN ?_ _ | refine blk_drew ?_ | refine blk_alloc ?_ _)); refine blk_put (cs := #[.bool false, .int .i64 0, .int .i64 0]) ?_ 0 _ rfl; (with_reducible repeat (first | refine blk_drewN ?_ _ | refine blk_drew ?_ | refine blk_alloc ?_ _)); exact BK101.out) Try.underlying46 rfl (by kernel_rfl)) rfl ?_
 exact ⟨by first | rfl | (simp <;> rfl) | (simp [*] <;> rfl), by repeat (first | (with_reducible first | exact HB.out | apply below_alloc | apply pw_below_drewN | apply below_drew1 | refine below_set ?_ GE101.out))⟩
def op_Read.f (a0 : Int) (a1 : Int) : Option (Bool × Int × Int) := some (false, a0, a1)
set_option maxHeartbeats 8000000 in
set_option maxRecDepth 100000 in
theorem op_Read.calls (a0 : Int) (a1 : Int) (r1 : Bool) (r2 : Int) (r3 : Int) (w : World) (h : op_Read.f a0 a1 = some (r1, r2, r3)) :
  Calls Try.prog 65 #[.int .i64 a0, .int .i64 a1] w fun e w' => e = .returned (.agg #[.bool r1, .int .i64 r2, .int .i64 r3]) ∧ Below w.heap.size w w' := by
 have hu46 := Try.underlying46
 have HB := Aside0.mk (Below.refl w.heap.size w)
 have H : (some (false, a0, a1)) = some (r1, r2, r3) := h
 clear h
 simp only [Option.some.injEq, Prod.mk.injEq] at H
 obtain ⟨rfl, rfl, rfl⟩ := H
 go_enter Try.func65, Try.ntmps65
 go_wp2_with (first | ((with_reducible refine gate_dst (N := 4) rfl ?_); refine box_event ?hg (N := 4) ?hd (cs := #[.bool false, .int .i64 0, .int .i64 0]) (t := 46) ?hr ?_; (case hd => rfl); (case hg => rfl); (case hr => first | (go_simp; done) | (go_simp; rfl)); intro gb102 hg w3 hbox hb; have n0_ := Aside0.mk (below_step (by repeat (first | (with_reducible first | exact HB.out | apply below_alloc | apply pw_below_drewN | apply below_drew1))) hb); have n1_ := Aside0.mk (hbox); have n2_ := Aside0.mk ((by rw [hg]; exact (below_size (by repeat (first | (with_reducible first | exact HB.out | apply below_alloc | apply pw_below_drewN | apply below_drew1)))) : w.heap.size ≤ gb102)); have n3_ := Aside0.mk ((by rw [hg]; exact (below_size (by repeat (first | (with_reducible first | exact HB.out | apply below_alloc | apply pw_below_drewN | apply below_drew1)))) : w.heap.size ≤ gb102)); clear HB; have HB := n0_; have BK102 := n1_; have GW102 := n2_; have GE102 := n3_; clear n0_ n1_ n2_ n3_; clear hb hbox hg; have hcz4_0 : w3.cell? ⟨gb102, 0, none⟩ = some (.bool false) := (blk_cell BK102.out 0).trans rfl; have hcz4_1 : w3.cell? ⟨gb102, 1, none⟩ = some (.int .i64 0) := (blk_cell BK102.out 1).trans rfl; have hcz4_2 : w3.cell? ⟨gb102, 2, none⟩ = some (.int .i64 0) := (blk_cell BK102.out 2).trans rfl; have hfz4_0 := blk_frozen BK102.out 0; have hfz4_1 := blk_frozen BK102.out 1; have hfz4_2 := blk_frozen BK102.out 2))
 refine bodyPost_ret (results_cell_row rfl _ _ gb102 46 #[.bool false, .int .i64 a0, .int .i64 a1] (0, 0) _ rfl (by (with_reducible repeat (first | refine blk_drewN ?_ _ | refine blk_drew ?_ | refine blk_alloc ?_ _)); refine blk_put (cs := #[.bool false, .int .i64 a0, .int .i64 0]) ?_ 2 _ rfl; (with_reducible repeat (first | refine blk_drewN ?_ _ | refine blk_drew ?_ | refine blk_alloc ?_ _)); refine blk_put (cs := #[.bool false, .int .i64 0, .int .i64 0]) ?_ 1 _ rfl; (with_reducible repeat (first | refine blk_drewN ?_ _ | refine blk_drew ?_ | refine blk_alloc ?_ _)); refine blk_put (cs := #[.bool false, .int .i64 0, .int .i64 0]) ?_ 0 _ rfl; (with_reducible repeat (first | refine blk_drewN ?_ _ | refine blk_drew ?_ | refine blk_alloc ?_ _)); exact BK102.out) Try.underlying46 rfl (by kernel_rfl)) rfl ?_
 exact ⟨by first | rfl | (simp <;> rfl) | (simp [*] <;> rfl), by repeat (first | (with_reducible first | exact HB.out | apply below_alloc | apply pw_below_drewN | apply below_drew1 | refine below_set ?_ GE102.out))⟩
def catalogue_after.l0 : Nat → Bool → List (S44) → List (List (S46)) → Int → Int → Option ((List (S44)))
 | 0, _, _, _, _, _ => none
 | k + 1, x0, x5, x9, x10, x11 => if x11 < x10 then (if 0 ≤ x11 then (if x11 < (x9.length : Int) then (if x0 = true then (if x5.length < 2932031007402 then (catalogue_after.l0 k x0 (x5 ++ [(⟨0, wrap64 ((wrap64 (2 * x11)) + 1), wrap64 ((wrap64 (2 * x11)) + 2), rd_L3 x9 x11⟩ : S44)]) x9 x10 (wrap64 (x11 + 1))) else (none)) else (if x5.length < 2932031007402 then (catalogue_after.l0 k x0 (x5 ++ [(⟨x11, wrap64 ((wrap64 (2 * x11)) + 1), wrap64 ((wrap64 (2 * x11)) + 2), rd_L3 x9 x11⟩ : S44)]) x9 x10 (wrap64 (x11 + 1))) else (none))) else (none)) else (none)) else (some x5)
def catalogue_after.f (k : Nat) (a0 : Bool) (l1 : List (List (S46))) : Option ((List (S44))) := catalogue_after.l0 k a0 ([] : List (S44)) l1 (l1.length : Int) 0
theorem catalogue_after.mono_l : ∀ k, (∀ y0 y1 y2 y3 y4, LeO (catalogue_after.l0 k y0 y1 y2 y3 y4) (catalogue_after.l0 (k + 1) y0 y1 y2 y3 y4))
 | 0 => fun _ _ _ _ _ r h => by simp [catalogue_after.l0] at h
 | k + 1 => by
  have ih0 := catalogue_after.mono_l k
  ·intro y0 y1 y2 y3 y4
   unfold catalogue_after.l0
   repeat' first
   | (with_reducible exact ih0 _ _ _ _ _)
   | (with_reducible exact LeO.refl _)
   | (with_reducible exact LeO.none _)
   | (with_reducible refine LeO.ite ?_ ?_)
   | (with_reducible refine LeO.bind ?_ (fun _ => ?_))
   | exact ih0 _ _ _ _ _
   | exact LeO.none _
   | refine LeO.ite ?_ ?_
   | refine LeO.bind ?_ (fun _ => ?_)
theorem catalogue_after.mono : ∀ a0 a1 k, LeO (catalogue_after.f k a0 a1) (catalogue_after.f (k + 1) a0 a1) := by
 intro a0 a1 k
 have ih0 := catalogue_after.mono_l k
 unfold catalogue_after.f
 repeat' first
   | (with_reducible exact ih0 _ _ _ _ _)
   | (with_reducible exact LeO.refl _)
   | (with_reducible exact LeO.none _)
   | (with_reducible refine LeO.ite ?_ ?_)
   | (with_reducible refine LeO.bind ?_ (fun _ => ?_))
   | exact ih0 _ _ _ _ _
   | exact LeO.none _
   | refine LeO.ite ?_ ?_
   | refine LeO.bind ?_ (fun _ => ?_)
set_option maxHeartbeats 8000000 in
set_option maxRecDepth 100000 in
theorem catalogue_after.calls (k : Nat) (a0 : Bool) (P1_ : Nat → Prop) (A1 : Option Addr) (c1 : Nat) (l1 : List (List (S46))) (r : List (S44)) (w : World) (hs1 : Kd.V (Kd.slice 46 k46) 42 w w.heap.size (fun k_ => P1_ k_) (.slice A1 l1.length c1) l1) (h : catalogue_after.f k a0 l1 = some r) :
  Calls Try.prog 85 #[.bool a0, .slice A1 l1.length c1] w fun e w' => ∃ v0_ : Value, e = .returned (v0_) ∧ Kd.N k44 44 w' w.heap.size (fun k_ => (P1_ k_ ∨ w.heap.size ≤ k_)) v0_ r ∧ Below w.heap.size w w' := by
 have hu44 := Try.underlying44
 have HO1 := Aside0.mk (show Kd.V (Kd.slice 46 k46) 42 w w.heap.size (fun k_ => (P1_ k_ ∨ w.heap.size ≤ k_)) (.slice A1 l1.length c1) l1 from Kd.V_mono hs1 (fun k_ hk => .inl hk))
 have HB := Aside0.mk (Below.refl w.heap.size w)
 have H : (catalogue_after.l0 k a0 ([] : List (S44)) l1 (l1.length : Int) 0) = some r := h
 clear h
 have H' := Aside0.mk H
 clear H
 go_enter Try.func85, Try.ntmps85
 go_wp2
 go_loopg [5, 11] k (fun kq v5 v11 w' => ∃ (x5_1 : List (S44)) (x11_1 : Int), v11 = .int .i64 x11_1 ∧ Aside0 (catalogue_after.l0 kq a0 x5_1 l1 (l1.length : Int) x11_1 = some r) ∧ Aside0 (kq ≤ k) ∧ Aside0 (Kd.N k44 44 w' w.heap.size (fun k_ => (P1_ k_ ∨ w.heap.size ≤ k_)) v5 x5_1) ∧ Aside0 (Kd.V (Kd.slice 46 k46) 42 w' w.heap.size (fun k_ => (P1_ k_ ∨ w.heap.size ≤ k_) ∧ some k_ ≠ (v5 : Value).ownBlock) (.slice A1 l1.length c1) l1) ∧ Aside0 (Below w.heap.size w w'))
 case atStart => exact ⟨(([] : List (S44))), (0), (by first | rfl | (simp; done) | (simp [*]; done)), H', ⟨Nat.le_refl _⟩, ⟨by first | exact Kd.S_nil _ _ _ _ _ | exact Kd.N_nil _ _ _ _ _ | exact Kd.V_nil _ _ _ _ _ | exact Kd.Q_nil _ _ _ _ _ | exact Kd.R_nil _ _ _ _ _⟩, ⟨by (with_reducible repeat (first | apply Kd.V_alloc | apply Kd.V_drewN | apply Kd.V_drew)); exact Kd.V_mono HO1.out (fun _ hk => ⟨hk, (by simp [Value.ownBlock])⟩)⟩, ⟨by repeat (first | (with_reducible first | exact HB.out | apply below_alloc | apply pw_below_drewN | apply below_drew1))⟩⟩
 case round =>
  clear H'
  try clear c1
  try clear p2
  obtain ⟨x5_1, x11_1, rfl, HA, HK1, HO_5, HO_9, HB⟩ := hrel
  cases gk with
  | zero => exact absurd HA.out (by simp [catalogue_after.l0])
  | succ k1 =>
   have H := HA.out
   clear HA
   simp only [catalogue_after.l0] at H
   by_cases c3 : x11_1 < (l1.length : Int)
   ·rw [if_pos c3] at H
    have c3b0 : decide (x11_1 < (l1.length : Int)) = true := decide_eq_true c3
    clear c3
    by_cases c4 : 0 ≤ x11_1
    ·rw [if_pos c4] at H
     have c4b0 : decide (0 ≤ x11_1) = true := decide_eq_true c4
     clear c4
     by_cases c5 : x11_1 < (l1.length : Int)
     ·rw [if_pos c5] at H
      have c5b0 : decide (x11_1 < (l1.length : Int)) = true := decide_eq_true c5
      clear c5
      by_cases c6 : a0 = true
      ·subst c6
       have H1 : (if x5_1.length < 2932031007402 then (catalogue_after.l0 k1 true (x5_1 ++ [(⟨0, wrap64 ((wrap64 (2 * x11_1)) + 1), wrap64 ((wrap64 (2 * x11_1)) + 2), rd_L3 l1 x11_1⟩ : S44)]) l1 (l1.length : Int) (wrap64 (x11_1 + 1))) else (none)) = some r := by rw [if_pos rfl] at H; exact H
       clear H
       have H := H1
       clear H1
       by_cases c7 : x5_1.length < 2932031007402
       ·rw [if_pos c7] at H
        have LMc7 := Aside0.mk c7
        clear c7
        obtain ⟨y105, hy105⟩ : ∃ y_ : List (S44), y_ = (x5_1 ++ [(⟨0, wrap64 ((wrap64 (2 * x11_1)) + 1), wrap64 ((wrap64 (2 * x11_1)) + 2), rd_L3 l1 x11_1⟩ : S44)]) := ⟨_, rfl⟩
        replace H : (catalogue_after.l0 k1 true y105 l1 (l1.length : Int) (wrap64 (x11_1 + 1))) = some r := by first | (rw [hy105]; with_reducible exact H) | (have H2_ := (Option.bind_some _ _).symm.trans H; rw [hy105]; with_reducible exact H2_) | (have H2_ := (Option.bind_some _ _).symm.trans H; with_reducible exact H2_) | with_reducible exact H | (rw [hy105]; exact H) | exact H
        have Ny105 := Aside0.mk hy105
        clear hy105
        have H' := Aside0.mk H
        clear H
        have p103 : 0 ≤ (x11_1 : Int) := of_decide_eq_true (by assumption)
        have q103 : x11_1 < (l1.length : Int) := of_decide_eq_true (by assumption)
        obtain ⟨ad103, A103_0, c103_0, e103, hx103_0, hl103_0, hi103_0⟩ := at_L3 (Kd.V_reads' HO_9.out).2.2 x11_1 p103 q103
        cases e103
        obtain ⟨ce103, hce103, hMe103, hcc103⟩ := Kd.V_get HO_9.out [] x11_1 p103 (by first | exact q103 | exact of_decide_eq_true (by assumption) | (have e_ := (Kd.V_reads' HO_9.out).1; omega))
        obtain ⟨ua103_0, uc103_0, rfl, ul103_0, ge103_0⟩ := Kd.FK_slice_open hMe103
        have hv103_0 := hcc103 0 _ rfl
        rw [Nat.add_zero, show ((Kd.slice 46 k46)).sz = 1 from rfl, Nat.mul_one] at hv103_0
        replace hv103_0 := Option.some.inj (hv103_0.symm.trans hx103_0)
        injection hv103_0 with hva_ hvn_ hvc_
        rw [hva_] at ge103_0
        rw [hvc_] at ul103_0
        have HL103_0 := Aside0.mk (show Kd.V k46 46 _ w.heap.size _ _ (rd_L3 l1 x11_1) from Kd.V_mk ul103_0 ge103_0)
        clear hva_ hvn_ hvc_ ge103_0 ul103_0
        clear hcc103 hce103
        have HR103_0 := Aside0.mk hi103_0
        have HC103_0 := Aside0.mk hl103_0
        clear hi103_0 hl103_0
        replace p103 := eq_true p103
        replace q103 := eq_true q103
        go_wp2_with (first | ((with_reducible refine gate_dst (N := 8) rfl ?_); refine box_event ?hg (N := 8) ?hd (cs := #[.int .i64 0, .int .i64 0, .int .i64 0, .slice none 0 0]) (t := 44) ?hr ?_; (case hd => rfl); (case hg => rfl); (case hr => first | (go_simp; done) | (go_simp; rfl)); intro gb104 hg w8 hbox hb; have n0_ := Aside0.mk (Kd.N_below (Kd.N_elderB (by (with_reducible repeat (first | apply Kd.N_alloc | apply Kd.N_drewN | apply Kd.N_drew)); exact HO_5.out) gb104 (Nat.le_of_eq hg.symm)) hb); have n1_ := Aside0.mk (Kd.V_below (Kd.V_elderB (by (with_reducible repeat (first | apply Kd.V_alloc | apply Kd.V_drewN | apply Kd.V_drew)); exact HO_9.out) gb104 (Nat.le_of_eq hg.symm)) hb); have n2_ := Aside0.mk (Kd.V_below (Kd.V_elderB (by (with_reducible repeat (first | apply Kd.V_alloc | apply Kd.V_drewN | apply Kd.V_drew)); exact HL103_0.out) gb104 (Nat.le_of_eq hg.symm)) hb); have n3_ := Aside0.mk (Kd.C_below (by repeat (first | (with_reducible exact HR103_0.out) | (with_reducible refine Kd.C_alloc ?_ _) | (with_reducible refine Kd.C_drewN ?_ _) | (with_reducible refine Kd.C_drew ?_) | exact HR103_0.out)) hb); have n4_ := Aside0.mk (below_step (by repeat (first | (with_reducible first | exact HB.out | apply below_alloc | apply pw_below_drewN | apply below_drew1))) hb); have n5_ := Aside0.mk (hbox); have n6_ := Aside0.mk ((by rw [hg]; exact (below_size (by repeat (first | (with_reducible first | exact HB.out | apply below_alloc | apply pw_below_drewN | apply below_drew1)))) : w.heap.size ≤ gb104)); have n7_ := Aside0.mk ((by rw [hg]; exact (below_size (by repeat (first | (with_reducible first | exact HB.out | apply below_alloc | apply pw_below_drewN | apply below_drew1)))) : w.heap.size ≤ gb104)); clear HO_5; clear HO_9; clear HL103_0; clear HR103_0; clear HB; have HO_5 := n0_; have HO_9 := n1_; have HL103_0 := n2_; have HR103_0 := n3_; have HB := n4_; have BK104 := n5_; have GW104 := n6_; have GE104 := n7_; clear n0_ n1_ n2_ n3_ n4_ n5_ n6_ n7_; clear hb hbox hg; have hcz9_0 : w8.cell? ⟨gb104, 0, none⟩ = some (.int .i64 0) := (blk_cell BK104.out 0).trans rfl; have hcz9_1 : w8.cell? ⟨gb104, 1, none⟩ = some (.int .i64 0) := (blk_cell BK104.out 1).trans rfl; have hcz9_2 : w8.cell? ⟨gb104, 2, none⟩ = some (.int .i64 0) := (blk_cell BK104.out 2).trans rfl; have hcz9_3 : w8.cell? ⟨gb104, 3, none⟩ = some (.slice none 0 0) := (blk_cell BK104.out 3).trans rfl; have hfz9_0 := blk_frozen BK104.out 0; have hfz9_1 := blk_frozen BK104.out 1; have hfz9_2 := blk_frozen BK104.out 2; have hfz9_3 := blk_frozen BK104.out 3) | ((with_reducible refine gate_store (t := 44) (p := 8) rfl ?_); refine store_event (t := 44) (p := 8) (v := ?vo_w10) (w1 := ((((w8.setCell ⟨gb104, 0, none⟩ (.int .i64 0)).setCell ⟨gb104, 1, none⟩ (.int .i64 (wrap64 ((wrap64 (2 * x11_1)) + 1)))).setCell ⟨gb104, 2, none⟩ (.int .i64 (wrap64 ((wrap64 (2 * x11_1)) + 2)))).setCell ⟨gb104, 3, none⟩ (.slice A103_0 (rd_L3 l1 x11_1).length c103_0))) ?hg ?ho ?hn ?hr ?_; (case ho => rfl); (case hg => rfl); (case hn => rfl); (case hr => first | (go_simp; done) | (go_simp; rfl)); intro w10 hw; have n0_ : Aside0 (Kd.N k44 44 w10 w.heap.size (fun k_ => (P1_ k_ ∨ w.heap.size ≤ k_) ∧ k_ ≠ gb104) u5 x5_1) := ⟨(by rw [hw]; exact (by (with_reducible repeat (first | apply Kd.N_alloc | apply Kd.N_drewN | apply Kd.N_drew)); exact Kd.N_mono (Kd.N_far (p := ⟨gb104, 3, none⟩) (Kd.N_far (p := ⟨gb104, 2, none⟩) (Kd.N_far (p := ⟨gb104, 1, none⟩) (Kd.N_far (p := ⟨gb104, 0, none⟩) (Kd.N_mono HO_5.out (fun k_ hk => (⟨hk, hk.2⟩ : _ ∧ k_ ≠ gb104))) (fun _ hk => hk.2) (.int .i64 0)) (fun _ hk => hk.2) (.int .i64 (wrap64 ((wrap64 (2 * x11_1)) + 1)))) (fun _ hk => hk.2) (.int .i64 (wrap64 ((wrap64 (2 * x11_1)) + 2)))) (fun _ hk => hk.2) (.slice A103_0 (rd_L3 l1 x11_1).length c103_0)) (fun _ hk => ⟨hk.1.1, hk.1.2⟩)))⟩; have n1_ : Aside0 (Kd.V (Kd.slice 46 k46) 42 w10 w.heap.size (fun k_ => (P1_ k_ ∨ w.heap.size ≤ k_) ∧ some k_ ≠ (u5 : Value).ownBlock ∧ k_ ≠ gb104) (.slice (some ad103) l1.length c1) l1) := ⟨(by rw [hw]; exact (by (with_reducible repeat (first | apply Kd.V_alloc | apply Kd.V_drewN | apply Kd.V_drew)); exact Kd.V_mono (Kd.V_far (p := ⟨gb104, 3, none⟩) (Kd.V_far (p := ⟨gb104, 2, none⟩) (Kd.V_far (p := ⟨gb104, 1, none⟩) (Kd.V_far (p := ⟨gb104, 0, none⟩) (Kd.V_mono HO_9.out (fun k_ hk => (⟨hk, hk.2⟩ : _ ∧ k_ ≠ gb104))) (fun _ hk => hk.2) (.int .i64 0)) (fun _ hk => hk.2) (.int .i64 (wrap64 ((wrap64 (2 * x11_1)) + 1)))) (fun _ hk => hk.2) (.int .i64 (wrap64 ((wrap64 (2 * x11_1)) + 2)))) (fun _ hk => hk.2) (.slice A103_0 (rd_L3 l1 x11_1).length c103_0)) (fun _ hk => ⟨hk.1.1.1, ⟨hk.1.1.2, hk.1.2⟩⟩)))⟩; have n2_ : Aside0 (Kd.V k46 46 w10 w.heap.size (fun k_ => (P1_ k_ ∨ w.heap.size ≤ k_) ∧ some k_ ≠ (u5 : Value).ownBlock ∧ k_ ≠ gb104) (.slice A103_0 (rd_L3 l1 x11_1).length c103_0) (rd_L3 l1 x11_1)) := ⟨(by rw [hw]; exact (by (with_reducible repeat (first | apply Kd.V_alloc | apply Kd.V_drewN | apply Kd.V_drew)); exact Kd.V_mono (Kd.V_far (p := ⟨gb104, 3, none⟩) (Kd.V_far (p := ⟨gb104, 2, none⟩) (Kd.V_far (p := ⟨gb104, 1, none⟩) (Kd.V_far (p := ⟨gb104, 0, none⟩) (Kd.V_mono HL103_0.out (fun k_ hk => (⟨hk, hk.2⟩ : _ ∧ k_ ≠ gb104))) (fun _ hk => hk.2) (.int .i64 0)) (fun _ hk => hk.2) (.int .i64 (wrap64 ((wrap64 (2 * x11_1)) + 1)))) (fun _ hk => hk.2) (.int .i64 (wrap64 ((wrap64 (2 * x11_1)) + 2)))) (fun _ hk => hk.2) (.slice A103_0 (rd_L3 l1 x11_1).length c103_0)) (fun _ hk => ⟨hk.1.1.1, ⟨hk.1.1.2, hk.1.2⟩⟩)))⟩; have n3_ : Aside0 (w10.heap[gb104]? = some (.cells #[.int .i64 0, .int .i64 (wrap64 ((wrap64 (2 * x11_1)) + 1)), .int .i64 (wrap64 ((wrap64 (2 * x11_1)) + 2)), .slice A103_0 (rd_L3 l1 x11_1).length c103_0] 44 (0, 0))) := ⟨(by rw [hw]; exact (by (with_reducible repeat (first | refine blk_drewN ?_ _ | refine blk_drew ?_ | refine blk_alloc ?_ _)); refine blk_put (cs := #[.int .i64 0, .int .i64 (wrap64 ((wrap64 (2 * x11_1)) + 1)), .int .i64 (wrap64 ((wrap64 (2 * x11_1)) + 2)), .slice none 0 0]) ?_ 3 _ rfl; (with_reducible repeat (first | refine blk_drewN ?_ _ | refine blk_drew ?_ | refine blk_alloc ?_ _)); refine blk_put (cs := #[.int .i64 0, .int .i64 (wrap64 ((wrap64 (2 * x11_1)) + 1)), .int .i64 0, .slice none 0 0]) ?_ 2 _ rfl; (with_reducible repeat (first | refine blk_drewN ?_ _ | refine blk_drew ?_ | refine blk_alloc ?_ _)); refine blk_put (cs := #[.int .i64 0, .int .i64 0, .int .i64 0, .slice none 0 0]) ?_ 1 _ rfl; (with_reducible repeat (first | refine blk_drewN ?_ _ | refine blk_drew ?_ | refine blk_alloc ?_ _)); refine blk_put (cs := #[.int .i64 0, .int .i64 0, .int .i64 0, .slice none 0 0]) ?_ 0 _ rfl; (with_reducible repeat (first | refine blk_drewN ?_ _ | refine blk_drew ?_ | refine blk_alloc ?_ _)); exact BK104.out))⟩; have n4_ : Aside0 (Below w.heap.size w w10) := ⟨(by rw [hw]; exact (by repeat (first | (with_reducible first | exact HB.out | apply below_alloc | apply pw_below_drewN | apply below_drew1 | refine below_set ?_ GE104.out))))⟩; clear hw; clear HO_5; clear HO_9; clear HL103_0; clear BK104; clear HB; have HO_5 := n0_; have HO_9 := n1_; have HL103_0 := n2_; have BK104 := n3_; have HB := n4_; clear n0_ n1_ n2_ n3_ n4_; have hcz11_0 : w10.cell? ⟨gb104, 0, none⟩ = some (.int .i64 0) := (blk_cell BK104.out 0).trans rfl; have hcz11_1 : w10.cell? ⟨gb104, 1, none⟩ = some (.int .i64 (wrap64 ((wrap64 (2 * x11_1)) + 1))) := (blk_cell BK104.out 1).trans rfl; have hcz11_2 : w10.cell? ⟨gb104, 2, none⟩ = some (.int .i64 (wrap64 ((wrap64 (2 * x11_1)) + 2))) := (blk_cell BK104.out 2).trans rfl; have hcz11_3 : w10.cell? ⟨gb104, 3, none⟩ = some (.slice A103_0 (rd_L3 l1 x11_1).length c103_0) := (blk_cell BK104.out 3).trans rfl; have hfz11_0 := blk_frozen BK104.out 0; have hfz11_1 := blk_frozen BK104.out 1; have hfz11_2 := blk_frozen BK104.out 2; have hfz11_3 := blk_frozen BK104.out 3) | ((with_reducible refine gate_builtin (b := .append) (xs := #[.tmp 28, .tmp 30]) rfl ?_); at_builtin; refine Kd.N_append k44 (w0 := w) w.heap.size rfl (.tmp 28) (.tmp 30) 23 44 (.agg #[(.int .i64 0), (.int .i64 0), (.int .i64 0), (.slice none 0 0)]) 48 rfl Try.underlying23 info44 rfl (by decide) (by omega) u5 x5_1 (⟨0, wrap64 ((wrap64 (2 * x11_1)) + 1), wrap64 ((wrap64 (2 * x11_1)) + 2), rd_L3 l1 x11_1⟩ : S44) [.int .i64 0, .int .i64 (wrap64 ((wrap64 (2 * x11_1)) + 1)), .int .i64 (wrap64 ((wrap64 (2 * x11_1)) + 2)), .slice A103_0 (rd_L3 l1 x11_1).length c103_0] (fun k_ => (P1_ k_ ∨ w.heap.size ≤ k_) ∧ k_ ≠ gb104) (fun k_ => ((fun k_ => (P1_ k_ ∨ w.heap.size ≤ k_) ∧ k_ ≠ gb104)) k_ ∧ some k_ ≠ (u5 : Value).ownBlock) rfl rfl ?aP (fun _ hk => hk) ?aF ?aO ?aB ?aS ?aL ?_; (case aP => exact (k44_mkF _ _ (⟨0, wrap64 ((wrap64 (2 * x11_1)) + 1), wrap64 ((wrap64 (2 * x11_1)) + 2), rd_L3 l1 x11_1⟩ : S44) (Kd.V_reads' (Kd.V_mono (ok' := (fun k_ => ((fun k_ => (P1_ k_ ∨ w.heap.size ≤ k_) ∧ k_ ≠ gb104)) k_ ∧ some k_ ≠ (u5 : Value).ownBlock)) (HL103_0.out) (fun k_ hk => ⟨⟨hk.1, hk.2.2⟩, hk.2.1⟩))).2.1 (Kd.V_F (Kd.V_mono (ok' := (fun k_ => ((fun k_ => (P1_ k_ ∨ w.heap.size ≤ k_) ∧ k_ ≠ gb104)) k_ ∧ some k_ ≠ (u5 : Value).ownBlock)) (HL103_0.out) (fun k_ hk => ⟨⟨hk.1, hk.2.2⟩, hk.2.1⟩))))); (case aB => exact (by repeat (first | (with_reducible first | exact HB.out | apply below_alloc | apply pw_below_drewN | apply below_drew1 | refine below_set ?_ GE104.out)))); (case aF => exact (fun k_ hk => ⟨(.inr (Nat.le_trans (below_size (by repeat (first | (with_reducible first | exact HB.out | apply below_alloc | apply pw_below_drewN | apply below_drew1 | refine below_set ?_ GE104.out)))) hk)), Kd.freshB (g := gb104) (o := .cells #[.int .i64 0, .int .i64 (wrap64 ((wrap64 (2 * x11_1)) + 1)), .int .i64 (wrap64 ((wrap64 (2 * x11_1)) + 2)), .slice A103_0 (rd_L3 l1 x11_1).length c103_0] 44 (0, 0)) (by (with_reducible repeat (first | refine blk_drewN ?_ _ | refine blk_drew ?_ | refine blk_alloc ?_ _)); exact BK104.out) k_ hk⟩)); (case aO => exact (by (with_reducible repeat (first | apply Kd.N_alloc | apply Kd.N_drewN | apply Kd.N_drew)); exact HO_5.out)); (case aS => exact (below_size (by repeat (first | (with_reducible first | exact HB.out | apply below_alloc | apply pw_below_drewN | apply below_drew1 | refine below_set ?_ GE104.out))))); (case aL => have := LMc7.out; omega); intro v106 w12 ho hb hg hat; rw [← Ny105.out] at ho; have n0_ := Aside0.mk (Kd.V_afterv (ok := (fun k_ => (P1_ k_ ∨ w.heap.size ≤ k_) ∧ k_ ≠ gb104)) (by (with_reducible repeat (first | apply Kd.V_alloc | apply Kd.V_drewN | apply Kd.V_drew)); exact Kd.V_mono HO_9.out (fun _ hk => ⟨⟨hk.1, hk.2.2⟩, hk.2.1⟩)) hg hat); have n1_ := Aside0.mk (Kd.V_afterv (ok := (fun k_ => (P1_ k_ ∨ w.heap.size ≤ k_) ∧ k_ ≠ gb104)) (by (with_reducible repeat (first | apply Kd.V_alloc | apply Kd.V_drewN | apply Kd.V_drew)); exact Kd.V_mono HL103_0.out (fun _ hk => ⟨⟨hk.1, hk.2.2⟩, hk.2.1⟩)) hg hat); have n2_ := Aside0.mk (blk_grown (g := gb104) (o := .cells #[.int .i64 0, .int .i64 (wrap64 ((wrap64 (2 * x11_1)) + 1)), .int .i64 (wrap64 ((wrap64 (2 * x11_1)) + 2)), .slice A103_0 (rd_L3 l1 x11_1).length c103_0] 44 (0, 0)) (by (with_reducible repeat (first | refine blk_drewN ?_ _ | refine blk_drew ?_ | refine blk_alloc ?_ _)); exact BK104.out) hg (Kd.N_away HO_5.out (fun _ hk => hk.2))); have n3_ := Aside0.mk (hb); have n4_ := Aside0.mk (ho); clear HO_9; clear HL103_0; clear BK104; clear HB; clear HO_5; have HO_9 := n0_; have HL103_0 := n1_; have BK104 := n2_; have HB := n3_; have HO107 := n4_; clear n0_ n1_ n2_ n3_ n4_; clear ho hb hg hat))
        go_roundg k1
        case measure => have := HK1.out; omega
        case rel => exact ⟨(y105), (wrap64 (x11_1 + 1)), (by first | rfl | (simp; done) | (simp [*]; done)), H', ⟨by have := HK1.out; omega⟩, ⟨by (with_reducible repeat (first | apply Kd.N_alloc | apply Kd.N_drewN | apply Kd.N_drew)); exact Kd.N_mono HO107.out (fun _ hk => hk.1)⟩, ⟨by (with_reducible repeat (first | apply Kd.V_alloc | apply Kd.V_drewN | apply Kd.V_drew)); exact Kd.V_mono HO_9.out (fun _ hk => ⟨hk.1.1, hk.2⟩)⟩, ⟨by repeat (first | (with_reducible first | exact HB.out | apply below_alloc | apply pw_below_drewN | apply below_drew1 | refine below_set ?_ GE104.out))⟩⟩
       ·rw [if_neg c7] at H
        exact absurd H (by simp)
      ·replace c6 := Bool.eq_false_iff.mpr c6
       subst c6
       have H1 : (if x5_1.length < 2932031007402 then (catalogue_after.l0 k1 false (x5_1 ++ [(⟨x11_1, wrap64 ((wrap64 (2 * x11_1)) + 1), wrap64 ((wrap64 (2 * x11_1)) + 2), rd_L3 l1 x11_1⟩ : S44)]) l1 (l1.length : Int) (wrap64 (x11_1 + 1))) else (none)) = some r := by rw [if_neg (show ¬ (false = true) by decide)] at H; exact H
       clear H
       have H := H1
       clear H1
       by_cases c13 : x5_1.length < 2932031007402
       ·rw [if_pos c13] at H
        have LMc13 := Aside0.mk c13
        clear c13
        obtain ⟨y108, hy108⟩ : ∃ y_ : List (S44), y_ = (x5_1 ++ [(⟨x11_1, wrap64 ((wrap64 (2 * x11_1)) + 1), wrap64 ((wrap64 (2 * x11_1)) + 2), rd_L3 l1 x11_1⟩ : S44)]) := ⟨_, rfl⟩
        replace H : (catalogue_after.l0 k1 false y108 l1 (l1.length : Int) (wrap64 (x11_1 + 1))) = some r := by first | (rw [hy108]; with_reducible exact H) | (have H2_ := (Option.bind_some _ _).symm.trans H; rw [hy108]; with_reducible exact H2_) | (have H2_ := (Option.bind_some _ _).symm.trans H; with_reducible exact H2_) | with_reducible exact H | (rw [hy108]; exact H) | exact H
        have Ny108 := Aside0.mk hy108
        clear hy108
        have H' := Aside0.mk H
        clear H
        have p103 : 0 ≤ (x11_1 : Int) := of_decide_eq_true (by assumption)
        have q103 : x11_1 < (l1.length : Int) := of_decide_eq_true (by assumption)
        obtain ⟨ad103, A103_0, c103_0, e103, hx103_0, hl103_0, hi103_0⟩ := at_L3 (Kd.V_reads' HO_9.out).2.2 x11_1 p103 q103
        cases e103
        obtain ⟨ce103, hce103, hMe103, hcc103⟩ := Kd.V_get HO_9.out [] x11_1 p103 (by first | exact q103 | exact of_decide_eq_true (by assumption) | (have e_ := (Kd.V_reads' HO_9.out).1; omega))
        obtain ⟨ua103_0, uc103_0, rfl, ul103_0, ge103_0⟩ := Kd.FK_slice_open hMe103
        have hv103_0 := hcc103 0 _ rfl
        rw [Nat.add_zero, show ((Kd.slice 46 k46)).sz = 1 from rfl, Nat.mul_one] at hv103_0
        replace hv103_0 := Option.some.inj (hv103_0.symm.trans hx103_0)
        injection hv103_0 with hva_ hvn_ hvc_
        rw [hva_] at ge103_0
        rw [hvc_] at ul103_0
        have HL103_0 := Aside0.mk (show Kd.V k46 46 _ w.heap.size _ _ (rd_L3 l1 x11_1) from Kd.V_mk ul103_0 ge103_0)
        clear hva_ hvn_ hvc_ ge103_0 ul103_0
        clear hcc103 hce103
        have HR103_0 := Aside0.mk hi103_0
        have HC103_0 := Aside0.mk hl103_0
        clear hi103_0 hl103_0
        replace p103 := eq_true p103
        replace q103 := eq_true q103
        go_wp2_with (first | ((with_reducible refine gate_dst (N := 8) rfl ?_); refine box_event ?hg (N := 8) ?hd (cs := #[.int .i64 0, .int .i64 0, .int .i64 0, .slice none 0 0]) (t := 44) ?hr ?_; (case hd => rfl); (case hg => rfl); (case hr => first | (go_simp; done) | (go_simp; rfl)); intro gb104 hg w14 hbox hb; have n0_ := Aside0.mk (Kd.N_below (Kd.N_elderB (by (with_reducible repeat (first | apply Kd.N_alloc | apply Kd.N_drewN | apply Kd.N_drew)); exact HO_5.out) gb104 (Nat.le_of_eq hg.symm)) hb); have n1_ := Aside0.mk (Kd.V_below (Kd.V_elderB (by (with_reducible repeat (first | apply Kd.V_alloc | apply Kd.V_drewN | apply Kd.V_drew)); exact HO_9.out) gb104 (Nat.le_of_eq hg.symm)) hb); have n2_ := Aside0.mk (Kd.V_below (Kd.V_elderB (by (with_reducible repeat (first | apply Kd.V_alloc | apply Kd.V_drewN | apply Kd.V_drew)); exact HL103_0.out) gb104 (Nat.le_of_eq hg.symm)) hb); have n3_ := Aside0.mk (Kd.C_below (by repeat (first | (with_reducible exact HR103_0.out) | (with_reducible refine Kd.C_alloc ?_ _) | (with_reducible refine Kd.C_drewN ?_ _) | (with_reducible refine Kd.C_drew ?_) | exact HR103_0.out)) hb); have n4_ := Aside0.mk (below_step (by repeat (first | (with_reducible first | exact HB.out | apply below_alloc | apply pw_below_drewN | apply below_drew1))) hb); have n5_ := Aside0.mk (hbox); have n6_ := Aside0.mk ((by rw [hg]; exact (below_size (by repeat (first | (with_reducible first | exact HB.out | apply below_alloc | apply pw_below_drewN | apply below_drew1)))) : w.heap.size ≤ gb104)); have n7_ := Aside0.mk ((by rw [hg]; exact (below_size (by repeat (first | (with_reducible first | exact HB.out | apply below_alloc | apply pw_below_drewN | apply below_drew1)))) : w.heap.size ≤ gb104)); clear HO_5; clear HO_9; clear HL103_0; clear HR103_0; clear HB; have HO_5 := n0_; have HO_9 := n1_; have HL103_0 := n2_; have HR103_0 := n3_; have HB := n4_; have BK104 := n5_; have GW104 := n6_; have GE104 := n7_; clear n0_ n1_ n2_ n3_ n4_ n5_ n6_ n7_; clear hb hbox hg; have hcz15_0 : w14.cell? ⟨gb104, 0, none⟩ = some (.int .i64 0) := (blk_cell BK104.out 0).trans rfl; have hcz15_1 : w14.cell? ⟨gb104, 1, none⟩ = some (.int .i64 0) := (blk_cell BK104.out 1).trans rfl; have hcz15_2 : w14.cell? ⟨gb104, 2, none⟩ = some (.int .i64 0) := (blk_cell BK104.out 2).trans rfl; have hcz15_3 : w14.cell? ⟨gb104, 3, none⟩ = some (.slice none 0 0) := (blk_cell BK104.out 3).trans rfl; have hfz15_0 := blk_frozen BK104.out 0; have hfz15_1 := blk_frozen BK104.out 1; have hfz15_2 := blk_frozen BK104.out 2; have hfz15_3 := blk_frozen BK104.out 3) | ((with_reducible refine gate_store (t := 44) (p := 8) rfl ?_); refine store_event (t := 44) (p := 8) (v := ?vo_w16) (w1 := ((((w14.setCell ⟨gb104, 0, none⟩ (.int .i64 0)).setCell ⟨gb104, 1, none⟩ (.int .i64 (wrap64 ((wrap64 (2 * x11_1)) + 1)))).setCell ⟨gb104, 2, none⟩ (.int .i64 (wrap64 ((wrap64 (2 * x11_1)) + 2)))).setCell ⟨gb104, 3, none⟩ (.slice A103_0 (rd_L3 l1 x11_1).length c103_0))) ?hg ?ho ?hn ?hr ?_; (case ho => rfl); (case hg => rfl); (case hn => rfl); (case hr => first | (go_simp; done) | (go_simp; rfl)); intro w16 hw; have n0_ : Aside0 (Kd.N k44 44 w16 w.heap.size (fun k_ => (P1_ k_ ∨ w.heap.size ≤ k_) ∧ k_ ≠ gb104) u5 x5_1) := ⟨(by rw [hw]; exact (by (with_reducible repeat (first | apply Kd.N_alloc | apply Kd.N_drewN | apply Kd.N_drew)); exact Kd.N_mono (Kd.N_far (p := ⟨gb104, 3, none⟩) (Kd.N_far (p := ⟨gb104, 2, none⟩) (Kd.N_far (p := ⟨gb104, 1, none⟩) (Kd.N_far (p := ⟨gb104, 0, none⟩) (Kd.N_mono HO_5.out (fun k_ hk => (⟨hk, hk.2⟩ : _ ∧ k_ ≠ gb104))) (fun _ hk => hk.2) (.int .i64 0)) (fun _ hk => hk.2) (.int .i64 (wrap64 ((wrap64 (2 * x11_1)) + 1)))) (fun _ hk => hk.2) (.int .i64 (wrap64 ((wrap64 (2 * x11_1)) + 2)))) (fun _ hk => hk.2) (.slice A103_0 (rd_L3 l1 x11_1).length c103_0)) (fun _ hk => ⟨hk.1.1, hk.1.2⟩)))⟩; have n1_ : Aside0 (Kd.V (Kd.slice 46 k46) 42 w16 w.heap.size (fun k_ => (P1_ k_ ∨ w.heap.size ≤ k_) ∧ some k_ ≠ (u5 : Value).ownBlock ∧ k_ ≠ gb104) (.slice (some ad103) l1.length c1) l1) := ⟨(by rw [hw]; exact (by (with_reducible repeat (first | apply Kd.V_alloc | apply Kd.V_drewN | apply Kd.V_drew)); exact Kd.V_mono (Kd.V_far (p := ⟨gb104, 3, none⟩) (Kd.V_far (p := ⟨gb104, 2, none⟩) (Kd.V_far (p := ⟨gb104, 1, none⟩) (Kd.V_far (p := ⟨gb104, 0, none⟩) (Kd.V_mono HO_9.out (fun k_ hk => (⟨hk, hk.2⟩ : _ ∧ k_ ≠ gb104))) (fun _ hk => hk.2) (.int .i64 0)) (fun _ hk => hk.2) (.int .i64 (wrap64 ((wrap64 (2 * x11_1)) + 1)))) (fun _ hk => hk.2) (.int .i64 (wrap64 ((wrap64 (2 * x11_1)) + 2)))) (fun _ hk => hk.2) (.slice A103_0 (rd_L3 l1 x11_1).length c103_0)) (fun _ hk => ⟨hk.1.1.1, ⟨hk.1.1.2, hk.1.2⟩⟩)))⟩; have n2_ : Aside0 (Kd.V k46 46 w16 w.heap.size (fun k_ => (P1_ k_ ∨ w.heap.size ≤ k_) ∧ some k_ ≠ (u5 : Value).ownBlock ∧ k_ ≠ gb104) (.slice A103_0 (rd_L3 l1 x11_1).length c103_0) (rd_L3 l1 x11_1)) := ⟨(by rw [hw]; exact (by (with_reducible repeat (first | apply Kd.V_alloc | apply Kd.V_drewN | apply Kd.V_drew)); exact Kd.V_mono (Kd.V_far (p := ⟨gb104, 3, none⟩) (Kd.V_far (p := ⟨gb104, 2, none⟩) (Kd.V_far (p := ⟨gb104, 1, none⟩) (Kd.V_far (p := ⟨gb104, 0, none⟩) (Kd.V_mono HL103_0.out (fun k_ hk => (⟨hk, hk.2⟩ : _ ∧ k_ ≠ gb104))) (fun _ hk => hk.2) (.int .i64 0)) (fun _ hk => hk.2) (.int .i64 (wrap64 ((wrap64 (2 * x11_1)) + 1)))) (fun _ hk => hk.2) (.int .i64 (wrap64 ((wrap64 (2 * x11_1)) + 2)))) (fun _ hk => hk.2) (.slice A103_0 (rd_L3 l1 x11_1).length c103_0)) (fun _ hk => ⟨hk.1.1.1, ⟨hk.1.1.2, hk.1.2⟩⟩)))⟩; have n3_ : Aside0 (w16.heap[gb104]? = some (.cells #[.int .i64 0, .int .i64 (wrap64 ((wrap64 (2 * x11_1)) + 1)), .int .i64 (wrap64 ((wrap64 (2 * x11_1)) + 2)), .slice A103_0 (rd_L3 l1 x11_1).length c103_0] 44 (0, 0))) := ⟨(by rw [hw]; exact (by (with_reducible repeat (first | refine blk_drewN ?_ _ | refine blk_drew ?_ | refine blk_alloc ?_ _)); refine blk_put (cs := #[.int .i64 0, .int .i64 (wrap64 ((wrap64 (2 * x11_1)) + 1)), .int .i64 (wrap64 ((wrap64 (2 * x11_1)) + 2)), .slice none 0 0]) ?_ 3 _ rfl; (with_reducible repeat (first | refine blk_drewN ?_ _ | refine blk_drew ?_ | refine blk_alloc ?_ _)); refine blk_put (cs := #[.int .i64 0, .int .i64 (wrap64 ((wrap64 (2 * x11_1)) + 1)), .int .i64 0, .slice none 0 0]) ?_ 2 _ rfl; (with_reducible repeat (first | refine blk_drewN ?_ _ | refine blk_drew ?_ | refine blk_alloc ?_ _)); refine blk_put (cs := #[.int .i64 0, .int .i64 0, .int .i64 0, .slice none 0 0]) ?_ 1 _ rfl; (with_reducible repeat (first | refine blk_drewN ?_ _ | refine blk_drew ?_ | refine blk_alloc ?_ _)); refine blk_put (cs := #[.int .i64 0, .int .i64 0, .int .i64 0, .slice none 0 0]) ?_ 0 _ rfl; (with_reducible repeat (first | refine blk_drewN ?_ _ | refine blk_drew ?_ | refine blk_alloc ?_ _)); exact BK104.out))⟩; have n4_ : Aside0 (Below w.heap.size w w16) := ⟨(by rw [hw]; exact (by repeat (first | (with_reducible first | exact HB.out | apply below_alloc | apply pw_below_drewN | apply below_drew1 | refine below_set ?_ GE104.out))))⟩; clear hw; clear HO_5; clear HO_9; clear HL103_0; clear BK104; clear HB; have HO_5 := n0_; have HO_9 := n1_; have HL103_0 := n2_; have BK104 := n3_; have HB := n4_; clear n0_ n1_ n2_ n3_ n4_; have hcz17_0 : w16.cell? ⟨gb104, 0, none⟩ = some (.int .i64 0) := (blk_cell BK104.out 0).trans rfl; have hcz17_1 : w16.cell? ⟨gb104, 1, none⟩ = some (.int .i64 (wrap64 ((wrap64 (2 * x11_1)) + 1))) := (blk_cell BK104.out 1).trans rfl; have hcz17_2 : w16.cell? ⟨gb104, 2, none⟩ = some (.int .i64 (wrap64 ((wrap64 (2 * x11_1)) + 2))) := (blk_cell BK104.out 2).trans rfl; have hcz17_3 : w16.cell? ⟨gb104, 3, none⟩ = some (.slice A103_0 (rd_L3 l1 x11_1).length c103_0) := (blk_cell BK104.out 3).trans rfl; have hfz17_0 := blk_frozen BK104.out 0; have hfz17_1 := blk_frozen BK104.out 1; have hfz17_2 := blk_frozen BK104.out 2; have hfz17_3 := blk_frozen BK104.out 3) | ((with_reducible refine gate_store (t := 3) (p := 27) rfl ?_); refine store_event (t := 3) (p := 27) (v := ?vo_w18) (w1 := (w16.setCell ⟨gb104, 0, none⟩ (.int .i64 x11_1))) ?hg ?ho ?hn ?hr ?_; (case ho => rfl); (case hg => rfl); (case hn => rfl); (case hr => first | (go_simp; done) | (go_simp; rfl)); intro w18 hw; have n0_ : Aside0 (Kd.N k44 44 w18 w.heap.size (fun k_ => (P1_ k_ ∨ w.heap.size ≤ k_) ∧ k_ ≠ gb104) u5 x5_1) := ⟨(by rw [hw]; exact (by (with_reducible repeat (first | apply Kd.N_alloc | apply Kd.N_drewN | apply Kd.N_drew)); exact Kd.N_mono (Kd.N_far (p := ⟨gb104, 0, none⟩) (Kd.N_mono HO_5.out (fun k_ hk => (⟨hk, hk.2⟩ : _ ∧ k_ ≠ gb104))) (fun _ hk => hk.2) (.int .i64 x11_1)) (fun _ hk => ⟨hk.1.1, hk.1.2⟩)))⟩; have n1_ : Aside0 (Kd.V (Kd.slice 46 k46) 42 w18 w.heap.size (fun k_ => (P1_ k_ ∨ w.heap.size ≤ k_) ∧ some k_ ≠ (u5 : Value).ownBlock ∧ k_ ≠ gb104) (.slice (some ad103) l1.length c1) l1) := ⟨(by rw [hw]; exact (by (with_reducible repeat (first | apply Kd.V_alloc | apply Kd.V_drewN | apply Kd.V_drew)); exact Kd.V_mono (Kd.V_far (p := ⟨gb104, 0, none⟩) (Kd.V_mono HO_9.out (fun k_ hk => (⟨hk, hk.2.2⟩ : _ ∧ k_ ≠ gb104))) (fun _ hk => hk.2) (.int .i64 x11_1)) (fun _ hk => ⟨hk.1.1, ⟨hk.1.2.1, hk.1.2.2⟩⟩)))⟩; have n2_ : Aside0 (Kd.V k46 46 w18 w.heap.size (fun k_ => (P1_ k_ ∨ w.heap.size ≤ k_) ∧ some k_ ≠ (u5 : Value).ownBlock ∧ k_ ≠ gb104) (.slice A103_0 (rd_L3 l1 x11_1).length c103_0) (rd_L3 l1 x11_1)) := ⟨(by rw [hw]; exact (by (with_reducible repeat (first | apply Kd.V_alloc | apply Kd.V_drewN | apply Kd.V_drew)); exact Kd.V_mono (Kd.V_far (p := ⟨gb104, 0, none⟩) (Kd.V_mono HL103_0.out (fun k_ hk => (⟨hk, hk.2.2⟩ : _ ∧ k_ ≠ gb104))) (fun _ hk => hk.2) (.int .i64 x11_1)) (fun _ hk => ⟨hk.1.1, ⟨hk.1.2.1, hk.1.2.2⟩⟩)))⟩; have n3_ : Aside0 (w18.heap[gb104]? = some (.cells #[.int .i64 x11_1, .int .i64 (wrap64 ((wrap64 (2 * x11_1)) + 1)), .int .i64 (wrap64 ((wrap64 (2 * x11_1)) + 2)), .slice A103_0 (rd_L3 l1 x11_1).length c103_0] 44 (0, 0))) := ⟨(by rw [hw]; exact (by (with_reducible repeat (first | refine blk_drewN ?_ _ | refine blk_drew ?_ | refine blk_alloc ?_ _)); refine blk_put (cs := #[.int .i64 0, .int .i64 (wrap64 ((wrap64 (2 * x11_1)) + 1)), .int .i64 (wrap64 ((wrap64 (2 * x11_1)) + 2)), .slice A103_0 (rd_L3 l1 x11_1).length c103_0]) ?_ 0 _ rfl; (with_reducible repeat (first | refine blk_drewN ?_ _ | refine blk_drew ?_ | refine blk_alloc ?_ _)); exact BK104.out))⟩; have n4_ : Aside0 (Below w.heap.size w w18) := ⟨(by rw [hw]; exact (by repeat (first | (with_reducible first | exact HB.out | apply below_alloc | apply pw_below_drewN | apply below_drew1 | refine below_set ?_ GE104.out))))⟩; clear hw; clear HO_5; clear HO_9; clear HL103_0; clear BK104; clear HB; have HO_5 := n0_; have HO_9 := n1_; have HL103_0 := n2_; have BK104 := n3_; have HB := n4_; clear n0_ n1_ n2_ n3_ n4_; have hcz19_0 : w18.cell? ⟨gb104, 0, none⟩ = some (.int .i64 x11_1) := (blk_cell BK104.out 0).trans rfl; have hcz19_1 : w18.cell? ⟨gb104, 1, none⟩ = some (.int .i64 (wrap64 ((wrap64 (2 * x11_1)) + 1))) := (blk_cell BK104.out 1).trans rfl; have hcz19_2 : w18.cell? ⟨gb104, 2, none⟩ = some (.int .i64 (wrap64 ((wrap64 (2 * x11_1)) + 2))) := (blk_cell BK104.out 2).trans rfl; have hcz19_3 : w18.cell? ⟨gb104, 3, none⟩ = some (.slice A103_0 (rd_L3 l1 x11_1).length c103_0) := (blk_cell BK104.out 3).trans rfl; have hfz19_0 := blk_frozen BK104.out 0; have hfz19_1 := blk_frozen BK104.out 1; have hfz19_2 := blk_frozen BK104.out 2; have hfz19_3 := blk_frozen BK104.out 3) | ((with_reducible refine gate_builtin (b := .append) (xs := #[.tmp 28, .tmp 30]) rfl ?_); at_builtin; refine Kd.N_append k44 (w0 := w) w.heap.size rfl (.tmp 28) (.tmp 30) 23 44 (.agg #[(.int .i64 0), (.int .i64 0), (.int .i64 0), (.slice none 0 0)]) 48 rfl Try.underlying23 info44 rfl (by decide) (by omega) u5 x5_1 (⟨x11_1, wrap64 ((wrap64 (2 * x11_1)) + 1), wrap64 ((wrap64 (2 * x11_1)) + 2), rd_L3 l1 x11_1⟩ : S44) [.int .i64 x11_1, .int .i64 (wrap64 ((wrap64 (2 * x11_1)) + 1)), .int .i64 (wrap64 ((wrap64 (2 * x11_1)) + 2)), .slice A103_0 (rd_L3 l1 x11_1).length c103_0] (fun k_ => (P1_ k_ ∨ w.heap.size ≤ k_) ∧ k_ ≠ gb104) (fun k_ => ((fun k_ => (P1_ k_ ∨ w.heap.size ≤ k_) ∧ k_ ≠ gb104)) k_ ∧ some k_ ≠ (u5 : Value).ownBlock) rfl rfl ?aP (fun _ hk => hk) ?aF ?aO ?aB ?aS ?aL ?_; (case aP => exact (k44_mkF _ _ (⟨x11_1, wrap64 ((wrap64 (2 * x11_1)) + 1), wrap64 ((wrap64 (2 * x11_1)) + 2), rd_L3 l1 x11_1⟩ : S44) (Kd.V_reads' (Kd.V_mono (ok' := (fun k_ => ((fun k_ => (P1_ k_ ∨ w.heap.size ≤ k_) ∧ k_ ≠ gb104)) k_ ∧ some k_ ≠ (u5 : Value).ownBlock)) (HL103_0.out) (fun k_ hk => ⟨⟨hk.1, hk.2.2⟩, hk.2.1⟩))).2.1 (Kd.V_F (Kd.V_mono (ok' := (fun k_ => ((fun k_ => (P1_ k_ ∨ w.heap.size ≤ k_) ∧ k_ ≠ gb104)) k_ ∧ some k_ ≠ (u5 : Value).ownBlock)) (HL103_0.out) (fun k_ hk => ⟨⟨hk.1, hk.2.2⟩, hk.2.1⟩))))); (case aB => exact (by repeat (first | (with_reducible first | exact HB.out | apply below_alloc | apply pw_below_drewN | apply below_drew1 | refine below_set ?_ GE104.out)))); (case aF => exact (fun k_ hk => ⟨(.inr (Nat.le_trans (below_size (by repeat (first | (with_reducible first | exact HB.out | apply below_alloc | apply pw_below_drewN | apply below_drew1 | refine below_set ?_ GE104.out)))) hk)), Kd.freshB (g := gb104) (o := .cells #[.int .i64 x11_1, .int .i64 (wrap64 ((wrap64 (2 * x11_1)) + 1)), .int .i64 (wrap64 ((wrap64 (2 * x11_1)) + 2)), .slice A103_0 (rd_L3 l1 x11_1).length c103_0] 44 (0, 0)) (by (with_reducible repeat (first | refine blk_drewN ?_ _ | refine blk_drew ?_ | refine blk_alloc ?_ _)); exact BK104.out) k_ hk⟩)); (case aO => exact (by (with_reducible repeat (first | apply Kd.N_alloc | apply Kd.N_drewN | apply Kd.N_drew)); exact HO_5.out)); (case aS => exact (below_size (by repeat (first | (with_reducible first | exact HB.out | apply below_alloc | apply pw_below_drewN | apply below_drew1 | refine below_set ?_ GE104.out))))); (case aL => have := LMc13.out; omega); intro v109 w20 ho hb hg hat; rw [← Ny108.out] at ho; have n0_ := Aside0.mk (Kd.V_afterv (ok := (fun k_ => (P1_ k_ ∨ w.heap.size ≤ k_) ∧ k_ ≠ gb104)) (by (with_reducible repeat (first | apply Kd.V_alloc | apply Kd.V_drewN | apply Kd.V_drew)); exact Kd.V_mono HO_9.out (fun _ hk => ⟨⟨hk.1, hk.2.2⟩, hk.2.1⟩)) hg hat); have n1_ := Aside0.mk (Kd.V_afterv (ok := (fun k_ => (P1_ k_ ∨ w.heap.size ≤ k_) ∧ k_ ≠ gb104)) (by (with_reducible repeat (first | apply Kd.V_alloc | apply Kd.V_drewN | apply Kd.V_drew)); exact Kd.V_mono HL103_0.out (fun _ hk => ⟨⟨hk.1, hk.2.2⟩, hk.2.1⟩)) hg hat); have n2_ := Aside0.mk (blk_grown (g := gb104) (o := .cells #[.int .i64 x11_1, .int .i64 (wrap64 ((wrap64 (2 * x11_1)) + 1)), .int .i64 (wrap64 ((wrap64 (2 * x11_1)) + 2)), .slice A103_0 (rd_L3 l1 x11_1).length c103_0] 44 (0, 0)) (by (with_reducible repeat (first | refine blk_drewN ?_ _ | refine blk_drew ?_ | refine blk_alloc ?_ _)); exact BK104.out) hg (Kd.N_away HO_5.out (fun _ hk => hk.2))); have n3_ := Aside0.mk (hb); have n4_ := Aside0.mk (ho); clear HO_9; clear HL103_0; clear BK104; clear HB; clear HO_5; have HO_9 := n0_; have HL103_0 := n1_; have BK104 := n2_; have HB := n3_; have HO110 := n4_; clear n0_ n1_ n2_ n3_ n4_; clear ho hb hg hat))
        go_roundg k1
        case measure => have := HK1.out; omega
        case rel => exact ⟨(y108), (wrap64 (x11_1 + 1)), (by first | rfl | (simp; done) | (simp [*]; done)), H', ⟨by have := HK1.out; omega⟩, ⟨by (with_reducible repeat (first | apply Kd.N_alloc | apply Kd.N_drewN | apply Kd.N_drew)); exact Kd.N_mono HO110.out (fun _ hk => hk.1)⟩, ⟨by (with_reducible repeat (first | apply Kd.V_alloc | apply Kd.V_drewN | apply Kd.V_drew)); exact Kd.V_mono HO_9.out (fun _ hk => ⟨hk.1.1, hk.2⟩)⟩, ⟨by repeat (first | (with_reducible first | exact HB.out | apply below_alloc | apply pw_below_drewN | apply below_drew1 | refine below_set ?_ GE104.out))⟩⟩
       ·rw [if_neg c13] at H
        exact absurd H (by simp)
     ·rw [if_neg c5] at H
      exact absurd H (by simp)
    ·rw [if_neg c4] at H
     exact absurd H (by simp)
   ·rw [if_neg c3] at H
    have c3b0 : decide (x11_1 < (l1.length : Int)) = false := decide_eq_false c3
    clear c3
    obtain rfl := Option.some.inj H
    go_wp2
    go_ret
    exact ⟨_, by first | rfl | (simp <;> rfl) | (simp [*] <;> rfl), by (with_reducible repeat (first | apply Kd.N_alloc | apply Kd.N_drewN | apply Kd.N_drew)); exact HO_5.out, by repeat (first | (with_reducible first | exact HB.out | apply below_alloc | apply pw_below_drewN | apply below_drew1))⟩
def catalogue_ops.f (l0 : List (S46)) : Option ((List (S46))) := some l0
set_option maxHeartbeats 8000000 in
set_option maxRecDepth 100000 in
theorem catalogue_ops.calls (P0_ : Nat → Prop) (u9000_ : Value) (l0 : List (S46)) (r : List (S46)) (w0 w : World) (hB : Below w0.heap.size w0 w) (ho0 : Kd.R k46 46 w w0.heap.size P0_ u9000_ l0) (h : catalogue_ops.f l0 = some r) :
  Calls Try.prog 86 #[u9000_] w fun e w' => ∃ v0_ : Value, e = .returned (v0_) ∧ Kd.R k46 46 w' w0.heap.size (fun k_ => (P0_ k_ ∨ w.heap.size ≤ k_)) v0_ r ∧ Below w0.heap.size w0 w' ∧ Kept w w' (fun k_ => P0_ k_) := by
 have HO0 := Aside0.mk (show Kd.R k46 46 w w0.heap.size (fun k_ => (P0_ k_ ∨ w.heap.size ≤ k_)) u9000_ l0 from Kd.R_mono ho0 (fun k_ hk => (.inl hk)))
 have HK := Aside0.mk (Kept.refl w (fun k_ => P0_ k_))
 have HW0 := Aside0.mk hB.size
 have HB := Aside0.mk hB
 clear hB
 have H : (some l0) = some r := h
 clear h
 obtain rfl := Option.some.inj H
 go_enter Try.func86, Try.ntmps86
 go_wp2
 go_ret
 exact ⟨_, by first | rfl | (simp <;> rfl) | (simp [*] <;> rfl), by (with_reducible repeat (first | apply Kd.R_alloc | apply Kd.R_drewN | apply Kd.R_drew)); exact HO0.out, by repeat (first | (with_reducible first | exact HB.out | apply below_alloc | apply pw_below_drewN | apply below_drew1)), by repeat (first | (with_reducible first | exact HK.out | apply Kept.alloc | apply Kept.drewN | apply Kept.drew) | exact HK.out)⟩
def catalogue_at.l0 : Nat → List (S44) → Int → List (List (S46)) → Int → Int → Option ((List (S44)))
 | 0, _, _, _, _, _ => none
 | k + 1, x3, x4, x9, x10, x11 => if x11 < x10 then (if 0 ≤ x11 then (if x11 < (x9.length : Int) then (if x3.length < 2932031007402 then (catalogue_at.l0 k (x3 ++ [(⟨x11, wrap64 (x11 + 1), wrap64 ((wrap64 (x4 + x11)) + 1), rd_L3 x9 x11⟩ : S44)]) x4 x9 x10 (wrap64 (x11 + 1))) else (none)) else (none)) else (none)) else (some x3)
def catalogue_at.f (k : Nat) (l0 : List (List (S46))) : Option ((List (S44))) := catalogue_at.l0 k ([] : List (S44)) (l0.length : Int) l0 (l0.length : Int) 0
theorem catalogue_at.mono_l : ∀ k, (∀ y0 y1 y2 y3 y4, LeO (catalogue_at.l0 k y0 y1 y2 y3 y4) (catalogue_at.l0 (k + 1) y0 y1 y2 y3 y4))
 | 0 => fun _ _ _ _ _ r h => by simp [catalogue_at.l0] at h
 | k + 1 => by
  have ih0 := catalogue_at.mono_l k
  ·intro y0 y1 y2 y3 y4
   unfold catalogue_at.l0
   repeat' first
   | (with_reducible exact ih0 _ _ _ _ _)
   | (with_reducible exact LeO.refl _)
   | (with_reducible exact LeO.none _)
   | (with_reducible refine LeO.ite ?_ ?_)
   | (with_reducible refine LeO.bind ?_ (fun _ => ?_))
   | exact ih0 _ _ _ _ _
   | exact LeO.none _
   | refine LeO.ite ?_ ?_
   | refine LeO.bind ?_ (fun _ => ?_)
theorem catalogue_at.mono : ∀ a0 k, LeO (catalogue_at.f k a0) (catalogue_at.f (k + 1) a0) := by
 intro a0 k
 have ih0 := catalogue_at.mono_l k
 unfold catalogue_at.f
 repeat' first
   | (with_reducible exact ih0 _ _ _ _ _)
   | (with_reducible exact LeO.refl _)
   | (with_reducible exact LeO.none _)
   | (with_reducible refine LeO.ite ?_ ?_)
   | (with_reducible refine LeO.bind ?_ (fun _ => ?_))
   | exact ih0 _ _ _ _ _
   | exact LeO.none _
   | refine LeO.ite ?_ ?_
   | refine LeO.bind ?_ (fun _ => ?_)
set_option maxHeartbeats 8000000 in
set_option maxRecDepth 100000 in
theorem catalogue_at.calls (k : Nat) (P0_ : Nat → Prop) (A0 : Option Addr) (c0 : Nat) (l0 : List (List (S46))) (r : List (S44)) (w : World) (hs0 : Kd.V (Kd.slice 46 k46) 42 w w.heap.size (fun k_ => P0_ k_) (.slice A0 l0.length c0) l0) (h : catalogue_at.f k l0 = some r) :
  Calls Try.prog 87 #[.slice A0 l0.length c0] w fun e w' => ∃ v0_ : Value, e = .returned (v0_) ∧ Kd.N k44 44 w' w.heap.size (fun k_ => (P0_ k_ ∨ w.heap.size ≤ k_)) v0_ r ∧ Below w.heap.size w w' := by
 have hu44 := Try.underlying44
 have HO0 := Aside0.mk (show Kd.V (Kd.slice 46 k46) 42 w w.heap.size (fun k_ => (P0_ k_ ∨ w.heap.size ≤ k_)) (.slice A0 l0.length c0) l0 from Kd.V_mono hs0 (fun k_ hk => .inl hk))
 have HB := Aside0.mk (Below.refl w.heap.size w)
 have H : (catalogue_at.l0 k ([] : List (S44)) (l0.length : Int) l0 (l0.length : Int) 0) = some r := h
 clear h
 have H' := Aside0.mk H
 clear H
 go_enter Try.func87, Try.ntmps87
 go_wp2
 go_loopg [3, 11] k (fun kq v3 v11 w' => ∃ (x3_1 : List (S44)) (x11_1 : Int), v11 = .int .i64 x11_1 ∧ Aside0 (catalogue_at.l0 kq x3_1 (l0.length : Int) l0 (l0.length : Int) x11_1 = some r) ∧ Aside0 (kq ≤ k) ∧ Aside0 (Kd.N k44 44 w' w.heap.size (fun k_ => (P0_ k_ ∨ w.heap.size ≤ k_)) v3 x3_1) ∧ Aside0 (Kd.V (Kd.slice 46 k46) 42 w' w.heap.size (fun k_ => (P0_ k_ ∨ w.heap.size ≤ k_) ∧ some k_ ≠ (v3 : Value).ownBlock) (.slice A0 l0.length c0) l0) ∧ Aside0 (Below w.heap.size w w'))
 case atStart => exact ⟨(([] : List (S44))), (0), (by first | rfl | (simp; done) | (simp [*]; done)), H', ⟨Nat.le_refl _⟩, ⟨by first | exact Kd.S_nil _ _ _ _ _ | exact Kd.N_nil _ _ _ _ _ | exact Kd.V_nil _ _ _ _ _ | exact Kd.Q_nil _ _ _ _ _ | exact Kd.R_nil _ _ _ _ _⟩, ⟨by (with_reducible repeat (first | apply Kd.V_alloc | apply Kd.V_drewN | apply Kd.V_drew)); exact Kd.V_mono HO0.out (fun _ hk => ⟨hk, (by simp [Value.ownBlock])⟩)⟩, ⟨by repeat (first | (with_reducible first | exact HB.out | apply below_alloc | apply pw_below_drewN | apply below_drew1))⟩⟩
 case round =>
  clear H'
  obtain ⟨x3_1, x11_1, rfl, HA, HK1, HO_3, HO_9, HB⟩ := hrel
  cases gk with
  | zero => exact absurd HA.out (by simp [catalogue_at.l0])
  | succ k1 =>
   have H := HA.out
   clear HA
   simp only [catalogue_at.l0] at H
   by_cases c2 : x11_1 < (l0.length : Int)
   ·rw [if_pos c2] at H
    have c2b0 : decide (x11_1 < (l0.length : Int)) = true := decide_eq_true c2
    clear c2
    by_cases c3 : 0 ≤ x11_1
    ·rw [if_pos c3] at H
     have c3b0 : decide (0 ≤ x11_1) = true := decide_eq_true c3
     clear c3
     by_cases c4 : x11_1 < (l0.length : Int)
     ·rw [if_pos c4] at H
      have c4b0 : decide (x11_1 < (l0.length : Int)) = true := decide_eq_true c4
      clear c4
      by_cases c5 : x3_1.length < 2932031007402
      ·rw [if_pos c5] at H
       have LMc5 := Aside0.mk c5
       clear c5
       obtain ⟨y112, hy112⟩ : ∃ y_ : List (S44), y_ = (x3_1 ++ [(⟨x11_1, wrap64 (x11_1 + 1), wrap64 ((wrap64 ((l0.length : Int) + x11_1)) + 1), rd_L3 l0 x11_1⟩ : S44)]) := ⟨_, rfl⟩
       replace H : (catalogue_at.l0 k1 y112 (l0.length : Int) l0 (l0.length : Int) (wrap64 (x11_1 + 1))) = some r := by first | (rw [hy112]; with_reducible exact H) | (have H2_ := (Option.bind_some _ _).symm.trans H; rw [hy112]; with_reducible exact H2_) | (have H2_ := (Option.bind_some _ _).symm.trans H; with_reducible exact H2_) | with_reducible exact H | (rw [hy112]; exact H) | exact H
       have Ny112 := Aside0.mk hy112
       clear hy112
       have H' := Aside0.mk H
       clear H
       have p111 : 0 ≤ (x11_1 : Int) := of_decide_eq_true (by assumption)
       have q111 : x11_1 < (l0.length : Int) := of_decide_eq_true (by assumption)
       obtain ⟨ad111, A111_0, c111_0, e111, hx111_0, hl111_0, hi111_0⟩ := at_L3 (Kd.V_reads' HO_9.out).2.2 x11_1 p111 q111
       cases e111
       obtain ⟨ce111, hce111, hMe111, hcc111⟩ := Kd.V_get HO_9.out [] x11_1 p111 (by first | exact q111 | exact of_decide_eq_true (by assumption) | (have e_ := (Kd.V_reads' HO_9.out).1; omega))
       obtain ⟨ua111_0, uc111_0, rfl, ul111_0, ge111_0⟩ := Kd.FK_slice_open hMe111
       have hv111_0 := hcc111 0 _ rfl
       rw [Nat.add_zero, show ((Kd.slice 46 k46)).sz = 1 from rfl, Nat.mul_one] at hv111_0
       replace hv111_0 := Option.some.inj (hv111_0.symm.trans hx111_0)
       injection hv111_0 with hva_ hvn_ hvc_
       rw [hva_] at ge111_0
       rw [hvc_] at ul111_0
       have HL111_0 := Aside0.mk (show Kd.V k46 46 _ w.heap.size _ _ (rd_L3 l0 x11_1) from Kd.V_mk ul111_0 ge111_0)
       clear hva_ hvn_ hvc_ ge111_0 ul111_0
       clear hcc111 hce111
       have HR111_0 := Aside0.mk hi111_0
       have HC111_0 := Aside0.mk hl111_0
       clear hi111_0 hl111_0
       replace p111 := eq_true p111
       replace q111 := eq_true q111
       go_wp2_with (first | ((with_reducible refine gate_builtin (b := .append) (xs := #[.tmp 16, .tmp 26]) rfl ?_); at_builtin; refine Kd.N_append k44 (w0 := w) w.heap.size rfl (.tmp 16) (.tmp 26) 23 44 (.agg #[(.int .i64 0), (.int .i64 0), (.int .i64 0), (.slice none 0 0)]) 48 rfl Try.underlying23 info44 rfl (by decide) (by omega) u3 x3_1 (⟨x11_1, wrap64 (x11_1 + 1), wrap64 ((wrap64 ((l0.length : Int) + x11_1)) + 1), rd_L3 l0 x11_1⟩ : S44) [.int .i64 x11_1, .int .i64 (wrap64 (x11_1 + 1)), .int .i64 (wrap64 ((wrap64 ((l0.length : Int) + x11_1)) + 1)), .slice A111_0 (rd_L3 l0 x11_1).length c111_0] (fun k_ => (P0_ k_ ∨ w.heap.size ≤ k_)) (fun k_ => ((fun k_ => (P0_ k_ ∨ w.heap.size ≤ k_))) k_ ∧ some k_ ≠ (u3 : Value).ownBlock) rfl rfl ?aP (fun _ hk => hk) ?aF ?aO ?aB ?aS ?aL ?_; (case aP => exact (k44_mkF _ _ (⟨x11_1, wrap64 (x11_1 + 1), wrap64 ((wrap64 ((l0.length : Int) + x11_1)) + 1), rd_L3 l0 x11_1⟩ : S44) (Kd.V_reads' (Kd.V_mono (ok' := (fun k_ => ((fun k_ => (P0_ k_ ∨ w.heap.size ≤ k_))) k_ ∧ some k_ ≠ (u3 : Value).ownBlock)) (HL111_0.out) (fun k_ hk => ⟨hk.1, hk.2⟩))).2.1 (Kd.V_F (Kd.V_mono (ok' := (fun k_ => ((fun k_ => (P0_ k_ ∨ w.heap.size ≤ k_))) k_ ∧ some k_ ≠ (u3 : Value).ownBlock)) (HL111_0.out) (fun k_ hk => ⟨hk.1, hk.2⟩))))); (case aB => exact (by repeat (first | (with_reducible first | exact HB.out | apply below_alloc | apply pw_below_drewN | apply below_drew1)))); (case aF => exact (fun k_ hk => (.inr (Nat.le_trans (below_size (by repeat (first | (with_reducible first | exact HB.out | apply below_alloc | apply pw_below_drewN | apply below_drew1)))) hk)))); (case aO => exact (by (with_reducible repeat (first | apply Kd.N_alloc | apply Kd.N_drewN | apply Kd.N_drew)); exact HO_3.out)); (case aS => exact (below_size (by repeat (first | (with_reducible first | exact HB.out | apply below_alloc | apply pw_below_drewN | apply below_drew1))))); (case aL => have := LMc5.out; omega); intro v113 w6 ho hb hg hat; rw [← Ny112.out] at ho; have n0_ := Aside0.mk (Kd.V_afterv (ok := (fun k_ => (P0_ k_ ∨ w.heap.size ≤ k_))) (by (with_reducible repeat (first | apply Kd.V_alloc | apply Kd.V_drewN | apply Kd.V_drew)); exact HO_9.out) hg hat); have n1_ := Aside0.mk (Kd.V_afterv (ok := (fun k_ => (P0_ k_ ∨ w.heap.size ≤ k_))) (by (with_reducible repeat (first | apply Kd.V_alloc | apply Kd.V_drewN | apply Kd.V_drew)); exact HL111_0.out) hg hat); have n2_ := Aside0.mk (hb); have n3_ := Aside0.mk (ho); clear HO_9; clear HL111_0; clear HB; clear HO_3; have HO_9 := n0_; have HL111_0 := n1_; have HB := n2_; have HO114 := n3_; clear n0_ n1_ n2_ n3_; clear ho hb hg hat))
       go_roundg k1
       case measure => have := HK1.out; omega
       case rel => exact ⟨(y112), (wrap64 (x11_1 + 1)), (by first | rfl | (simp; done) | (simp [*]; done)), H', ⟨by have := HK1.out; omega⟩, ⟨by (with_reducible repeat (first | apply Kd.N_alloc | apply Kd.N_drewN | apply Kd.N_drew)); exact HO114.out⟩, ⟨by (with_reducible repeat (first | apply Kd.V_alloc | apply Kd.V_drewN | apply Kd.V_drew)); exact HO_9.out⟩, ⟨by repeat (first | (with_reducible first | exact HB.out | apply below_alloc | apply pw_below_drewN | apply below_drew1))⟩⟩
      ·rw [if_neg c5] at H
       exact absurd H (by simp)
     ·rw [if_neg c4] at H
      exact absurd H (by simp)
    ·rw [if_neg c3] at H
     exact absurd H (by simp)
   ·rw [if_neg c2] at H
    have c2b0 : decide (x11_1 < (l0.length : Int)) = false := decide_eq_false c2
    clear c2
    obtain rfl := Option.some.inj H
    go_wp2
    go_ret
    exact ⟨_, by first | rfl | (simp <;> rfl) | (simp [*] <;> rfl), by (with_reducible repeat (first | apply Kd.N_alloc | apply Kd.N_drewN | apply Kd.N_drew)); exact HO_3.out, by repeat (first | (with_reducible first | exact HB.out | apply below_alloc | apply pw_below_drewN | apply below_drew1))⟩
end Go.Proofs.Ytfocaefnmfkojaa.Q
namespace Go.Proofs.Ytfocaefnmfkojaa.Q
open Go.RowKit Go.Proofs.YtfocaefnmfkojaaW.PrintWords Go.Proofs.YtfocaefnmfkojaaW.PrintLast Go.Proofs.YtfocaefnmfkojaaW.PrintMore
attribute [local go_sem] max2_int min2_int max_two min_two max_three min_three max_four min_four   -- for this text's walks alone
set_option linter.unusedVariables false
set_option linter.unusedSimpArgs false
def entry0 : S25 := ⟨⟨#[111, 119, 110, 32, 119, 114, 105, 116, 101, 32, 117, 110, 115, 101, 101, 110]⟩, [(⟨0, 1, 2, [(⟨true, 0, 1⟩ : S46)]⟩ : S44), (⟨0, 3, 4, [(⟨false, 0, 0⟩ : S46)]⟩ : S44)], 1⟩
def entry1 : S25 := ⟨⟨#[99, 97, 117, 115, 101, 32, 117, 110, 115, 101, 101, 110]⟩, [(⟨0, 1, 4, [(⟨true, 0, 1⟩ : S46)]⟩ : S44), (⟨1, 2, 5, [(⟨false, 0, 1⟩ : S46), (⟨true, 1, 2⟩ : S46)]⟩ : S44), (⟨2, 3, 6, [(⟨false, 1, 2⟩ : S46), (⟨false, 0, 0⟩ : S46)]⟩ : S44)], 2⟩
def entry2 : S25 := ⟨⟨#[108, 111, 110, 103, 32, 102, 111, 114, 107]⟩, [(⟨0, 1, 5, [(⟨true, 0, 1⟩ : S46)]⟩ : S44), (⟨1, 2, 6, [(⟨true, 1, 2⟩ : S46)]⟩ : S44), (⟨2, 3, 7, [(⟨false, 0, 1⟩ : S46), (⟨false, 1, 0⟩ : S46)]⟩ : S44), (⟨3, 4, 8, [(⟨false, 0, 0⟩ : S46), (⟨false, 1, 2⟩ : S46)]⟩ : S44)], 4⟩
def entry3 : S25 := ⟨⟨#[108, 111, 115, 116, 32, 117, 112, 100, 97, 116, 101]⟩, [(⟨0, 1, 3, [(⟨false, 0, 0⟩ : S46), (⟨true, 0, 1⟩ : S46)]⟩ : S44), (⟨1, 2, 4, [(⟨false, 0, 0⟩ : S46), (⟨true, 0, 2⟩ : S46)]⟩ : S44)], 8⟩
def entry4 : S25 := ⟨⟨#[119, 114, 105, 116, 101, 32, 115, 107, 101, 119]⟩, [(⟨0, 1, 3, [(⟨false, 1, 0⟩ : S46), (⟨true, 0, 1⟩ : S46)]⟩ : S44), (⟨1, 2, 4, [(⟨false, 0, 0⟩ : S46), (⟨true, 1, 2⟩ : S46)]⟩ : S44)], 16⟩
def entry5 : S25 := ⟨⟨#[115, 116, 97, 108, 101, 32, 114, 101, 97, 100]⟩, [(⟨0, 1, 2, [(⟨true, 0, 1⟩ : S46)]⟩ : S44), (⟨1, 3, 4, [(⟨false, 0, 0⟩ : S46)]⟩ : S44)], 32⟩
def catalogue_All.f : Option (List (S25)) := some [entry0, entry1, entry2, entry3, entry4, entry5]
set_option maxHeartbeats 1000000 in
theorem catalogue_ops.any (v : Value) (w : World) : Calls Try.prog 86 #[v] w fun e w' => e = .returned v ∧ w = w' := by
 go_enter Try.func86, Try.ntmps86
 go_wp2
 go_ret
 exact ⟨rfl, rfl⟩
theorem catalogue_ops.lit1 (a : Bool) (b c : Int) (base : Nat) (W : World) (ok : Nat → Prop) (hok : ok W.heap.size) :
  Calls Try.prog 86 #[.slice (some ⟨W.heap.size, 0, none⟩) 1 1] (W.alloc (.cells #[.bool a, .int .i64 b, .int .i64 c] 46)) fun e w' => ∃ ad, e = .returned (.slice (some ad) 1 1) ∧ Kd.V k46 46 w' base ok (.slice (some ad) 1 1) [(⟨a, b, c⟩ : S46)] ∧ Below W.heap.size W w' := by
 refine (catalogue_ops.any _ _).mono ?_
 rintro e w' ⟨rfl, rfl⟩
 refine ⟨_, rfl, H.V_lit k46 46 W base ok hok [(⟨a, b, c⟩ : S46)] [.bool a, .int .i64 b, .int .i64 c] (by simp) ?_, (Below.refl _ _).alloc (Nat.le_refl _) _⟩
 rintro (_ | j) p hp
 ·obtain rfl : (⟨a, b, c⟩ : S46) = p := by simpa using hp
  exact ⟨_, rfl, k46_mkF W ok _, fun i u hu => by simpa [show k46.sz = 3 from rfl] using hu⟩
 ·simp at hp
theorem catalogue_ops.lit2 (a a' : Bool) (b c b' c' : Int) (base : Nat) (W : World) (ok : Nat → Prop) (hok : ok W.heap.size) :
  Calls Try.prog 86 #[.slice (some ⟨W.heap.size, 0, none⟩) 2 2] (W.alloc (.cells #[.bool a, .int .i64 b, .int .i64 c, .bool a', .int .i64 b', .int .i64 c'] 46)) fun e w' => ∃ ad, e = .returned (.slice (some ad) 2 2) ∧ Kd.V k46 46 w' base ok (.slice (some ad) 2 2) [(⟨a, b, c⟩ : S46), (⟨a', b', c'⟩ : S46)] ∧ Below W.heap.size W w' := by
 refine (catalogue_ops.any _ _).mono ?_
 rintro e w' ⟨rfl, rfl⟩
 refine ⟨_, rfl, H.V_lit k46 46 W base ok hok [(⟨a, b, c⟩ : S46), (⟨a', b', c'⟩ : S46)] [.bool a, .int .i64 b, .int .i64 c, .bool a', .int .i64 b', .int .i64 c'] (by simp) ?_, (Below.refl _ _).alloc (Nat.le_refl _) _⟩
 rintro (_ | _ | j) p hp
 ·obtain rfl : (⟨a, b, c⟩ : S46) = p := by simpa using hp
  refine ⟨_, rfl, k46_mkF W ok _, fun i u hu => ?_⟩
  match i, hu with
  | 0, hu => simpa [show k46.sz = 3 from rfl] using hu
  | 1, hu => simpa [show k46.sz = 3 from rfl] using hu
  | 2, hu => simpa [show k46.sz = 3 from rfl] using hu
  | i + 3, hu => simp at hu
 ·obtain rfl : (⟨a', b', c'⟩ : S46) = p := by simpa using hp
  refine ⟨_, rfl, k46_mkF W ok _, fun i u hu => ?_⟩
  match i, hu with
  | 0, hu => simpa [show k46.sz = 3 from rfl] using hu
  | 1, hu => simpa [show k46.sz = 3 from rfl] using hu
  | 2, hu => simpa [show k46.sz = 3 from rfl] using hu
  | i + 3, hu => simp at hu
 ·simp at hp
set_option maxHeartbeats 8000000 in
set_option maxRecDepth 100000 in
theorem catalogue_All.calls (r : List (S25)) (w : World) (h : catalogue_All.f = some r) :
  Calls Try.prog 54 #[] w fun e w' => ∃ v0_ : Value, e = .returned (v0_) ∧ Kd.V k25 25 w' w.heap.size (fun k_ => (w.heap.size ≤ k_)) v0_ r ∧ Below w.heap.size w w' := by
 obtain rfl := Option.some.inj h
 clear h
 have hu25 := Try.underlying25
 have HB := Aside0.mk (Below.refl w.heap.size w)
 go_enter Try.func54, Try.ntmps54
 go_wp2_with fail
 refine (op_Write.calls 0 1 true 0 1 _ rfl).mono ?_
 rintro e w1 ⟨rfl, hb⟩
 replace HB := Aside0.mk (below_step HB.out hb)
 clear hb
 go_wp2_with fail
 refine (catalogue_ops.lit1 true 0 1 w.heap.size _ (fun k_ => (w.heap.size ≤ k_)) HB.out.size).mono ?_
 rintro e w2 ⟨A1, rfl, hv, hb⟩
 replace HB := Aside0.mk (below_step HB.out hb)
 have hv1 := Aside0.mk hv; clear hv hb
 go_wp2_with fail
 refine (op_Read.calls 0 0 false 0 0 _ rfl).mono ?_
 rintro e w3 ⟨rfl, hb⟩
 replace hv1 := Aside0.mk (Kd.V_below hv1.out hb)
 replace HB := Aside0.mk (below_step HB.out hb)
 clear hb
 go_wp2_with fail
 refine (catalogue_ops.lit1 false 0 0 w.heap.size _ (fun k_ => (w.heap.size ≤ k_)) HB.out.size).mono ?_
 rintro e w4 ⟨A2, rfl, hv, hb⟩
 replace hv1 := Aside0.mk (Kd.V_below hv1.out hb)
 replace HB := Aside0.mk (below_step HB.out hb)
 have hv2 := Aside0.mk hv; clear hv hb
 go_wp2_with fail
 have hs := H.V_lit (Kd.slice 46 k46) 42 w4 (w4.alloc (.cells [.slice (some A1) 1 1, .slice (some A2) 1 1].toArray 42)).heap.size (fun k_ => (w.heap.size ≤ k_)) HB.out.size ([[(⟨true, 0, 1⟩ : S46)], [(⟨false, 0, 0⟩ : S46)]] : List (List S46)) [.slice (some A1) 1 1, .slice (some A2) 1 1] (by simp) (by
  rintro (_ | _ | j) p hp
  ·obtain rfl : ([(⟨true, 0, 1⟩ : S46)] : List S46) = p := by simpa using hp
   refine ⟨_, rfl, H.V_FK_slice hv1.out, fun i u hu => ?_⟩
   match i, hu with
   | 0, hu => simpa [show (Kd.slice 46 k46).sz = 1 from rfl] using hu
   | i + 1, hu => simp at hu
  ·obtain rfl : ([(⟨false, 0, 0⟩ : S46)] : List S46) = p := by simpa using hp
   refine ⟨_, rfl, H.V_FK_slice hv2.out, fun i u hu => ?_⟩
   match i, hu with
   | 0, hu => simpa [show (Kd.slice 46 k46).sz = 1 from rfl] using hu
   | i + 1, hu => simp at hu
  ·simp at hp)
 refine (catalogue_after.calls 10 true (fun k_ => (w.heap.size ≤ k_)) _ _ [[(⟨true, 0, 1⟩ : S46)], [(⟨false, 0, 0⟩ : S46)]] [(⟨0, 1, 2, [(⟨true, 0, 1⟩ : S46)]⟩ : S44), (⟨0, 3, 4, [(⟨false, 0, 0⟩ : S46)]⟩ : S44)] _ hs (by kernel_rfl)).mono ?_
 rintro e w5 ⟨v, rfl, hN, hb0⟩
 have hb := below_step (below_alloc (Below.refl _ w4) (.cells [.slice (some A1) 1 1, .slice (some A2) 1 1].toArray 42)) hb0
 have hv := Kd.V_mono (ok' := (fun k_ => (w.heap.size ≤ k_))) (Kd.N_V (base' := w.heap.size) hN) (fun k_ hk => hk.elim id (fun h => Nat.le_trans HB.out.size (Nat.le_trans (by simp) h)))
 clear hs hN hb0
 replace hv1 := Aside0.mk (Kd.V_below hv1.out hb)
 replace hv2 := Aside0.mk (Kd.V_below hv2.out hb)
 replace HB := Aside0.mk (below_step HB.out hb)
 clear hb
 clear hv1
 clear hv2
 obtain ⟨B0, c0, rfl⟩ := Kd.V_slice hv
 have ht0 := Aside0.mk hv; clear hv
 go_wp2_with fail
 refine (op_Write.calls 0 1 true 0 1 _ rfl).mono ?_
 rintro e w6 ⟨rfl, hb⟩
 replace ht0 := Aside0.mk (Kd.V_below ht0.out hb)
 replace HB := Aside0.mk (below_step HB.out hb)
 clear hb
 go_wp2_with fail
 refine (catalogue_ops.lit1 true 0 1 w.heap.size _ (fun k_ => (w.heap.size ≤ k_)) HB.out.size).mono ?_
 rintro e w7 ⟨A3, rfl, hv, hb⟩
 replace ht0 := Aside0.mk (Kd.V_below ht0.out hb)
 replace HB := Aside0.mk (below_step HB.out hb)
 have hv3 := Aside0.mk hv; clear hv hb
 go_wp2_with fail
 refine (op_Read.calls 0 1 false 0 1 _ rfl).mono ?_
 rintro e w8 ⟨rfl, hb⟩
 replace ht0 := Aside0.mk (Kd.V_below ht0.out hb)
 replace hv3 := Aside0.mk (Kd.V_below hv3.out hb)
 replace HB := Aside0.mk (below_step HB.out hb)
 clear hb
 go_wp2_with fail
 refine (op_Write.calls 1 2 true 1 2 _ rfl).mono ?_
 rintro e w9 ⟨rfl, hb⟩
 replace ht0 := Aside0.mk (Kd.V_below ht0.out hb)
 replace hv3 := Aside0.mk (Kd.V_below hv3.out hb)
 replace HB := Aside0.mk (below_step HB.out hb)
 clear hb
 go_wp2_with fail
 refine (catalogue_ops.lit2 false true 0 1 1 2 w.heap.size _ (fun k_ => (w.heap.size ≤ k_)) HB.out.size).mono ?_
 rintro e w10 ⟨A4, rfl, hv, hb⟩
 replace ht0 := Aside0.mk (Kd.V_below ht0.out hb)
 replace hv3 := Aside0.mk (Kd.V_below hv3.out hb)
 replace HB := Aside0.mk (below_step HB.out hb)
 have hv4 := Aside0.mk hv; clear hv hb
 go_wp2_with fail
 refine (op_Read.calls 1 2 false 1 2 _ rfl).mono ?_
 rintro e w11 ⟨rfl, hb⟩
 replace ht0 := Aside0.mk (Kd.V_below ht0.out hb)
 replace hv3 := Aside0.mk (Kd.V_below hv3.out hb)
 replace hv4 := Aside0.mk (Kd.V_below hv4.out hb)
 replace HB := Aside0.mk (below_step HB.out hb)
 clear hb
 go_wp2_with fail
 refine (op_Read.calls 0 0 false 0 0 _ rfl).mono ?_
 rintro e w12 ⟨rfl, hb⟩
 replace ht0 := Aside0.mk (Kd.V_below ht0.out hb)
 replace hv3 := Aside0.mk (Kd.V_below hv3.out hb)
 replace hv4 := Aside0.mk (Kd.V_below hv4.out hb)
 replace HB := Aside0.mk (below_step HB.out hb)
 clear hb
 go_wp2_with fail
 refine (catalogue_ops.lit2 false false 1 2 0 0 w.heap.size _ (fun k_ => (w.heap.size ≤ k_)) HB.out.size).mono ?_
 rintro e w13 ⟨A5, rfl, hv, hb⟩
 replace ht0 := Aside0.mk (Kd.V_below ht0.out hb)
 replace hv3 := Aside0.mk (Kd.V_below hv3.out hb)
 replace hv4 := Aside0.mk (Kd.V_below hv4.out hb)
 replace HB := Aside0.mk (below_step HB.out hb)
 have hv5 := Aside0.mk hv; clear hv hb
 go_wp2_with fail
 have hs := H.V_lit (Kd.slice 46 k46) 42 w13 (w13.alloc (.cells [.slice (some A3) 1 1, .slice (some A4) 2 2, .slice (some A5) 2 2].toArray 42)).heap.size (fun k_ => (w.heap.size ≤ k_)) HB.out.size ([[(⟨true, 0, 1⟩ : S46)], [(⟨false, 0, 1⟩ : S46), (⟨true, 1, 2⟩ : S46)], [(⟨false, 1, 2⟩ : S46), (⟨false, 0, 0⟩ : S46)]] : List (List S46)) [.slice (some A3) 1 1, .slice (some A4) 2 2, .slice (some A5) 2 2] (by simp) (by
  rintro (_ | _ | _ | j) p hp
  ·obtain rfl : ([(⟨true, 0, 1⟩ : S46)] : List S46) = p := by simpa using hp
   refine ⟨_, rfl, H.V_FK_slice hv3.out, fun i u hu => ?_⟩
   match i, hu with
   | 0, hu => simpa [show (Kd.slice 46 k46).sz = 1 from rfl] using hu
   | i + 1, hu => simp at hu
  ·obtain rfl : ([(⟨false, 0, 1⟩ : S46), (⟨true, 1, 2⟩ : S46)] : List S46) = p := by simpa using hp
   refine ⟨_, rfl, H.V_FK_slice hv4.out, fun i u hu => ?_⟩
   match i, hu with
   | 0, hu => simpa [show (Kd.slice 46 k46).sz = 1 from rfl] using hu
   | i + 1, hu => simp at hu
  ·obtain rfl : ([(⟨false, 1, 2⟩ : S46), (⟨false, 0, 0⟩ : S46)] : List S46) = p := by simpa using hp
   refine ⟨_, rfl, H.V_FK_slice hv5.out, fun i u hu => ?_⟩
   match i, hu with
   | 0, hu => simpa [show (Kd.slice 46 k46).sz = 1 from rfl] using hu
   | i + 1, hu => simp at hu
  ·simp at hp)
 refine (catalogue_at.calls 10 (fun k_ => (w.heap.size ≤ k_)) _ _ [[(⟨true, 0, 1⟩ : S46)], [(⟨false, 0, 1⟩ : S46), (⟨true, 1, 2⟩ : S46)], [(⟨false, 1, 2⟩ : S46), (⟨false, 0, 0⟩ : S46)]] [(⟨0, 1, 4, [(⟨true, 0, 1⟩ : S46)]⟩ : S44), (⟨1, 2, 5, [(⟨false, 0, 1⟩ : S46), (⟨true, 1, 2⟩ : S46)]⟩ : S44), (⟨2, 3, 6, [(⟨false, 1, 2⟩ : S46), (⟨false, 0, 0⟩ : S46)]⟩ : S44)] _ hs (by kernel_rfl)).mono ?_
 rintro e w14 ⟨v, rfl, hN, hb0⟩
 have hb := below_step (below_alloc (Below.refl _ w13) (.cells [.slice (some A3) 1 1, .slice (some A4) 2 2, .slice (some A5) 2 2].toArray 42)) hb0
 have hv := Kd.V_mono (ok' := (fun k_ => (w.heap.size ≤ k_))) (Kd.N_V (base' := w.heap.size) hN) (fun k_ hk => hk.elim id (fun h => Nat.le_trans HB.out.size (Nat.le_trans (by simp) h)))
 clear hs hN hb0
 replace ht0 := Aside0.mk (Kd.V_below ht0.out hb)
 replace hv3 := Aside0.mk (Kd.V_below hv3.out hb)
 replace hv4 := Aside0.mk (Kd.V_below hv4.out hb)
 replace hv5 := Aside0.mk (Kd.V_below hv5.out hb)
 replace HB := Aside0.mk (below_step HB.out hb)
 clear hb
 clear hv3
 clear hv4
 clear hv5
 obtain ⟨B1, c1, rfl⟩ := Kd.V_slice hv
 have ht1 := Aside0.mk hv; clear hv
 go_wp2_with fail
 refine (op_Write.calls 0 1 true 0 1 _ rfl).mono ?_
 rintro e w15 ⟨rfl, hb⟩
 replace ht0 := Aside0.mk (Kd.V_below ht0.out hb)
 replace ht1 := Aside0.mk (Kd.V_below ht1.out hb)
 replace HB := Aside0.mk (below_step HB.out hb)
 clear hb
 go_wp2_with fail
 refine (catalogue_ops.lit1 true 0 1 w.heap.size _ (fun k_ => (w.heap.size ≤ k_)) HB.out.size).mono ?_
 rintro e w16 ⟨A6, rfl, hv, hb⟩
 replace ht0 := Aside0.mk (Kd.V_below ht0.out hb)
 replace ht1 := Aside0.mk (Kd.V_below ht1.out hb)
 replace HB := Aside0.mk (below_step HB.out hb)
 have hv6 := Aside0.mk hv; clear hv hb
 go_wp2_with fail
 refine (op_Write.calls 1 2 true 1 2 _ rfl).mono ?_
 rintro e w17 ⟨rfl, hb⟩
 replace ht0 := Aside0.mk (Kd.V_below ht0.out hb)
 replace ht1 := Aside0.mk (Kd.V_below ht1.out hb)
 replace hv6 := Aside0.mk (Kd.V_below hv6.out hb)
 replace HB := Aside0.mk (below_step HB.out hb)
 clear hb
 go_wp2_with fail
 refine (catalogue_ops.lit1 true 1 2 w.heap.size _ (fun k_ => (w.heap.size ≤ k_)) HB.out.size).mono ?_
 rintro e w18 ⟨A7, rfl, hv, hb⟩
 replace ht0 := Aside0.mk (Kd.V_below ht0.out hb)
 replace ht1 := Aside0.mk (Kd.V_below ht1.out hb)
 replace hv6 := Aside0.mk (Kd.V_below hv6.out hb)
 replace HB := Aside0.mk (below_step HB.out hb)
 have hv7 := Aside0.mk hv; clear hv hb
 go_wp2_with fail
 refine (op_Read.calls 0 1 false 0 1 _ rfl).mono ?_
 rintro e w19 ⟨rfl, hb⟩
 replace ht0 := Aside0.mk (Kd.V_below ht0.out hb)
 replace ht1 := Aside0.mk (Kd.V_below ht1.out hb)
 replace hv6 := Aside0.mk (Kd.V_below hv6.out hb)
 replace hv7 := Aside0.mk (Kd.V_below hv7.out hb)
 replace HB := Aside0.mk (below_step HB.out hb)
 clear hb
 go_wp2_with fail
 refine (op_Read.calls 1 0 false 1 0 _ rfl).mono ?_
 rintro e w20 ⟨rfl, hb⟩
 replace ht0 := Aside0.mk (Kd.V_below ht0.out hb)
 replace ht1 := Aside0.mk (Kd.V_below ht1.out hb)
 replace hv6 := Aside0.mk (Kd.V_below hv6.out hb)
 replace hv7 := Aside0.mk (Kd.V_below hv7.out hb)
 replace HB := Aside0.mk (below_step HB.out hb)
 clear hb
 go_wp2_with fail
 refine (catalogue_ops.lit2 false false 0 1 1 0 w.heap.size _ (fun k_ => (w.heap.size ≤ k_)) HB.out.size).mono ?_
 rintro e w21 ⟨A8, rfl, hv, hb⟩
 replace ht0 := Aside0.mk (Kd.V_below ht0.out hb)
 replace ht1 := Aside0.mk (Kd.V_below ht1.out hb)
 replace hv6 := Aside0.mk (Kd.V_below hv6.out hb)
 replace hv7 := Aside0.mk (Kd.V_below hv7.out hb)
 replace HB := Aside0.mk (below_step HB.out hb)
 have hv8 := Aside0.mk hv; clear hv hb
 go_wp2_with fail
 refine (op_Read.calls 0 0 false 0 0 _ rfl).mono ?_
 rintro e w22 ⟨rfl, hb⟩
 replace ht0 := Aside0.mk (Kd.V_below ht0.out hb)
 replace ht1 := Aside0.mk (Kd.V_below ht1.out hb)
 replace hv6 := Aside0.mk (Kd.V_below hv6.out hb)
 replace hv7 := Aside0.mk (Kd.V_below hv7.out hb)
 replace hv8 := Aside0.mk (Kd.V_below hv8.out hb)
 replace HB := Aside0.mk (below_step HB.out hb)
 clear hb
 go_wp2_with fail
 refine (op_Read.calls 1 2 false 1 2 _ rfl).mono ?_
 rintro e w23 ⟨rfl, hb⟩
 replace ht0 := Aside0.mk (Kd.V_below ht0.out hb)
 replace ht1 := Aside0.mk (Kd.V_below ht1.out hb)
 replace hv6 := Aside0.mk (Kd.V_below hv6.out hb)
 replace hv7 := Aside0.mk (Kd.V_below hv7.out hb)
 replace hv8 := Aside0.mk (Kd.V_below hv8.out hb)
 replace HB := Aside0.mk (below_step HB.out hb)
 clear hb
 go_wp2_with fail
 refine (catalogue_ops.lit2 false false 0 0 1 2 w.heap.size _ (fun k_ => (w.heap.size ≤ k_)) HB.out.size).mono ?_
 rintro e w24 ⟨A9, rfl, hv, hb⟩
 replace ht0 := Aside0.mk (Kd.V_below ht0.out hb)
 replace ht1 := Aside0.mk (Kd.V_below ht1.out hb)
 replace hv6 := Aside0.mk (Kd.V_below hv6.out hb)
 replace hv7 := Aside0.mk (Kd.V_below hv7.out hb)
 replace hv8 := Aside0.mk (Kd.V_below hv8.out hb)
 replace HB := Aside0.mk (below_step HB.out hb)
 have hv9 := Aside0.mk hv; clear hv hb
 go_wp2_with fail
 have hs := H.V_lit (Kd.slice 46 k46) 42 w24 (w24.alloc (.cells [.slice (some A6) 1 1, .slice (some A7) 1 1, .slice (some A8) 2 2, .slice (some A9) 2 2].toArray 42)).heap.size (fun k_ => (w.heap.size ≤ k_)) HB.out.size ([[(⟨true, 0, 1⟩ : S46)], [(⟨true, 1, 2⟩ : S46)], [(⟨false, 0, 1⟩ : S46), (⟨false, 1, 0⟩ : S46)], [(⟨false, 0, 0⟩ : S46), (⟨false, 1, 2⟩ : S46)]] : List (List S46)) [.slice (some A6) 1 1, .slice (some A7) 1 1, .slice (some A8) 2 2, .slice (some A9) 2 2] (by simp) (by
  rintro (_ | _ | _ | _ | j) p hp
  ·obtain rfl : ([(⟨true, 0, 1⟩ : S46)] : List S46) = p := by simpa using hp
   refine ⟨_, rfl, H.V_FK_slice hv6.out, fun i u hu => ?_⟩
   match i, hu with
   | 0, hu => simpa [show (Kd.slice 46 k46).sz = 1 from rfl] using hu
   | i + 1, hu => simp at hu
  ·obtain rfl : ([(⟨true, 1, 2⟩ : S46)] : List S46) = p := by simpa using hp
   refine ⟨_, rfl, H.V_FK_slice hv7.out, fun i u hu => ?_⟩
   match i, hu with
   | 0, hu => simpa [show (Kd.slice 46 k46).sz = 1 from rfl] using hu
   | i + 1, hu => simp at hu
  ·obtain rfl : ([(⟨false, 0, 1⟩ : S46), (⟨false, 1, 0⟩ : S46)] : List S46) = p := by simpa using hp
   refine ⟨_, rfl, H.V_FK_slice hv8.out, fun i u hu => ?_⟩
   match i, hu with
   | 0, hu => simpa [show (Kd.slice 46 k46).sz = 1 from rfl] using hu
   | i + 1, hu => simp at hu
  ·obtain rfl : ([(⟨false, 0, 0⟩ : S46), (⟨false, 1, 2⟩ : S46)] : List S46) = p := by simpa using hp
   refine ⟨_, rfl, H.V_FK_slice hv9.out, fun i u hu => ?_⟩
   match i, hu with
   | 0, hu => simpa [show (Kd.slice 46 k46).sz = 1 from rfl] using hu
   | i + 1, hu => simp at hu
  ·simp at hp)
 refine (catalogue_at.calls 10 (fun k_ => (w.heap.size ≤ k_)) _ _ [[(⟨true, 0, 1⟩ : S46)], [(⟨true, 1, 2⟩ : S46)], [(⟨false, 0, 1⟩ : S46), (⟨false, 1, 0⟩ : S46)], [(⟨false, 0, 0⟩ : S46), (⟨false, 1, 2⟩ : S46)]] [(⟨0, 1, 5, [(⟨true, 0, 1⟩ : S46)]⟩ : S44), (⟨1, 2, 6, [(⟨true, 1, 2⟩ : S46)]⟩ : S44), (⟨2, 3, 7, [(⟨false, 0, 1⟩ : S46), (⟨false, 1, 0⟩ : S46)]⟩ : S44), (⟨3, 4, 8, [(⟨false, 0, 0⟩ : S46), (⟨false, 1, 2⟩ : S46)]⟩ : S44)] _ hs (by kernel_rfl)).mono ?_
 rintro e w25 ⟨v, rfl, hN, hb0⟩
 have hb := below_step (below_alloc (Below.refl _ w24) (.cells [.slice (some A6) 1 1, .slice (some A7) 1 1, .slice (some A8) 2 2, .slice (some A9) 2 2].toArray 42)) hb0
 have hv := Kd.V_mono (ok' := (fun k_ => (w.heap.size ≤ k_))) (Kd.N_V (base' := w.heap.size) hN) (fun k_ hk => hk.elim id (fun h => Nat.le_trans HB.out.size (Nat.le_trans (by simp) h)))
 clear hs hN hb0
 replace ht0 := Aside0.mk (Kd.V_below ht0.out hb)
 replace ht1 := Aside0.mk (Kd.V_below ht1.out hb)
 replace hv6 := Aside0.mk (Kd.V_below hv6.out hb)
 replace hv7 := Aside0.mk (Kd.V_below hv7.out hb)
 replace hv8 := Aside0.mk (Kd.V_below hv8.out hb)
 replace hv9 := Aside0.mk (Kd.V_below hv9.out hb)
 replace HB := Aside0.mk (below_step HB.out hb)
 clear hb
 clear hv6
 clear hv7
 clear hv8
 clear hv9
 obtain ⟨B2, c2, rfl⟩ := Kd.V_slice hv
 have ht2 := Aside0.mk hv; clear hv
 go_wp2_with fail
 refine (op_Read.calls 0 0 false 0 0 _ rfl).mono ?_
 rintro e w26 ⟨rfl, hb⟩
 replace ht0 := Aside0.mk (Kd.V_below ht0.out hb)
 replace ht1 := Aside0.mk (Kd.V_below ht1.out hb)
 replace ht2 := Aside0.mk (Kd.V_below ht2.out hb)
 replace HB := Aside0.mk (below_step HB.out hb)
 clear hb
 go_wp2_with fail
 refine (op_Write.calls 0 1 true 0 1 _ rfl).mono ?_
 rintro e w27 ⟨rfl, hb⟩
 replace ht0 := Aside0.mk (Kd.V_below ht0.out hb)
 replace ht1 := Aside0.mk (Kd.V_below ht1.out hb)
 replace ht2 := Aside0.mk (Kd.V_below ht2.out hb)
 replace HB := Aside0.mk (below_step HB.out hb)
 clear hb
 go_wp2_with fail
 refine (catalogue_ops.lit2 false true 0 0 0 1 w.heap.size _ (fun k_ => (w.heap.size ≤ k_)) HB.out.size).mono ?_
 rintro e w28 ⟨A10, rfl, hv, hb⟩
 replace ht0 := Aside0.mk (Kd.V_below ht0.out hb)
 replace ht1 := Aside0.mk (Kd.V_below ht1.out hb)
 replace ht2 := Aside0.mk (Kd.V_below ht2.out hb)
 replace HB := Aside0.mk (below_step HB.out hb)
 have hv10 := Aside0.mk hv; clear hv hb
 go_wp2_with fail
 refine (op_Read.calls 0 0 false 0 0 _ rfl).mono ?_
 rintro e w29 ⟨rfl, hb⟩
 replace ht0 := Aside0.mk (Kd.V_below ht0.out hb)
 replace ht1 := Aside0.mk (Kd.V_below ht1.out hb)
 replace ht2 := Aside0.mk (Kd.V_below ht2.out hb)
 replace hv10 := Aside0.mk (Kd.V_below hv10.out hb)
 replace HB := Aside0.mk (below_step HB.out hb)
 clear hb
 go_wp2_with fail
 refine (op_Write.calls 0 2 true 0 2 _ rfl).mono ?_
 rintro e w30 ⟨rfl, hb⟩
 replace ht0 := Aside0.mk (Kd.V_below ht0.out hb)
 replace ht1 := Aside0.mk (Kd.V_below ht1.out hb)
 replace ht2 := Aside0.mk (Kd.V_below ht2.out hb)
 replace hv10 := Aside0.mk (Kd.V_below hv10.out hb)
 replace HB := Aside0.mk (below_step HB.out hb)
 clear hb
 go_wp2_with fail
 refine (catalogue_ops.lit2 false true 0 0 0 2 w.heap.size _ (fun k_ => (w.heap.size ≤ k_)) HB.out.size).mono ?_
 rintro e w31 ⟨A11, rfl, hv, hb⟩
 replace ht0 := Aside0.mk (Kd.V_below ht0.out hb)
 replace ht1 := Aside0.mk (Kd.V_below ht1.out hb)
 replace ht2 := Aside0.mk (Kd.V_below ht2.out hb)
 replace hv10 := Aside0.mk (Kd.V_below hv10.out hb)
 replace HB := Aside0.mk (below_step HB.out hb)
 have hv11 := Aside0.mk hv; clear hv hb
 go_wp2_with fail
 have hs := H.V_lit (Kd.slice 46 k46) 42 w31 (w31.alloc (.cells [.slice (some A10) 2 2, .slice (some A11) 2 2].toArray 42)).heap.size (fun k_ => (w.heap.size ≤ k_)) HB.out.size ([[(⟨false, 0, 0⟩ : S46), (⟨true, 0, 1⟩ : S46)], [(⟨false, 0, 0⟩ : S46), (⟨true, 0, 2⟩ : S46)]] : List (List S46)) [.slice (some A10) 2 2, .slice (some A11) 2 2] (by simp) (by
  rintro (_ | _ | j) p hp
  ·obtain rfl : ([(⟨false, 0, 0⟩ : S46), (⟨true, 0, 1⟩ : S46)] : List S46) = p := by simpa using hp
   refine ⟨_, rfl, H.V_FK_slice hv10.out, fun i u hu => ?_⟩
   match i, hu with
   | 0, hu => simpa [show (Kd.slice 46 k46).sz = 1 from rfl] using hu
   | i + 1, hu => simp at hu
  ·obtain rfl : ([(⟨false, 0, 0⟩ : S46), (⟨true, 0, 2⟩ : S46)] : List S46) = p := by simpa using hp
   refine ⟨_, rfl, H.V_FK_slice hv11.out, fun i u hu => ?_⟩
   match i, hu with
   | 0, hu => simpa [show (Kd.slice 46 k46).sz = 1 from rfl] using hu
   | i + 1, hu => simp at hu
  ·simp at hp)
 refine (catalogue_at.calls 10 (fun k_ => (w.heap.size ≤ k_)) _ _ [[(⟨false, 0, 0⟩ : S46), (⟨true, 0, 1⟩ : S46)], [(⟨false, 0, 0⟩ : S46), (⟨true, 0, 2⟩ : S46)]] [(⟨0, 1, 3, [(⟨false, 0, 0⟩ : S46), (⟨true, 0, 1⟩ : S46)]⟩ : S44), (⟨1, 2, 4, [(⟨false, 0, 0⟩ : S46), (⟨true, 0, 2⟩ : S46)]⟩ : S44)] _ hs (by kernel_rfl)).mono ?_
 rintro e w32 ⟨v, rfl, hN, hb0⟩
 have hb := below_step (below_alloc (Below.refl _ w31) (.cells [.slice (some A10) 2 2, .slice (some A11) 2 2].toArray 42)) hb0
 have hv := Kd.V_mono (ok' := (fun k_ => (w.heap.size ≤ k_))) (Kd.N_V (base' := w.heap.size) hN) (fun k_ hk => hk.elim id (fun h => Nat.le_trans HB.out.size (Nat.le_trans (by simp) h)))
 clear hs hN hb0
 replace ht0 := Aside0.mk (Kd.V_below ht0.out hb)
 replace ht1 := Aside0.mk (Kd.V_below ht1.out hb)
 replace ht2 := Aside0.mk (Kd.V_below ht2.out hb)
 replace hv10 := Aside0.mk (Kd.V_below hv10.out hb)
 replace hv11 := Aside0.mk (Kd.V_below hv11.out hb)
 replace HB := Aside0.mk (below_step HB.out hb)
 clear hb
 clear hv10
 clear hv11
 obtain ⟨B3, c3, rfl⟩ := Kd.V_slice hv
 have ht3 := Aside0.mk hv; clear hv
 go_wp2_with fail
 refine (op_Read.calls 1 0 false 1 0 _ rfl).mono ?_
 rintro e w33 ⟨rfl, hb⟩
 replace ht0 := Aside0.mk (Kd.V_below ht0.out hb)
 replace ht1 := Aside0.mk (Kd.V_below ht1.out hb)
 replace ht2 := Aside0.mk (Kd.V_below ht2.out hb)
 replace ht3 := Aside0.mk (Kd.V_below ht3.out hb)
 replace HB := Aside0.mk (below_step HB.out hb)
 clear hb
 go_wp2_with fail
 refine (op_Write.calls 0 1 true 0 1 _ rfl).mono ?_
 rintro e w34 ⟨rfl, hb⟩
 replace ht0 := Aside0.mk (Kd.V_below ht0.out hb)
 replace ht1 := Aside0.mk (Kd.V_below ht1.out hb)
 replace ht2 := Aside0.mk (Kd.V_below ht2.out hb)
 replace ht3 := Aside0.mk (Kd.V_below ht3.out hb)
 replace HB := Aside0.mk (below_step HB.out hb)
 clear hb
 go_wp2_with fail
 refine (catalogue_ops.lit2 false true 1 0 0 1 w.heap.size _ (fun k_ => (w.heap.size ≤ k_)) HB.out.size).mono ?_
 rintro e w35 ⟨A12, rfl, hv, hb⟩
 replace ht0 := Aside0.mk (Kd.V_below ht0.out hb)
 replace ht1 := Aside0.mk (Kd.V_below ht1.out hb)
 replace ht2 := Aside0.mk (Kd.V_below ht2.out hb)
 replace ht3 := Aside0.mk (Kd.V_below ht3.out hb)
 replace HB := Aside0.mk (below_step HB.out hb)
 have hv12 := Aside0.mk hv; clear hv hb
 go_wp2_with fail
 refine (op_Read.calls 0 0 false 0 0 _ rfl).mono ?_
 rintro e w36 ⟨rfl, hb⟩
 replace ht0 := Aside0.mk (Kd.V_below ht0.out hb)
 replace ht1 := Aside0.mk (Kd.V_below ht1.out hb)
 replace ht2 := Aside0.mk (Kd.V_below ht2.out hb)
 replace ht3 := Aside0.mk (Kd.V_below ht3.out hb)
 replace hv12 := Aside0.mk (Kd.V_below hv12.out hb)
 replace HB := Aside0.mk (below_step HB.out hb)
 clear hb
 go_wp2_with fail
 refine (op_Write.calls 1 2 true 1 2 _ rfl).mono ?_
 rintro e w37 ⟨rfl, hb⟩
 replace ht0 := Aside0.mk (Kd.V_below ht0.out hb)
 replace ht1 := Aside0.mk (Kd.V_below ht1.out hb)
 replace ht2 := Aside0.mk (Kd.V_below ht2.out hb)
 replace ht3 := Aside0.mk (Kd.V_below ht3.out hb)
 replace hv12 := Aside0.mk (Kd.V_below hv12.out hb)
 replace HB := Aside0.mk (below_step HB.out hb)
 clear hb
 go_wp2_with fail
 refine (catalogue_ops.lit2 false true 0 0 1 2 w.heap.size _ (fun k_ => (w.heap.size ≤ k_)) HB.out.size).mono ?_
 rintro e w38 ⟨A13, rfl, hv, hb⟩
 replace ht0 := Aside0.mk (Kd.V_below ht0.out hb)
 replace ht1 := Aside0.mk (Kd.V_below ht1.out hb)
 replace ht2 := Aside0.mk (Kd.V_below ht2.out hb)
 replace ht3 := Aside0.mk (Kd.V_below ht3.out hb)
 replace hv12 := Aside0.mk (Kd.V_below hv12.out hb)
 replace HB := Aside0.mk (below_step HB.out hb)
 have hv13 := Aside0.mk hv; clear hv hb
 go_wp2_with fail
 have hs := H.V_lit (Kd.slice 46 k46) 42 w38 (w38.alloc (.cells [.slice (some A12) 2 2, .slice (some A13) 2 2].toArray 42)).heap.size (fun k_ => (w.heap.size ≤ k_)) HB.out.size ([[(⟨false, 1, 0⟩ : S46), (⟨true, 0, 1⟩ : S46)], [(⟨false, 0, 0⟩ : S46), (⟨true, 1, 2⟩ : S46)]] : List (List S46)) [.slice (some A12) 2 2, .slice (some A13) 2 2] (by simp) (by
  rintro (_ | _ | j) p hp
  ·obtain rfl : ([(⟨false, 1, 0⟩ : S46), (⟨true, 0, 1⟩ : S46)] : List S46) = p := by simpa using hp
   refine ⟨_, rfl, H.V_FK_slice hv12.out, fun i u hu => ?_⟩
   match i, hu with
   | 0, hu => simpa [show (Kd.slice 46 k46).sz = 1 from rfl] using hu
   | i + 1, hu => simp at hu
  ·obtain rfl : ([(⟨false, 0, 0⟩ : S46), (⟨true, 1, 2⟩ : S46)] : List S46) = p := by simpa using hp
   refine ⟨_, rfl, H.V_FK_slice hv13.out, fun i u hu => ?_⟩
   match i, hu with
   | 0, hu => simpa [show (Kd.slice 46 k46).sz = 1 from rfl] using hu
   | i + 1, hu => simp at hu
  ·simp at hp)
 refine (catalogue_at.calls 10 (fun k_ => (w.heap.size ≤ k_)) _ _ [[(⟨false, 1, 0⟩ : S46), (⟨true, 0, 1⟩ : S46)], [(⟨false, 0, 0⟩ : S46), (⟨true, 1, 2⟩ : S46)]] [(⟨0, 1, 3, [(⟨false, 1, 0⟩ : S46), (⟨true, 0, 1⟩ : S46)]⟩ : S44), (⟨1, 2, 4, [(⟨false, 0, 0⟩ : S46), (⟨true, 1, 2⟩ : S46)]⟩ : S44)] _ hs (by kernel_rfl)).mono ?_
 rintro e w39 ⟨v, rfl, hN, hb0⟩
 have hb := below_step (below_alloc (Below.refl _ w38) (.cells [.slice (some A12) 2 2, .slice (some A13) 2 2].toArray 42)) hb0
 have hv := Kd.V_mono (ok' := (fun k_ => (w.heap.size ≤ k_))) (Kd.N_V (base' := w.heap.size) hN) (fun k_ hk => hk.elim id (fun h => Nat.le_trans HB.out.size (Nat.le_trans (by simp) h)))
 clear hs hN hb0
 replace ht0 := Aside0.mk (Kd.V_below ht0.out hb)
 replace ht1 := Aside0.mk (Kd.V_below ht1.out hb)
 replace ht2 := Aside0.mk (Kd.V_below ht2.out hb)
 replace ht3 := Aside0.mk (Kd.V_below ht3.out hb)
 replace hv12 := Aside0.mk (Kd.V_below hv12.out hb)
 replace hv13 := Aside0.mk (Kd.V_below hv13.out hb)
 replace HB := Aside0.mk (below_step HB.out hb)
 clear hb
 clear hv12
 clear hv13
 obtain ⟨B4, c4, rfl⟩ := Kd.V_slice hv
 have ht4 := Aside0.mk hv; clear hv
 go_wp2_with fail
 refine (op_Write.calls 0 1 true 0 1 _ rfl).mono ?_
 rintro e w40 ⟨rfl, hb⟩
 replace ht0 := Aside0.mk (Kd.V_below ht0.out hb)
 replace ht1 := Aside0.mk (Kd.V_below ht1.out hb)
 replace ht2 := Aside0.mk (Kd.V_below ht2.out hb)
 replace ht3 := Aside0.mk (Kd.V_below ht3.out hb)
 replace ht4 := Aside0.mk (Kd.V_below ht4.out hb)
 replace HB := Aside0.mk (below_step HB.out hb)
 clear hb
 go_wp2_with fail
 refine (catalogue_ops.lit1 true 0 1 w.heap.size _ (fun k_ => (w.heap.size ≤ k_)) HB.out.size).mono ?_
 rintro e w41 ⟨A14, rfl, hv, hb⟩
 replace ht0 := Aside0.mk (Kd.V_below ht0.out hb)
 replace ht1 := Aside0.mk (Kd.V_below ht1.out hb)
 replace ht2 := Aside0.mk (Kd.V_below ht2.out hb)
 replace ht3 := Aside0.mk (Kd.V_below ht3.out hb)
 replace ht4 := Aside0.mk (Kd.V_below ht4.out hb)
 replace HB := Aside0.mk (below_step HB.out hb)
 have hv14 := Aside0.mk hv; clear hv hb
 go_wp2_with fail
 refine (op_Read.calls 0 0 false 0 0 _ rfl).mono ?_
 rintro e w42 ⟨rfl, hb⟩
 replace ht0 := Aside0.mk (Kd.V_below ht0.out hb)
 replace ht1 := Aside0.mk (Kd.V_below ht1.out hb)
 replace ht2 := Aside0.mk (Kd.V_below ht2.out hb)
 replace ht3 := Aside0.mk (Kd.V_below ht3.out hb)
 replace ht4 := Aside0.mk (Kd.V_below ht4.out hb)
 replace hv14 := Aside0.mk (Kd.V_below hv14.out hb)
 replace HB := Aside0.mk (below_step HB.out hb)
 clear hb
 go_wp2_with fail
 refine (catalogue_ops.lit1 false 0 0 w.heap.size _ (fun k_ => (w.heap.size ≤ k_)) HB.out.size).mono ?_
 rintro e w43 ⟨A15, rfl, hv, hb⟩
 replace ht0 := Aside0.mk (Kd.V_below ht0.out hb)
 replace ht1 := Aside0.mk (Kd.V_below ht1.out hb)
 replace ht2 := Aside0.mk (Kd.V_below ht2.out hb)
 replace ht3 := Aside0.mk (Kd.V_below ht3.out hb)
 replace ht4 := Aside0.mk (Kd.V_below ht4.out hb)
 replace hv14 := Aside0.mk (Kd.V_below hv14.out hb)
 replace HB := Aside0.mk (below_step HB.out hb)
 have hv15 := Aside0.mk hv; clear hv hb
 go_wp2_with fail
 have hs := H.V_lit (Kd.slice 46 k46) 42 w43 (w43.alloc (.cells [.slice (some A14) 1 1, .slice (some A15) 1 1].toArray 42)).heap.size (fun k_ => (w.heap.size ≤ k_)) HB.out.size ([[(⟨true, 0, 1⟩ : S46)], [(⟨false, 0, 0⟩ : S46)]] : List (List S46)) [.slice (some A14) 1 1, .slice (some A15) 1 1] (by simp) (by
  rintro (_ | _ | j) p hp
  ·obtain rfl : ([(⟨true, 0, 1⟩ : S46)] : List S46) = p := by simpa using hp
   refine ⟨_, rfl, H.V_FK_slice hv14.out, fun i u hu => ?_⟩
   match i, hu with
   | 0, hu => simpa [show (Kd.slice 46 k46).sz = 1 from rfl] using hu
   | i + 1, hu => simp at hu
  ·obtain rfl : ([(⟨false, 0, 0⟩ : S46)] : List S46) = p := by simpa using hp
   refine ⟨_, rfl, H.V_FK_slice hv15.out, fun i u hu => ?_⟩
   match i, hu with
   | 0, hu => simpa [show (Kd.slice 46 k46).sz = 1 from rfl] using hu
   | i + 1, hu => simp at hu
  ·simp at hp)
 refine (catalogue_after.calls 10 false (fun k_ => (w.heap.size ≤ k_)) _ _ [[(⟨true, 0, 1⟩ : S46)], [(⟨false, 0, 0⟩ : S46)]] [(⟨0, 1, 2, [(⟨true, 0, 1⟩ : S46)]⟩ : S44), (⟨1, 3, 4, [(⟨false, 0, 0⟩ : S46)]⟩ : S44)] _ hs (by kernel_rfl)).mono ?_
 rintro e w44 ⟨v, rfl, hN, hb0⟩
 have hb := below_step (below_alloc (Below.refl _ w43) (.cells [.slice (some A14) 1 1, .slice (some A15) 1 1].toArray 42)) hb0
 have hv := Kd.V_mono (ok' := (fun k_ => (w.heap.size ≤ k_))) (Kd.N_V (base' := w.heap.size) hN) (fun k_ hk => hk.elim id (fun h => Nat.le_trans HB.out.size (Nat.le_trans (by simp) h)))
 clear hs hN hb0
 replace ht0 := Aside0.mk (Kd.V_below ht0.out hb)
 replace ht1 := Aside0.mk (Kd.V_below ht1.out hb)
 replace ht2 := Aside0.mk (Kd.V_below ht2.out hb)
 replace ht3 := Aside0.mk (Kd.V_below ht3.out hb)
 replace ht4 := Aside0.mk (Kd.V_below ht4.out hb)
 replace hv14 := Aside0.mk (Kd.V_below hv14.out hb)
 replace hv15 := Aside0.mk (Kd.V_below hv15.out hb)
 replace HB := Aside0.mk (below_step HB.out hb)
 clear hb
 clear hv14
 clear hv15
 obtain ⟨B5, c5, rfl⟩ := Kd.V_slice hv
 have ht5 := Aside0.mk hv; clear hv
 go_wp2
 have hs := H.V_lit k25 25 w44 w.heap.size (fun k_ => (w.heap.size ≤ k_)) HB.out.size [entry0, entry1, entry2, entry3, entry4, entry5] [.string ⟨#[111, 119, 110, 32, 119, 114, 105, 116, 101, 32, 117, 110, 115, 101, 101, 110]⟩, .slice B0 ([(⟨0, 1, 2, [(⟨true, 0, 1⟩ : S46)]⟩ : S44), (⟨0, 3, 4, [(⟨false, 0, 0⟩ : S46)]⟩ : S44)] : List S44).length c0, .int .i64 1, .string ⟨#[99, 97, 117, 115, 101, 32, 117, 110, 115, 101, 101, 110]⟩, .slice B1 ([(⟨0, 1, 4, [(⟨true, 0, 1⟩ : S46)]⟩ : S44), (⟨1, 2, 5, [(⟨false, 0, 1⟩ : S46), (⟨true, 1, 2⟩ : S46)]⟩ : S44), (⟨2, 3, 6, [(⟨false, 1, 2⟩ : S46), (⟨false, 0, 0⟩ : S46)]⟩ : S44)] : List S44).length c1, .int .i64 2, .string ⟨#[108, 111, 110, 103, 32, 102, 111, 114, 107]⟩, .slice B2 ([(⟨0, 1, 5, [(⟨true, 0, 1⟩ : S46)]⟩ : S44), (⟨1, 2, 6, [(⟨true, 1, 2⟩ : S46)]⟩ : S44), (⟨2, 3, 7, [(⟨false, 0, 1⟩ : S46), (⟨false, 1, 0⟩ : S46)]⟩ : S44), (⟨3, 4, 8, [(⟨false, 0, 0⟩ : S46), (⟨false, 1, 2⟩ : S46)]⟩ : S44)] : List S44).length c2, .int .i64 4, .string ⟨#[108, 111, 115, 116, 32, 117, 112, 100, 97, 116, 101]⟩, .slice B3 ([(⟨0, 1, 3, [(⟨false, 0, 0⟩ : S46), (⟨true, 0, 1⟩ : S46)]⟩ : S44), (⟨1, 2, 4, [(⟨false, 0, 0⟩ : S46), (⟨true, 0, 2⟩ : S46)]⟩ : S44)] : List S44).length c3, .int .i64 8, .string ⟨#[119, 114, 105, 116, 101, 32, 115, 107, 101, 119]⟩, .slice B4 ([(⟨0, 1, 3, [(⟨false, 1, 0⟩ : S46), (⟨true, 0, 1⟩ : S46)]⟩ : S44), (⟨1, 2, 4, [(⟨false, 0, 0⟩ : S46), (⟨true, 1, 2⟩ : S46)]⟩ : S44)] : List S44).length c4, .int .i64 16, .string ⟨#[115, 116, 97, 108, 101, 32, 114, 101, 97, 100]⟩, .slice B5 ([(⟨0, 1, 2, [(⟨true, 0, 1⟩ : S46)]⟩ : S44), (⟨1, 3, 4, [(⟨false, 0, 0⟩ : S46)]⟩ : S44)] : List S44).length c5, .int .i64 32] (by simp) (by
  rintro (_ | _ | _ | _ | _ | _ | j) p hp
  ·obtain rfl : entry0 = p := by simpa using hp
   obtain ⟨_, hc, hf⟩ := Kd.V_at ht0.out
   refine ⟨_, rfl, k25_mkF w44 (fun k_ => (w.heap.size ≤ k_)) entry0 hc hf, fun i u hu => ?_⟩
   match i, hu with
   | 0, hu => exact hu
   | 1, hu => exact hu
   | 2, hu => exact hu
   | i + 3, hu => simp at hu
  ·obtain rfl : entry1 = p := by simpa using hp
   obtain ⟨_, hc, hf⟩ := Kd.V_at ht1.out
   refine ⟨_, rfl, k25_mkF w44 (fun k_ => (w.heap.size ≤ k_)) entry1 hc hf, fun i u hu => ?_⟩
   match i, hu with
   | 0, hu => exact hu
   | 1, hu => exact hu
   | 2, hu => exact hu
   | i + 3, hu => simp at hu
  ·obtain rfl : entry2 = p := by simpa using hp
   obtain ⟨_, hc, hf⟩ := Kd.V_at ht2.out
   refine ⟨_, rfl, k25_mkF w44 (fun k_ => (w.heap.size ≤ k_)) entry2 hc hf, fun i u hu => ?_⟩
   match i, hu with
   | 0, hu => exact hu
   | 1, hu => exact hu
   | 2, hu => exact hu
   | i + 3, hu => simp at hu
  ·obtain rfl : entry3 = p := by simpa using hp
   obtain ⟨_, hc, hf⟩ := Kd.V_at ht3.out
   refine ⟨_, rfl, k25_mkF w44 (fun k_ => (w.heap.size ≤ k_)) entry3 hc hf, fun i u hu => ?_⟩
   match i, hu with
   | 0, hu => exact hu
   | 1, hu => exact hu
   | 2, hu => exact hu
   | i + 3, hu => simp at hu
  ·obtain rfl : entry4 = p := by simpa using hp
   obtain ⟨_, hc, hf⟩ := Kd.V_at ht4.out
   refine ⟨_, rfl, k25_mkF w44 (fun k_ => (w.heap.size ≤ k_)) entry4 hc hf, fun i u hu => ?_⟩
   match i, hu with
   | 0, hu => exact hu
   | 1, hu => exact hu
   | 2, hu => exact hu
   | i + 3, hu => simp at hu
  ·obtain rfl : entry5 = p := by simpa using hp
   obtain ⟨_, hc, hf⟩ := Kd.V_at ht5.out
   refine ⟨_, rfl, k25_mkF w44 (fun k_ => (w.heap.size ≤ k_)) entry5 hc hf, fun i u hu => ?_⟩
   match i, hu with
   | 0, hu => exact hu
   | 1, hu => exact hu
   | 2, hu => exact hu
   | i + 3, hu => simp at hu
  ·simp at hp)
 go_ret
 exact ⟨_, rfl, hs, below_alloc HB.out _⟩
def level_Is.f (a0 : Int) : Option (Bool) := if a0 ≥ 0 then (some (decide (a0 < 12))) else (some false)
set_option maxHeartbeats 8000000 in
set_option maxRecDepth 100000 in
theorem level_Is.calls (a0 : Int) (r : Bool) (w : World) (h : level_Is.f a0 = some r) :
  Calls Try.prog 55 #[.int .i64 a0] w fun e w' => e = .returned (.bool r) ∧ Drawn0 w w' := by
 have H : (if a0 ≥ 0 then (some (decide (a0 < 12))) else (some false)) = some r := h
 clear h
 by_cases c2 : a0 ≥ 0
 ·rw [if_pos c2] at H
  have c2b0 : decide (0 ≤ a0) = true := decide_eq_true c2
  clear c2
  obtain rfl := Option.some.inj H
  go_enter Try.func55, Try.ntmps55
  go_wp2
  go_ret
  exact ⟨by first | rfl | (simp; done) | (simp [*]; done), by repeat (first | exact Drawn0.refl _ | apply Drawn0.step)⟩
 ·rw [if_neg c2] at H
  have c2b0 : decide (0 ≤ a0) = false := decide_eq_false c2
  clear c2
  obtain rfl := Option.some.inj H
  go_enter Try.func55, Try.ntmps55
  go_wp2
  go_ret
  exact ⟨by first | rfl | (simp; done) | (simp [*]; done), by repeat (first | exact Drawn0.refl _ | apply Drawn0.step)⟩
set_option maxHeartbeats 1000000 in
theorem level_asks.calls (w : World) : Calls Try.prog 102 #[] w fun e w' => e = .returned (.agg #[.int .i64 0, .int .i64 1, .int .i64 3, .int .i64 9, .int .i64 5, .int .i64 11, .int .i64 13, .int .i64 17, .int .i64 34, .int .i64 36, .int .i64 44, .int .i64 48]) ∧ Below w.heap.size w w' := by
 have hu := Try.underlying139
 go_enter Try.func102, Try.ntmps102
 go_wp2
 exact bodyPost_ret (v := .agg #[.int .i64 0, .int .i64 1, .int .i64 3, .int .i64 9, .int .i64 5, .int .i64 11, .int .i64 13, .int .i64 17, .int .i64 34, .int .i64 36, .int .i64 44, .int .i64 48]) (by simp [results, Try.results102, go_sem]) rfl ⟨rfl, (Below.refl _ _).alloc (Nat.le_refl _) _⟩
def asksL : List Int := [0, 1, 3, 9, 5, 11, 13, 17, 34, 36, 44, 48]
set_option maxRecDepth 100000 in
theorem asks_index (a : Int) (h0 : 0 ≤ a) (h1 : a < 12) (W : World) : (Instr.index 139 (.agg #[.int .i64 0, .int .i64 1, .int .i64 3, .int .i64 9, .int .i64 5, .int .i64 11, .int .i64 13, .int .i64 17, .int .i64 34, .int .i64 36, .int .i64 44, .int .i64 48]) (.int .i64 a)).run Try.prog W = .ok (.int .i64 (asksL.getD a.toNat 0)) W := by
 have : a = 0 ∨ a = 1 ∨ a = 2 ∨ a = 3 ∨ a = 4 ∨ a = 5 ∨ a = 6 ∨ a = 7 ∨ a = 8 ∨ a = 9 ∨ a = 10 ∨ a = 11 := by omega
 rcases this with rfl | rfl | rfl | rfl | rfl | rfl | rfl | rfl | rfl | rfl | rfl | rfl <;> rfl
def level_Asks.f (a0 : Int) : Option (Int) := some (if 0 ≤ a0 ∧ a0 < 12 then asksL.getD a0.toNat 0 else 0)
set_option maxHeartbeats 1000000 in
theorem level_Asks.calls (a0 : Int) (r : Int) (w : World) (h : level_Asks.f a0 = some r) :
  Calls Try.prog 88 #[.int .i64 a0] w fun e w' => e = .returned (.int .i64 r) ∧ Below w.heap.size w w' := by
 by_cases hc : 0 ≤ a0 ∧ a0 < 12
 ·have hr : r = asksL.getD a0.toNat 0 := by unfold level_Asks.f at h; rw [if_pos hc] at h; exact (Option.some.inj h).symm
  have HR := Aside0.mk hr
  have hi : level_Is.f a0 = some true := by unfold level_Is.f; rw [if_pos hc.1]; simp [hc.2]
  have HI := Aside0.mk hi
  have hidx := asks_index a0 hc.1 hc.2
  clear h hc hr hi
  go_enter Try.func88, Try.ntmps88
  go_wp2_with (first | (go_at_call 55; (refine (level_Is.calls _ _ _ HI.out).mono ?_); rintro e w' ⟨rfl, ⟨nd, rfl⟩⟩) | (go_at_call 102; (refine (level_asks.calls _).mono ?_); rintro e w' ⟨rfl, hb⟩))
  go_ret
  exact ⟨by rw [HR.out]; simp, (pw_below_drewN (Below.refl _ w) nd).trans (by simpa using hb)⟩
 ·have hr : r = 0 := by unfold level_Asks.f at h; rw [if_neg hc] at h; exact (Option.some.inj h).symm
  have HR := Aside0.mk hr
  have hi : level_Is.f a0 = some false := by
   unfold level_Is.f
   by_cases h0 : a0 ≥ 0
   ·rw [if_pos h0]; simp; omega
   ·rw [if_neg h0]
  have HI := Aside0.mk hi
  clear h hc hr hi
  go_enter Try.func88, Try.ntmps88
  go_wp2_with (first | (go_at_call 55; (refine (level_Is.calls _ _ _ HI.out).mono ?_); rintro e w' ⟨rfl, ⟨nd, rfl⟩⟩) | (go_at_call 102; (refine (level_asks.calls _).mono ?_); rintro e w' ⟨rfl, hb⟩))
  go_ret
  exact ⟨by rw [HR.out]; rfl, pw_below_drewN (Below.refl _ w) nd⟩
def level_Closed.j0 : Nat → Int → Option (Int)
 | 0, _ => none
 | k + 1, x0 => if (Go.bits .and .i64 x0 4) = 0 then (if (Go.bits .and .i64 x0 32) = 0 then (some (Go.bits .and .i64 x0 63)) else (some (Go.bits .and .i64 (Go.bits .or .i64 x0 1) 63))) else (if (Go.bits .and .i64 (Go.bits .or .i64 x0 2) 32) = 0 then (some (Go.bits .and .i64 (Go.bits .or .i64 x0 2) 63)) else (some (Go.bits .and .i64 (Go.bits .or .i64 (Go.bits .or .i64 x0 2) 1) 63)))
def level_Closed.f (k : Nat) (a0 : Int) : Option (Int) := if (Go.bits .and .i64 a0 16) = 0 then (level_Closed.j0 k a0) else (level_Closed.j0 k (Go.bits .or .i64 a0 12))
theorem level_Closed.mono_l : ∀ k, (∀ y0, LeO (level_Closed.j0 k y0) (level_Closed.j0 (k + 1) y0))
 | 0 => fun _ r h => by simp [level_Closed.j0] at h
 | k + 1 => by
  have ih0 := level_Closed.mono_l k
  ·intro y0
   unfold level_Closed.j0
   repeat' first
   | (with_reducible exact ih0 _)
   | (with_reducible exact LeO.refl _)
   | (with_reducible exact LeO.none _)
   | (with_reducible refine LeO.ite ?_ ?_)
   | (with_reducible refine LeO.bind ?_ (fun _ => ?_))
   | exact ih0 _
   | exact LeO.none _
   | refine LeO.ite ?_ ?_
   | refine LeO.bind ?_ (fun _ => ?_)
theorem level_Closed.mono : ∀ a0 k, LeO (level_Closed.f k a0) (level_Closed.f (k + 1) a0) := by
 intro a0 k
 have ih0 := level_Closed.mono_l k
 unfold level_Closed.f
 repeat' first
   | (with_reducible exact ih0 _)
   | (with_reducible exact LeO.refl _)
   | (with_reducible exact LeO.none _)
   | (with_reducible refine LeO.ite ?_ ?_)
   | (with_reducible refine LeO.bind ?_ (fun _ => ?_))
   | exact ih0 _
   | exact LeO.none _
   | refine LeO.ite ?_ ?_
   | refine LeO.bind ?_ (fun _ => ?_)
set_option maxHeartbeats 8000000 in
set_option maxRecDepth 100000 in
theorem level_Closed.calls (k : Nat) (a0 : Int) (r : Int) (w : World) (h : level_Closed.f k a0 = some r) :
  Calls Try.prog 89 #[.int .i64 a0] w fun e w' => e = .returned (.int .i64 r) ∧ Drawn0 w w' := by
 have H : (if (Go.bits .and .i64 a0 16) = 0 then (level_Closed.j0 k a0) else (level_Closed.j0 k (Go.bits .or .i64 a0 12))) = some r := h
 clear h
 have HC2 := Aside0.mk H
 clear H
 go_enter Try.func89, Try.ntmps89
 go_upto_if 5 with (fail)
 go_cut [0] (fun v0 wc => ∃ (kq : Nat) (x0_1 : Int), v0 = .int .i64 x0_1 ∧ Aside0 (level_Closed.j0 kq x0_1 = some r) ∧ Aside0 (kq ≤ k) ∧ Drawn0 w wc)
 case first =>
  have H := HC2.out
  clear HC2
  by_cases c3 : (Go.bits .and .i64 a0 16) = 0
  ·rw [if_pos c3] at H
   have c3b0 : ((Go.bits .and .i64 a0 16) == 0) = true := beq_iff_eq.mpr c3
   have c3b1 : ((Go.bits .and .i64 a0 16) != 0) = false := bne_eq_false_iff_eq.mpr c3
   clear c3
   (first | rw [c3b0] | (simp only [i64_w, i32_w]; rw [c3b0]) | skip)
   have H' := Aside0.mk H
   clear H
   go_wp2
   go_meet
   case rel => exact ⟨_, (a0), (by first | rfl | (simp; done) | (simp [*]; done)), H', ⟨by first | omega | exact Nat.le_refl _⟩, by repeat (first | exact Drawn0.refl _ | apply Drawn0.step)⟩
  ·rw [if_neg c3] at H
   have c3b0 : ((Go.bits .and .i64 a0 16) == 0) = false := beq_eq_false_iff_ne.mpr c3
   have c3b1 : ((Go.bits .and .i64 a0 16) != 0) = true := bne_iff_ne.mpr c3
   (first | rw [c3b0] | (simp only [i64_w, i32_w]; rw [c3b0]) | skip)
   have H' := Aside0.mk H
   clear H
   go_wp2
   go_meet
   case rel => exact ⟨_, (Go.bits .or .i64 a0 12), (by first | rfl | (simp; done) | (simp [*]; done)), H', ⟨by first | omega | exact Nat.le_refl _⟩, by repeat (first | exact Drawn0.refl _ | apply Drawn0.step)⟩
 case rest =>
  clear HC2
  try clear p2
  try clear c3
  try clear c3b0
  try clear c3b1
  obtain ⟨kq, x0_1, rfl, HA, HJ1, ⟨mc1, rfl⟩⟩ := hcut
  cases kq with
  | zero => exact absurd HA.out (by simp [level_Closed.j0])
  | succ kj1 =>
   have H := HA.out
   clear HA
   simp only [level_Closed.j0] at H
   by_cases c4 : (Go.bits .and .i64 x0_1 4) = 0
   ·rw [if_pos c4] at H
    have c4b0 : ((Go.bits .and .i64 x0_1 4) == 0) = true := beq_iff_eq.mpr c4
    have c4b1 : ((Go.bits .and .i64 x0_1 4) != 0) = false := bne_eq_false_iff_eq.mpr c4
    clear c4
    by_cases c5 : (Go.bits .and .i64 x0_1 32) = 0
    ·rw [if_pos c5] at H
     have c5b0 : ((Go.bits .and .i64 x0_1 32) == 0) = true := beq_iff_eq.mpr c5
     have c5b1 : ((Go.bits .and .i64 x0_1 32) != 0) = false := bne_eq_false_iff_eq.mpr c5
     clear c5
     obtain rfl := Option.some.inj H
     go_wp2
     go_ret
     exact ⟨by first | rfl | (simp; done) | (simp [*]; done), by repeat (first | exact Drawn0.refl _ | apply Drawn0.step)⟩
    ·rw [if_neg c5] at H
     have c5b0 : ((Go.bits .and .i64 x0_1 32) == 0) = false := beq_eq_false_iff_ne.mpr c5
     have c5b1 : ((Go.bits .and .i64 x0_1 32) != 0) = true := bne_iff_ne.mpr c5
     obtain rfl := Option.some.inj H
     go_wp2
     go_ret
     exact ⟨by first | rfl | (simp; done) | (simp [*]; done), by repeat (first | exact Drawn0.refl _ | apply Drawn0.step)⟩
   ·rw [if_neg c4] at H
    have c4b0 : ((Go.bits .and .i64 x0_1 4) == 0) = false := beq_eq_false_iff_ne.mpr c4
    have c4b1 : ((Go.bits .and .i64 x0_1 4) != 0) = true := bne_iff_ne.mpr c4
    by_cases c6 : (Go.bits .and .i64 (Go.bits .or .i64 x0_1 2) 32) = 0
    ·rw [if_pos c6] at H
     have c6b0 : ((Go.bits .and .i64 (Go.bits .or .i64 x0_1 2) 32) == 0) = true := beq_iff_eq.mpr c6
     have c6b1 : ((Go.bits .and .i64 (Go.bits .or .i64 x0_1 2) 32) != 0) = false := bne_eq_false_iff_eq.mpr c6
     clear c6
     obtain rfl := Option.some.inj H
     go_wp2
     go_ret
     exact ⟨by first | rfl | (simp; done) | (simp [*]; done), by repeat (first | exact Drawn0.refl _ | apply Drawn0.step)⟩
    ·rw [if_neg c6] at H
     have c6b0 : ((Go.bits .and .i64 (Go.bits .or .i64 x0_1 2) 32) == 0) = false := beq_eq_false_iff_ne.mpr c6
     have c6b1 : ((Go.bits .and .i64 (Go.bits .or .i64 x0_1 2) 32) != 0) = true := bne_iff_ne.mpr c6
     obtain rfl := Option.some.inj H
     go_wp2
     go_ret
     exact ⟨by first | rfl | (simp; done) | (simp [*]; done), by repeat (first | exact Drawn0.refl _ | apply Drawn0.step)⟩
def table_Missing.f (k : Nat) (a0 : Int) (a1 : Int) : Option (Int) := (level_Asks.f a1).bind fun t115 => ((level_Asks.f a0).bind fun t116 => ((level_Closed.f k t116).bind fun t117 => (some (Go.bits .andNot .i64 t115 t117))))
theorem table_Missing.mono : ∀ a0 a1 k, LeO (table_Missing.f k a0 a1) (table_Missing.f (k + 1) a0 a1) := by
 intro a0 a1 k
 unfold table_Missing.f
 repeat' first
   | (with_reducible exact level_Closed.mono _ _)
   | (with_reducible exact LeO.refl _)
   | (with_reducible exact LeO.none _)
   | (with_reducible refine LeO.ite ?_ ?_)
   | (with_reducible refine LeO.bind ?_ (fun _ => ?_))
   | exact level_Closed.mono _ _
   | exact LeO.none _
   | refine LeO.ite ?_ ?_
   | refine LeO.bind ?_ (fun _ => ?_)
set_option maxHeartbeats 8000000 in
set_option maxRecDepth 100000 in
theorem table_Missing.calls (k : Nat) (a0 : Int) (a1 : Int) (r : Int) (w : World) (h : table_Missing.f k a0 a1 = some r) :
  Calls Try.prog 56 #[.int .i64 a0, .int .i64 a1] w fun e w' => e = .returned (.int .i64 r) ∧ Below w.heap.size w w' := by
 have HB := Aside0.mk (Below.refl w.heap.size w)
 have H : ((level_Asks.f a1).bind fun t115 => ((level_Asks.f a0).bind fun t116 => ((level_Closed.f k t116).bind fun t117 => (some (Go.bits .andNot .i64 t115 t117))))) = some r := h
 clear h
 replace H := Option.bind_eq_some_iff.mp H
 obtain ⟨t115, A30, H⟩ := H
 replace H : ((level_Asks.f a0).bind fun t116 => ((level_Closed.f k t116).bind fun t117 => (some (Go.bits .andNot .i64 t115 t117)))) = some r := H
 have A3 := Aside0.mk A30
 clear A30
 replace H := Option.bind_eq_some_iff.mp H
 obtain ⟨t116, A40, H⟩ := H
 replace H : ((level_Closed.f k t116).bind fun t117 => (some (Go.bits .andNot .i64 t115 t117))) = some r := H
 have A4 := Aside0.mk A40
 clear A40
 replace H := Option.bind_eq_some_iff.mp H
 obtain ⟨t117, A50, H⟩ := H
 replace H : (some (Go.bits .andNot .i64 t115 t117)) = some r := H
 have A5 := Aside0.mk A50
 clear A50
 obtain rfl := Option.some.inj H
 go_enter Try.func56, Try.ntmps56
 go_wp2_with (first | ((with_reducible refine gate_callee (f := 88) rfl ?_); refine goesL_ (some 6) rfl rfl Try.func88 (by kernel_rfl) rfl #[.int .i64 a1] rfl (by (try simp only [List.map_toArray, List.map_cons, List.map_nil]); first | done | rfl | (simp only [List.length_drop, List.length_take]; rfl)) ?_; (with_reducible refine (level_Asks.calls a1 t115 _ A3.out).mono ?_); rintro e w6 ⟨rfl, hb⟩; refine ⟨_, rfl, ?_⟩; have n0_ := Aside0.mk (below_step (by repeat (first | (with_reducible first | exact HB.out | apply below_alloc | apply pw_below_drewN | apply below_drew1))) hb); clear HB; have HB := n0_; clear n0_; (try clear hb); (try clear hb2); (try clear hk); (try clear hi)) | ((with_reducible refine gate_callee (f := 88) rfl ?_); refine goesL_ (some 8) rfl rfl Try.func88 (by kernel_rfl) rfl #[.int .i64 a0] rfl (by (try simp only [List.map_toArray, List.map_cons, List.map_nil]); first | done | rfl | (simp only [List.length_drop, List.length_take]; rfl)) ?_; (with_reducible refine (level_Asks.calls a0 t116 _ A4.out).mono ?_); rintro e w7 ⟨rfl, hb⟩; refine ⟨_, rfl, ?_⟩; have n0_ := Aside0.mk (below_step (by repeat (first | (with_reducible first | exact HB.out | apply below_alloc | apply pw_below_drewN | apply below_drew1))) hb); clear HB; have HB := n0_; clear n0_; (try clear hb); (try clear hb2); (try clear hk); (try clear hi)) | ((with_reducible refine gate_callee (f := 89) rfl ?_); refine goesL_ (some 9) rfl rfl Try.func89 (by kernel_rfl) rfl #[.int .i64 t116] rfl (by (try simp only [List.map_toArray, List.map_cons, List.map_nil]); first | done | rfl | (simp only [List.length_drop, List.length_take]; rfl)) ?_; (with_reducible refine (level_Closed.calls k t116 t117 _ A5.out).mono ?_); rintro e w' ⟨rfl, ⟨nd, rfl⟩⟩; refine ⟨_, rfl, ?_⟩))
 go_ret
 exact ⟨by first | rfl | (simp <;> rfl) | (simp [*] <;> rfl), by repeat (first | (with_reducible first | exact HB.out | apply below_alloc | apply pw_below_drewN | apply below_drew1))⟩
end Go.Proofs.Ytfocaefnmfkojaa.Q
namespace Go.Proofs.Ytfocaefnmfkojaa.Q
open Go.RowKit Go.Proofs.YtfocaefnmfkojaaW.PrintWords Go.Proofs.YtfocaefnmfkojaaW.PrintLast Go.Proofs.YtfocaefnmfkojaaW.PrintMore
attribute [local go_sem] max2_int min2_int max_two min_two max_three min_three max_four min_four   -- for this text's walks alone
set_option linter.unusedVariables false
set_option linter.unusedSimpArgs false
mutual
def catalogue_Find.j0 : Nat → Int → Int → Bool → Option (ByteArray × (List (S44)) × Int × Bool)
 | 0, _, _, _ => none
 | k + 1, x0, x1, x15 => if x15 = true then (some ((⟨#[]⟩ : ByteArray), ([] : List (S44)), 0, false)) else ((catalogue_All.f).bind fun t121 => (catalogue_Find.l0 k x0 x1 t121 (t121.length : Int) 0))
def catalogue_Find.l0 : Nat → Int → Int → List (S25) → Int → Int → Option (ByteArray × (List (S44)) × Int × Bool)
 | 0, _, _, _, _, _ => none
 | k + 1, x0, x1, x17, x18, x19 => if x19 < x18 then (if 0 ≤ x19 then (if x19 < (x17.length : Int) then ((table_Missing.f k x0 x1).bind fun t126 => (if (Go.bits .and .i64 t126 ((rd_T25 x17 x19).f2)) = 0 then (catalogue_Find.l0 k x0 x1 x17 x18 (wrap64 (x19 + 1))) else (some ((rd_T25 x17 x19).f0, (rd_T25 x17 x19).f1, (rd_T25 x17 x19).f2, true)))) else (none)) else (none)) else (some ((⟨#[]⟩ : ByteArray), ([] : List (S44)), 0, false))
end
def catalogue_Find.f (k : Nat) (a0 : Int) (a1 : Int) : Option (ByteArray × (List (S44)) × Int × Bool) := (level_Is.f a0).bind fun t119 => (if t119 = true then ((level_Is.f a1).bind fun t120 => (catalogue_Find.j0 k a0 a1 (!t120))) else (catalogue_Find.j0 k a0 a1 true))
theorem catalogue_Find.mono_l : ∀ k, (∀ y0 y1 y2, LeO (catalogue_Find.j0 k y0 y1 y2) (catalogue_Find.j0 (k + 1) y0 y1 y2)) ∧ (∀ y0 y1 y2 y3 y4, LeO (catalogue_Find.l0 k y0 y1 y2 y3 y4) (catalogue_Find.l0 (k + 1) y0 y1 y2 y3 y4))
 | 0 => ⟨fun _ _ _ r h => by simp [catalogue_Find.j0] at h, fun _ _ _ _ _ r h => by simp [catalogue_Find.l0] at h⟩
 | k + 1 => by
  obtain ⟨ih0, ih1⟩ := catalogue_Find.mono_l k
  refine ⟨?_, ?_⟩
  ·intro y0 y1 y2
   unfold catalogue_Find.j0
   repeat' first
   | (with_reducible exact ih0 _ _ _)
   | (with_reducible exact ih1 _ _ _ _ _)
   | (with_reducible exact table_Missing.mono _ _ _)
   | (with_reducible exact LeO.refl _)
   | (with_reducible exact LeO.none _)
   | (with_reducible refine LeO.ite ?_ ?_)
   | (with_reducible refine LeO.bind ?_ (fun _ => ?_))
   | exact ih0 _ _ _
   | exact ih1 _ _ _ _ _
   | exact table_Missing.mono _ _ _
   | exact LeO.none _
   | refine LeO.ite ?_ ?_
   | refine LeO.bind ?_ (fun _ => ?_)
  ·intro y0 y1 y2 y3 y4
   unfold catalogue_Find.l0
   repeat' first
   | (with_reducible exact ih0 _ _ _)
   | (with_reducible exact ih1 _ _ _ _ _)
   | (with_reducible exact table_Missing.mono _ _ _)
   | (with_reducible exact LeO.refl _)
   | (with_reducible exact LeO.none _)
   | (with_reducible refine LeO.ite ?_ ?_)
   | (with_reducible refine LeO.bind ?_ (fun _ => ?_))
   | exact ih0 _ _ _
   | exact ih1 _ _ _ _ _
   | exact table_Missing.mono _ _ _
   | exact LeO.none _
   | refine LeO.ite ?_ ?_
   | refine LeO.bind ?_ (fun _ => ?_)
theorem catalogue_Find.mono : ∀ a0 a1 k, LeO (catalogue_Find.f k a0 a1) (catalogue_Find.f (k + 1) a0 a1) := by
 intro a0 a1 k
 obtain ⟨ih0, ih1⟩ := catalogue_Find.mono_l k
 unfold catalogue_Find.f
 repeat' first
   | (with_reducible exact ih0 _ _ _)
   | (with_reducible exact ih1 _ _ _ _ _)
   | (with_reducible exact table_Missing.mono _ _ _)
   | (with_reducible exact LeO.refl _)
   | (with_reducible exact LeO.none _)
   | (with_reducible refine LeO.ite ?_ ?_)
   | (with_reducible refine LeO.bind ?_ (fun _ => ?_))
   | exact ih0 _ _ _
   | exact ih1 _ _ _ _ _
   | exact table_Missing.mono _ _ _
   | exact LeO.none _
   | refine LeO.ite ?_ ?_
   | refine LeO.bind ?_ (fun _ => ?_)
set_option maxHeartbeats 8000000 in
set_option maxRecDepth 100000 in
theorem catalogue_Find.calls (k : Nat) (a0 : Int) (a1 : Int) (r1 : ByteArray) (r2 : List (S44)) (r3 : Int) (r4 : Bool) (w : World) (h : catalogue_Find.f k a0 a1 = some (r1, r2, r3, r4)) :
  Calls Try.prog 14 #[.int .i64 a0, .int .i64 a1] w fun e w' => ∃ v1_ : Value, e = .returned (.tuple #[.agg #[.string r1, v1_, .int .i64 r3], .bool r4]) ∧ Kd.V k44 44 w' w.heap.size (fun k_ => (w.heap.size ≤ k_)) v1_ r2 ∧ Below w.heap.size w w' := by
 have hu25 := Try.underlying25
 have HB := Aside0.mk (Below.refl w.heap.size w)
 have H : ((level_Is.f a0).bind fun t119 => (if t119 = true then ((level_Is.f a1).bind fun t120 => (catalogue_Find.j0 k a0 a1 (!t120))) else (catalogue_Find.j0 k a0 a1 true))) = some (r1, r2, r3, r4) := h
 clear h
 have HC3 := Aside0.mk H
 clear H
 go_enter Try.func14, Try.ntmps14
 go_upto_region 1 with (first | ((with_reducible refine gate_dst (N := 4) rfl ?_); refine box_event ?hg (N := 4) ?hd (cs := #[.string (⟨#[]⟩ : ByteArray), .slice none 0 0, .int .i64 0]) (t := 25) ?hr ?_; (case hd => rfl); (case hg => rfl); (case hr => first | (go_simp; done) | (go_simp; rfl)); intro gb118 hg w4 hbox hb; have n0_ := Aside0.mk (below_step (by repeat (first | (with_reducible first | exact HB.out | apply below_alloc | apply pw_below_drewN | apply below_drew1))) hb); have n1_ := Aside0.mk (hbox); have n2_ := Aside0.mk ((by rw [hg]; exact (below_size (by repeat (first | (with_reducible first | exact HB.out | apply below_alloc | apply pw_below_drewN | apply below_drew1)))) : w.heap.size ≤ gb118)); have n3_ := Aside0.mk ((by rw [hg]; exact (below_size (by repeat (first | (with_reducible first | exact HB.out | apply below_alloc | apply pw_below_drewN | apply below_drew1)))) : w.heap.size ≤ gb118)); clear HB; have HB := n0_; have BK118 := n1_; have GW118 := n2_; have GE118 := n3_; clear n0_ n1_ n2_ n3_; clear hb hbox hg))
 (try simp only [Act.put, List.setIfInBounds_toArray, List.set_cons_zero, List.set_cons_succ])
 go_cut [15] (fun v15 wc => ∃ (kq : Nat) (x15_2 : Bool), v15 = .bool x15_2 ∧ Aside0 (catalogue_Find.j0 kq a0 a1 x15_2 = some (r1, r2, r3, r4)) ∧ Aside0 (kq ≤ k) ∧ Aside0 (wc.heap[gb118]? = some (.cells #[.string (⟨#[]⟩ : ByteArray), (.slice none 0 0), .int .i64 0] 25 (0, 0))) ∧ Aside0 (Below w.heap.size w wc))
 case first =>
  have H := HC3.out
  clear HC3
  replace H := Option.bind_eq_some_iff.mp H
  obtain ⟨t119, A50, H⟩ := H
  replace H : (if t119 = true then ((level_Is.f a1).bind fun t120 => (catalogue_Find.j0 k a0 a1 (!t120))) else (catalogue_Find.j0 k a0 a1 true)) = some (r1, r2, r3, r4) := H
  have A5 := Aside0.mk A50
  clear A50
  by_cases c6 : t119 = true
  ·subst c6
   have H1 : ((level_Is.f a1).bind fun t120 => (catalogue_Find.j0 k a0 a1 (!t120))) = some (r1, r2, r3, r4) := by rw [if_pos rfl] at H; exact H
   clear H
   have H := H1
   clear H1
   replace H := Option.bind_eq_some_iff.mp H
   obtain ⟨t120, A70, H⟩ := H
   replace H : (catalogue_Find.j0 k a0 a1 (!t120)) = some (r1, r2, r3, r4) := H
   have A7 := Aside0.mk A70
   clear A70
   have H' := Aside0.mk H
   clear H
   go_wp2_with (first | ((with_reducible refine gate_callee (f := 55) rfl ?_); refine goesL_ (some 9) rfl rfl Try.func55 (by kernel_rfl) rfl #[.int .i64 a0] rfl (by (try simp only [List.map_toArray, List.map_cons, List.map_nil]); first | done | rfl | (simp only [List.length_drop, List.length_take]; rfl)) ?_; (with_reducible refine (level_Is.calls a0 true _ A5.out).mono ?_); rintro e w' ⟨rfl, ⟨nd, rfl⟩⟩; refine ⟨_, rfl, ?_⟩) | (go_at_call 55; (with_reducible refine (level_Is.calls a1 t120 _ A7.out).mono ?_); rintro e w' ⟨rfl, ⟨nd, rfl⟩⟩))
   go_meet
   case rel => exact ⟨_, (!t120), (by first | rfl | (simp; done) | (simp [*]; done)), H', ⟨by first | omega | exact Nat.le_refl _⟩, ⟨by (with_reducible repeat (first | refine blk_drewN ?_ _ | refine blk_drew ?_ | refine blk_alloc ?_ _)); exact BK118.out⟩, ⟨by repeat (first | (with_reducible first | exact HB.out | apply below_alloc | apply pw_below_drewN | apply below_drew1 | refine below_set ?_ GE118.out))⟩⟩
  ·replace c6 := Bool.eq_false_iff.mpr c6
   subst c6
   have H1 : (catalogue_Find.j0 k a0 a1 true) = some (r1, r2, r3, r4) := by rw [if_neg (show ¬ (false = true) by decide)] at H; exact H
   clear H
   have H := H1
   clear H1
   have H' := Aside0.mk H
   clear H
   go_wp2_with (first | ((with_reducible refine gate_callee (f := 55) rfl ?_); refine goesL_ (some 9) rfl rfl Try.func55 (by kernel_rfl) rfl #[.int .i64 a0] rfl (by (try simp only [List.map_toArray, List.map_cons, List.map_nil]); first | done | rfl | (simp only [List.length_drop, List.length_take]; rfl)) ?_; (with_reducible refine (level_Is.calls a0 false _ A5.out).mono ?_); rintro e w' ⟨rfl, ⟨nd, rfl⟩⟩; refine ⟨_, rfl, ?_⟩))
   go_meet
   case rel => exact ⟨_, (true), (by first | rfl | (simp; done) | (simp [*]; done)), H', ⟨by first | omega | exact Nat.le_refl _⟩, ⟨by (with_reducible repeat (first | refine blk_drewN ?_ _ | refine blk_drew ?_ | refine blk_alloc ?_ _)); exact BK118.out⟩, ⟨by repeat (first | (with_reducible first | exact HB.out | apply below_alloc | apply pw_below_drewN | apply below_drew1 | refine below_set ?_ GE118.out))⟩⟩
 case rest =>
  clear HC3
  try clear c1
  try clear p2
  try clear c5
  try clear c6
  obtain ⟨kq, x15_2, rfl, HA, HJ2, BK118, HB⟩ := hcut
  cases kq with
  | zero => exact absurd HA.out (by simp [catalogue_Find.j0])
  | succ kj2 =>
   have H := HA.out
   clear HA
   simp only [catalogue_Find.j0] at H
   by_cases c8 : x15_2 = true
   ·subst c8
    have H1 : (some ((⟨#[]⟩ : ByteArray), ([] : List (S44)), 0, false)) = some (r1, r2, r3, r4) := by rw [if_pos rfl] at H; exact H
    clear H
    have H := H1
    clear H1
    simp only [Option.some.injEq, Prod.mk.injEq] at H
    obtain ⟨rfl, rfl, rfl, rfl⟩ := H
    have hcz9_0 : wc.cell? ⟨gb118, 0, none⟩ = some (.string (⟨#[]⟩ : ByteArray)) := (blk_cell BK118.out 0).trans rfl
    have hcz9_1 : wc.cell? ⟨gb118, 1, none⟩ = some (.slice none 0 0) := (blk_cell BK118.out 1).trans rfl
    have hcz9_2 : wc.cell? ⟨gb118, 2, none⟩ = some (.int .i64 0) := (blk_cell BK118.out 2).trans rfl
    have hfz9_0 := blk_frozen BK118.out 0
    have hfz9_1 := blk_frozen BK118.out 1
    have hfz9_2 := blk_frozen BK118.out 2
    go_wp2
    refine bodyPost_ret (results_ct rfl _ _ gb118 25 #[.string (⟨#[]⟩ : ByteArray), .slice none 0 0, .int .i64 0] (0, 0) _ rfl (by (with_reducible repeat (first | refine blk_drewN ?_ _ | refine blk_drew ?_ | refine blk_alloc ?_ _)); refine blk_put (cs := #[.string (⟨#[]⟩ : ByteArray), .slice none 0 0, .int .i64 0]) ?_ 2 _ rfl; (with_reducible repeat (first | refine blk_drewN ?_ _ | refine blk_drew ?_ | refine blk_alloc ?_ _)); refine blk_put (cs := #[.string (⟨#[]⟩ : ByteArray), .slice none 0 0, .int .i64 0]) ?_ 1 _ rfl; (with_reducible repeat (first | refine blk_drewN ?_ _ | refine blk_drew ?_ | refine blk_alloc ?_ _)); refine blk_put (cs := #[.string (⟨#[]⟩ : ByteArray), .slice none 0 0, .int .i64 0]) ?_ 0 _ rfl; (with_reducible repeat (first | refine blk_drewN ?_ _ | refine blk_drew ?_ | refine blk_alloc ?_ _)); exact BK118.out) Try.underlying25 rfl (by kernel_rfl)) rfl ?_
    exact ⟨_, by first | rfl | (simp <;> rfl) | (simp [*] <;> rfl), (Kd.V_nil _ _ _ _ _), by repeat (first | (with_reducible first | exact HB.out | apply below_alloc | apply pw_below_drewN | apply below_drew1 | refine below_set ?_ GE118.out))⟩
   ·replace c8 := Bool.eq_false_iff.mpr c8
    subst c8
    have H1 : ((catalogue_All.f).bind fun t121 => (catalogue_Find.l0 kj2 a0 a1 t121 (t121.length : Int) 0)) = some (r1, r2, r3, r4) := by rw [if_neg (show ¬ (false = true) by decide)] at H; exact H
    clear H
    have H := H1
    clear H1
    replace H := Option.bind_eq_some_iff.mp H
    obtain ⟨t121, A100, H⟩ := H
    replace H : (catalogue_Find.l0 kj2 a0 a1 t121 (t121.length : Int) 0) = some (r1, r2, r3, r4) := H
    have A10 := Aside0.mk A100
    clear A100
    have H' := Aside0.mk H
    clear H
    go_wp2_with (first | ((with_reducible refine gate_callee (f := 54) rfl ?_); refine goesL_ (some 17) rfl rfl Try.func54 (by kernel_rfl) rfl #[] rfl (by (try simp only [List.map_toArray, List.map_cons, List.map_nil]); first | done | rfl | (simp only [List.length_drop, List.length_take]; rfl)) ?_; (with_reducible refine (catalogue_All.calls  t121 _ A10.out).mono ?_); rintro e w11 ⟨v122, rfl, ho0, hb⟩; refine ⟨_, rfl, ?_⟩; have n0_ := Aside0.mk (Kd.V_lower (Kd.V_mono (ok' := fun k_ => (w.heap.size ≤ k_) ∧ k_ ≠ gb118) ho0 (fun k_ hk_ => ⟨(Nat.le_trans (below_size (by repeat (first | (with_reducible first | exact HB.out | apply below_alloc | apply pw_below_drewN | apply below_drew1 | refine below_set ?_ GE118.out)))) hk_), (Kd.freshB (g := gb118) (o := .cells #[.string (⟨#[]⟩ : ByteArray), .slice none 0 0, .int .i64 0] 25 (0, 0)) (by (with_reducible repeat (first | refine blk_drewN ?_ _ | refine blk_drew ?_ | refine blk_alloc ?_ _)); exact BK118.out) k_ hk_)⟩)) (below_size (by repeat (first | (with_reducible first | exact HB.out | apply below_alloc | apply pw_below_drewN | apply below_drew1 | refine below_set ?_ GE118.out))))); have n1_ := Aside0.mk (blk_below (g := gb118) (o := .cells #[.string (⟨#[]⟩ : ByteArray), .slice none 0 0, .int .i64 0] 25 (0, 0)) (by (with_reducible repeat (first | refine blk_drewN ?_ _ | refine blk_drew ?_ | refine blk_alloc ?_ _)); exact BK118.out) hb); have n2_ := Aside0.mk (below_step (by repeat (first | (with_reducible first | exact HB.out | apply below_alloc | apply pw_below_drewN | apply below_drew1 | refine below_set ?_ GE118.out))) hb); clear BK118; clear HB; have HO123 := n0_; have BK118 := n1_; have HB := n2_; clear n0_ n1_ n2_; (try clear hb); (try clear hb2); (try clear hk); (try clear hi); (try clear ho0); obtain ⟨Ao12, co12, eo12⟩ := Kd.V_slice HO123.out; subst eo12))
    go_loopg [19] kj2 (fun kq v19 w' => ∃ (x19_2 : Int) (x119000_2 : ByteArray) (x119002_2 : Int), v19 = .int .i64 x19_2 ∧ Aside0 (catalogue_Find.l0 kq a0 a1 t121 (t121.length : Int) x19_2 = some (r1, r2, r3, r4)) ∧ Aside0 (kq ≤ kj2) ∧ Aside0 (Kd.V k25 25 w' w.heap.size (fun k_ => (w.heap.size ≤ k_) ∧ k_ ≠ gb118) (.slice Ao12 t121.length co12) t121) ∧ Aside0 (w'.heap[gb118]? = some (.cells #[.string x119000_2, (.slice none 0 0), .int .i64 x119002_2] 25 (0, 0))) ∧ Aside0 (Below w.heap.size w w'))
    case atStart => exact ⟨(0), ((⟨#[]⟩ : ByteArray)), (0), (by first | rfl | (simp; done) | (simp [*]; done)), H', ⟨Nat.le_refl _⟩, ⟨by (with_reducible repeat (first | apply Kd.V_alloc | apply Kd.V_drewN | apply Kd.V_drew)); exact HO123.out⟩, ⟨by (with_reducible repeat (first | refine blk_drewN ?_ _ | refine blk_drew ?_ | refine blk_alloc ?_ _)); exact BK118.out⟩, ⟨by repeat (first | (with_reducible first | exact HB.out | apply below_alloc | apply pw_below_drewN | apply below_drew1 | refine below_set ?_ GE118.out))⟩⟩
    case round =>
     clear H'
     try clear c1
     try clear p2
     try clear c5
     try clear c6
     try clear c8
     try clear hcz9_0
     try clear hcz9_1
     try clear hcz9_2
     try clear hfz9_0
     try clear hfz9_1
     try clear hfz9_2
     try clear p2
     obtain ⟨x19_2, x119000_2, x119002_2, rfl, HA, HK2, HO_17, BK118, HB⟩ := hrel
     cases gk with
     | zero => exact absurd HA.out (by simp [catalogue_Find.l0])
     | succ k2 =>
      have H := HA.out
      clear HA
      simp only [catalogue_Find.l0] at H
      by_cases c13 : x19_2 < (t121.length : Int)
      ·rw [if_pos c13] at H
       have c13b0 : decide (x19_2 < (t121.length : Int)) = true := decide_eq_true c13
       clear c13
       by_cases c14 : 0 ≤ x19_2
       ·rw [if_pos c14] at H
        have c14b0 : decide (0 ≤ x19_2) = true := decide_eq_true c14
        clear c14
        by_cases c15 : x19_2 < (t121.length : Int)
        ·rw [if_pos c15] at H
         have c15b0 : decide (x19_2 < (t121.length : Int)) = true := decide_eq_true c15
         clear c15
         replace H := Option.bind_eq_some_iff.mp H
         obtain ⟨t126, A160, H⟩ := H
         replace H : (if (Go.bits .and .i64 t126 ((rd_T25 t121 x19_2).f2)) = 0 then (catalogue_Find.l0 k2 a0 a1 t121 (t121.length : Int) (wrap64 (x19_2 + 1))) else (some ((rd_T25 t121 x19_2).f0, (rd_T25 t121 x19_2).f1, (rd_T25 t121 x19_2).f2, true))) = some (r1, r2, r3, r4) := H
         have A16 := Aside0.mk A160
         clear A160
         by_cases c17 : (Go.bits .and .i64 t126 ((rd_T25 t121 x19_2).f2)) = 0
         ·rw [if_pos c17] at H
          have c17b0 : ((Go.bits .and .i64 t126 ((rd_T25 t121 x19_2).f2)) == 0) = true := beq_iff_eq.mpr c17
          have c17b1 : ((Go.bits .and .i64 t126 ((rd_T25 t121 x19_2).f2)) != 0) = false := bne_eq_false_iff_eq.mpr c17
          clear c17
          have H' := Aside0.mk H
          clear H
          have p124 : 0 ≤ (x19_2 : Int) := of_decide_eq_true (by assumption)
          have q124 : x19_2 < (t121.length : Int) := of_decide_eq_true (by assumption)
          obtain ⟨ad124, A124_1, c124_1, e124, hx124_0, hx124_1, hx124_2, hl124_1, hi124_1⟩ := at_T25 (Kd.V_reads' HO_17.out).2.2 x19_2 p124 q124
          cases e124
          obtain ⟨ce124, hce124, hMe124, hcc124⟩ := Kd.V_get HO_17.out z25 x19_2 p124 (by first | exact q124 | exact of_decide_eq_true (by assumption) | (have e_ := (Kd.V_reads' HO_17.out).1; omega))
          obtain ⟨ua124_1, uc124_1, rfl, ul124_1, ge124_1⟩ := k25_openF hMe124
          have hv124_1 := hcc124 1 _ rfl
          rw [add_field _ _ 1 (by omega)] at hv124_1
          replace hv124_1 := Option.some.inj (hv124_1.symm.trans hx124_1)
          injection hv124_1 with hva_ hvn_ hvc_
          rw [hva_] at ge124_1
          rw [hvc_] at ul124_1
          have HL124_1 := Aside0.mk (show Kd.V k44 44 _ w.heap.size _ _ ((rd_T25 t121 x19_2).f1) from Kd.V_mk ul124_1 ge124_1)
          clear hva_ hvn_ hvc_ ge124_1 ul124_1
          clear hcc124 hce124
          have HR124_1 := Aside0.mk hi124_1
          have HC124_1 := Aside0.mk hl124_1
          clear hi124_1 hl124_1
          replace p124 := eq_true p124
          replace q124 := eq_true q124
          try go_wp2_with (first | ((with_reducible refine gate_dst (N := 7) rfl ?_); refine box_event ?hg (N := 7) ?hd (cs := #[.string (⟨#[]⟩ : ByteArray), .slice none 0 0, .int .i64 0]) (t := 25) ?hr ?_; (case hd => rfl); (case hg => rfl); (case hr => first | (go_simp; done) | (go_simp; rfl)); intro gb125 hg w18 hbox hb; have n0_ := Aside0.mk (Kd.V_below (Kd.V_elderB (by (with_reducible repeat (first | apply Kd.V_alloc | apply Kd.V_drewN | apply Kd.V_drew)); exact HO_17.out) gb125 (Nat.le_of_eq hg.symm)) hb); have n1_ := Aside0.mk (Kd.V_below (Kd.V_elderB (by (with_reducible repeat (first | apply Kd.V_alloc | apply Kd.V_drewN | apply Kd.V_drew)); exact HL124_1.out) gb125 (Nat.le_of_eq hg.symm)) hb); have n2_ := Aside0.mk (blk_below (g := gb118) (o := .cells #[.string x119000_2, .slice none 0 0, .int .i64 x119002_2] 25 (0, 0)) (by (with_reducible repeat (first | refine blk_drewN ?_ _ | refine blk_drew ?_ | refine blk_alloc ?_ _)); exact BK118.out) hb); have n3_ := Aside0.mk (Kd.C_below (by repeat (first | (with_reducible exact HR124_1.out) | (with_reducible refine Kd.C_alloc ?_ _) | (with_reducible refine Kd.C_drewN ?_ _) | (with_reducible refine Kd.C_drew ?_) | exact HR124_1.out)) hb); have n4_ := Aside0.mk (below_step (by repeat (first | (with_reducible first | exact HB.out | apply below_alloc | apply pw_below_drewN | apply below_drew1 | refine below_set ?_ GE118.out))) hb); have n5_ := Aside0.mk (hbox); have n6_ := Aside0.mk ((by rw [hg]; exact (below_size (by repeat (first | (with_reducible first | exact HB.out | apply below_alloc | apply pw_below_drewN | apply below_drew1 | refine below_set ?_ GE118.out)))) : w.heap.size ≤ gb125)); have n7_ := Aside0.mk ((by rw [hg]; exact (below_size (by repeat (first | (with_reducible first | exact HB.out | apply below_alloc | apply pw_below_drewN | apply below_drew1 | refine below_set ?_ GE118.out)))) : w.heap.size ≤ gb125)); have n8_ := Aside0.mk ((by rw [hg]; exact Nat.ne_of_lt (blk_lt (g := gb118) (o := .cells #[.string x119000_2, .slice none 0 0, .int .i64 x119002_2] 25 (0, 0)) (by (with_reducible repeat (first | refine blk_drewN ?_ _ | refine blk_drew ?_ | refine blk_alloc ?_ _)); exact BK118.out)) : gb118 ≠ gb125)); have n9_ := Aside0.mk ((by rw [hg]; exact Nat.ne_of_gt (blk_lt (g := gb118) (o := .cells #[.string x119000_2, .slice none 0 0, .int .i64 x119002_2] 25 (0, 0)) (by (with_reducible repeat (first | refine blk_drewN ?_ _ | refine blk_drew ?_ | refine blk_alloc ?_ _)); exact BK118.out)) : gb125 ≠ gb118)); clear HO_17; clear HL124_1; clear BK118; clear HR124_1; clear HB; have HO_17 := n0_; have HL124_1 := n1_; have BK118 := n2_; have HR124_1 := n3_; have HB := n4_; have BK125 := n5_; have GW125 := n6_; have GE125 := n7_; have NB118_125 := n8_; have NB125_118 := n9_; clear n0_ n1_ n2_ n3_ n4_ n5_ n6_ n7_ n8_ n9_; clear hb hbox hg; have hnb19 := NB125_118.out; have hnc19 := NB118_125.out; have hcz20_0 : w18.cell? ⟨gb125, 0, none⟩ = some (.string (⟨#[]⟩ : ByteArray)) := (blk_cell BK125.out 0).trans rfl; have hcz20_1 : w18.cell? ⟨gb125, 1, none⟩ = some (.slice none 0 0) := (blk_cell BK125.out 1).trans rfl; have hcz20_2 : w18.cell? ⟨gb125, 2, none⟩ = some (.int .i64 0) := (blk_cell BK125.out 2).trans rfl; have hfz20_0 := blk_frozen BK125.out 0; have hfz20_1 := blk_frozen BK125.out 1; have hfz20_2 := blk_frozen BK125.out 2))
          have n0_ : Aside0 (Kd.V k25 25 (((w18.setCell ⟨gb125, 0, none⟩ (.string ((rd_T25 t121 x19_2).f0))).setCell ⟨gb125, 1, none⟩ (.slice A124_1 ((rd_T25 t121 x19_2).f1).length c124_1)).setCell ⟨gb125, 2, none⟩ (.int .i64 ((rd_T25 t121 x19_2).f2))) w.heap.size (fun k_ => (w.heap.size ≤ k_) ∧ k_ ≠ gb118 ∧ k_ ≠ gb125) (.slice (some ad124) t121.length co12) t121) := ⟨by (with_reducible repeat (first | apply Kd.V_alloc | apply Kd.V_drewN | apply Kd.V_drew)); exact Kd.V_mono (Kd.V_far (p := ⟨gb125, 2, none⟩) (Kd.V_far (p := ⟨gb125, 1, none⟩) (Kd.V_far (p := ⟨gb125, 0, none⟩) (Kd.V_mono HO_17.out (fun k_ hk => (⟨hk, hk.2⟩ : _ ∧ k_ ≠ gb125))) (fun _ hk => hk.2) (.string ((rd_T25 t121 x19_2).f0))) (fun _ hk => hk.2) (.slice A124_1 ((rd_T25 t121 x19_2).f1).length c124_1)) (fun _ hk => hk.2) (.int .i64 ((rd_T25 t121 x19_2).f2))) (fun _ hk => ⟨hk.1.1.1, ⟨hk.1.1.2, hk.1.2⟩⟩)⟩
          have n1_ : Aside0 (Kd.V k44 44 (((w18.setCell ⟨gb125, 0, none⟩ (.string ((rd_T25 t121 x19_2).f0))).setCell ⟨gb125, 1, none⟩ (.slice A124_1 ((rd_T25 t121 x19_2).f1).length c124_1)).setCell ⟨gb125, 2, none⟩ (.int .i64 ((rd_T25 t121 x19_2).f2))) w.heap.size (fun k_ => (w.heap.size ≤ k_) ∧ k_ ≠ gb118 ∧ k_ ≠ gb125) (.slice A124_1 ((rd_T25 t121 x19_2).f1).length c124_1) ((rd_T25 t121 x19_2).f1)) := ⟨by (with_reducible repeat (first | apply Kd.V_alloc | apply Kd.V_drewN | apply Kd.V_drew)); exact Kd.V_mono (Kd.V_far (p := ⟨gb125, 2, none⟩) (Kd.V_far (p := ⟨gb125, 1, none⟩) (Kd.V_far (p := ⟨gb125, 0, none⟩) (Kd.V_mono HL124_1.out (fun k_ hk => (⟨hk, hk.2⟩ : _ ∧ k_ ≠ gb125))) (fun _ hk => hk.2) (.string ((rd_T25 t121 x19_2).f0))) (fun _ hk => hk.2) (.slice A124_1 ((rd_T25 t121 x19_2).f1).length c124_1)) (fun _ hk => hk.2) (.int .i64 ((rd_T25 t121 x19_2).f2))) (fun _ hk => ⟨hk.1.1.1, ⟨hk.1.1.2, hk.1.2⟩⟩)⟩
          have n2_ : Aside0 ((((w18.setCell ⟨gb125, 0, none⟩ (.string ((rd_T25 t121 x19_2).f0))).setCell ⟨gb125, 1, none⟩ (.slice A124_1 ((rd_T25 t121 x19_2).f1).length c124_1)).setCell ⟨gb125, 2, none⟩ (.int .i64 ((rd_T25 t121 x19_2).f2))).heap[gb118]? = some (.cells #[.string x119000_2, .slice none 0 0, .int .i64 x119002_2] 25 (0, 0))) := ⟨by (with_reducible repeat (first | refine blk_drewN ?_ _ | refine blk_drew ?_ | refine blk_alloc ?_ _)); refine blk_far ?_ NB118_125.out _; (with_reducible repeat (first | refine blk_drewN ?_ _ | refine blk_drew ?_ | refine blk_alloc ?_ _)); refine blk_far ?_ NB118_125.out _; (with_reducible repeat (first | refine blk_drewN ?_ _ | refine blk_drew ?_ | refine blk_alloc ?_ _)); refine blk_far ?_ NB118_125.out _; (with_reducible repeat (first | refine blk_drewN ?_ _ | refine blk_drew ?_ | refine blk_alloc ?_ _)); exact BK118.out⟩
          have n3_ : Aside0 ((((w18.setCell ⟨gb125, 0, none⟩ (.string ((rd_T25 t121 x19_2).f0))).setCell ⟨gb125, 1, none⟩ (.slice A124_1 ((rd_T25 t121 x19_2).f1).length c124_1)).setCell ⟨gb125, 2, none⟩ (.int .i64 ((rd_T25 t121 x19_2).f2))).heap[gb125]? = some (.cells #[.string ((rd_T25 t121 x19_2).f0), .slice A124_1 ((rd_T25 t121 x19_2).f1).length c124_1, .int .i64 ((rd_T25 t121 x19_2).f2)] 25 (0, 0))) := ⟨by (with_reducible repeat (first | refine blk_drewN ?_ _ | refine blk_drew ?_ | refine blk_alloc ?_ _)); refine blk_put (cs := #[.string ((rd_T25 t121 x19_2).f0), .slice A124_1 ((rd_T25 t121 x19_2).f1).length c124_1, .int .i64 0]) ?_ 2 _ rfl; (with_reducible repeat (first | refine blk_drewN ?_ _ | refine blk_drew ?_ | refine blk_alloc ?_ _)); refine blk_put (cs := #[.string ((rd_T25 t121 x19_2).f0), .slice none 0 0, .int .i64 0]) ?_ 1 _ rfl; (with_reducible repeat (first | refine blk_drewN ?_ _ | refine blk_drew ?_ | refine blk_alloc ?_ _)); refine blk_put (cs := #[.string (⟨#[]⟩ : ByteArray), .slice none 0 0, .int .i64 0]) ?_ 0 _ rfl; (with_reducible repeat (first | refine blk_drewN ?_ _ | refine blk_drew ?_ | refine blk_alloc ?_ _)); exact BK125.out⟩
          have n4_ : Aside0 (Below w.heap.size w (((w18.setCell ⟨gb125, 0, none⟩ (.string ((rd_T25 t121 x19_2).f0))).setCell ⟨gb125, 1, none⟩ (.slice A124_1 ((rd_T25 t121 x19_2).f1).length c124_1)).setCell ⟨gb125, 2, none⟩ (.int .i64 ((rd_T25 t121 x19_2).f2)))) := ⟨by repeat (first | (with_reducible first | exact HB.out | apply below_alloc | apply pw_below_drewN | apply below_drew1 | refine below_set ?_ GE118.out | refine below_set ?_ GE125.out))⟩
          (try clear HO_17)
          (try clear HL124_1)
          (try clear BK118)
          (try clear BK125)
          (try clear HB)
          generalize (((w18.setCell ⟨gb125, 0, none⟩ (.string ((rd_T25 t121 x19_2).f0))).setCell ⟨gb125, 1, none⟩ (.slice A124_1 ((rd_T25 t121 x19_2).f1).length c124_1)).setCell ⟨gb125, 2, none⟩ (.int .i64 ((rd_T25 t121 x19_2).f2))) = w21 at n0_ n1_ n2_ n3_ n4_ ⊢
          have HO_17 := n0_
          have HL124_1 := n1_
          have BK118 := n2_
          have BK125 := n3_
          have HB := n4_
          clear n0_ n1_ n2_ n3_ n4_
          have n0_ := Aside0.mk (Kd.V_drew HO_17.out)
          have n1_ := Aside0.mk (Kd.V_drew HL124_1.out)
          have n2_ := Aside0.mk (blk_drew BK118.out)
          have n3_ := Aside0.mk (blk_drew BK125.out)
          have n4_ := Aside0.mk (below_drew1 HB.out)
          clear HO_17
          clear HL124_1
          clear BK118
          clear BK125
          clear HB
          have HO_17 := n0_
          have HL124_1 := n1_
          have BK118 := n2_
          have BK125 := n3_
          have HB := n4_
          clear n0_ n1_ n2_ n3_ n4_
          refine start_ (n := 7) (S := fun w' => w'.cell? ⟨gb125, 0, none⟩ = some (.string ((rd_T25 t121 x19_2).f0)) ∧ w'.cell? ⟨gb125, 1, none⟩ = some (.slice A124_1 ((rd_T25 t121 x19_2).f1).length c124_1) ∧ w'.cell? ⟨gb125, 2, none⟩ = some (.int .i64 ((rd_T25 t121 x19_2).f2))) (ds := []) #[false, false, false, false, false, false, false] (by kernel_rfl) rfl rfl ⟨(blk_cell BK125.out 0).trans rfl, (blk_cell BK125.out 1).trans rfl, (blk_cell BK125.out 2).trans rfl⟩ (fun hHeld => ?_)
          generalize w21.drew = w22 at HO_17 HL124_1 BK118 BK125 HB hHeld ⊢
          refine pure_ (i := 0) (N := some 23) (v := ?_) (a' := ?_) #[true, false, false, false, false, false, false] rfl rfl (by kernel_rfl) (fun _ _ _ h => h) (Or.inl ⟨by rfl, ?_⟩) ?_ ?_
          rotate_left
          ·intro w'
           go_simp
           with_reducible rfl
          rotate_left
          ·simp only [Act.put, List.setIfInBounds_toArray, List.set_cons_zero, List.set_cons_succ, i64_w, i32_w]
           rfl
          refine pure_ (i := 1) (N := some 24) (v := ?_) (a' := ?_) #[true, true, false, false, false, false, false] rfl rfl (by kernel_rfl) (fun _ _ _ h => h) (Or.inl ⟨by rfl, ?_⟩) ?_ ?_
          rotate_left
          ·intro w'
           go_simp
           with_reducible rfl
          rotate_left
          ·simp only [Act.put, List.setIfInBounds_toArray, List.set_cons_zero, List.set_cons_succ, i64_w, i32_w]
           rfl
          refine pure_ (i := 3) (N := some 26) (v := ?_) (a' := ?_) #[true, true, false, true, false, false, false] rfl rfl (by kernel_rfl) (fun _ _ _ h => h) (Or.inl ⟨by rfl, ?_⟩) ?_ ?_
          rotate_left
          ·intro w'
           go_simp
           with_reducible rfl
          rotate_left
          ·simp only [Act.put, List.setIfInBounds_toArray, List.set_cons_zero, List.set_cons_succ, i64_w, i32_w]
           rfl
          refine take_ (i := 4) (N := some 27) (v := ?_) (a' := ?_) #[true, true, false, true, true, false, false] rfl rfl (by kernel_rfl) (fun _ _ _ h => h) (Or.inl ⟨by rfl, ?_⟩) hHeld ?_ ?_
          rotate_left
          ·rintro w' ⟨s0, s1, s2⟩
           go_simp
           with_reducible rfl
          rotate_left
          ·simp only [Act.put, List.setIfInBounds_toArray, List.set_cons_zero, List.set_cons_succ, i64_w, i32_w]
           rfl
          refine one_ (i := 2) (N := some 25) #[true, true, true, true, true, false, false] rfl rfl (by kernel_rfl) (by decide) (fun K hK => ?_)
          refine goes_ Try.func56 (by kernel_rfl) rfl #[.int .i64 a0, .int .i64 a1] (by rfl) rfl rfl (by (try simp only [List.map_toArray, List.map_cons, List.map_nil]); first | done | rfl | (simp only [List.length_drop, List.length_take]; rfl)) ?_
          with_reducible refine (table_Missing.calls k2 a0 a1 t126 _ A16.out).mono ?_
          rintro e w23 ⟨rfl, hb⟩
          refine ⟨_, rfl, ?_⟩
          have n0_ := Aside0.mk (Kd.V_below (by (with_reducible repeat (first | apply Kd.V_alloc | apply Kd.V_drewN | apply Kd.V_drew)); exact HO_17.out) hb)
          have n1_ := Aside0.mk (Kd.V_below (by (with_reducible repeat (first | apply Kd.V_alloc | apply Kd.V_drewN | apply Kd.V_drew)); exact HL124_1.out) hb)
          have n2_ := Aside0.mk (blk_below (g := gb118) (o := .cells #[.string x119000_2, .slice none 0 0, .int .i64 x119002_2] 25 (0, 0)) (by (with_reducible repeat (first | refine blk_drewN ?_ _ | refine blk_drew ?_ | refine blk_alloc ?_ _)); exact BK118.out) hb)
          have n3_ := Aside0.mk (blk_below (g := gb125) (o := .cells #[.string ((rd_T25 t121 x19_2).f0), .slice A124_1 ((rd_T25 t121 x19_2).f1).length c124_1, .int .i64 ((rd_T25 t121 x19_2).f2)] 25 (0, 0)) (by (with_reducible repeat (first | refine blk_drewN ?_ _ | refine blk_drew ?_ | refine blk_alloc ?_ _)); exact BK125.out) hb)
          have n4_ := Aside0.mk (below_step (by repeat (first | (with_reducible first | exact HB.out | apply below_alloc | apply pw_below_drewN | apply below_drew1 | refine below_set ?_ GE118.out | refine below_set ?_ GE125.out))) hb)
          clear HO_17
          clear HL124_1
          clear BK118
          clear BK125
          clear HB
          have HO_17 := n0_
          have HL124_1 := n1_
          have BK118 := n2_
          have BK125 := n3_
          have HB := n4_
          clear n0_ n1_ n2_ n3_ n4_
          (try clear hb)
          (try clear hb2)
          (try clear hk)
          (try clear hi)
          refine hK.out _ _ ⟨(blk_cell BK125.out 0).trans rfl, (blk_cell BK125.out 1).trans rfl, (blk_cell BK125.out 2).trans rfl⟩ (fun hHeld => ?_)
          clear hK K
          refine norm_ (a' := ?_) ?_ ?_
          rotate_left
          ·show Act.put _ (some 25) _ = _
           simp only [Act.put, List.setIfInBounds_toArray, List.set_cons_zero, List.set_cons_succ, i64_w, i32_w]
           rfl
          refine pure_ (i := 5) (N := some 28) (v := ?_) (a' := ?_) #[true, true, true, true, true, true, false] rfl rfl (by kernel_rfl) (fun _ _ _ h => h) (Or.inl ⟨by rfl, ?_⟩) ?_ ?_
          rotate_left
          ·intro w'
           go_simp
           with_reducible rfl
          rotate_left
          ·simp only [Act.put, List.setIfInBounds_toArray, List.set_cons_zero, List.set_cons_succ, i64_w, i32_w]
           rfl
          refine pure_ (i := 6) (N := some 29) (v := ?_) (a' := ?_) #[true, true, true, true, true, true, true] rfl rfl (by kernel_rfl) (fun _ _ _ h => h) (Or.inl ⟨by rfl, ?_⟩) ?_ ?_
          rotate_left
          ·intro w'
           go_simp
           with_reducible rfl
          rotate_left
          ·simp only [Act.put, List.setIfInBounds_toArray, List.set_cons_zero, List.set_cons_succ, i64_w, i32_w]
           rfl
          refine done_ (by kernel_rfl) ?_
          try go_wp2
          go_roundg k2
          case measure => have := HJ2.out; have := HK2.out; omega
          case rel => exact ⟨(wrap64 (x19_2 + 1)), (x119000_2), (x119002_2), (by first | rfl | (simp; done) | (simp [*]; done)), H', ⟨by have := HJ2.out; have := HK2.out; omega⟩, ⟨by (with_reducible repeat (first | apply Kd.V_alloc | apply Kd.V_drewN | apply Kd.V_drew)); exact Kd.V_mono HO_17.out (fun _ hk => ⟨hk.1, hk.2.1⟩)⟩, ⟨by (with_reducible repeat (first | refine blk_drewN ?_ _ | refine blk_drew ?_ | refine blk_alloc ?_ _)); exact BK118.out⟩, ⟨by repeat (first | (with_reducible first | exact HB.out | apply below_alloc | apply pw_below_drewN | apply below_drew1 | refine below_set ?_ GE118.out | refine below_set ?_ GE125.out))⟩⟩
         ·rw [if_neg c17] at H
          have c17b0 : ((Go.bits .and .i64 t126 ((rd_T25 t121 x19_2).f2)) == 0) = false := beq_eq_false_iff_ne.mpr c17
          have c17b1 : ((Go.bits .and .i64 t126 ((rd_T25 t121 x19_2).f2)) != 0) = true := bne_iff_ne.mpr c17
          simp only [Option.some.injEq, Prod.mk.injEq] at H
          obtain ⟨rfl, rfl, rfl, rfl⟩ := H
          have p124 : 0 ≤ (x19_2 : Int) := of_decide_eq_true (by assumption)
          have q124 : x19_2 < (t121.length : Int) := of_decide_eq_true (by assumption)
          obtain ⟨ad124, A124_1, c124_1, e124, hx124_0, hx124_1, hx124_2, hl124_1, hi124_1⟩ := at_T25 (Kd.V_reads' HO_17.out).2.2 x19_2 p124 q124
          cases e124
          obtain ⟨ce124, hce124, hMe124, hcc124⟩ := Kd.V_get HO_17.out z25 x19_2 p124 (by first | exact q124 | exact of_decide_eq_true (by assumption) | (have e_ := (Kd.V_reads' HO_17.out).1; omega))
          obtain ⟨ua124_1, uc124_1, rfl, ul124_1, ge124_1⟩ := k25_openF hMe124
          have hv124_1 := hcc124 1 _ rfl
          rw [add_field _ _ 1 (by omega)] at hv124_1
          replace hv124_1 := Option.some.inj (hv124_1.symm.trans hx124_1)
          injection hv124_1 with hva_ hvn_ hvc_
          rw [hva_] at ge124_1
          rw [hvc_] at ul124_1
          have HL124_1 := Aside0.mk (show Kd.V k44 44 _ w.heap.size _ _ ((rd_T25 t121 x19_2).f1) from Kd.V_mk ul124_1 ge124_1)
          clear hva_ hvn_ hvc_ ge124_1 ul124_1
          clear hcc124 hce124
          have HR124_1 := Aside0.mk hi124_1
          have HC124_1 := Aside0.mk hl124_1
          clear hi124_1 hl124_1
          replace p124 := eq_true p124
          replace q124 := eq_true q124
          try go_wp2_with (first | ((with_reducible refine gate_dst (N := 7) rfl ?_); refine box_event ?hg (N := 7) ?hd (cs := #[.string (⟨#[]⟩ : ByteArray), .slice none 0 0, .int .i64 0]) (t := 25) ?hr ?_; (case hd => rfl); (case hg => rfl); (case hr => first | (go_simp; done) | (go_simp; rfl)); intro gb125 hg w24 hbox hb; have n0_ := Aside0.mk (Kd.V_below (Kd.V_elderB (by (with_reducible repeat (first | apply Kd.V_alloc | apply Kd.V_drewN | apply Kd.V_drew)); exact HO_17.out) gb125 (Nat.le_of_eq hg.symm)) hb); have n1_ := Aside0.mk (Kd.V_below (Kd.V_elderB (by (with_reducible repeat (first | apply Kd.V_alloc | apply Kd.V_drewN | apply Kd.V_drew)); exact HL124_1.out) gb125 (Nat.le_of_eq hg.symm)) hb); have n2_ := Aside0.mk (blk_below (g := gb118) (o := .cells #[.string x119000_2, .slice none 0 0, .int .i64 x119002_2] 25 (0, 0)) (by (with_reducible repeat (first | refine blk_drewN ?_ _ | refine blk_drew ?_ | refine blk_alloc ?_ _)); exact BK118.out) hb); have n3_ := Aside0.mk (Kd.C_below (by repeat (first | (with_reducible exact HR124_1.out) | (with_reducible refine Kd.C_alloc ?_ _) | (with_reducible refine Kd.C_drewN ?_ _) | (with_reducible refine Kd.C_drew ?_) | exact HR124_1.out)) hb); have n4_ := Aside0.mk (below_step (by repeat (first | (with_reducible first | exact HB.out | apply below_alloc | apply pw_below_drewN | apply below_drew1 | refine below_set ?_ GE118.out))) hb); have n5_ := Aside0.mk (hbox); have n6_ := Aside0.mk ((by rw [hg]; exact (below_size (by repeat (first | (with_reducible first | exact HB.out | apply below_alloc | apply pw_below_drewN | apply below_drew1 | refine below_set ?_ GE118.out)))) : w.heap.size ≤ gb125)); have n7_ := Aside0.mk ((by rw [hg]; exact (below_size (by repeat (first | (with_reducible first | exact HB.out | apply below_alloc | apply pw_below_drewN | apply below_drew1 | refine below_set ?_ GE118.out)))) : w.heap.size ≤ gb125)); have n8_ := Aside0.mk ((by rw [hg]; exact Nat.ne_of_lt (blk_lt (g := gb118) (o := .cells #[.string x119000_2, .slice none 0 0, .int .i64 x119002_2] 25 (0, 0)) (by (with_reducible repeat (first | refine blk_drewN ?_ _ | refine blk_drew ?_ | refine blk_alloc ?_ _)); exact BK118.out)) : gb118 ≠ gb125)); have n9_ := Aside0.mk ((by rw [hg]; exact Nat.ne_of_gt (blk_lt (g := gb118) (o := .cells #[.string x119000_2, .slice none 0 0, .int .i64 x119002_2] 25 (0, 0)) (by (with_reducible repeat (first | refine blk_drewN ?_ _ | refine blk_drew ?_ | refine blk_alloc ?_ _)); exact BK118.out)) : gb125 ≠ gb118)); clear HO_17; clear HL124_1; clear BK118; clear HR124_1; clear HB; have HO_17 := n0_; have HL124_1 := n1_; have BK118 := n2_; have HR124_1 := n3_; have HB := n4_; have BK125 := n5_; have GW125 := n6_; have GE125 := n7_; have NB118_125 := n8_; have NB125_118 := n9_; clear n0_ n1_ n2_ n3_ n4_ n5_ n6_ n7_ n8_ n9_; clear hb hbox hg; have hnb25 := NB125_118.out; have hnc25 := NB118_125.out; have hcz26_0 : w24.cell? ⟨gb125, 0, none⟩ = some (.string (⟨#[]⟩ : ByteArray)) := (blk_cell BK125.out 0).trans rfl; have hcz26_1 : w24.cell? ⟨gb125, 1, none⟩ = some (.slice none 0 0) := (blk_cell BK125.out 1).trans rfl; have hcz26_2 : w24.cell? ⟨gb125, 2, none⟩ = some (.int .i64 0) := (blk_cell BK125.out 2).trans rfl; have hfz26_0 := blk_frozen BK125.out 0; have hfz26_1 := blk_frozen BK125.out 1; have hfz26_2 := blk_frozen BK125.out 2))
          have n0_ : Aside0 (Kd.V k25 25 (((w24.setCell ⟨gb125, 0, none⟩ (.string ((rd_T25 t121 x19_2).f0))).setCell ⟨gb125, 1, none⟩ (.slice A124_1 ((rd_T25 t121 x19_2).f1).length c124_1)).setCell ⟨gb125, 2, none⟩ (.int .i64 ((rd_T25 t121 x19_2).f2))) w.heap.size (fun k_ => (w.heap.size ≤ k_) ∧ k_ ≠ gb118 ∧ k_ ≠ gb125) (.slice (some ad124) t121.length co12) t121) := ⟨by (with_reducible repeat (first | apply Kd.V_alloc | apply Kd.V_drewN | apply Kd.V_drew)); exact Kd.V_mono (Kd.V_far (p := ⟨gb125, 2, none⟩) (Kd.V_far (p := ⟨gb125, 1, none⟩) (Kd.V_far (p := ⟨gb125, 0, none⟩) (Kd.V_mono HO_17.out (fun k_ hk => (⟨hk, hk.2⟩ : _ ∧ k_ ≠ gb125))) (fun _ hk => hk.2) (.string ((rd_T25 t121 x19_2).f0))) (fun _ hk => hk.2) (.slice A124_1 ((rd_T25 t121 x19_2).f1).length c124_1)) (fun _ hk => hk.2) (.int .i64 ((rd_T25 t121 x19_2).f2))) (fun _ hk => ⟨hk.1.1.1, ⟨hk.1.1.2, hk.1.2⟩⟩)⟩
          have n1_ : Aside0 (Kd.V k44 44 (((w24.setCell ⟨gb125, 0, none⟩ (.string ((rd_T25 t121 x19_2).f0))).setCell ⟨gb125, 1, none⟩ (.slice A124_1 ((rd_T25 t121 x19_2).f1).length c124_1)).setCell ⟨gb125, 2, none⟩ (.int .i64 ((rd_T25 t121 x19_2).f2))) w.heap.size (fun k_ => (w.heap.size ≤ k_) ∧ k_ ≠ gb118 ∧ k_ ≠ gb125) (.slice A124_1 ((rd_T25 t121 x19_2).f1).length c124_1) ((rd_T25 t121 x19_2).f1)) := ⟨by (with_reducible repeat (first | apply Kd.V_alloc | apply Kd.V_drewN | apply Kd.V_drew)); exact Kd.V_mono (Kd.V_far (p := ⟨gb125, 2, none⟩) (Kd.V_far (p := ⟨gb125, 1, none⟩) (Kd.V_far (p := ⟨gb125, 0, none⟩) (Kd.V_mono HL124_1.out (fun k_ hk => (⟨hk, hk.2⟩ : _ ∧ k_ ≠ gb125))) (fun _ hk => hk.2) (.string ((rd_T25 t121 x19_2).f0))) (fun _ hk => hk.2) (.slice A124_1 ((rd_T25 t121 x19_2).f1).length c124_1)) (fun _ hk => hk.2) (.int .i64 ((rd_T25 t121 x19_2).f2))) (fun _ hk => ⟨hk.1.1.1, ⟨hk.1.1.2, hk.1.2⟩⟩)⟩
          have n2_ : Aside0 ((((w24.setCell ⟨gb125, 0, none⟩ (.string ((rd_T25 t121 x19_2).f0))).setCell ⟨gb125, 1, none⟩ (.slice A124_1 ((rd_T25 t121 x19_2).f1).length c124_1)).setCell ⟨gb125, 2, none⟩ (.int .i64 ((rd_T25 t121 x19_2).f2))).heap[gb118]? = some (.cells #[.string x119000_2, .slice none 0 0, .int .i64 x119002_2] 25 (0, 0))) := ⟨by (with_reducible repeat (first | refine blk_drewN ?_ _ | refine blk_drew ?_ | refine blk_alloc ?_ _)); refine blk_far ?_ NB118_125.out _; (with_reducible repeat (first | refine blk_drewN ?_ _ | refine blk_drew ?_ | refine blk_alloc ?_ _)); refine blk_far ?_ NB118_125.out _; (with_reducible repeat (first | refine blk_drewN ?_ _ | refine blk_drew ?_ | refine blk_alloc ?_ _)); refine blk_far ?_ NB118_125.out _; (with_reducible repeat (first | refine blk_drewN ?_ _ | refine blk_drew ?_ | refine blk_alloc ?_ _)); exact BK118.out⟩
          have n3_ : Aside0 ((((w24.setCell ⟨gb125, 0, none⟩ (.string ((rd_T25 t121 x19_2).f0))).setCell ⟨gb125, 1, none⟩ (.slice A124_1 ((rd_T25 t121 x19_2).f1).length c124_1)).setCell ⟨gb125, 2, none⟩ (.int .i64 ((rd_T25 t121 x19_2).f2))).heap[gb125]? = some (.cells #[.string ((rd_T25 t121 x19_2).f0), .slice A124_1 ((rd_T25 t121 x19_2).f1).length c124_1, .int .i64 ((rd_T25 t121 x19_2).f2)] 25 (0, 0))) := ⟨by (with_reducible repeat (first | refine blk_drewN ?_ _ | refine blk_drew ?_ | refine blk_alloc ?_ _)); refine blk_put (cs := #[.string ((rd_T25 t121 x19_2).f0), .slice A124_1 ((rd_T25 t121 x19_2).f1).length c124_1, .int .i64 0]) ?_ 2 _ rfl; (with_reducible repeat (first | refine blk_drewN ?_ _ | refine blk_drew ?_ | refine blk_alloc ?_ _)); refine blk_put (cs := #[.string ((rd_T25 t121 x19_2).f0), .slice none 0 0, .int .i64 0]) ?_ 1 _ rfl; (with_reducible repeat (first | refine blk_drewN ?_ _ | refine blk_drew ?_ | refine blk_alloc ?_ _)); refine blk_put (cs := #[.string (⟨#[]⟩ : ByteArray), .slice none 0 0, .int .i64 0]) ?_ 0 _ rfl; (with_reducible repeat (first | refine blk_drewN ?_ _ | refine blk_drew ?_ | refine blk_alloc ?_ _)); exact BK125.out⟩
          have n4_ : Aside0 (Below w.heap.size w (((w24.setCell ⟨gb125, 0, none⟩ (.string ((rd_T25 t121 x19_2).f0))).setCell ⟨gb125, 1, none⟩ (.slice A124_1 ((rd_T25 t121 x19_2).f1).length c124_1)).setCell ⟨gb125, 2, none⟩ (.int .i64 ((rd_T25 t121 x19_2).f2)))) := ⟨by repeat (first | (with_reducible first | exact HB.out | apply below_alloc | apply pw_below_drewN | apply below_drew1 | refine below_set ?_ GE118.out | refine below_set ?_ GE125.out))⟩
          (try clear HO_17)
          (try clear HL124_1)
          (try clear BK118)
          (try clear BK125)
          (try clear HB)
          generalize (((w24.setCell ⟨gb125, 0, none⟩ (.string ((rd_T25 t121 x19_2).f0))).setCell ⟨gb125, 1, none⟩ (.slice A124_1 ((rd_T25 t121 x19_2).f1).length c124_1)).setCell ⟨gb125, 2, none⟩ (.int .i64 ((rd_T25 t121 x19_2).f2))) = w27 at n0_ n1_ n2_ n3_ n4_ ⊢
          have HO_17 := n0_
          have HL124_1 := n1_
          have BK118 := n2_
          have BK125 := n3_
          have HB := n4_
          clear n0_ n1_ n2_ n3_ n4_
          have n0_ := Aside0.mk (Kd.V_drew HO_17.out)
          have n1_ := Aside0.mk (Kd.V_drew HL124_1.out)
          have n2_ := Aside0.mk (blk_drew BK118.out)
          have n3_ := Aside0.mk (blk_drew BK125.out)
          have n4_ := Aside0.mk (below_drew1 HB.out)
          clear HO_17
          clear HL124_1
          clear BK118
          clear BK125
          clear HB
          have HO_17 := n0_
          have HL124_1 := n1_
          have BK118 := n2_
          have BK125 := n3_
          have HB := n4_
          clear n0_ n1_ n2_ n3_ n4_
          refine start_ (n := 7) (S := fun w' => w'.cell? ⟨gb125, 0, none⟩ = some (.string ((rd_T25 t121 x19_2).f0)) ∧ w'.cell? ⟨gb125, 1, none⟩ = some (.slice A124_1 ((rd_T25 t121 x19_2).f1).length c124_1) ∧ w'.cell? ⟨gb125, 2, none⟩ = some (.int .i64 ((rd_T25 t121 x19_2).f2))) (ds := []) #[false, false, false, false, false, false, false] (by kernel_rfl) rfl rfl ⟨(blk_cell BK125.out 0).trans rfl, (blk_cell BK125.out 1).trans rfl, (blk_cell BK125.out 2).trans rfl⟩ (fun hHeld => ?_)
          generalize w27.drew = w28 at HO_17 HL124_1 BK118 BK125 HB hHeld ⊢
          refine pure_ (i := 0) (N := some 23) (v := ?_) (a' := ?_) #[true, false, false, false, false, false, false] rfl rfl (by kernel_rfl) (fun _ _ _ h => h) (Or.inl ⟨by rfl, ?_⟩) ?_ ?_
          rotate_left
          ·intro w'
           go_simp
           with_reducible rfl
          rotate_left
          ·simp only [Act.put, List.setIfInBounds_toArray, List.set_cons_zero, List.set_cons_succ, i64_w, i32_w]
           rfl
          refine pure_ (i := 1) (N := some 24) (v := ?_) (a' := ?_) #[true, true, false, false, false, false, false] rfl rfl (by kernel_rfl) (fun _ _ _ h => h) (Or.inl ⟨by rfl, ?_⟩) ?_ ?_
          rotate_left
          ·intro w'
           go_simp
           with_reducible rfl
          rotate_left
          ·simp only [Act.put, List.setIfInBounds_toArray, List.set_cons_zero, List.set_cons_succ, i64_w, i32_w]
           rfl
          refine pure_ (i := 3) (N := some 26) (v := ?_) (a' := ?_) #[true, true, false, true, false, false, false] rfl rfl (by kernel_rfl) (fun _ _ _ h => h) (Or.inl ⟨by rfl, ?_⟩) ?_ ?_
          rotate_left
          ·intro w'
           go_simp
           with_reducible rfl
          rotate_left
          ·simp only [Act.put, List.setIfInBounds_toArray, List.set_cons_zero, List.set_cons_succ, i64_w, i32_w]
           rfl
          refine take_ (i := 4) (N := some 27) (v := ?_) (a' := ?_) #[true, true, false, true, true, false, false] rfl rfl (by kernel_rfl) (fun _ _ _ h => h) (Or.inl ⟨by rfl, ?_⟩) hHeld ?_ ?_
          rotate_left
          ·rintro w' ⟨s0, s1, s2⟩
           go_simp
           with_reducible rfl
          rotate_left
          ·simp only [Act.put, List.setIfInBounds_toArray, List.set_cons_zero, List.set_cons_succ, i64_w, i32_w]
           rfl
          refine one_ (i := 2) (N := some 25) #[true, true, true, true, true, false, false] rfl rfl (by kernel_rfl) (by decide) (fun K hK => ?_)
          refine goes_ Try.func56 (by kernel_rfl) rfl #[.int .i64 a0, .int .i64 a1] (by rfl) rfl rfl (by (try simp only [List.map_toArray, List.map_cons, List.map_nil]); first | done | rfl | (simp only [List.length_drop, List.length_take]; rfl)) ?_
          with_reducible refine (table_Missing.calls k2 a0 a1 t126 _ A16.out).mono ?_
          rintro e w29 ⟨rfl, hb⟩
          refine ⟨_, rfl, ?_⟩
          have n0_ := Aside0.mk (Kd.V_below (by (with_reducible repeat (first | apply Kd.V_alloc | apply Kd.V_drewN | apply Kd.V_drew)); exact HO_17.out) hb)
          have n1_ := Aside0.mk (Kd.V_below (by (with_reducible repeat (first | apply Kd.V_alloc | apply Kd.V_drewN | apply Kd.V_drew)); exact HL124_1.out) hb)
          have n2_ := Aside0.mk (blk_below (g := gb118) (o := .cells #[.string x119000_2, .slice none 0 0, .int .i64 x119002_2] 25 (0, 0)) (by (with_reducible repeat (first | refine blk_drewN ?_ _ | refine blk_drew ?_ | refine blk_alloc ?_ _)); exact BK118.out) hb)
          have n3_ := Aside0.mk (blk_below (g := gb125) (o := .cells #[.string ((rd_T25 t121 x19_2).f0), .slice A124_1 ((rd_T25 t121 x19_2).f1).length c124_1, .int .i64 ((rd_T25 t121 x19_2).f2)] 25 (0, 0)) (by (with_reducible repeat (first | refine blk_drewN ?_ _ | refine blk_drew ?_ | refine blk_alloc ?_ _)); exact BK125.out) hb)
          have n4_ := Aside0.mk (below_step (by repeat (first | (with_reducible first | exact HB.out | apply below_alloc | apply pw_below_drewN | apply below_drew1 | refine below_set ?_ GE118.out | refine below_set ?_ GE125.out))) hb)
          clear HO_17
          clear HL124_1
          clear BK118
          clear BK125
          clear HB
          have HO_17 := n0_
          have HL124_1 := n1_
          have BK118 := n2_
          have BK125 := n3_
          have HB := n4_
          clear n0_ n1_ n2_ n3_ n4_
          (try clear hb)
          (try clear hb2)
          (try clear hk)
          (try clear hi)
          refine hK.out _ _ ⟨(blk_cell BK125.out 0).trans rfl, (blk_cell BK125.out 1).trans rfl, (blk_cell BK125.out 2).trans rfl⟩ (fun hHeld => ?_)
          clear hK K
          refine norm_ (a' := ?_) ?_ ?_
          rotate_left
          ·show Act.put _ (some 25) _ = _
           simp only [Act.put, List.setIfInBounds_toArray, List.set_cons_zero, List.set_cons_succ, i64_w, i32_w]
           rfl
          refine pure_ (i := 5) (N := some 28) (v := ?_) (a' := ?_) #[true, true, true, true, true, true, false] rfl rfl (by kernel_rfl) (fun _ _ _ h => h) (Or.inl ⟨by rfl, ?_⟩) ?_ ?_
          rotate_left
          ·intro w'
           go_simp
           with_reducible rfl
          rotate_left
          ·simp only [Act.put, List.setIfInBounds_toArray, List.set_cons_zero, List.set_cons_succ, i64_w, i32_w]
           rfl
          refine pure_ (i := 6) (N := some 29) (v := ?_) (a' := ?_) #[true, true, true, true, true, true, true] rfl rfl (by kernel_rfl) (fun _ _ _ h => h) (Or.inl ⟨by rfl, ?_⟩) ?_ ?_
          rotate_left
          ·intro w'
           go_simp
           with_reducible rfl
          rotate_left
          ·simp only [Act.put, List.setIfInBounds_toArray, List.set_cons_zero, List.set_cons_succ, i64_w, i32_w]
           rfl
          refine done_ (by kernel_rfl) ?_
          have hcz30_0 : w29.cell? ⟨gb125, 0, none⟩ = some (.string ((rd_T25 t121 x19_2).f0)) := (blk_cell BK125.out 0).trans rfl
          have hcz30_1 : w29.cell? ⟨gb125, 1, none⟩ = some (.slice A124_1 ((rd_T25 t121 x19_2).f1).length c124_1) := (blk_cell BK125.out 1).trans rfl
          have hcz30_2 : w29.cell? ⟨gb125, 2, none⟩ = some (.int .i64 ((rd_T25 t121 x19_2).f2)) := (blk_cell BK125.out 2).trans rfl
          have hfz30_0 := blk_frozen BK125.out 0
          have hfz30_1 := blk_frozen BK125.out 1
          have hfz30_2 := blk_frozen BK125.out 2
          have hcz31_0 : w29.cell? ⟨gb118, 0, none⟩ = some (.string x119000_2) := (blk_cell BK118.out 0).trans rfl
          have hcz31_1 : w29.cell? ⟨gb118, 1, none⟩ = some (.slice none 0 0) := (blk_cell BK118.out 1).trans rfl
          have hcz31_2 : w29.cell? ⟨gb118, 2, none⟩ = some (.int .i64 x119002_2) := (blk_cell BK118.out 2).trans rfl
          have hfz31_0 := blk_frozen BK118.out 0
          have hfz31_1 := blk_frozen BK118.out 1
          have hfz31_2 := blk_frozen BK118.out 2
          try go_wp2
          refine bodyPost_ret (results_ct rfl _ _ gb118 25 #[.string ((rd_T25 t121 x19_2).f0), .slice A124_1 ((rd_T25 t121 x19_2).f1).length c124_1, .int .i64 ((rd_T25 t121 x19_2).f2)] (0, 0) _ rfl (by (with_reducible repeat (first | refine blk_drewN ?_ _ | refine blk_drew ?_ | refine blk_alloc ?_ _)); refine blk_put (cs := #[.string ((rd_T25 t121 x19_2).f0), .slice A124_1 ((rd_T25 t121 x19_2).f1).length c124_1, .int .i64 x119002_2]) ?_ 2 _ rfl; (with_reducible repeat (first | refine blk_drewN ?_ _ | refine blk_drew ?_ | refine blk_alloc ?_ _)); refine blk_put (cs := #[.string ((rd_T25 t121 x19_2).f0), .slice none 0 0, .int .i64 x119002_2]) ?_ 1 _ rfl; (with_reducible repeat (first | refine blk_drewN ?_ _ | refine blk_drew ?_ | refine blk_alloc ?_ _)); refine blk_put (cs := #[.string x119000_2, .slice none 0 0, .int .i64 x119002_2]) ?_ 0 _ rfl; (with_reducible repeat (first | refine blk_drewN ?_ _ | refine blk_drew ?_ | refine blk_alloc ?_ _)); exact BK118.out) Try.underlying25 rfl (by kernel_rfl)) rfl ?_
          exact ⟨_, by first | rfl | (simp <;> rfl) | (simp [*] <;> rfl), by (with_reducible repeat (first | apply Kd.V_alloc | apply Kd.V_drewN | apply Kd.V_drew)); exact Kd.V_mono (Kd.V_far (p := ⟨gb118, 2, none⟩) (Kd.V_far (p := ⟨gb118, 1, none⟩) (Kd.V_far (p := ⟨gb118, 0, none⟩) (Kd.V_mono HL124_1.out (fun k_ hk => (⟨hk, hk.2.1⟩ : _ ∧ k_ ≠ gb118))) (fun _ hk => hk.2) (.string ((rd_T25 t121 x19_2).f0))) (fun _ hk => hk.2) (.slice A124_1 ((rd_T25 t121 x19_2).f1).length c124_1)) (fun _ hk => hk.2) (.int .i64 ((rd_T25 t121 x19_2).f2))) (fun _ hk => hk.1.1), by repeat (first | (with_reducible first | exact HB.out | apply below_alloc | apply pw_below_drewN | apply below_drew1 | refine below_set ?_ GE118.out | refine below_set ?_ GE125.out))⟩
        ·rw [if_neg c15] at H
         exact absurd H (by simp)
       ·rw [if_neg c14] at H
        exact absurd H (by simp)
      ·rw [if_neg c13] at H
       have c13b0 : decide (x19_2 < (t121.length : Int)) = false := decide_eq_false c13
       clear c13
       simp only [Option.some.injEq, Prod.mk.injEq] at H
       obtain ⟨rfl, rfl, rfl, rfl⟩ := H
       have hcz32_0 : wr.cell? ⟨gb118, 0, none⟩ = some (.string x119000_2) := (blk_cell BK118.out 0).trans rfl
       have hcz32_1 : wr.cell? ⟨gb118, 1, none⟩ = some (.slice none 0 0) := (blk_cell BK118.out 1).trans rfl
       have hcz32_2 : wr.cell? ⟨gb118, 2, none⟩ = some (.int .i64 x119002_2) := (blk_cell BK118.out 2).trans rfl
       have hfz32_0 := blk_frozen BK118.out 0
       have hfz32_1 := blk_frozen BK118.out 1
       have hfz32_2 := blk_frozen BK118.out 2
       go_wp2
       refine bodyPost_ret (results_ct rfl _ _ gb118 25 #[.string (⟨#[]⟩ : ByteArray), .slice none 0 0, .int .i64 0] (0, 0) _ rfl (by (with_reducible repeat (first | refine blk_drewN ?_ _ | refine blk_drew ?_ | refine blk_alloc ?_ _)); refine blk_put (cs := #[.string (⟨#[]⟩ : ByteArray), .slice none 0 0, .int .i64 x119002_2]) ?_ 2 _ rfl; (with_reducible repeat (first | refine blk_drewN ?_ _ | refine blk_drew ?_ | refine blk_alloc ?_ _)); refine blk_put (cs := #[.string (⟨#[]⟩ : ByteArray), .slice none 0 0, .int .i64 x119002_2]) ?_ 1 _ rfl; (with_reducible repeat (first | refine blk_drewN ?_ _ | refine blk_drew ?_ | refine blk_alloc ?_ _)); refine blk_put (cs := #[.string x119000_2, .slice none 0 0, .int .i64 x119002_2]) ?_ 0 _ rfl; (with_reducible repeat (first | refine blk_drewN ?_ _ | refine blk_drew ?_ | refine blk_alloc ?_ _)); exact BK118.out) Try.underlying25 rfl (by kernel_rfl)) rfl ?_
       exact ⟨_, by first | rfl | (simp <;> rfl) | (simp [*] <;> rfl), (Kd.V_nil _ _ _ _ _), by repeat (first | (with_reducible first | exact HB.out | apply below_alloc | apply pw_below_drewN | apply below_drew1 | refine below_set ?_ GE118.out))⟩
def burgagelaw20_speaks.f (k : Nat)  : Option (Bool) := (catalogue_Find.f k 6 7).bind fun bt127 => ((catalogue_Find.f k 7 6).bind fun bt134 => (if bt127.2.2.2 = true then (if bt134.2.2.2 = true then (some false) else (if bt127.1.toList = ([119, 114, 105, 116, 101, 32, 115, 107, 101, 119] : List UInt8) then (if bt127.2.2.1 = 16 then ((catalogue_All.f).bind fun t141 => (some ((t141.length : Int) == 6))) else (some false)) else (some false))) else (some false)))
theorem burgagelaw20_speaks.mono : ∀ k, LeO (burgagelaw20_speaks.f k ) (burgagelaw20_speaks.f (k + 1) ) := by
 intro  k
 unfold burgagelaw20_speaks.f
 repeat' first
   | (with_reducible exact catalogue_Find.mono _ _ _)
   | (with_reducible exact LeO.refl _)
   | (with_reducible exact LeO.none _)
   | (with_reducible refine LeO.ite ?_ ?_)
   | (with_reducible refine LeO.bind ?_ (fun _ => ?_))
   | exact catalogue_Find.mono _ _ _
   | exact LeO.none _
   | refine LeO.ite ?_ ?_
   | refine LeO.bind ?_ (fun _ => ?_)
set_option maxHeartbeats 8000000 in
set_option maxRecDepth 100000 in
theorem burgagelaw20_speaks.calls (k : Nat)  (r : Bool) (w : World) (h : burgagelaw20_speaks.f k  = some r) :
  Calls Try.prog 13 #[] w fun e w' => e = .returned (.bool r) ∧ Below w.heap.size w w' := by
 have hu25 := Try.underlying25
 have HB := Aside0.mk (Below.refl w.heap.size w)
 have H : ((catalogue_Find.f k 6 7).bind fun bt127 => ((catalogue_Find.f k 7 6).bind fun bt134 => (if bt127.2.2.2 = true then (if bt134.2.2.2 = true then (some false) else (if bt127.1.toList = ([119, 114, 105, 116, 101, 32, 115, 107, 101, 119] : List UInt8) then (if bt127.2.2.1 = 16 then ((catalogue_All.f).bind fun t141 => (some ((t141.length : Int) == 6))) else (some false)) else (some false))) else (some false)))) = some r := h
 clear h
 replace H := Option.bind_eq_some_iff.mp H
 obtain ⟨⟨t127, t128, t131, t132⟩, A10, H⟩ := H
 replace H : ((catalogue_Find.f k 7 6).bind fun bt134 => (if t132 = true then (if bt134.2.2.2 = true then (some false) else (if t127.toList = ([119, 114, 105, 116, 101, 32, 115, 107, 101, 119] : List UInt8) then (if t131 = 16 then ((catalogue_All.f).bind fun t141 => (some ((t141.length : Int) == 6))) else (some false)) else (some false))) else (some false))) = some r := H
 have A1 := Aside0.mk A10
 clear A10
 replace H := Option.bind_eq_some_iff.mp H
 obtain ⟨⟨t134, t135, t138, t139⟩, A20, H⟩ := H
 replace H : (if t132 = true then (if t139 = true then (some false) else (if t127.toList = ([119, 114, 105, 116, 101, 32, 115, 107, 101, 119] : List UInt8) then (if t131 = 16 then ((catalogue_All.f).bind fun t141 => (some ((t141.length : Int) == 6))) else (some false)) else (some false))) else (some false)) = some r := H
 have A2 := Aside0.mk A20
 clear A20
 by_cases c3 : t132 = true
 ·subst c3
  have H1 : (if t139 = true then (some false) else (if t127.toList = ([119, 114, 105, 116, 101, 32, 115, 107, 101, 119] : List UInt8) then (if t131 = 16 then ((catalogue_All.f).bind fun t141 => (some ((t141.length : Int) == 6))) else (some false)) else (some false))) = some r := by rw [if_pos rfl] at H; exact H
  clear H
  have H := H1
  clear H1
  by_cases c4 : t139 = true
  ·subst c4
   have H1 : (some false) = some r := by rw [if_pos rfl] at H; exact H
   clear H
   have H := H1
   clear H1
   obtain rfl := Option.some.inj H
   go_enter Try.func13, Try.ntmps13
   go_wp2_with (first | ((with_reducible refine gate_callee (f := 14) rfl ?_); refine goesL_ (some 6) rfl rfl Try.func14 (by kernel_rfl) rfl #[.int .i64 6, .int .i64 7] rfl (by (try simp only [List.map_toArray, List.map_cons, List.map_nil]); first | done | rfl | (simp only [List.length_drop, List.length_take]; rfl)) ?_; (with_reducible refine (catalogue_Find.calls k 6 7 t127 t128 t131 true _ A1.out).mono ?_); rintro e w5 ⟨v129, rfl, ho0, hb⟩; refine ⟨_, rfl, ?_⟩; have n0_ := Aside0.mk (Kd.V_lower (Kd.V_mono (ok' := fun k_ => True) ho0 (fun k_ hk_ => trivial)) (below_size (by repeat (first | (with_reducible first | exact HB.out | apply below_alloc | apply pw_below_drewN | apply below_drew1))))); have n1_ := Aside0.mk (below_step (by repeat (first | (with_reducible first | exact HB.out | apply below_alloc | apply pw_below_drewN | apply below_drew1))) hb); clear HB; have HO130 := n0_; have HB := n1_; clear n0_ n1_; (try clear hb); (try clear hb2); (try clear hk); (try clear hi); (try clear ho0)) | ((with_reducible refine gate_dst (N := 1) rfl ?_); (try (refine gate_guard (by rfl) ?_; dsimp only)); refine box_event ?hg (N := 1) ?hd (cs := #[.string (⟨#[]⟩ : ByteArray), .slice none 0 0, .int .i64 0]) (t := 25) ?hr ?_; (case hd => rfl); (case hg => rfl); (case hr => first | (go_simp; done) | (go_simp; rfl)); intro gb133 hg w6 hbox hb; have n0_ := Aside0.mk (Kd.V_below (Kd.V_elderB (by (with_reducible repeat (first | apply Kd.V_alloc | apply Kd.V_drewN | apply Kd.V_drew)); exact HO130.out) gb133 (Nat.le_of_eq hg.symm)) hb); have n1_ := Aside0.mk (below_step (by repeat (first | (with_reducible first | exact HB.out | apply below_alloc | apply pw_below_drewN | apply below_drew1))) hb); have n2_ := Aside0.mk (hbox); have n3_ := Aside0.mk ((by rw [hg]; exact (below_size (by repeat (first | (with_reducible first | exact HB.out | apply below_alloc | apply pw_below_drewN | apply below_drew1)))) : w.heap.size ≤ gb133)); have n4_ := Aside0.mk ((by rw [hg]; exact (below_size (by repeat (first | (with_reducible first | exact HB.out | apply below_alloc | apply pw_below_drewN | apply below_drew1)))) : w.heap.size ≤ gb133)); clear HO130; clear HB; have HO130 := n0_; have HB := n1_; have BK133 := n2_; have GW133 := n3_; have GE133 := n4_; clear n0_ n1_ n2_ n3_ n4_; clear hb hbox hg; have hcz7_0 : w6.cell? ⟨gb133, 0, none⟩ = some (.string (⟨#[]⟩ : ByteArray)) := (blk_cell BK133.out 0).trans rfl; have hcz7_1 : w6.cell? ⟨gb133, 1, none⟩ = some (.slice none 0 0) := (blk_cell BK133.out 1).trans rfl; have hcz7_2 : w6.cell? ⟨gb133, 2, none⟩ = some (.int .i64 0) := (blk_cell BK133.out 2).trans rfl; have hfz7_0 := blk_frozen BK133.out 0; have hfz7_1 := blk_frozen BK133.out 1; have hfz7_2 := blk_frozen BK133.out 2; obtain ⟨Ao8, co8, eo8⟩ := Kd.V_slice HO130.out; subst eo8) | ((with_reducible refine gate_callee (f := 14) rfl ?_); refine goesL_ (some 10) rfl rfl Try.func14 (by kernel_rfl) rfl #[.int .i64 7, .int .i64 6] rfl (by (try simp only [List.map_toArray, List.map_cons, List.map_nil]); first | done | rfl | (simp only [List.length_drop, List.length_take]; rfl)) ?_; (with_reducible refine (catalogue_Find.calls k 7 6 t134 t135 t138 true _ A2.out).mono ?_); rintro e w9 ⟨v136, rfl, ho0, hb⟩; refine ⟨_, rfl, ?_⟩; have n0_ := Aside0.mk (Kd.V_below (by (with_reducible repeat (first | apply Kd.V_alloc | apply Kd.V_drewN | apply Kd.V_drew)); exact (Kd.V_mono (Kd.V_far (p := ⟨gb133, 2, none⟩) (Kd.V_far (p := ⟨gb133, 1, none⟩) (Kd.V_far (p := ⟨gb133, 0, none⟩) (Kd.V_mono HO130.out (fun k_ hk => (⟨hk, hk.2⟩ : _ ∧ k_ ≠ gb133))) (fun _ hk => hk.2) (.string t127)) (fun _ hk => hk.2) (.slice Ao8 t128.length co8)) (fun _ hk => hk.2) (.int .i64 t131)) (fun _ h_ => h_.1))) hb); have n1_ := Aside0.mk (Kd.V_lower (Kd.V_mono (ok' := fun k_ => k_ ≠ gb133) ho0 (fun k_ hk_ => (Kd.freshB (g := gb133) (o := .cells #[.string t127, .slice Ao8 t128.length co8, .int .i64 t131] 25 (0, 0)) (by (with_reducible repeat (first | refine blk_drewN ?_ _ | refine blk_drew ?_ | refine blk_alloc ?_ _)); refine blk_put (cs := #[.string t127, .slice Ao8 t128.length co8, .int .i64 0]) ?_ 2 _ rfl; (with_reducible repeat (first | refine blk_drewN ?_ _ | refine blk_drew ?_ | refine blk_alloc ?_ _)); refine blk_put (cs := #[.string t127, .slice none 0 0, .int .i64 0]) ?_ 1 _ rfl; (with_reducible repeat (first | refine blk_drewN ?_ _ | refine blk_drew ?_ | refine blk_alloc ?_ _)); refine blk_put (cs := #[.string (⟨#[]⟩ : ByteArray), .slice none 0 0, .int .i64 0]) ?_ 0 _ rfl; (with_reducible repeat (first | refine blk_drewN ?_ _ | refine blk_drew ?_ | refine blk_alloc ?_ _)); exact BK133.out) k_ hk_))) (below_size (by repeat (first | (with_reducible first | exact HB.out | apply below_alloc | apply pw_below_drewN | apply below_drew1 | refine below_set ?_ GE133.out))))); have n2_ := Aside0.mk (blk_below (g := gb133) (o := .cells #[.string t127, .slice Ao8 t128.length co8, .int .i64 t131] 25 (0, 0)) (by (with_reducible repeat (first | refine blk_drewN ?_ _ | refine blk_drew ?_ | refine blk_alloc ?_ _)); refine blk_put (cs := #[.string t127, .slice Ao8 t128.length co8, .int .i64 0]) ?_ 2 _ rfl; (with_reducible repeat (first | refine blk_drewN ?_ _ | refine blk_drew ?_ | refine blk_alloc ?_ _)); refine blk_put (cs := #[.string t127, .slice none 0 0, .int .i64 0]) ?_ 1 _ rfl; (with_reducible repeat (first | refine blk_drewN ?_ _ | refine blk_drew ?_ | refine blk_alloc ?_ _)); refine blk_put (cs := #[.string (⟨#[]⟩ : ByteArray), .slice none 0 0, .int .i64 0]) ?_ 0 _ rfl; (with_reducible repeat (first | refine blk_drewN ?_ _ | refine blk_drew ?_ | refine blk_alloc ?_ _)); exact BK133.out) hb); have n3_ := Aside0.mk (below_step (by repeat (first | (with_reducible first | exact HB.out | apply below_alloc | apply pw_below_drewN | apply below_drew1 | refine below_set ?_ GE133.out))) hb); clear HO130; clear BK133; clear HB; have HO130 := n0_; have HO137 := n1_; have BK133 := n2_; have HB := n3_; clear n0_ n1_ n2_ n3_; (try clear hb); (try clear hb2); (try clear hk); (try clear hi); (try clear ho0)) | ((with_reducible refine gate_dst (N := 3) rfl ?_); (try (refine gate_guard (by rfl) ?_; dsimp only)); refine box_event ?hg (N := 3) ?hd (cs := #[.string (⟨#[]⟩ : ByteArray), .slice none 0 0, .int .i64 0]) (t := 25) ?hr ?_; (case hd => rfl); (case hg => rfl); (case hr => first | (go_simp; done) | (go_simp; rfl)); intro gb140 hg w10 hbox hb; have n0_ := Aside0.mk (Kd.V_below (Kd.V_elderB (by (with_reducible repeat (first | apply Kd.V_alloc | apply Kd.V_drewN | apply Kd.V_drew)); exact HO130.out) gb140 (Nat.le_of_eq hg.symm)) hb); have n1_ := Aside0.mk (Kd.V_below (Kd.V_elderB (by (with_reducible repeat (first | apply Kd.V_alloc | apply Kd.V_drewN | apply Kd.V_drew)); exact HO137.out) gb140 (Nat.le_of_eq hg.symm)) hb); have n2_ := Aside0.mk (blk_below (g := gb133) (o := .cells #[.string t127, .slice Ao8 t128.length co8, .int .i64 t131] 25 (0, 0)) (by (with_reducible repeat (first | refine blk_drewN ?_ _ | refine blk_drew ?_ | refine blk_alloc ?_ _)); exact BK133.out) hb); have n3_ := Aside0.mk (below_step (by repeat (first | (with_reducible first | exact HB.out | apply below_alloc | apply pw_below_drewN | apply below_drew1 | refine below_set ?_ GE133.out))) hb); have n4_ := Aside0.mk (hbox); have n5_ := Aside0.mk ((by rw [hg]; exact (below_size (by repeat (first | (with_reducible first | exact HB.out | apply below_alloc | apply pw_below_drewN | apply below_drew1 | refine below_set ?_ GE133.out)))) : w.heap.size ≤ gb140)); have n6_ := Aside0.mk ((by rw [hg]; exact (below_size (by repeat (first | (with_reducible first | exact HB.out | apply below_alloc | apply pw_below_drewN | apply below_drew1 | refine below_set ?_ GE133.out)))) : w.heap.size ≤ gb140)); have n7_ := Aside0.mk ((by rw [hg]; exact Nat.ne_of_lt (blk_lt (g := gb133) (o := .cells #[.string t127, .slice Ao8 t128.length co8, .int .i64 t131] 25 (0, 0)) (by (with_reducible repeat (first | refine blk_drewN ?_ _ | refine blk_drew ?_ | refine blk_alloc ?_ _)); exact BK133.out)) : gb133 ≠ gb140)); have n8_ := Aside0.mk ((by rw [hg]; exact Nat.ne_of_gt (blk_lt (g := gb133) (o := .cells #[.string t127, .slice Ao8 t128.length co8, .int .i64 t131] 25 (0, 0)) (by (with_reducible repeat (first | refine blk_drewN ?_ _ | refine blk_drew ?_ | refine blk_alloc ?_ _)); exact BK133.out)) : gb140 ≠ gb133)); clear HO130; clear HO137; clear BK133; clear HB; have HO130 := n0_; have HO137 := n1_; have BK133 := n2_; have HB := n3_; have BK140 := n4_; have GW140 := n5_; have GE140 := n6_; have NB133_140 := n7_; have NB140_133 := n8_; clear n0_ n1_ n2_ n3_ n4_ n5_ n6_ n7_ n8_; clear hb hbox hg; have hnb11 := NB140_133.out; have hnc11 := NB133_140.out; have hcz12_0 : w10.cell? ⟨gb140, 0, none⟩ = some (.string (⟨#[]⟩ : ByteArray)) := (blk_cell BK140.out 0).trans rfl; have hcz12_1 : w10.cell? ⟨gb140, 1, none⟩ = some (.slice none 0 0) := (blk_cell BK140.out 1).trans rfl; have hcz12_2 : w10.cell? ⟨gb140, 2, none⟩ = some (.int .i64 0) := (blk_cell BK140.out 2).trans rfl; have hfz12_0 := blk_frozen BK140.out 0; have hfz12_1 := blk_frozen BK140.out 1; have hfz12_2 := blk_frozen BK140.out 2; obtain ⟨Ao13, co13, eo13⟩ := Kd.V_slice HO137.out; subst eo13))
   go_ret
   exact ⟨by first | rfl | (simp <;> rfl) | (simp [*] <;> rfl), by repeat (first | (with_reducible first | exact HB.out | apply below_alloc | apply pw_below_drewN | apply below_drew1 | refine below_set ?_ GE133.out | refine below_set ?_ GE140.out))⟩
  ·replace c4 := Bool.eq_false_iff.mpr c4
   subst c4
   have H1 : (if t127.toList = ([119, 114, 105, 116, 101, 32, 115, 107, 101, 119] : List UInt8) then (if t131 = 16 then ((catalogue_All.f).bind fun t141 => (some ((t141.length : Int) == 6))) else (some false)) else (some false)) = some r := by rw [if_neg (show ¬ (false = true) by decide)] at H; exact H
   clear H
   have H := H1
   clear H1
   by_cases c14 : t127.toList = ([119, 114, 105, 116, 101, 32, 115, 107, 101, 119] : List UInt8)
   ·rw [if_pos c14] at H
    have c14b0 : (t127.toList == ([119, 114, 105, 116, 101, 32, 115, 107, 101, 119] : List UInt8)) = true := beq_iff_eq.mpr c14
    have c14b1 : (t127.toList != ([119, 114, 105, 116, 101, 32, 115, 107, 101, 119] : List UInt8)) = false := bne_eq_false_iff_eq.mpr c14
    clear c14
    by_cases c15 : t131 = 16
    ·rw [if_pos c15] at H
     have c15b0 : (t131 == 16) = true := beq_iff_eq.mpr c15
     have c15b1 : (t131 != 16) = false := bne_eq_false_iff_eq.mpr c15
     clear c15
     replace H := Option.bind_eq_some_iff.mp H
     obtain ⟨t141, A160, H⟩ := H
     replace H : (some ((t141.length : Int) == 6)) = some r := H
     have A16 := Aside0.mk A160
     clear A160
     obtain rfl := Option.some.inj H
     go_enter Try.func13, Try.ntmps13
     go_wp2_with (first | ((with_reducible refine gate_callee (f := 14) rfl ?_); refine goesL_ (some 6) rfl rfl Try.func14 (by kernel_rfl) rfl #[.int .i64 6, .int .i64 7] rfl (by (try simp only [List.map_toArray, List.map_cons, List.map_nil]); first | done | rfl | (simp only [List.length_drop, List.length_take]; rfl)) ?_; (with_reducible refine (catalogue_Find.calls k 6 7 t127 t128 t131 true _ A1.out).mono ?_); rintro e w17 ⟨v129, rfl, ho0, hb⟩; refine ⟨_, rfl, ?_⟩; have n0_ := Aside0.mk (Kd.V_lower (Kd.V_mono (ok' := fun k_ => True) ho0 (fun k_ hk_ => trivial)) (below_size (by repeat (first | (with_reducible first | exact HB.out | apply below_alloc | apply pw_below_drewN | apply below_drew1))))); have n1_ := Aside0.mk (below_step (by repeat (first | (with_reducible first | exact HB.out | apply below_alloc | apply pw_below_drewN | apply below_drew1))) hb); clear HB; have HO130 := n0_; have HB := n1_; clear n0_ n1_; (try clear hb); (try clear hb2); (try clear hk); (try clear hi); (try clear ho0)) | ((with_reducible refine gate_dst (N := 1) rfl ?_); (try (refine gate_guard (by rfl) ?_; dsimp only)); refine box_event ?hg (N := 1) ?hd (cs := #[.string (⟨#[]⟩ : ByteArray), .slice none 0 0, .int .i64 0]) (t := 25) ?hr ?_; (case hd => rfl); (case hg => rfl); (case hr => first | (go_simp; done) | (go_simp; rfl)); intro gb133 hg w18 hbox hb; have n0_ := Aside0.mk (Kd.V_below (Kd.V_elderB (by (with_reducible repeat (first | apply Kd.V_alloc | apply Kd.V_drewN | apply Kd.V_drew)); exact HO130.out) gb133 (Nat.le_of_eq hg.symm)) hb); have n1_ := Aside0.mk (below_step (by repeat (first | (with_reducible first | exact HB.out | apply below_alloc | apply pw_below_drewN | apply below_drew1))) hb); have n2_ := Aside0.mk (hbox); have n3_ := Aside0.mk ((by rw [hg]; exact (below_size (by repeat (first | (with_reducible first | exact HB.out | apply below_alloc | apply pw_below_drewN | apply below_drew1)))) : w.heap.size ≤ gb133)); have n4_ := Aside0.mk ((by rw [hg]; exact (below_size (by repeat (first | (with_reducible first | exact HB.out | apply below_alloc | apply pw_below_drewN | apply below_drew1)))) : w.heap.size ≤ gb133)); clear HO130; clear HB; have HO130 := n0_; have HB := n1_; have BK133 := n2_; have GW133 := n3_; have GE133 := n4_; clear n0_ n1_ n2_ n3_ n4_; clear hb hbox hg; have hcz19_0 : w18.cell? ⟨gb133, 0, none⟩ = some (.string (⟨#[]⟩ : ByteArray)) := (blk_cell BK133.out 0).trans rfl; have hcz19_1 : w18.cell? ⟨gb133, 1, none⟩ = some (.slice none 0 0) := (blk_cell BK133.out 1).trans rfl; have hcz19_2 : w18.cell? ⟨gb133, 2, none⟩ = some (.int .i64 0) := (blk_cell BK133.out 2).trans rfl; have hfz19_0 := blk_frozen BK133.out 0; have hfz19_1 := blk_frozen BK133.out 1; have hfz19_2 := blk_frozen BK133.out 2; obtain ⟨Ao20, co20, eo20⟩ := Kd.V_slice HO130.out; subst eo20) | ((with_reducible refine gate_callee (f := 14) rfl ?_); refine goesL_ (some 10) rfl rfl Try.func14 (by kernel_rfl) rfl #[.int .i64 7, .int .i64 6] rfl (by (try simp only [List.map_toArray, List.map_cons, List.map_nil]); first | done | rfl | (simp only [List.length_drop, List.length_take]; rfl)) ?_; (with_reducible refine (catalogue_Find.calls k 7 6 t134 t135 t138 false _ A2.out).mono ?_); rintro e w21 ⟨v136, rfl, ho0, hb⟩; refine ⟨_, rfl, ?_⟩; have n0_ := Aside0.mk (Kd.V_below (by (with_reducible repeat (first | apply Kd.V_alloc | apply Kd.V_drewN | apply Kd.V_drew)); exact (Kd.V_mono (Kd.V_far (p := ⟨gb133, 2, none⟩) (Kd.V_far (p := ⟨gb133, 1, none⟩) (Kd.V_far (p := ⟨gb133, 0, none⟩) (Kd.V_mono HO130.out (fun k_ hk => (⟨hk, hk.2⟩ : _ ∧ k_ ≠ gb133))) (fun _ hk => hk.2) (.string t127)) (fun _ hk => hk.2) (.slice Ao20 t128.length co20)) (fun _ hk => hk.2) (.int .i64 t131)) (fun _ h_ => h_.1))) hb); have n1_ := Aside0.mk (Kd.V_lower (Kd.V_mono (ok' := fun k_ => k_ ≠ gb133) ho0 (fun k_ hk_ => (Kd.freshB (g := gb133) (o := .cells #[.string t127, .slice Ao20 t128.length co20, .int .i64 t131] 25 (0, 0)) (by (with_reducible repeat (first | refine blk_drewN ?_ _ | refine blk_drew ?_ | refine blk_alloc ?_ _)); refine blk_put (cs := #[.string t127, .slice Ao20 t128.length co20, .int .i64 0]) ?_ 2 _ rfl; (with_reducible repeat (first | refine blk_drewN ?_ _ | refine blk_drew ?_ | refine blk_alloc ?_ _)); refine blk_put (cs := #[.string t127, .slice none 0 0, .int .i64 0]) ?_ 1 _ rfl; (with_reducible repeat (first | refine blk_drewN ?_ _ | refine blk_drew ?_ | refine blk_alloc ?_ _)); refine blk_put (cs := #[.string (⟨#[]⟩ : ByteArray), .slice none 0 0, .int .i64 0]) ?_ 0 _ rfl; (with_reducible repeat (first | refine blk_drewN ?_ _ | refine blk_drew ?_ | refine blk_alloc ?_ _)); exact BK133.out) k_ hk_))) (below_size (by repeat (first | (with_reducible first | exact HB.out | apply below_alloc | apply pw_below_drewN | apply below_drew1 | refine below_set ?_ GE133.out))))); have n2_ := Aside0.mk (blk_below (g := gb133) (o := .cells #[.string t127, .slice Ao20 t128.length co20, .int .i64 t131] 25 (0, 0)) (by (with_reducible repeat (first | refine blk_drewN ?_ _ | refine blk_drew ?_ | refine blk_alloc ?_ _)); refine blk_put (cs := #[.string t127, .slice Ao20 t128.length co20, .int .i64 0]) ?_ 2 _ rfl; (with_reducible repeat (first | refine blk_drewN ?_ _ | refine blk_drew ?_ | refine blk_alloc ?_ _)); refine blk_put (cs := #[.string t127, .slice none 0 0, .int .i64 0]) ?_ 1 _ rfl; (with_reducible repeat (first | refine blk_drewN ?_ _ | refine blk_drew ?_ | refine blk_alloc ?_ _)); refine blk_put (cs := #[.string (⟨#[]⟩ : ByteArray), .slice none 0 0, .int .i64 0]) ?_ 0 _ rfl; (with_reducible repeat (first | refine blk_drewN ?_ _ | refine blk_drew ?_ | refine blk_alloc ?_ _)); exact BK133.out) hb); have n3_ := Aside0.mk (below_step (by repeat (first | (with_reducible first | exact HB.out | apply below_alloc | apply pw_below_drewN | apply below_drew1 | refine below_set ?_ GE133.out))) hb); clear HO130; clear BK133; clear HB; have HO130 := n0_; have HO137 := n1_; have BK133 := n2_; have HB := n3_; clear n0_ n1_ n2_ n3_; (try clear hb); (try clear hb2); (try clear hk); (try clear hi); (try clear ho0)) | ((with_reducible refine gate_dst (N := 3) rfl ?_); (try (refine gate_guard (by rfl) ?_; dsimp only)); refine box_event ?hg (N := 3) ?hd (cs := #[.string (⟨#[]⟩ : ByteArray), .slice none 0 0, .int .i64 0]) (t := 25) ?hr ?_; (case hd => rfl); (case hg => rfl); (case hr => first | (go_simp; done) | (go_simp; rfl)); intro gb140 hg w22 hbox hb; have n0_ := Aside0.mk (Kd.V_below (Kd.V_elderB (by (with_reducible repeat (first | apply Kd.V_alloc | apply Kd.V_drewN | apply Kd.V_drew)); exact HO130.out) gb140 (Nat.le_of_eq hg.symm)) hb); have n1_ := Aside0.mk (Kd.V_below (Kd.V_elderB (by (with_reducible repeat (first | apply Kd.V_alloc | apply Kd.V_drewN | apply Kd.V_drew)); exact HO137.out) gb140 (Nat.le_of_eq hg.symm)) hb); have n2_ := Aside0.mk (blk_below (g := gb133) (o := .cells #[.string t127, .slice Ao20 t128.length co20, .int .i64 t131] 25 (0, 0)) (by (with_reducible repeat (first | refine blk_drewN ?_ _ | refine blk_drew ?_ | refine blk_alloc ?_ _)); exact BK133.out) hb); have n3_ := Aside0.mk (below_step (by repeat (first | (with_reducible first | exact HB.out | apply below_alloc | apply pw_below_drewN | apply below_drew1 | refine below_set ?_ GE133.out))) hb); have n4_ := Aside0.mk (hbox); have n5_ := Aside0.mk ((by rw [hg]; exact (below_size (by repeat (first | (with_reducible first | exact HB.out | apply below_alloc | apply pw_below_drewN | apply below_drew1 | refine below_set ?_ GE133.out)))) : w.heap.size ≤ gb140)); have n6_ := Aside0.mk ((by rw [hg]; exact (below_size (by repeat (first | (with_reducible first | exact HB.out | apply below_alloc | apply pw_below_drewN | apply below_drew1 | refine below_set ?_ GE133.out)))) : w.heap.size ≤ gb140)); have n7_ := Aside0.mk ((by rw [hg]; exact Nat.ne_of_lt (blk_lt (g := gb133) (o := .cells #[.string t127, .slice Ao20 t128.length co20, .int .i64 t131] 25 (0, 0)) (by (with_reducible repeat (first | refine blk_drewN ?_ _ | refine blk_drew ?_ | refine blk_alloc ?_ _)); exact BK133.out)) : gb133 ≠ gb140)); have n8_ := Aside0.mk ((by rw [hg]; exact Nat.ne_of_gt (blk_lt (g := gb133) (o := .cells #[.string t127, .slice Ao20 t128.length co20, .int .i64 t131] 25 (0, 0)) (by (with_reducible repeat (first | refine blk_drewN ?_ _ | refine blk_drew ?_ | refine blk_alloc ?_ _)); exact BK133.out)) : gb140 ≠ gb133)); clear HO130; clear HO137; clear BK133; clear HB; have HO130 := n0_; have HO137 := n1_; have BK133 := n2_; have HB := n3_; have BK140 := n4_; have GW140 := n5_; have GE140 := n6_; have NB133_140 := n7_; have NB140_133 := n8_; clear n0_ n1_ n2_ n3_ n4_ n5_ n6_ n7_ n8_; clear hb hbox hg; have hnb23 := NB140_133.out; have hnc23 := NB133_140.out; have hcz24_0 : w22.cell? ⟨gb140, 0, none⟩ = some (.string (⟨#[]⟩ : ByteArray)) := (blk_cell BK140.out 0).trans rfl; have hcz24_1 : w22.cell? ⟨gb140, 1, none⟩ = some (.slice none 0 0) := (blk_cell BK140.out 1).trans rfl; have hcz24_2 : w22.cell? ⟨gb140, 2, none⟩ = some (.int .i64 0) := (blk_cell BK140.out 2).trans rfl; have hfz24_0 := blk_frozen BK140.out 0; have hfz24_1 := blk_frozen BK140.out 1; have hfz24_2 := blk_frozen BK140.out 2; obtain ⟨Ao25, co25, eo25⟩ := Kd.V_slice HO137.out; subst eo25; have hcz26_0 : w22.cell? ⟨gb133, 0, none⟩ = some (.string t127) := (blk_cell BK133.out 0).trans rfl; have hcz26_1 : w22.cell? ⟨gb133, 1, none⟩ = some (.slice Ao20 t128.length co20) := (blk_cell BK133.out 1).trans rfl; have hcz26_2 : w22.cell? ⟨gb133, 2, none⟩ = some (.int .i64 t131) := (blk_cell BK133.out 2).trans rfl; have hfz26_0 := blk_frozen BK133.out 0; have hfz26_1 := blk_frozen BK133.out 1; have hfz26_2 := blk_frozen BK133.out 2) | (go_at_call 54; (with_reducible refine (catalogue_All.calls  t141 _ A16.out).mono ?_); rintro e w27 ⟨v142, rfl, ho0, hb⟩; have n0_ := Aside0.mk (Kd.V_below (by (with_reducible repeat (first | apply Kd.V_alloc | apply Kd.V_drewN | apply Kd.V_drew)); exact (Kd.V_mono (Kd.V_far (p := ⟨gb140, 2, none⟩) (Kd.V_far (p := ⟨gb140, 1, none⟩) (Kd.V_far (p := ⟨gb140, 0, none⟩) (Kd.V_mono HO130.out (fun k_ hk => (⟨hk, hk.2⟩ : _ ∧ k_ ≠ gb140))) (fun _ hk => hk.2) (.string t134)) (fun _ hk => hk.2) (.slice Ao25 t135.length co25)) (fun _ hk => hk.2) (.int .i64 t138)) (fun _ h_ => h_.1))) hb); have n1_ := Aside0.mk (Kd.V_below (by (with_reducible repeat (first | apply Kd.V_alloc | apply Kd.V_drewN | apply Kd.V_drew)); exact (Kd.V_mono (Kd.V_far (p := ⟨gb140, 2, none⟩) (Kd.V_far (p := ⟨gb140, 1, none⟩) (Kd.V_far (p := ⟨gb140, 0, none⟩) (Kd.V_mono HO137.out (fun k_ hk => (⟨hk, hk.2⟩ : _ ∧ k_ ≠ gb140))) (fun _ hk => hk.2) (.string t134)) (fun _ hk => hk.2) (.slice Ao25 t135.length co25)) (fun _ hk => hk.2) (.int .i64 t138)) (fun _ h_ => h_.1))) hb); have n2_ := Aside0.mk (Kd.V_lower (Kd.V_mono (ok' := fun k_ => k_ ≠ gb133 ∧ k_ ≠ gb140) ho0 (fun k_ hk_ => ⟨(Kd.freshB (g := gb133) (o := .cells #[.string t127, .slice Ao20 t128.length co20, .int .i64 t131] 25 (0, 0)) (by (with_reducible repeat (first | refine blk_drewN ?_ _ | refine blk_drew ?_ | refine blk_alloc ?_ _)); refine blk_far ?_ NB133_140.out _; (with_reducible repeat (first | refine blk_drewN ?_ _ | refine blk_drew ?_ | refine blk_alloc ?_ _)); refine blk_far ?_ NB133_140.out _; (with_reducible repeat (first | refine blk_drewN ?_ _ | refine blk_drew ?_ | refine blk_alloc ?_ _)); refine blk_far ?_ NB133_140.out _; (with_reducible repeat (first | refine blk_drewN ?_ _ | refine blk_drew ?_ | refine blk_alloc ?_ _)); exact BK133.out) k_ hk_), (Kd.freshB (g := gb140) (o := .cells #[.string t134, .slice Ao25 t135.length co25, .int .i64 t138] 25 (0, 0)) (by (with_reducible repeat (first | refine blk_drewN ?_ _ | refine blk_drew ?_ | refine blk_alloc ?_ _)); refine blk_put (cs := #[.string t134, .slice Ao25 t135.length co25, .int .i64 0]) ?_ 2 _ rfl; (with_reducible repeat (first | refine blk_drewN ?_ _ | refine blk_drew ?_ | refine blk_alloc ?_ _)); refine blk_put (cs := #[.string t134, .slice none 0 0, .int .i64 0]) ?_ 1 _ rfl; (with_reducible repeat (first | refine blk_drewN ?_ _ | refine blk_drew ?_ | refine blk_alloc ?_ _)); refine blk_put (cs := #[.string (⟨#[]⟩ : ByteArray), .slice none 0 0, .int .i64 0]) ?_ 0 _ rfl; (with_reducible repeat (first | refine blk_drewN ?_ _ | refine blk_drew ?_ | refine blk_alloc ?_ _)); exact BK140.out) k_ hk_)⟩)) (below_size (by repeat (first | (with_reducible first | exact HB.out | apply below_alloc | apply pw_below_drewN | apply below_drew1 | refine below_set ?_ GE133.out | refine below_set ?_ GE140.out))))); have n3_ := Aside0.mk (blk_below (g := gb133) (o := .cells #[.string t127, .slice Ao20 t128.length co20, .int .i64 t131] 25 (0, 0)) (by (with_reducible repeat (first | refine blk_drewN ?_ _ | refine blk_drew ?_ | refine blk_alloc ?_ _)); refine blk_far ?_ NB133_140.out _; (with_reducible repeat (first | refine blk_drewN ?_ _ | refine blk_drew ?_ | refine blk_alloc ?_ _)); refine blk_far ?_ NB133_140.out _; (with_reducible repeat (first | refine blk_drewN ?_ _ | refine blk_drew ?_ | refine blk_alloc ?_ _)); refine blk_far ?_ NB133_140.out _; (with_reducible repeat (first | refine blk_drewN ?_ _ | refine blk_drew ?_ | refine blk_alloc ?_ _)); exact BK133.out) hb); have n4_ := Aside0.mk (blk_below (g := gb140) (o := .cells #[.string t134, .slice Ao25 t135.length co25, .int .i64 t138] 25 (0, 0)) (by (with_reducible repeat (first | refine blk_drewN ?_ _ | refine blk_drew ?_ | refine blk_alloc ?_ _)); refine blk_put (cs := #[.string t134, .slice Ao25 t135.length co25, .int .i64 0]) ?_ 2 _ rfl; (with_reducible repeat (first | refine blk_drewN ?_ _ | refine blk_drew ?_ | refine blk_alloc ?_ _)); refine blk_put (cs := #[.string t134, .slice none 0 0, .int .i64 0]) ?_ 1 _ rfl; (with_reducible repeat (first | refine blk_drewN ?_ _ | refine blk_drew ?_ | refine blk_alloc ?_ _)); refine blk_put (cs := #[.string (⟨#[]⟩ : ByteArray), .slice none 0 0, .int .i64 0]) ?_ 0 _ rfl; (with_reducible repeat (first | refine blk_drewN ?_ _ | refine blk_drew ?_ | refine blk_alloc ?_ _)); exact BK140.out) hb); have n5_ := Aside0.mk (below_step (by repeat (first | (with_reducible first | exact HB.out | apply below_alloc | apply pw_below_drewN | apply below_drew1 | refine below_set ?_ GE133.out | refine below_set ?_ GE140.out))) hb); clear HO130; clear HO137; clear BK133; clear BK140; clear HB; have HO130 := n0_; have HO137 := n1_; have HO143 := n2_; have BK133 := n3_; have BK140 := n4_; have HB := n5_; clear n0_ n1_ n2_ n3_ n4_ n5_; (try clear hb); (try clear hb2); (try clear hk); (try clear hi); (try clear ho0); obtain ⟨Ao28, co28, eo28⟩ := Kd.V_slice HO143.out; subst eo28))
     go_ret
     exact ⟨by first | rfl | (simp <;> rfl) | (simp [*] <;> rfl), by repeat (first | (with_reducible first | exact HB.out | apply below_alloc | apply pw_below_drewN | apply below_drew1 | refine below_set ?_ GE133.out | refine below_set ?_ GE140.out))⟩
    ·rw [if_neg c15] at H
     have c15b0 : (t131 == 16) = false := beq_eq_false_iff_ne.mpr c15
     have c15b1 : (t131 != 16) = true := bne_iff_ne.mpr c15
     obtain rfl := Option.some.inj H
     go_enter Try.func13, Try.ntmps13
     go_wp2_with (first | ((with_reducible refine gate_callee (f := 14) rfl ?_); refine goesL_ (some 6) rfl rfl Try.func14 (by kernel_rfl) rfl #[.int .i64 6, .int .i64 7] rfl (by (try simp only [List.map_toArray, List.map_cons, List.map_nil]); first | done | rfl | (simp only [List.length_drop, List.length_take]; rfl)) ?_; (with_reducible refine (catalogue_Find.calls k 6 7 t127 t128 t131 true _ A1.out).mono ?_); rintro e w29 ⟨v129, rfl, ho0, hb⟩; refine ⟨_, rfl, ?_⟩; have n0_ := Aside0.mk (Kd.V_lower (Kd.V_mono (ok' := fun k_ => True) ho0 (fun k_ hk_ => trivial)) (below_size (by repeat (first | (with_reducible first | exact HB.out | apply below_alloc | apply pw_below_drewN | apply below_drew1))))); have n1_ := Aside0.mk (below_step (by repeat (first | (with_reducible first | exact HB.out | apply below_alloc | apply pw_below_drewN | apply below_drew1))) hb); clear HB; have HO130 := n0_; have HB := n1_; clear n0_ n1_; (try clear hb); (try clear hb2); (try clear hk); (try clear hi); (try clear ho0)) | ((with_reducible refine gate_dst (N := 1) rfl ?_); (try (refine gate_guard (by rfl) ?_; dsimp only)); refine box_event ?hg (N := 1) ?hd (cs := #[.string (⟨#[]⟩ : ByteArray), .slice none 0 0, .int .i64 0]) (t := 25) ?hr ?_; (case hd => rfl); (case hg => rfl); (case hr => first | (go_simp; done) | (go_simp; rfl)); intro gb133 hg w30 hbox hb; have n0_ := Aside0.mk (Kd.V_below (Kd.V_elderB (by (with_reducible repeat (first | apply Kd.V_alloc | apply Kd.V_drewN | apply Kd.V_drew)); exact HO130.out) gb133 (Nat.le_of_eq hg.symm)) hb); have n1_ := Aside0.mk (below_step (by repeat (first | (with_reducible first | exact HB.out | apply below_alloc | apply pw_below_drewN | apply below_drew1))) hb); have n2_ := Aside0.mk (hbox); have n3_ := Aside0.mk ((by rw [hg]; exact (below_size (by repeat (first | (with_reducible first | exact HB.out | apply below_alloc | apply pw_below_drewN | apply below_drew1)))) : w.heap.size ≤ gb133)); have n4_ := Aside0.mk ((by rw [hg]; exact (below_size (by repeat (first | (with_reducible first | exact HB.out | apply below_alloc | apply pw_below_drewN | apply below_drew1)))) : w.heap.size ≤ gb133)); clear HO130; clear HB; have HO130 := n0_; have HB := n1_; have BK133 := n2_; have GW133 := n3_; have GE133 := n4_; clear n0_ n1_ n2_ n3_ n4_; clear hb hbox hg; have hcz31_0 : w30.cell? ⟨gb133, 0, none⟩ = some (.string (⟨#[]⟩ : ByteArray)) := (blk_cell BK133.out 0).trans rfl; have hcz31_1 : w30.cell? ⟨gb133, 1, none⟩ = some (.slice none 0 0) := (blk_cell BK133.out 1).trans rfl; have hcz31_2 : w30.cell? ⟨gb133, 2, none⟩ = some (.int .i64 0) := (blk_cell BK133.out 2).trans rfl; have hfz31_0 := blk_frozen BK133.out 0; have hfz31_1 := blk_frozen BK133.out 1; have hfz31_2 := blk_frozen BK133.out 2; obtain ⟨Ao32, co32, eo32⟩ := Kd.V_slice HO130.out; subst eo32) | ((with_reducible refine gate_callee (f := 14) rfl ?_); refine goesL_ (some 10) rfl rfl Try.func14 (by kernel_rfl) rfl #[.int .i64 7, .int .i64 6] rfl (by (try simp only [List.map_toArray, List.map_cons, List.map_nil]); first | done | rfl | (simp only [List.length_drop, List.length_take]; rfl)) ?_; (with_reducible refine (catalogue_Find.calls k 7 6 t134 t135 t138 false _ A2.out).mono ?_); rintro e w33 ⟨v136, rfl, ho0, hb⟩; refine ⟨_, rfl, ?_⟩; have n0_ := Aside0.mk (Kd.V_below (by (with_reducible repeat (first | apply Kd.V_alloc | apply Kd.V_drewN | apply Kd.V_drew)); exact (Kd.V_mono (Kd.V_far (p := ⟨gb133, 2, none⟩) (Kd.V_far (p := ⟨gb133, 1, none⟩) (Kd.V_far (p := ⟨gb133, 0, none⟩) (Kd.V_mono HO130.out (fun k_ hk => (⟨hk, hk.2⟩ : _ ∧ k_ ≠ gb133))) (fun _ hk => hk.2) (.string t127)) (fun _ hk => hk.2) (.slice Ao32 t128.length co32)) (fun _ hk => hk.2) (.int .i64 t131)) (fun _ h_ => h_.1))) hb); have n1_ := Aside0.mk (Kd.V_lower (Kd.V_mono (ok' := fun k_ => k_ ≠ gb133) ho0 (fun k_ hk_ => (Kd.freshB (g := gb133) (o := .cells #[.string t127, .slice Ao32 t128.length co32, .int .i64 t131] 25 (0, 0)) (by (with_reducible repeat (first | refine blk_drewN ?_ _ | refine blk_drew ?_ | refine blk_alloc ?_ _)); refine blk_put (cs := #[.string t127, .slice Ao32 t128.length co32, .int .i64 0]) ?_ 2 _ rfl; (with_reducible repeat (first | refine blk_drewN ?_ _ | refine blk_drew ?_ | refine blk_alloc ?_ _)); refine blk_put (cs := #[.string t127, .slice none 0 0, .int .i64 0]) ?_ 1 _ rfl; (with_reducible repeat (first | refine blk_drewN ?_ _ | refine blk_drew ?_ | refine blk_alloc ?_ _)); refine blk_put (cs := #[.string (⟨#[]⟩ : ByteArray), .slice none 0 0, .int .i64 0]) ?_ 0 _ rfl; (with_reducible repeat (first | refine blk_drewN ?_ _ | refine blk_drew ?_ | refine blk_alloc ?_ _)); exact BK133.out) k_ hk_))) (below_size (by repeat (first | (with_reducible first | exact HB.out | apply below_alloc | apply pw_below_drewN | apply below_drew1 | refine below_set ?_ GE133.out))))); have n2_ := Aside0.mk (blk_below (g := gb133) (o := .cells #[.string t127, .slice Ao32 t128.length co32, .int .i64 t131] 25 (0, 0)) (by (with_reducible repeat (first | refine blk_drewN ?_ _ | refine blk_drew ?_ | refine blk_alloc ?_ _)); refine blk_put (cs := #[.string t127, .slice Ao32 t128.length co32, .int .i64 0]) ?_ 2 _ rfl; (with_reducible repeat (first | refine blk_drewN ?_ _ | refine blk_drew ?_ | refine blk_alloc ?_ _)); refine blk_put (cs := #[.string t127, .slice none 0 0, .int .i64 0]) ?_ 1 _ rfl; (with_reducible repeat (first | refine blk_drewN ?_ _ | refine blk_drew ?_ | refine blk_alloc ?_ _)); refine blk_put (cs := #[.string (⟨#[]⟩ : ByteArray), .slice none 0 0, .int .i64 0]) ?_ 0 _ rfl; (with_reducible repeat (first | refine blk_drewN ?_ _ | refine blk_drew ?_ | refine blk_alloc ?_ _)); exact BK133.out) hb); have n3_ := Aside0.mk (below_step (by repeat (first | (with_reducible first | exact HB.out | apply below_alloc | apply pw_below_drewN | apply below_drew1 | refine below_set ?_ GE133.out))) hb); clear HO130; clear BK133; clear HB; have HO130 := n0_; have HO137 := n1_; have BK133 := n2_; have HB := n3_; clear n0_ n1_ n2_ n3_; (try clear hb); (try clear hb2); (try clear hk); (try clear hi); (try clear ho0)) | ((with_reducible refine gate_dst (N := 3) rfl ?_); (try (refine gate_guard (by rfl) ?_; dsimp only)); refine box_event ?hg (N := 3) ?hd (cs := #[.string (⟨#[]⟩ : ByteArray), .slice none 0 0, .int .i64 0]) (t := 25) ?hr ?_; (case hd => rfl); (case hg => rfl); (case hr => first | (go_simp; done) | (go_simp; rfl)); intro gb140 hg w34 hbox hb; have n0_ := Aside0.mk (Kd.V_below (Kd.V_elderB (by (with_reducible repeat (first | apply Kd.V_alloc | apply Kd.V_drewN | apply Kd.V_drew)); exact HO130.out) gb140 (Nat.le_of_eq hg.symm)) hb); have n1_ := Aside0.mk (Kd.V_below (Kd.V_elderB (by (with_reducible repeat (first | apply Kd.V_alloc | apply Kd.V_drewN | apply Kd.V_drew)); exact HO137.out) gb140 (Nat.le_of_eq hg.symm)) hb); have n2_ := Aside0.mk (blk_below (g := gb133) (o := .cells #[.string t127, .slice Ao32 t128.length co32, .int .i64 t131] 25 (0, 0)) (by (with_reducible repeat (first | refine blk_drewN ?_ _ | refine blk_drew ?_ | refine blk_alloc ?_ _)); exact BK133.out) hb); have n3_ := Aside0.mk (below_step (by repeat (first | (with_reducible first | exact HB.out | apply below_alloc | apply pw_below_drewN | apply below_drew1 | refine below_set ?_ GE133.out))) hb); have n4_ := Aside0.mk (hbox); have n5_ := Aside0.mk ((by rw [hg]; exact (below_size (by repeat (first | (with_reducible first | exact HB.out | apply below_alloc | apply pw_below_drewN | apply below_drew1 | refine below_set ?_ GE133.out)))) : w.heap.size ≤ gb140)); have n6_ := Aside0.mk ((by rw [hg]; exact (below_size (by repeat (first | (with_reducible first | exact HB.out | apply below_alloc | apply pw_below_drewN | apply below_drew1 | refine below_set ?_ GE133.out)))) : w.heap.size ≤ gb140)); have n7_ := Aside0.mk ((by rw [hg]; exact Nat.ne_of_lt (blk_lt (g := gb133) (o := .cells #[.string t127, .slice Ao32 t128.length co32, .int .i64 t131] 25 (0, 0)) (by (with_reducible repeat (first | refine blk_drewN ?_ _ | refine blk_drew ?_ | refine blk_alloc ?_ _)); exact BK133.out)) : gb133 ≠ gb140)); have n8_ := Aside0.mk ((by rw [hg]; exact Nat.ne_of_gt (blk_lt (g := gb133) (o := .cells #[.string t127, .slice Ao32 t128.length co32, .int .i64 t131] 25 (0, 0)) (by (with_reducible repeat (first | refine blk_drewN ?_ _ | refine blk_drew ?_ | refine blk_alloc ?_ _)); exact BK133.out)) : gb140 ≠ gb133)); clear HO130; clear HO137; clear BK133; clear HB; have HO130 := n0_; have HO137 := n1_; have BK133 := n2_; have HB := n3_; have BK140 := n4_; have GW140 := n5_; have GE140 := n6_; have NB133_140 := n7_; have NB140_133 := n8_; clear n0_ n1_ n2_ n3_ n4_ n5_ n6_ n7_ n8_; clear hb hbox hg; have hnb35 := NB140_133.out; have hnc35 := NB133_140.out; have hcz36_0 : w34.cell? ⟨gb140, 0, none⟩ = some (.string (⟨#[]⟩ : ByteArray)) := (blk_cell BK140.out 0).trans rfl; have hcz36_1 : w34.cell? ⟨gb140, 1, none⟩ = some (.slice none 0 0) := (blk_cell BK140.out 1).trans rfl; have hcz36_2 : w34.cell? ⟨gb140, 2, none⟩ = some (.int .i64 0) := (blk_cell BK140.out 2).trans rfl; have hfz36_0 := blk_frozen BK140.out 0; have hfz36_1 := blk_frozen BK140.out 1; have hfz36_2 := blk_frozen BK140.out 2; obtain ⟨Ao37, co37, eo37⟩ := Kd.V_slice HO137.out; subst eo37; have hcz38_0 : w34.cell? ⟨gb133, 0, none⟩ = some (.string t127) := (blk_cell BK133.out 0).trans rfl; have hcz38_1 : w34.cell? ⟨gb133, 1, none⟩ = some (.slice Ao32 t128.length co32) := (blk_cell BK133.out 1).trans rfl; have hcz38_2 : w34.cell? ⟨gb133, 2, none⟩ = some (.int .i64 t131) := (blk_cell BK133.out 2).trans rfl; have hfz38_0 := blk_frozen BK133.out 0; have hfz38_1 := blk_frozen BK133.out 1; have hfz38_2 := blk_frozen BK133.out 2))
     go_ret
     exact ⟨by first | rfl | (simp <;> rfl) | (simp [*] <;> rfl), by repeat (first | (with_reducible first | exact HB.out | apply below_alloc | apply pw_below_drewN | apply below_drew1 | refine below_set ?_ GE133.out | refine below_set ?_ GE140.out))⟩
   ·rw [if_neg c14] at H
    have c14b0 : (t127.toList == ([119, 114, 105, 116, 101, 32, 115, 107, 101, 119] : List UInt8)) = false := beq_eq_false_iff_ne.mpr c14
    have c14b1 : (t127.toList != ([119, 114, 105, 116, 101, 32, 115, 107, 101, 119] : List UInt8)) = true := bne_iff_ne.mpr c14
    obtain rfl := Option.some.inj H
    go_enter Try.func13, Try.ntmps13
    go_wp2_with (first | ((with_reducible refine gate_callee (f := 14) rfl ?_); refine goesL_ (some 6) rfl rfl Try.func14 (by kernel_rfl) rfl #[.int .i64 6, .int .i64 7] rfl (by (try simp only [List.map_toArray, List.map_cons, List.map_nil]); first | done | rfl | (simp only [List.length_drop, List.length_take]; rfl)) ?_; (with_reducible refine (catalogue_Find.calls k 6 7 t127 t128 t131 true _ A1.out).mono ?_); rintro e w39 ⟨v129, rfl, ho0, hb⟩; refine ⟨_, rfl, ?_⟩; have n0_ := Aside0.mk (Kd.V_lower (Kd.V_mono (ok' := fun k_ => True) ho0 (fun k_ hk_ => trivial)) (below_size (by repeat (first | (with_reducible first | exact HB.out | apply below_alloc | apply pw_below_drewN | apply below_drew1))))); have n1_ := Aside0.mk (below_step (by repeat (first | (with_reducible first | exact HB.out | apply below_alloc | apply pw_below_drewN | apply below_drew1))) hb); clear HB; have HO130 := n0_; have HB := n1_; clear n0_ n1_; (try clear hb); (try clear hb2); (try clear hk); (try clear hi); (try clear ho0)) | ((with_reducible refine gate_dst (N := 1) rfl ?_); (try (refine gate_guard (by rfl) ?_; dsimp only)); refine box_event ?hg (N := 1) ?hd (cs := #[.string (⟨#[]⟩ : ByteArray), .slice none 0 0, .int .i64 0]) (t := 25) ?hr ?_; (case hd => rfl); (case hg => rfl); (case hr => first | (go_simp; done) | (go_simp; rfl)); intro gb133 hg w40 hbox hb; have n0_ := Aside0.mk (Kd.V_below (Kd.V_elderB (by (with_reducible repeat (first | apply Kd.V_alloc | apply Kd.V_drewN | apply Kd.V_drew)); exact HO130.out) gb133 (Nat.le_of_eq hg.symm)) hb); have n1_ := Aside0.mk (below_step (by repeat (first | (with_reducible first | exact HB.out | apply below_alloc | apply pw_below_drewN | apply below_drew1))) hb); have n2_ := Aside0.mk (hbox); have n3_ := Aside0.mk ((by rw [hg]; exact (below_size (by repeat (first | (with_reducible first | exact HB.out | apply below_alloc | apply pw_below_drewN | apply below_drew1)))) : w.heap.size ≤ gb133)); have n4_ := Aside0.mk ((by rw [hg]; exact (below_size (by repeat (first | (with_reducible first | exact HB.out | apply below_alloc | apply pw_below_drewN | apply below_drew1)))) : w.heap.size ≤ gb133)); clear HO130; clear HB; have HO130 := n0_; have HB := n1_; have BK133 := n2_; have GW133 := n3_; have GE133 := n4_; clear n0_ n1_ n2_ n3_ n4_; clear hb hbox hg; have hcz41_0 : w40.cell? ⟨gb133, 0, none⟩ = some (.string (⟨#[]⟩ : ByteArray)) := (blk_cell BK133.out 0).trans rfl; have hcz41_1 : w40.cell? ⟨gb133, 1, none⟩ = some (.slice none 0 0) := (blk_cell BK133.out 1).trans rfl; have hcz41_2 : w40.cell? ⟨gb133, 2, none⟩ = some (.int .i64 0) := (blk_cell BK133.out 2).trans rfl; have hfz41_0 := blk_frozen BK133.out 0; have hfz41_1 := blk_frozen BK133.out 1; have hfz41_2 := blk_frozen BK133.out 2; obtain ⟨Ao42, co42, eo42⟩ := Kd.V_slice HO130.out; subst eo42) | ((with_reducible refine gate_callee (f := 14) rfl ?_); refine goesL_ (some 10) rfl rfl Try.func14 (by kernel_rfl) rfl #[.int .i64 7, .int .i64 6] rfl (by (try simp only [List.map_toArray, List.map_cons, List.map_nil]); first | done | rfl | (simp only [List.length_drop, List.length_take]; rfl)) ?_; (with_reducible refine (catalogue_Find.calls k 7 6 t134 t135 t138 false _ A2.out).mono ?_); rintro e w43 ⟨v136, rfl, ho0, hb⟩; refine ⟨_, rfl, ?_⟩; have n0_ := Aside0.mk (Kd.V_below (by (with_reducible repeat (first | apply Kd.V_alloc | apply Kd.V_drewN | apply Kd.V_drew)); exact (Kd.V_mono (Kd.V_far (p := ⟨gb133, 2, none⟩) (Kd.V_far (p := ⟨gb133, 1, none⟩) (Kd.V_far (p := ⟨gb133, 0, none⟩) (Kd.V_mono HO130.out (fun k_ hk => (⟨hk, hk.2⟩ : _ ∧ k_ ≠ gb133))) (fun _ hk => hk.2) (.string t127)) (fun _ hk => hk.2) (.slice Ao42 t128.length co42)) (fun _ hk => hk.2) (.int .i64 t131)) (fun _ h_ => h_.1))) hb); have n1_ := Aside0.mk (Kd.V_lower (Kd.V_mono (ok' := fun k_ => k_ ≠ gb133) ho0 (fun k_ hk_ => (Kd.freshB (g := gb133) (o := .cells #[.string t127, .slice Ao42 t128.length co42, .int .i64 t131] 25 (0, 0)) (by (with_reducible repeat (first | refine blk_drewN ?_ _ | refine blk_drew ?_ | refine blk_alloc ?_ _)); refine blk_put (cs := #[.string t127, .slice Ao42 t128.length co42, .int .i64 0]) ?_ 2 _ rfl; (with_reducible repeat (first | refine blk_drewN ?_ _ | refine blk_drew ?_ | refine blk_alloc ?_ _)); refine blk_put (cs := #[.string t127, .slice none 0 0, .int .i64 0]) ?_ 1 _ rfl; (with_reducible repeat (first | refine blk_drewN ?_ _ | refine blk_drew ?_ | refine blk_alloc ?_ _)); refine blk_put (cs := #[.string (⟨#[]⟩ : ByteArray), .slice none 0 0, .int .i64 0]) ?_ 0 _ rfl; (with_reducible repeat (first | refine blk_drewN ?_ _ | refine blk_drew ?_ | refine blk_alloc ?_ _)); exact BK133.out) k_ hk_))) (below_size (by repeat (first | (with_reducible first | exact HB.out | apply below_alloc | apply pw_below_drewN | apply below_drew1 | refine below_set ?_ GE133.out))))); have n2_ := Aside0.mk (blk_below (g := gb133) (o := .cells #[.string t127, .slice Ao42 t128.length co42, .int .i64 t131] 25 (0, 0)) (by (with_reducible repeat (first | refine blk_drewN ?_ _ | refine blk_drew ?_ | refine blk_alloc ?_ _)); refine blk_put (cs := #[.string t127, .slice Ao42 t128.length co42, .int .i64 0]) ?_ 2 _ rfl; (with_reducible repeat (first | refine blk_drewN ?_ _ | refine blk_drew ?_ | refine blk_alloc ?_ _)); refine blk_put (cs := #[.string t127, .slice none 0 0, .int .i64 0]) ?_ 1 _ rfl; (with_reducible repeat (first | refine blk_drewN ?_ _ | refine blk_drew ?_ | refine blk_alloc ?_ _)); refine blk_put (cs := #[.string (⟨#[]⟩ : ByteArray), .slice none 0 0, .int .i64 0]) ?_ 0 _ rfl; (with_reducible repeat (first | refine blk_drewN ?_ _ | refine blk_drew ?_ | refine blk_alloc ?_ _)); exact BK133.out) hb); have n3_ := Aside0.mk (below_step (by repeat (first | (with_reducible first | exact HB.out | apply below_alloc | apply pw_below_drewN | apply below_drew1 | refine below_set ?_ GE133.out))) hb); clear HO130; clear BK133; clear HB; have HO130 := n0_; have HO137 := n1_; have BK133 := n2_; have HB := n3_; clear n0_ n1_ n2_ n3_; (try clear hb); (try clear hb2); (try clear hk); (try clear hi); (try clear ho0)) | ((with_reducible refine gate_dst (N := 3) rfl ?_); (try (refine gate_guard (by rfl) ?_; dsimp only)); refine box_event ?hg (N := 3) ?hd (cs := #[.string (⟨#[]⟩ : ByteArray), .slice none 0 0, .int .i64 0]) (t := 25) ?hr ?_; (case hd => rfl); (case hg => rfl); (case hr => first | (go_simp; done) | (go_simp; rfl)); intro gb140 hg w44 hbox hb; have n0_ := Aside0.mk (Kd.V_below (Kd.V_elderB (by (with_reducible repeat (first | apply Kd.V_alloc | apply Kd.V_drewN | apply Kd.V_drew)); exact HO130.out) gb140 (Nat.le_of_eq hg.symm)) hb); have n1_ := Aside0.mk (Kd.V_below (Kd.V_elderB (by (with_reducible repeat (first | apply Kd.V_alloc | apply Kd.V_drewN | apply Kd.V_drew)); exact HO137.out) gb140 (Nat.le_of_eq hg.symm)) hb); have n2_ := Aside0.mk (blk_below (g := gb133) (o := .cells #[.string t127, .slice Ao42 t128.length co42, .int .i64 t131] 25 (0, 0)) (by (with_reducible repeat (first | refine blk_drewN ?_ _ | refine blk_drew ?_ | refine blk_alloc ?_ _)); exact BK133.out) hb); have n3_ := Aside0.mk (below_step (by repeat (first | (with_reducible first | exact HB.out | apply below_alloc | apply pw_below_drewN | apply below_drew1 | refine below_set ?_ GE133.out))) hb); have n4_ := Aside0.mk (hbox); have n5_ := Aside0.mk ((by rw [hg]; exact (below_size (by repeat (first | (with_reducible first | exact HB.out | apply below_alloc | apply pw_below_drewN | apply below_drew1 | refine below_set ?_ GE133.out)))) : w.heap.size ≤ gb140)); have n6_ := Aside0.mk ((by rw [hg]; exact (below_size (by repeat (first | (with_reducible first | exact HB.out | apply below_alloc | apply pw_below_drewN | apply below_drew1 | refine below_set ?_ GE133.out)))) : w.heap.size ≤ gb140)); have n7_ := Aside0.mk ((by rw [hg]; exact Nat.ne_of_lt (blk_lt (g := gb133) (o := .cells #[.string t127, .slice Ao42 t128.length co42, .int .i64 t131] 25 (0, 0)) (by (with_reducible repeat (first | refine blk_drewN ?_ _ | refine blk_drew ?_ | refine blk_alloc ?_ _)); exact BK133.out)) : gb133 ≠ gb140)); have n8_ := Aside0.mk ((by rw [hg]; exact Nat.ne_of_gt (blk_lt (g := gb133) (o := .cells #[.string t127, .slice Ao42 t128.length co42, .int .i64 t131] 25 (0, 0)) (by (with_reducible repeat (first | refine blk_drewN ?_ _ | refine blk_drew ?_ | refine blk_alloc ?_ _)); exact BK133.out)) : gb140 ≠ gb133)); clear HO130; clear HO137; clear BK133; clear HB; have HO130 := n0_; have HO137 := n1_; have BK133 := n2_; have HB := n3_; have BK140 := n4_; have GW140 := n5_; have GE140 := n6_; have NB133_140 := n7_; have NB140_133 := n8_; clear n0_ n1_ n2_ n3_ n4_ n5_ n6_ n7_ n8_; clear hb hbox hg; have hnb45 := NB140_133.out; have hnc45 := NB133_140.out; have hcz46_0 : w44.cell? ⟨gb140, 0, none⟩ = some (.string (⟨#[]⟩ : ByteArray)) := (blk_cell BK140.out 0).trans rfl; have hcz46_1 : w44.cell? ⟨gb140, 1, none⟩ = some (.slice none 0 0) := (blk_cell BK140.out 1).trans rfl; have hcz46_2 : w44.cell? ⟨gb140, 2, none⟩ = some (.int .i64 0) := (blk_cell BK140.out 2).trans rfl; have hfz46_0 := blk_frozen BK140.out 0; have hfz46_1 := blk_frozen BK140.out 1; have hfz46_2 := blk_frozen BK140.out 2; obtain ⟨Ao47, co47, eo47⟩ := Kd.V_slice HO137.out; subst eo47; have hcz48_0 : w44.cell? ⟨gb133, 0, none⟩ = some (.string t127) := (blk_cell BK133.out 0).trans rfl; have hcz48_1 : w44.cell? ⟨gb133, 1, none⟩ = some (.slice Ao42 t128.length co42) := (blk_cell BK133.out 1).trans rfl; have hcz48_2 : w44.cell? ⟨gb133, 2, none⟩ = some (.int .i64 t131) := (blk_cell BK133.out 2).trans rfl; have hfz48_0 := blk_frozen BK133.out 0; have hfz48_1 := blk_frozen BK133.out 1; have hfz48_2 := blk_frozen BK133.out 2))
    go_ret
    exact ⟨by first | rfl | (simp <;> rfl) | (simp [*] <;> rfl), by repeat (first | (with_reducible first | exact HB.out | apply below_alloc | apply pw_below_drewN | apply below_drew1 | refine below_set ?_ GE133.out | refine below_set ?_ GE140.out))⟩
 ·replace c3 := Bool.eq_false_iff.mpr c3
  subst c3
  have H1 : (some false) = some r := by rw [if_neg (show ¬ (false = true) by decide)] at H; exact H
  clear H
  have H := H1
  clear H1
  obtain rfl := Option.some.inj H
  go_enter Try.func13, Try.ntmps13
  go_wp2_with (first | ((with_reducible refine gate_callee (f := 14) rfl ?_); refine goesL_ (some 6) rfl rfl Try.func14 (by kernel_rfl) rfl #[.int .i64 6, .int .i64 7] rfl (by (try simp only [List.map_toArray, List.map_cons, List.map_nil]); first | done | rfl | (simp only [List.length_drop, List.length_take]; rfl)) ?_; (with_reducible refine (catalogue_Find.calls k 6 7 t127 t128 t131 false _ A1.out).mono ?_); rintro e w49 ⟨v129, rfl, ho0, hb⟩; refine ⟨_, rfl, ?_⟩; have n0_ := Aside0.mk (Kd.V_lower (Kd.V_mono (ok' := fun k_ => True) ho0 (fun k_ hk_ => trivial)) (below_size (by repeat (first | (with_reducible first | exact HB.out | apply below_alloc | apply pw_below_drewN | apply below_drew1))))); have n1_ := Aside0.mk (below_step (by repeat (first | (with_reducible first | exact HB.out | apply below_alloc | apply pw_below_drewN | apply below_drew1))) hb); clear HB; have HO130 := n0_; have HB := n1_; clear n0_ n1_; (try clear hb); (try clear hb2); (try clear hk); (try clear hi); (try clear ho0)) | ((with_reducible refine gate_dst (N := 1) rfl ?_); (try (refine gate_guard (by rfl) ?_; dsimp only)); refine box_event ?hg (N := 1) ?hd (cs := #[.string (⟨#[]⟩ : ByteArray), .slice none 0 0, .int .i64 0]) (t := 25) ?hr ?_; (case hd => rfl); (case hg => rfl); (case hr => first | (go_simp; done) | (go_simp; rfl)); intro gb133 hg w50 hbox hb; have n0_ := Aside0.mk (Kd.V_below (Kd.V_elderB (by (with_reducible repeat (first | apply Kd.V_alloc | apply Kd.V_drewN | apply Kd.V_drew)); exact HO130.out) gb133 (Nat.le_of_eq hg.symm)) hb); have n1_ := Aside0.mk (below_step (by repeat (first | (with_reducible first | exact HB.out | apply below_alloc | apply pw_below_drewN | apply below_drew1))) hb); have n2_ := Aside0.mk (hbox); have n3_ := Aside0.mk ((by rw [hg]; exact (below_size (by repeat (first | (with_reducible first | exact HB.out | apply below_alloc | apply pw_below_drewN | apply below_drew1)))) : w.heap.size ≤ gb133)); have n4_ := Aside0.mk ((by rw [hg]; exact (below_size (by repeat (first | (with_reducible first | exact HB.out | apply below_alloc | apply pw_below_drewN | apply below_drew1)))) : w.heap.size ≤ gb133)); clear HO130; clear HB; have HO130 := n0_; have HB := n1_; have BK133 := n2_; have GW133 := n3_; have GE133 := n4_; clear n0_ n1_ n2_ n3_ n4_; clear hb hbox hg; have hcz51_0 : w50.cell? ⟨gb133, 0, none⟩ = some (.string (⟨#[]⟩ : ByteArray)) := (blk_cell BK133.out 0).trans rfl; have hcz51_1 : w50.cell? ⟨gb133, 1, none⟩ = some (.slice none 0 0) := (blk_cell BK133.out 1).trans rfl; have hcz51_2 : w50.cell? ⟨gb133, 2, none⟩ = some (.int .i64 0) := (blk_cell BK133.out 2).trans rfl; have hfz51_0 := blk_frozen BK133.out 0; have hfz51_1 := blk_frozen BK133.out 1; have hfz51_2 := blk_frozen BK133.out 2; obtain ⟨Ao52, co52, eo52⟩ := Kd.V_slice HO130.out; subst eo52) | ((with_reducible refine gate_callee (f := 14) rfl ?_); refine goesL_ (some 10) rfl rfl Try.func14 (by kernel_rfl) rfl #[.int .i64 7, .int .i64 6] rfl (by (try simp only [List.map_toArray, List.map_cons, List.map_nil]); first | done | rfl | (simp only [List.length_drop, List.length_take]; rfl)) ?_; (with_reducible refine (catalogue_Find.calls k 7 6 t134 t135 t138 t139 _ A2.out).mono ?_); rintro e w53 ⟨v136, rfl, ho0, hb⟩; refine ⟨_, rfl, ?_⟩; have n0_ := Aside0.mk (Kd.V_below (by (with_reducible repeat (first | apply Kd.V_alloc | apply Kd.V_drewN | apply Kd.V_drew)); exact (Kd.V_mono (Kd.V_far (p := ⟨gb133, 2, none⟩) (Kd.V_far (p := ⟨gb133, 1, none⟩) (Kd.V_far (p := ⟨gb133, 0, none⟩) (Kd.V_mono HO130.out (fun k_ hk => (⟨hk, hk.2⟩ : _ ∧ k_ ≠ gb133))) (fun _ hk => hk.2) (.string t127)) (fun _ hk => hk.2) (.slice Ao52 t128.length co52)) (fun _ hk => hk.2) (.int .i64 t131)) (fun _ h_ => h_.1))) hb); have n1_ := Aside0.mk (Kd.V_lower (Kd.V_mono (ok' := fun k_ => k_ ≠ gb133) ho0 (fun k_ hk_ => (Kd.freshB (g := gb133) (o := .cells #[.string t127, .slice Ao52 t128.length co52, .int .i64 t131] 25 (0, 0)) (by (with_reducible repeat (first | refine blk_drewN ?_ _ | refine blk_drew ?_ | refine blk_alloc ?_ _)); refine blk_put (cs := #[.string t127, .slice Ao52 t128.length co52, .int .i64 0]) ?_ 2 _ rfl; (with_reducible repeat (first | refine blk_drewN ?_ _ | refine blk_drew ?_ | refine blk_alloc ?_ _)); refine blk_put (cs := #[.string t127, .slice none 0 0, .int .i64 0]) ?_ 1 _ rfl; (with_reducible repeat (first | refine blk_drewN ?_ _ | refine blk_drew ?_ | refine blk_alloc ?_ _)); refine blk_put (cs := #[.string (⟨#[]⟩ : ByteArray), .slice none 0 0, .int .i64 0]) ?_ 0 _ rfl; (with_reducible repeat (first | refine blk_drewN ?_ _ | refine blk_drew ?_ | refine blk_alloc ?_ _)); exact BK133.out) k_ hk_))) (below_size (by repeat (first | (with_reducible first | exact HB.out | apply below_alloc | apply pw_below_drewN | apply below_drew1 | refine below_set ?_ GE133.out))))); have n2_ := Aside0.mk (blk_below (g := gb133) (o := .cells #[.string t127, .slice Ao52 t128.length co52, .int .i64 t131] 25 (0, 0)) (by (with_reducible repeat (first | refine blk_drewN ?_ _ | refine blk_drew ?_ | refine blk_alloc ?_ _)); refine blk_put (cs := #[.string t127, .slice Ao52 t128.length co52, .int .i64 0]) ?_ 2 _ rfl; (with_reducible repeat (first | refine blk_drewN ?_ _ | refine blk_drew ?_ | refine blk_alloc ?_ _)); refine blk_put (cs := #[.string t127, .slice none 0 0, .int .i64 0]) ?_ 1 _ rfl; (with_reducible repeat (first | refine blk_drewN ?_ _ | refine blk_drew ?_ | refine blk_alloc ?_ _)); refine blk_put (cs := #[.string (⟨#[]⟩ : ByteArray), .slice none 0 0, .int .i64 0]) ?_ 0 _ rfl; (with_reducible repeat (first | refine blk_drewN ?_ _ | refine blk_drew ?_ | refine blk_alloc ?_ _)); exact BK133.out) hb); have n3_ := Aside0.mk (below_step (by repeat (first | (with_reducible first | exact HB.out | apply below_alloc | apply pw_below_drewN | apply below_drew1 | refine below_set ?_ GE133.out))) hb); clear HO130; clear BK133; clear HB; have HO130 := n0_; have HO137 := n1_; have BK133 := n2_; have HB := n3_; clear n0_ n1_ n2_ n3_; (try clear hb); (try clear hb2); (try clear hk); (try clear hi); (try clear ho0)) | ((with_reducible refine gate_dst (N := 3) rfl ?_); (try (refine gate_guard (by rfl) ?_; dsimp only)); refine box_event ?hg (N := 3) ?hd (cs := #[.string (⟨#[]⟩ : ByteArray), .slice none 0 0, .int .i64 0]) (t := 25) ?hr ?_; (case hd => rfl); (case hg => rfl); (case hr => first | (go_simp; done) | (go_simp; rfl)); intro gb140 hg w54 hbox hb; have n0_ := Aside0.mk (Kd.V_below (Kd.V_elderB (by (with_reducible repeat (first | apply Kd.V_alloc | apply Kd.V_drewN | apply Kd.V_drew)); exact HO130.out) gb140 (Nat.le_of_eq hg.symm)) hb); have n1_ := Aside0.mk (Kd.V_below (Kd.V_elderB (by (with_reducible repeat (first | apply Kd.V_alloc | apply Kd.V_drewN | apply Kd.V_drew)); exact HO137.out) gb140 (Nat.le_of_eq hg.symm)) hb); have n2_ := Aside0.mk (blk_below (g := gb133) (o := .cells #[.string t127, .slice Ao52 t128.length co52, .int .i64 t131] 25 (0, 0)) (by (with_reducible repeat (first | refine blk_drewN ?_ _ | refine blk_drew ?_ | refine blk_alloc ?_ _)); exact BK133.out) hb); have n3_ := Aside0.mk (below_step (by repeat (first | (with_reducible first | exact HB.out | apply below_alloc | apply pw_below_drewN | apply below_drew1 | refine below_set ?_ GE133.out))) hb); have n4_ := Aside0.mk (hbox); have n5_ := Aside0.mk ((by rw [hg]; exact (below_size (by repeat (first | (with_reducible first | exact HB.out | apply below_alloc | apply pw_below_drewN | apply below_drew1 | refine below_set ?_ GE133.out)))) : w.heap.size ≤ gb140)); have n6_ := Aside0.mk ((by rw [hg]; exact (below_size (by repeat (first | (with_reducible first | exact HB.out | apply below_alloc | apply pw_below_drewN | apply below_drew1 | refine below_set ?_ GE133.out)))) : w.heap.size ≤ gb140)); have n7_ := Aside0.mk ((by rw [hg]; exact Nat.ne_of_lt (blk_lt (g := gb133) (o := .cells #[.string t127, .slice Ao52 t128.length co52, .int .i64 t131] 25 (0, 0)) (by (with_reducible repeat (first | refine blk_drewN ?_ _ | refine blk_drew ?_ | refine blk_alloc ?_ _)); exact BK133.out)) : gb133 ≠ gb140)); have n8_ := Aside0.mk ((by rw [hg]; exact Nat.ne_of_gt (blk_lt (g := gb133) (o := .cells #[.string t127, .slice Ao52 t128.length co52, .int .i64 t131] 25 (0, 0)) (by (with_reducible repeat (first | refine blk_drewN ?_ _ | refine blk_drew ?_ | refine blk_alloc ?_ _)); exact BK133.out)) : gb140 ≠ gb133)); clear HO130; clear HO137; clear BK133; clear HB; have HO130 := n0_; have HO137 := n1_; have BK133 := n2_; have HB := n3_; have BK140 := n4_; have GW140 := n5_; have GE140 := n6_; have NB133_140 := n7_; have NB140_133 := n8_; clear n0_ n1_ n2_ n3_ n4_ n5_ n6_ n7_ n8_; clear hb hbox hg; have hnb55 := NB140_133.out; have hnc55 := NB133_140.out; have hcz56_0 : w54.cell? ⟨gb140, 0, none⟩ = some (.string (⟨#[]⟩ : ByteArray)) := (blk_cell BK140.out 0).trans rfl; have hcz56_1 : w54.cell? ⟨gb140, 1, none⟩ = some (.slice none 0 0) := (blk_cell BK140.out 1).trans rfl; have hcz56_2 : w54.cell? ⟨gb140, 2, none⟩ = some (.int .i64 0) := (blk_cell BK140.out 2).trans rfl; have hfz56_0 := blk_frozen BK140.out 0; have hfz56_1 := blk_frozen BK140.out 1; have hfz56_2 := blk_frozen BK140.out 2; obtain ⟨Ao57, co57, eo57⟩ := Kd.V_slice HO137.out; subst eo57))
  go_ret
  exact ⟨by first | rfl | (simp <;> rfl) | (simp [*] <;> rfl), by repeat (first | (with_reducible first | exact HB.out | apply below_alloc | apply pw_below_drewN | apply below_drew1 | refine below_set ?_ GE133.out | refine below_set ?_ GE140.out))⟩
def ref09_Has.f (a0 : Int) (a1 : Int) : Option (Bool) := if a1 = 0 then (none) else (some ((Int.tmod (wrap64 (Int.tdiv a0 a1)) 2) == 1))
set_option maxHeartbeats 8000000 in
set_option maxRecDepth 100000 in
theorem ref09_Has.calls (a0 : Int) (a1 : Int) (r : Bool) (w : World) (h : ref09_Has.f a0 a1 = some r) :
  Calls Try.prog 18 #[.int .i64 a0, .int .i64 a1] w fun e w' => e = .returned (.bool r) ∧ Drawn0 w w' := by
 have H : (if a1 = 0 then (none) else (some ((Int.tmod (wrap64 (Int.tdiv a0 a1)) 2) == 1))) = some r := h
 clear h
 by_cases c3 : a1 = 0
 ·rw [if_pos c3] at H
  exact absurd H (by simp)
 ·rw [if_neg c3] at H
  have c3b0 : (a1 == 0) = false := beq_eq_false_iff_ne.mpr c3
  have c3b1 : (a1 != 0) = true := bne_iff_ne.mpr c3
  obtain rfl := Option.some.inj H
  go_enter Try.func18, Try.ntmps18
  go_wp2
  go_ret
  exact ⟨by first | rfl | (simp; done) | (simp [*]; done), by repeat (first | exact Drawn0.refl _ | apply Drawn0.step)⟩
def ref09_Asks.f (a0 : Int) : Option (Int) := if a0 = 1 then (some 1) else (if a0 = 2 then (some 3) else (if a0 = 3 then (some 9) else (if a0 = 4 then (some 5) else (if a0 = 5 then (some 11) else (if a0 = 6 then (some 13) else (if a0 = 7 then (some 17) else (if a0 = 8 then (some 34) else (if a0 = 9 then (some 36) else (if a0 = 10 then (some 44) else (if a0 = 11 then (some 48) else (some 0)))))))))))
set_option maxHeartbeats 8000000 in
set_option maxRecDepth 100000 in
theorem ref09_Asks.calls (a0 : Int) (r : Int) (w : World) (h : ref09_Asks.f a0 = some r) :
  Calls Try.prog 19 #[.int .i64 a0] w fun e w' => e = .returned (.int .i64 r) ∧ Drawn0 w w' := by
 have H : (if a0 = 1 then (some 1) else (if a0 = 2 then (some 3) else (if a0 = 3 then (some 9) else (if a0 = 4 then (some 5) else (if a0 = 5 then (some 11) else (if a0 = 6 then (some 13) else (if a0 = 7 then (some 17) else (if a0 = 8 then (some 34) else (if a0 = 9 then (some 36) else (if a0 = 10 then (some 44) else (if a0 = 11 then (some 48) else (some 0)))))))))))) = some r := h
 clear h
 by_cases c2 : a0 = 1
 ·rw [if_pos c2] at H
  have c2b0 : (a0 == 1) = true := beq_iff_eq.mpr c2
  have c2b1 : (a0 != 1) = false := bne_eq_false_iff_eq.mpr c2
  clear c2
  obtain rfl := Option.some.inj H
  go_enter Try.func19, Try.ntmps19
  go_wp2
  go_ret
  exact ⟨by first | rfl | (simp; done) | (simp [*]; done), by repeat (first | exact Drawn0.refl _ | apply Drawn0.step)⟩
 ·rw [if_neg c2] at H
  have c2b0 : (a0 == 1) = false := beq_eq_false_iff_ne.mpr c2
  have c2b1 : (a0 != 1) = true := bne_iff_ne.mpr c2
  by_cases c3 : a0 = 2
  ·rw [if_pos c3] at H
   have c3b0 : (a0 == 2) = true := beq_iff_eq.mpr c3
   have c3b1 : (a0 != 2) = false := bne_eq_false_iff_eq.mpr c3
   clear c3
   obtain rfl := Option.some.inj H
   go_enter Try.func19, Try.ntmps19
   go_wp2
   go_ret
   exact ⟨by first | rfl | (simp; done) | (simp [*]; done), by repeat (first | exact Drawn0.refl _ | apply Drawn0.step)⟩
  ·rw [if_neg c3] at H
   have c3b0 : (a0 == 2) = false := beq_eq_false_iff_ne.mpr c3
   have c3b1 : (a0 != 2) = true := bne_iff_ne.mpr c3
   by_cases c4 : a0 = 3
   ·rw [if_pos c4] at H
    have c4b0 : (a0 == 3) = true := beq_iff_eq.mpr c4
    have c4b1 : (a0 != 3) = false := bne_eq_false_iff_eq.mpr c4
    clear c4
    obtain rfl := Option.some.inj H
    go_enter Try.func19, Try.ntmps19
    go_wp2
    go_ret
    exact ⟨by first | rfl | (simp; done) | (simp [*]; done), by repeat (first | exact Drawn0.refl _ | apply Drawn0.step)⟩
   ·rw [if_neg c4] at H
    have c4b0 : (a0 == 3) = false := beq_eq_false_iff_ne.mpr c4
    have c4b1 : (a0 != 3) = true := bne_iff_ne.mpr c4
    by_cases c5 : a0 = 4
    ·rw [if_pos c5] at H
     have c5b0 : (a0 == 4) = true := beq_iff_eq.mpr c5
     have c5b1 : (a0 != 4) = false := bne_eq_false_iff_eq.mpr c5
     clear c5
     obtain rfl := Option.some.inj H
     go_enter Try.func19, Try.ntmps19
     go_wp2
     go_ret
     exact ⟨by first | rfl | (simp; done) | (simp [*]; done), by repeat (first | exact Drawn0.refl _ | apply Drawn0.step)⟩
    ·rw [if_neg c5] at H
     have c5b0 : (a0 == 4) = false := beq_eq_false_iff_ne.mpr c5
     have c5b1 : (a0 != 4) = true := bne_iff_ne.mpr c5
     by_cases c6 : a0 = 5
     ·rw [if_pos c6] at H
      have c6b0 : (a0 == 5) = true := beq_iff_eq.mpr c6
      have c6b1 : (a0 != 5) = false := bne_eq_false_iff_eq.mpr c6
      clear c6
      obtain rfl := Option.some.inj H
      go_enter Try.func19, Try.ntmps19
      go_wp2
      go_ret
      exact ⟨by first | rfl | (simp; done) | (simp [*]; done), by repeat (first | exact Drawn0.refl _ | apply Drawn0.step)⟩
     ·rw [if_neg c6] at H
      have c6b0 : (a0 == 5) = false := beq_eq_false_iff_ne.mpr c6
      have c6b1 : (a0 != 5) = true := bne_iff_ne.mpr c6
      by_cases c7 : a0 = 6
      ·rw [if_pos c7] at H
       have c7b0 : (a0 == 6) = true := beq_iff_eq.mpr c7
       have c7b1 : (a0 != 6) = false := bne_eq_false_iff_eq.mpr c7
       clear c7
       obtain rfl := Option.some.inj H
       go_enter Try.func19, Try.ntmps19
       go_wp2
       go_ret
       exact ⟨by first | rfl | (simp; done) | (simp [*]; done), by repeat (first | exact Drawn0.refl _ | apply Drawn0.step)⟩
      ·rw [if_neg c7] at H
       have c7b0 : (a0 == 6) = false := beq_eq_false_iff_ne.mpr c7
       have c7b1 : (a0 != 6) = true := bne_iff_ne.mpr c7
       by_cases c8 : a0 = 7
       ·rw [if_pos c8] at H
        have c8b0 : (a0 == 7) = true := beq_iff_eq.mpr c8
        have c8b1 : (a0 != 7) = false := bne_eq_false_iff_eq.mpr c8
        clear c8
        obtain rfl := Option.some.inj H
        go_enter Try.func19, Try.ntmps19
        go_wp2
        go_ret
        exact ⟨by first | rfl | (simp; done) | (simp [*]; done), by repeat (first | exact Drawn0.refl _ | apply Drawn0.step)⟩
       ·rw [if_neg c8] at H
        have c8b0 : (a0 == 7) = false := beq_eq_false_iff_ne.mpr c8
        have c8b1 : (a0 != 7) = true := bne_iff_ne.mpr c8
        by_cases c9 : a0 = 8
        ·rw [if_pos c9] at H
         have c9b0 : (a0 == 8) = true := beq_iff_eq.mpr c9
         have c9b1 : (a0 != 8) = false := bne_eq_false_iff_eq.mpr c9
         clear c9
         obtain rfl := Option.some.inj H
         go_enter Try.func19, Try.ntmps19
         go_wp2
         go_ret
         exact ⟨by first | rfl | (simp; done) | (simp [*]; done), by repeat (first | exact Drawn0.refl _ | apply Drawn0.step)⟩
        ·rw [if_neg c9] at H
         have c9b0 : (a0 == 8) = false := beq_eq_false_iff_ne.mpr c9
         have c9b1 : (a0 != 8) = true := bne_iff_ne.mpr c9
         by_cases c10 : a0 = 9
         ·rw [if_pos c10] at H
          have c10b0 : (a0 == 9) = true := beq_iff_eq.mpr c10
          have c10b1 : (a0 != 9) = false := bne_eq_false_iff_eq.mpr c10
          clear c10
          obtain rfl := Option.some.inj H
          go_enter Try.func19, Try.ntmps19
          go_wp2
          go_ret
          exact ⟨by first | rfl | (simp; done) | (simp [*]; done), by repeat (first | exact Drawn0.refl _ | apply Drawn0.step)⟩
         ·rw [if_neg c10] at H
          have c10b0 : (a0 == 9) = false := beq_eq_false_iff_ne.mpr c10
          have c10b1 : (a0 != 9) = true := bne_iff_ne.mpr c10
          by_cases c11 : a0 = 10
          ·rw [if_pos c11] at H
           have c11b0 : (a0 == 10) = true := beq_iff_eq.mpr c11
           have c11b1 : (a0 != 10) = false := bne_eq_false_iff_eq.mpr c11
           clear c11
           obtain rfl := Option.some.inj H
           go_enter Try.func19, Try.ntmps19
           go_wp2
           go_ret
           exact ⟨by first | rfl | (simp; done) | (simp [*]; done), by repeat (first | exact Drawn0.refl _ | apply Drawn0.step)⟩
          ·rw [if_neg c11] at H
           have c11b0 : (a0 == 10) = false := beq_eq_false_iff_ne.mpr c11
           have c11b1 : (a0 != 10) = true := bne_iff_ne.mpr c11
           by_cases c12 : a0 = 11
           ·rw [if_pos c12] at H
            have c12b0 : (a0 == 11) = true := beq_iff_eq.mpr c12
            have c12b1 : (a0 != 11) = false := bne_eq_false_iff_eq.mpr c12
            clear c12
            obtain rfl := Option.some.inj H
            go_enter Try.func19, Try.ntmps19
            go_wp2
            go_ret
            exact ⟨by first | rfl | (simp; done) | (simp [*]; done), by repeat (first | exact Drawn0.refl _ | apply Drawn0.step)⟩
           ·rw [if_neg c12] at H
            have c12b0 : (a0 == 11) = false := beq_eq_false_iff_ne.mpr c12
            have c12b1 : (a0 != 11) = true := bne_iff_ne.mpr c12
            obtain rfl := Option.some.inj H
            go_enter Try.func19, Try.ntmps19
            go_wp2
            go_ret
            exact ⟨by first | rfl | (simp; done) | (simp [*]; done), by repeat (first | exact Drawn0.refl _ | apply Drawn0.step)⟩
end Go.Proofs.Ytfocaefnmfkojaa.Q
namespace Go.Proofs.Ytfocaefnmfkojaa.Q
open Go.RowKit Go.Proofs.YtfocaefnmfkojaaW.PrintWords Go.Proofs.YtfocaefnmfkojaaW.PrintLast Go.Proofs.YtfocaefnmfkojaaW.PrintMore
attribute [local go_sem] max2_int min2_int max_two min_two max_three min_three max_four min_four   -- for this text's walks alone
set_option linter.unusedVariables false
set_option linter.unusedSimpArgs false
mutual
def ref09_Closed.j0 : Nat → Int → Int → Bool → Bool → Option (Int)
 | 0, _, _, _, _ => none
 | k + 1, x0, x3, x4, x5 => (ref09_Has.f x0 32).bind fun t146 => ((ref09_Has.f x0 1).bind fun t147 => (if t147 = true then (ref09_Closed.j1 k x0 x3 x4 x5 t146 true) else (ref09_Closed.j1 k x0 x3 x4 x5 t146 t146)))
def ref09_Closed.j1 : Nat → Int → Int → Bool → Bool → Bool → Bool → Option (Int)
 | 0, _, _, _, _, _, _ => none
 | k + 1, x0, x3, x4, x5, x6, x20 => if x20 = true then (ref09_Closed.j2 k x0 (wrap64 (x3 + 1)) x4 x5 x6) else (ref09_Closed.j2 k x0 x3 x4 x5 x6)
def ref09_Closed.j2 : Nat → Int → Int → Bool → Bool → Bool → Option (Int)
 | 0, _, _, _, _, _ => none
 | k + 1, x0, x3, x4, x5, x6 => (ref09_Has.f x0 2).bind fun t148 => (if t148 = true then (ref09_Closed.j3 k x0 x3 x4 x5 x6 true) else (ref09_Closed.j3 k x0 x3 x4 x5 x6 x5))
def ref09_Closed.j3 : Nat → Int → Int → Bool → Bool → Bool → Bool → Option (Int)
 | 0, _, _, _, _, _, _ => none
 | k + 1, x0, x3, x4, x5, x6, x27 => if x27 = true then (ref09_Closed.j4 k x0 (wrap64 (x3 + 2)) x4 x5 x6) else (ref09_Closed.j4 k x0 x3 x4 x5 x6)
def ref09_Closed.j4 : Nat → Int → Int → Bool → Bool → Bool → Option (Int)
 | 0, _, _, _, _, _ => none
 | k + 1, x0, x3, x4, x5, x6 => if x5 = true then (ref09_Closed.j5 k x0 (wrap64 (x3 + 4)) x4 x6) else (ref09_Closed.j5 k x0 x3 x4 x6)
def ref09_Closed.j5 : Nat → Int → Int → Bool → Bool → Option (Int)
 | 0, _, _, _, _ => none
 | k + 1, x0, x3, x4, x6 => (ref09_Has.f x0 8).bind fun t149 => (if t149 = true then (ref09_Closed.j6 k x3 x4 x6 true) else (ref09_Closed.j6 k x3 x4 x6 x4))
def ref09_Closed.j6 : Nat → Int → Bool → Bool → Bool → Option (Int)
 | 0, _, _, _, _ => none
 | k + 1, x3, x4, x6, x37 => if x37 = true then (ref09_Closed.j7 k (wrap64 (x3 + 8)) x4 x6) else (ref09_Closed.j7 k x3 x4 x6)
def ref09_Closed.j7 : Nat → Int → Bool → Bool → Option (Int)
 | 0, _, _, _ => none
 | k + 1, x3, x4, x6 => if x4 = true then (if x6 = true then (some (wrap64 ((wrap64 (x3 + 16)) + 32))) else (some (wrap64 (x3 + 16)))) else (if x6 = true then (some (wrap64 (x3 + 32))) else (some x3))
end
def ref09_Closed.f (k : Nat) (a0 : Int) : Option (Int) := (ref09_Has.f a0 16).bind fun t144 => ((ref09_Has.f a0 4).bind fun t145 => (if t145 = true then (ref09_Closed.j0 k a0 0 t144 true) else (ref09_Closed.j0 k a0 0 t144 t144)))
theorem ref09_Closed.mono_l : ∀ k, (∀ y0 y1 y2 y3, LeO (ref09_Closed.j0 k y0 y1 y2 y3) (ref09_Closed.j0 (k + 1) y0 y1 y2 y3)) ∧ (∀ y0 y1 y2 y3 y4 y5, LeO (ref09_Closed.j1 k y0 y1 y2 y3 y4 y5) (ref09_Closed.j1 (k + 1) y0 y1 y2 y3 y4 y5)) ∧ (∀ y0 y1 y2 y3 y4, LeO (ref09_Closed.j2 k y0 y1 y2 y3 y4) (ref09_Closed.j2 (k + 1) y0 y1 y2 y3 y4)) ∧ (∀ y0 y1 y2 y3 y4 y5, LeO (ref09_Closed.j3 k y0 y1 y2 y3 y4 y5) (ref09_Closed.j3 (k + 1) y0 y1 y2 y3 y4 y5)) ∧ (∀ y0 y1 y2 y3 y4, LeO (ref09_Closed.j4 k y0 y1 y2 y3 y4) (ref09_Closed.j4 (k + 1) y0 y1 y2 y3 y4)) ∧ (∀ y0 y1 y2 y3, LeO (ref09_Closed.j5 k y0 y1 y2 y3) (ref09_Closed.j5 (k + 1) y0 y1 y2 y3)) ∧ (∀ y0 y1 y2 y3, LeO (ref09_Closed.j6 k y0 y1 y2 y3) (ref09_Closed.j6 (k + 1) y0 y1 y2 y3)) ∧ (∀ y0 y1 y2, LeO (ref09_Closed.j7 k y0 y1 y2) (ref09_Closed.j7 (k + 1) y0 y1 y2))
 | 0 => ⟨fun _ _ _ _ r h => by simp [ref09_Closed.j0] at h, fun _ _ _ _ _ _ r h => by simp [ref09_Closed.j1] at h, fun _ _ _ _ _ r h => by simp [ref09_Closed.j2] at h, fun _ _ _ _ _ _ r h => by simp [ref09_Closed.j3] at h, fun _ _ _ _ _ r h => by simp [ref09_Closed.j4] at h, fun _ _ _ _ r h => by simp [ref09_Closed.j5] at h, fun _ _ _ _ r h => by simp [ref09_Closed.j6] at h, fun _ _ _ r h => by simp [ref09_Closed.j7] at h⟩
 | k + 1 => by
  obtain ⟨ih0, ih1, ih2, ih3, ih4, ih5, ih6, ih7⟩ := ref09_Closed.mono_l k
  refine ⟨?_, ?_, ?_, ?_, ?_, ?_, ?_, ?_⟩
  ·intro y0 y1 y2 y3
   unfold ref09_Closed.j0
   repeat' first
   | (with_reducible exact ih0 _ _ _ _)
   | (with_reducible exact ih1 _ _ _ _ _ _)
   | (with_reducible exact ih2 _ _ _ _ _)
   | (with_reducible exact ih3 _ _ _ _ _ _)
   | (with_reducible exact ih4 _ _ _ _ _)
   | (with_reducible exact ih5 _ _ _ _)
   | (with_reducible exact ih6 _ _ _ _)
   | (with_reducible exact ih7 _ _ _)
   | (with_reducible exact LeO.refl _)
   | (with_reducible exact LeO.none _)
   | (with_reducible refine LeO.ite ?_ ?_)
   | (with_reducible refine LeO.bind ?_ (fun _ => ?_))
   | exact ih0 _ _ _ _
   | exact ih1 _ _ _ _ _ _
   | exact ih2 _ _ _ _ _
   | exact ih3 _ _ _ _ _ _
   | exact ih4 _ _ _ _ _
   | exact ih5 _ _ _ _
   | exact ih6 _ _ _ _
   | exact ih7 _ _ _
   | exact LeO.none _
   | refine LeO.ite ?_ ?_
   | refine LeO.bind ?_ (fun _ => ?_)
  ·intro y0 y1 y2 y3 y4 y5
   unfold ref09_Closed.j1
   repeat' first
   | (with_reducible exact ih0 _ _ _ _)
   | (with_reducible exact ih1 _ _ _ _ _ _)
   | (with_reducible exact ih2 _ _ _ _ _)
   | (with_reducible exact ih3 _ _ _ _ _ _)
   | (with_reducible exact ih4 _ _ _ _ _)
   | (with_reducible exact ih5 _ _ _ _)
   | (with_reducible exact ih6 _ _ _ _)
   | (with_reducible exact ih7 _ _ _)
   | (with_reducible exact LeO.refl _)
   | (with_reducible exact LeO.none _)
   | (with_reducible refine LeO.ite ?_ ?_)
   | (with_reducible refine LeO.bind ?_ (fun _ => ?_))
   | exact ih0 _ _ _ _
   | exact ih1 _ _ _ _ _ _
   | exact ih2 _ _ _ _ _
   | exact ih3 _ _ _ _ _ _
   | exact ih4 _ _ _ _ _
   | exact ih5 _ _ _ _
   | exact ih6 _ _ _ _
   | exact ih7 _ _ _
   | exact LeO.none _
   | refine LeO.ite ?_ ?_
   | refine LeO.bind ?_ (fun _ => ?_)
  ·intro y0 y1 y2 y3 y4
   unfold ref09_Closed.j2
   repeat' first
   | (with_reducible exact ih0 _ _ _ _)
   | (with_reducible exact ih1 _ _ _ _ _ _)
   | (with_reducible exact ih2 _ _ _ _ _)
   | (with_reducible exact ih3 _ _ _ _ _ _)
   | (with_reducible exact ih4 _ _ _ _ _)
   | (with_reducible exact ih5 _ _ _ _)
   | (with_reducible exact ih6 _ _ _ _)
   | (with_reducible exact ih7 _ _ _)
   | (with_reducible exact LeO.refl _)
   | (with_reducible exact LeO.none _)
   | (with_reducible refine LeO.ite ?_ ?_)
   | (with_reducible refine LeO.bind ?_ (fun _ => ?_))
   | exact ih0 _ _ _ _
   | exact ih1 _ _ _ _ _ _
   | exact ih2 _ _ _ _ _
   | exact ih3 _ _ _ _ _ _
   | exact ih4 _ _ _ _ _
   | exact ih5 _ _ _ _
   | exact ih6 _ _ _ _
   | exact ih7 _ _ _
   | exact LeO.none _
   | refine LeO.ite ?_ ?_
   | refine LeO.bind ?_ (fun _ => ?_)
  ·intro y0 y1 y2 y3 y4 y5
   unfold ref09_Closed.j3
   repeat' first
   | (with_reducible exact ih0 _ _ _ _)
   | (with_reducible exact ih1 _ _ _ _ _ _)
   | (with_reducible exact ih2 _ _ _ _ _)
   | (with_reducible exact ih3 _ _ _ _ _ _)
   | (with_reducible exact ih4 _ _ _ _ _)
   | (with_reducible exact ih5 _ _ _ _)
   | (with_reducible exact ih6 _ _ _ _)
   | (with_reducible exact ih7 _ _ _)
   | (with_reducible exact LeO.refl _)
   | (with_reducible exact LeO.none _)
   | (with_reducible refine LeO.ite ?_ ?_)
   | (with_reducible refine LeO.bind ?_ (fun _ => ?_))
   | exact ih0 _ _ _ _
   | exact ih1 _ _ _ _ _ _
   | exact ih2 _ _ _ _ _
   | exact ih3 _ _ _ _ _ _
   | exact ih4 _ _ _ _ _
   | exact ih5 _ _ _ _
   | exact ih6 _ _ _ _
   | exact ih7 _ _ _
   | exact LeO.none _
   | refine LeO.ite ?_ ?_
   | refine LeO.bind ?_ (fun _ => ?_)
  ·intro y0 y1 y2 y3 y4
   unfold ref09_Closed.j4
   repeat' first
   | (with_reducible exact ih0 _ _ _ _)
   | (with_reducible exact ih1 _ _ _ _ _ _)
   | (with_reducible exact ih2 _ _ _ _ _)
   | (with_reducible exact ih3 _ _ _ _ _ _)
   | (with_reducible exact ih4 _ _ _ _ _)
   | (with_reducible exact ih5 _ _ _ _)
   | (with_reducible exact ih6 _ _ _ _)
   | (with_reducible exact ih7 _ _ _)
   | (with_reducible exact LeO.refl _)
   | (with_reducible exact LeO.none _)
   | (with_reducible refine LeO.ite ?_ ?_)
   | (with_reducible refine LeO.bind ?_ (fun _ => ?_))
   | exact ih0 _ _ _ _
   | exact ih1 _ _ _ _ _ _
   | exact ih2 _ _ _ _ _
   | exact ih3 _ _ _ _ _ _
   | exact ih4 _ _ _ _ _
   | exact ih5 _ _ _ _
   | exact ih6 _ _ _ _
   | exact ih7 _ _ _
   | exact LeO.none _
   | refine LeO.ite ?_ ?_
   | refine LeO.bind ?_ (fun _ => ?_)
  ·intro y0 y1 y2 y3
   unfold ref09_Closed.j5
   repeat' first
   | (with_reducible exact ih0 _ _ _ _)
   | (with_reducible exact ih1 _ _ _ _ _ _)
   | (with_reducible exact ih2 _ _ _ _ _)
   | (with_reducible exact ih3 _ _ _ _ _ _)
   | (with_reducible exact ih4 _ _ _ _ _)
   | (with_reducible exact ih5 _ _ _ _)
   | (with_reducible exact ih6 _ _ _ _)
   | (with_reducible exact ih7 _ _ _)
   | (with_reducible exact LeO.refl _)
   | (with_reducible exact LeO.none _)
   | (with_reducible refine LeO.ite ?_ ?_)
   | (with_reducible refine LeO.bind ?_ (fun _ => ?_))
   | exact ih0 _ _ _ _
   | exact ih1 _ _ _ _ _ _
   | exact ih2 _ _ _ _ _
   | exact ih3 _ _ _ _ _ _
   | exact ih4 _ _ _ _ _
   | exact ih5 _ _ _ _
   | exact ih6 _ _ _ _
   | exact ih7 _ _ _
   | exact LeO.none _
   | refine LeO.ite ?_ ?_
   | refine LeO.bind ?_ (fun _ => ?_)
  ·intro y0 y1 y2 y3
   unfold ref09_Closed.j6
   repeat' first
   | (with_reducible exact ih0 _ _ _ _)
   | (with_reducible exact ih1 _ _ _ _ _ _)
   | (with_reducible exact ih2 _ _ _ _ _)
   | (with_reducible exact ih3 _ _ _ _ _ _)
   | (with_reducible exact ih4 _ _ _ _ _)
   | (with_reducible exact ih5 _ _ _ _)
   | (with_reducible exact ih6 _ _ _ _)
   | (with_reducible exact ih7 _ _ _)
   | (with_reducible exact LeO.refl _)
   | (with_reducible exact LeO.none _)
   | (with_reducible refine LeO.ite ?_ ?_)
   | (with_reducible refine LeO.bind ?_ (fun _ => ?_))
   | exact ih0 _ _ _ _
   | exact ih1 _ _ _ _ _ _
   | exact ih2 _ _ _ _ _
   | exact ih3 _ _ _ _ _ _
   | exact ih4 _ _ _ _ _
   | exact ih5 _ _ _ _
   | exact ih6 _ _ _ _
   | exact ih7 _ _ _
   | exact LeO.none _
   | refine LeO.ite ?_ ?_
   | refine LeO.bind ?_ (fun _ => ?_)
  ·intro y0 y1 y2
   unfold ref09_Closed.j7
   repeat' first
   | (with_reducible exact ih0 _ _ _ _)
   | (with_reducible exact ih1 _ _ _ _ _ _)
   | (with_reducible exact ih2 _ _ _ _ _)
   | (with_reducible exact ih3 _ _ _ _ _ _)
   | (with_reducible exact ih4 _ _ _ _ _)
   | (with_reducible exact ih5 _ _ _ _)
   | (with_reducible exact ih6 _ _ _ _)
   | (with_reducible exact ih7 _ _ _)
   | (with_reducible exact LeO.refl _)
   | (with_reducible exact LeO.none _)
   | (with_reducible refine LeO.ite ?_ ?_)
   | (with_reducible refine LeO.bind ?_ (fun _ => ?_))
   | exact ih0 _ _ _ _
   | exact ih1 _ _ _ _ _ _
   | exact ih2 _ _ _ _ _
   | exact ih3 _ _ _ _ _ _
   | exact ih4 _ _ _ _ _
   | exact ih5 _ _ _ _
   | exact ih6 _ _ _ _
   | exact ih7 _ _ _
   | exact LeO.none _
   | refine LeO.ite ?_ ?_
   | refine LeO.bind ?_ (fun _ => ?_)
theorem ref09_Closed.mono : ∀ a0 k, LeO (ref09_Closed.f k a0) (ref09_Closed.f (k + 1) a0) := by
 intro a0 k
 obtain ⟨ih0, ih1, ih2, ih3, ih4, ih5, ih6, ih7⟩ := ref09_Closed.mono_l k
 unfold ref09_Closed.f
 repeat' first
   | (with_reducible exact ih0 _ _ _ _)
   | (with_reducible exact ih1 _ _ _ _ _ _)
   | (with_reducible exact ih2 _ _ _ _ _)
   | (with_reducible exact ih3 _ _ _ _ _ _)
   | (with_reducible exact ih4 _ _ _ _ _)
   | (with_reducible exact ih5 _ _ _ _)
   | (with_reducible exact ih6 _ _ _ _)
   | (with_reducible exact ih7 _ _ _)
   | (with_reducible exact LeO.refl _)
   | (with_reducible exact LeO.none _)
   | (with_reducible refine LeO.ite ?_ ?_)
   | (with_reducible refine LeO.bind ?_ (fun _ => ?_))
   | exact ih0 _ _ _ _
   | exact ih1 _ _ _ _ _ _
   | exact ih2 _ _ _ _ _
   | exact ih3 _ _ _ _ _ _
   | exact ih4 _ _ _ _ _
   | exact ih5 _ _ _ _
   | exact ih6 _ _ _ _
   | exact ih7 _ _ _
   | exact LeO.none _
   | refine LeO.ite ?_ ?_
   | refine LeO.bind ?_ (fun _ => ?_)
set_option maxHeartbeats 8000000 in
set_option maxRecDepth 100000 in
theorem ref09_Closed.calls (k : Nat) (a0 : Int) (r : Int) (w : World) (h : ref09_Closed.f k a0 = some r) :
  Calls Try.prog 20 #[.int .i64 a0] w fun e w' => e = .returned (.int .i64 r) ∧ Drawn0 w w' := by
 have H : ((ref09_Has.f a0 16).bind fun t144 => ((ref09_Has.f a0 4).bind fun t145 => (if t145 = true then (ref09_Closed.j0 k a0 0 t144 true) else (ref09_Closed.j0 k a0 0 t144 t144)))) = some r := h
 clear h
 replace H := Option.bind_eq_some_iff.mp H
 obtain ⟨t144, A20, H⟩ := H
 replace H : ((ref09_Has.f a0 4).bind fun t145 => (if t145 = true then (ref09_Closed.j0 k a0 0 t144 true) else (ref09_Closed.j0 k a0 0 t144 t144))) = some r := H
 have A2 := Aside0.mk A20
 clear A20
 have HC3 := Aside0.mk H
 clear H
 go_enter Try.func20, Try.ntmps20
 go_upto_region 3 with (first | ((with_reducible refine gate_callee (f := 18) rfl ?_); refine goesL_ (some 8) rfl rfl Try.func18 (by kernel_rfl) rfl #[.int .i64 a0, .int .i64 16] rfl (by (try simp only [List.map_toArray, List.map_cons, List.map_nil]); first | done | rfl | (simp only [List.length_drop, List.length_take]; rfl)) ?_; (with_reducible refine (ref09_Has.calls a0 16 t144 _ A2.out).mono ?_); rintro e w' ⟨rfl, ⟨nd, rfl⟩⟩; refine ⟨_, rfl, ?_⟩))
 (try simp only [Act.put, List.setIfInBounds_toArray, List.set_cons_zero, List.set_cons_succ])
 go_cut [5] (fun v5 wc => ∃ (kq : Nat) (x5_2 : Bool), v5 = .bool x5_2 ∧ Aside0 (ref09_Closed.j0 kq a0 0 t144 x5_2 = some r) ∧ Aside0 (kq ≤ k) ∧ Drawn0 w wc)
 case first =>
  have H := HC3.out
  clear HC3
  replace H := Option.bind_eq_some_iff.mp H
  obtain ⟨t145, A40, H⟩ := H
  replace H : (if t145 = true then (ref09_Closed.j0 k a0 0 t144 true) else (ref09_Closed.j0 k a0 0 t144 t144)) = some r := H
  have A4 := Aside0.mk A40
  clear A40
  by_cases c5 : t145 = true
  ·subst c5
   have H1 : (ref09_Closed.j0 k a0 0 t144 true) = some r := by rw [if_pos rfl] at H; exact H
   clear H
   have H := H1
   clear H1
   have H' := Aside0.mk H
   clear H
   go_wp2_with (first | ((with_reducible refine gate_callee (f := 18) rfl ?_); refine goesL_ (some 10) rfl rfl Try.func18 (by kernel_rfl) rfl #[.int .i64 a0, .int .i64 4] rfl (by (try simp only [List.map_toArray, List.map_cons, List.map_nil]); first | done | rfl | (simp only [List.length_drop, List.length_take]; rfl)) ?_; (with_reducible refine (ref09_Has.calls a0 4 true _ A4.out).mono ?_); rintro e w' ⟨rfl, ⟨nd, rfl⟩⟩; refine ⟨_, rfl, ?_⟩))
   go_meet
   case rel => exact ⟨_, (true), (by first | rfl | (simp; done) | (simp [*]; done)), H', ⟨by first | omega | exact Nat.le_refl _⟩, by repeat (first | exact Drawn0.refl _ | apply Drawn0.step)⟩
  ·replace c5 := Bool.eq_false_iff.mpr c5
   subst c5
   have H1 : (ref09_Closed.j0 k a0 0 t144 t144) = some r := by rw [if_neg (show ¬ (false = true) by decide)] at H; exact H
   clear H
   have H := H1
   clear H1
   have H' := Aside0.mk H
   clear H
   go_wp2_with (first | ((with_reducible refine gate_callee (f := 18) rfl ?_); refine goesL_ (some 10) rfl rfl Try.func18 (by kernel_rfl) rfl #[.int .i64 a0, .int .i64 4] rfl (by (try simp only [List.map_toArray, List.map_cons, List.map_nil]); first | done | rfl | (simp only [List.length_drop, List.length_take]; rfl)) ?_; (with_reducible refine (ref09_Has.calls a0 4 false _ A4.out).mono ?_); rintro e w' ⟨rfl, ⟨nd, rfl⟩⟩; refine ⟨_, rfl, ?_⟩))
   go_meet
   case rel => exact ⟨_, (t144), (by first | rfl | (simp; done) | (simp [*]; done)), H', ⟨by first | omega | exact Nat.le_refl _⟩, by repeat (first | exact Drawn0.refl _ | apply Drawn0.step)⟩
 case rest =>
  clear HC3
  try clear c1
  try clear c2
  try clear p2
  try clear c5
  obtain ⟨kq, x5_2, rfl, HA, HJ2, ⟨mc2, rfl⟩⟩ := hcut
  cases kq with
  | zero => exact absurd HA.out (by simp [ref09_Closed.j0])
  | succ kj2 =>
   have H := HA.out
   clear HA
   simp only [ref09_Closed.j0] at H
   replace H := Option.bind_eq_some_iff.mp H
   obtain ⟨t146, A60, H⟩ := H
   replace H : ((ref09_Has.f a0 1).bind fun t147 => (if t147 = true then (ref09_Closed.j1 kj2 a0 0 t144 x5_2 t146 true) else (ref09_Closed.j1 kj2 a0 0 t144 x5_2 t146 t146))) = some r := H
   have A6 := Aside0.mk A60
   clear A60
   have HC7 := Aside0.mk H
   clear H
   go_upto_region 5 with (first | ((with_reducible refine gate_callee (f := 18) rfl ?_); refine goesL_ (some 15) rfl rfl Try.func18 (by kernel_rfl) rfl #[.int .i64 a0, .int .i64 32] rfl (by (try simp only [List.map_toArray, List.map_cons, List.map_nil]); first | done | rfl | (simp only [List.length_drop, List.length_take]; rfl)) ?_; (with_reducible refine (ref09_Has.calls a0 32 t146 _ A6.out).mono ?_); rintro e w' ⟨rfl, ⟨nd, rfl⟩⟩; refine ⟨_, rfl, ?_⟩))
   (try simp only [Act.put, List.setIfInBounds_toArray, List.set_cons_zero, List.set_cons_succ])
   go_cut [20] (fun v20 wc => ∃ (kq : Nat) (x20_6 : Bool), v20 = .bool x20_6 ∧ Aside0 (ref09_Closed.j1 kq a0 0 t144 x5_2 t146 x20_6 = some r) ∧ Aside0 (kq ≤ kj2) ∧ Drawn0 w wc)
   case first =>
    have H := HC7.out
    clear HC7
    replace H := Option.bind_eq_some_iff.mp H
    obtain ⟨t147, A80, H⟩ := H
    replace H : (if t147 = true then (ref09_Closed.j1 kj2 a0 0 t144 x5_2 t146 true) else (ref09_Closed.j1 kj2 a0 0 t144 x5_2 t146 t146)) = some r := H
    have A8 := Aside0.mk A80
    clear A80
    by_cases c9 : t147 = true
    ·subst c9
     have H1 : (ref09_Closed.j1 kj2 a0 0 t144 x5_2 t146 true) = some r := by rw [if_pos rfl] at H; exact H
     clear H
     have H := H1
     clear H1
     have H' := Aside0.mk H
     clear H
     go_wp2_with (first | ((with_reducible refine gate_callee (f := 18) rfl ?_); refine goesL_ (some 17) rfl rfl Try.func18 (by kernel_rfl) rfl #[.int .i64 a0, .int .i64 1] rfl (by (try simp only [List.map_toArray, List.map_cons, List.map_nil]); first | done | rfl | (simp only [List.length_drop, List.length_take]; rfl)) ?_; (with_reducible refine (ref09_Has.calls a0 1 true _ A8.out).mono ?_); rintro e w' ⟨rfl, ⟨nd, rfl⟩⟩; refine ⟨_, rfl, ?_⟩))
     go_meet
     case rel => exact ⟨_, (true), (by first | rfl | (simp; done) | (simp [*]; done)), H', ⟨by have := HJ2.out; first | omega | exact Nat.le_refl _⟩, by repeat (first | exact Drawn0.refl _ | apply Drawn0.step)⟩
    ·replace c9 := Bool.eq_false_iff.mpr c9
     subst c9
     have H1 : (ref09_Closed.j1 kj2 a0 0 t144 x5_2 t146 t146) = some r := by rw [if_neg (show ¬ (false = true) by decide)] at H; exact H
     clear H
     have H := H1
     clear H1
     have H' := Aside0.mk H
     clear H
     go_wp2_with (first | ((with_reducible refine gate_callee (f := 18) rfl ?_); refine goesL_ (some 17) rfl rfl Try.func18 (by kernel_rfl) rfl #[.int .i64 a0, .int .i64 1] rfl (by (try simp only [List.map_toArray, List.map_cons, List.map_nil]); first | done | rfl | (simp only [List.length_drop, List.length_take]; rfl)) ?_; (with_reducible refine (ref09_Has.calls a0 1 false _ A8.out).mono ?_); rintro e w' ⟨rfl, ⟨nd, rfl⟩⟩; refine ⟨_, rfl, ?_⟩))
     go_meet
     case rel => exact ⟨_, (t146), (by first | rfl | (simp; done) | (simp [*]; done)), H', ⟨by have := HJ2.out; first | omega | exact Nat.le_refl _⟩, by repeat (first | exact Drawn0.refl _ | apply Drawn0.step)⟩
   case rest =>
    clear HC7
    try clear c1
    try clear c2
    try clear p2
    try clear c5
    try clear c9
    try clear p2
    obtain ⟨kq, x20_6, rfl, HA, HJ6, ⟨mc6, rfl⟩⟩ := hcut
    cases kq with
    | zero => exact absurd HA.out (by simp [ref09_Closed.j1])
    | succ kj6 =>
     have H := HA.out
     clear HA
     simp only [ref09_Closed.j1] at H
     have HC10 := Aside0.mk H
     clear H
     go_upto_if 20 with (fail)
     go_cut [3] (fun v3 wc => ∃ (kq : Nat) (x3_9 : Int), v3 = .int .i64 x3_9 ∧ Aside0 (ref09_Closed.j2 kq a0 x3_9 t144 x5_2 t146 = some r) ∧ Aside0 (kq ≤ kj6) ∧ Drawn0 w wc)
     case first =>
      have H := HC10.out
      clear HC10
      by_cases c11 : x20_6 = true
      ·subst c11
       have H1 : (ref09_Closed.j2 kj6 a0 (wrap64 (0 + 1)) t144 x5_2 t146) = some r := by rw [if_pos rfl] at H; exact H
       clear H
       have H := H1
       clear H1
       have H' := Aside0.mk H
       clear H
       go_wp2
       go_meet
       case rel => exact ⟨_, (wrap64 (0 + 1)), (by first | rfl | (simp; done) | (simp [*]; done) | (simp [wrap64]; done)), H', ⟨by have := HJ2.out; have := HJ6.out; first | omega | exact Nat.le_refl _⟩, by repeat (first | exact Drawn0.refl _ | apply Drawn0.step)⟩
      ·replace c11 := Bool.eq_false_iff.mpr c11
       subst c11
       have H1 : (ref09_Closed.j2 kj6 a0 0 t144 x5_2 t146) = some r := by rw [if_neg (show ¬ (false = true) by decide)] at H; exact H
       clear H
       have H := H1
       clear H1
       have H' := Aside0.mk H
       clear H
       go_wp2
       go_meet
       case rel => exact ⟨_, (0), (by first | rfl | (simp; done) | (simp [*]; done)), H', ⟨by have := HJ2.out; have := HJ6.out; first | omega | exact Nat.le_refl _⟩, by repeat (first | exact Drawn0.refl _ | apply Drawn0.step)⟩
     case rest =>
      clear HC10
      try clear c1
      try clear c2
      try clear p2
      try clear c5
      try clear c6
      try clear p6
      try clear c9
      try clear c11
      try clear p2
      obtain ⟨kq, x3_9, rfl, HA, HJ9, ⟨mc9, rfl⟩⟩ := hcut
      cases kq with
      | zero => exact absurd HA.out (by simp [ref09_Closed.j2])
      | succ kj9 =>
       have H := HA.out
       clear HA
       simp only [ref09_Closed.j2] at H
       have HC12 := Aside0.mk H
       clear H
       go_upto_region 7 with (fail)
       go_cut [27] (fun v27 wc => ∃ (kq : Nat) (x27_11 : Bool), v27 = .bool x27_11 ∧ Aside0 (ref09_Closed.j3 kq a0 x3_9 t144 x5_2 t146 x27_11 = some r) ∧ Aside0 (kq ≤ kj9) ∧ Drawn0 w wc)
       case first =>
        have H := HC12.out
        clear HC12
        replace H := Option.bind_eq_some_iff.mp H
        obtain ⟨t148, A130, H⟩ := H
        replace H : (if t148 = true then (ref09_Closed.j3 kj9 a0 x3_9 t144 x5_2 t146 true) else (ref09_Closed.j3 kj9 a0 x3_9 t144 x5_2 t146 x5_2)) = some r := H
        have A13 := Aside0.mk A130
        clear A130
        by_cases c14 : t148 = true
        ·subst c14
         have H1 : (ref09_Closed.j3 kj9 a0 x3_9 t144 x5_2 t146 true) = some r := by rw [if_pos rfl] at H; exact H
         clear H
         have H := H1
         clear H1
         have H' := Aside0.mk H
         clear H
         go_wp2_with (first | ((with_reducible refine gate_callee (f := 18) rfl ?_); refine goesL_ (some 24) rfl rfl Try.func18 (by kernel_rfl) rfl #[.int .i64 a0, .int .i64 2] rfl (by (try simp only [List.map_toArray, List.map_cons, List.map_nil]); first | done | rfl | (simp only [List.length_drop, List.length_take]; rfl)) ?_; (with_reducible refine (ref09_Has.calls a0 2 true _ A13.out).mono ?_); rintro e w' ⟨rfl, ⟨nd, rfl⟩⟩; refine ⟨_, rfl, ?_⟩))
         go_meet
         case rel => exact ⟨_, (true), (by first | rfl | (simp; done) | (simp [*]; done)), H', ⟨by have := HJ2.out; have := HJ6.out; have := HJ9.out; first | omega | exact Nat.le_refl _⟩, by repeat (first | exact Drawn0.refl _ | apply Drawn0.step)⟩
        ·replace c14 := Bool.eq_false_iff.mpr c14
         subst c14
         have H1 : (ref09_Closed.j3 kj9 a0 x3_9 t144 x5_2 t146 x5_2) = some r := by rw [if_neg (show ¬ (false = true) by decide)] at H; exact H
         clear H
         have H := H1
         clear H1
         have H' := Aside0.mk H
         clear H
         go_wp2_with (first | ((with_reducible refine gate_callee (f := 18) rfl ?_); refine goesL_ (some 24) rfl rfl Try.func18 (by kernel_rfl) rfl #[.int .i64 a0, .int .i64 2] rfl (by (try simp only [List.map_toArray, List.map_cons, List.map_nil]); first | done | rfl | (simp only [List.length_drop, List.length_take]; rfl)) ?_; (with_reducible refine (ref09_Has.calls a0 2 false _ A13.out).mono ?_); rintro e w' ⟨rfl, ⟨nd, rfl⟩⟩; refine ⟨_, rfl, ?_⟩))
         go_meet
         case rel => exact ⟨_, (x5_2), (by first | rfl | (simp; done) | (simp [*]; done)), H', ⟨by have := HJ2.out; have := HJ6.out; have := HJ9.out; first | omega | exact Nat.le_refl _⟩, by repeat (first | exact Drawn0.refl _ | apply Drawn0.step)⟩
       case rest =>
        clear HC12
        try clear c1
        try clear c2
        try clear p2
        try clear c5
        try clear c6
        try clear p6
        try clear c9
        try clear c11
        try clear c14
        try clear p2
        try clear p6
        obtain ⟨kq, x27_11, rfl, HA, HJ11, ⟨mc11, rfl⟩⟩ := hcut
        cases kq with
        | zero => exact absurd HA.out (by simp [ref09_Closed.j3])
        | succ kj11 =>
         have H := HA.out
         clear HA
         simp only [ref09_Closed.j3] at H
         have HC15 := Aside0.mk H
         clear H
         go_upto_if 27 with (fail)
         go_cut [3] (fun v3 wc => ∃ (kq : Nat) (x3_14 : Int), v3 = .int .i64 x3_14 ∧ Aside0 (ref09_Closed.j4 kq a0 x3_14 t144 x5_2 t146 = some r) ∧ Aside0 (kq ≤ kj11) ∧ Drawn0 w wc)
         case first =>
          have H := HC15.out
          clear HC15
          by_cases c16 : x27_11 = true
          ·subst c16
           have H1 : (ref09_Closed.j4 kj11 a0 (wrap64 (x3_9 + 2)) t144 x5_2 t146) = some r := by rw [if_pos rfl] at H; exact H
           clear H
           have H := H1
           clear H1
           have H' := Aside0.mk H
           clear H
           go_wp2
           go_meet
           case rel => exact ⟨_, (wrap64 (x3_9 + 2)), (by first | rfl | (simp; done) | (simp [*]; done)), H', ⟨by have := HJ2.out; have := HJ6.out; have := HJ9.out; have := HJ11.out; first | omega | exact Nat.le_refl _⟩, by repeat (first | exact Drawn0.refl _ | apply Drawn0.step)⟩
          ·replace c16 := Bool.eq_false_iff.mpr c16
           subst c16
           have H1 : (ref09_Closed.j4 kj11 a0 x3_9 t144 x5_2 t146) = some r := by rw [if_neg (show ¬ (false = true) by decide)] at H; exact H
           clear H
           have H := H1
           clear H1
           have H' := Aside0.mk H
           clear H
           go_wp2
           go_meet
           case rel => exact ⟨_, (x3_9), (by first | rfl | (simp; done) | (simp [*]; done)), H', ⟨by have := HJ2.out; have := HJ6.out; have := HJ9.out; have := HJ11.out; first | omega | exact Nat.le_refl _⟩, by repeat (first | exact Drawn0.refl _ | apply Drawn0.step)⟩
         case rest =>
          clear HC15
          try clear c1
          try clear c2
          try clear p2
          try clear c5
          try clear c6
          try clear p6
          try clear c9
          try clear c11
          try clear c14
          try clear c16
          try clear p2
          try clear p6
          obtain ⟨kq, x3_14, rfl, HA, HJ14, ⟨mc14, rfl⟩⟩ := hcut
          cases kq with
          | zero => exact absurd HA.out (by simp [ref09_Closed.j4])
          | succ kj14 =>
           have H := HA.out
           clear HA
           simp only [ref09_Closed.j4] at H
           have HC17 := Aside0.mk H
           clear H
           go_upto_if 30 with (fail)
           go_cut [3] (fun v3 wc => ∃ (kq : Nat) (x3_16 : Int), v3 = .int .i64 x3_16 ∧ Aside0 (ref09_Closed.j5 kq a0 x3_16 t144 t146 = some r) ∧ Aside0 (kq ≤ kj14) ∧ Drawn0 w wc)
           case first =>
            have H := HC17.out
            clear HC17
            by_cases c18 : x5_2 = true
            ·subst c18
             have H1 : (ref09_Closed.j5 kj14 a0 (wrap64 (x3_14 + 4)) t144 t146) = some r := by rw [if_pos rfl] at H; exact H
             clear H
             have H := H1
             clear H1
             have H' := Aside0.mk H
             clear H
             go_wp2
             go_meet
             case rel => exact ⟨_, (wrap64 (x3_14 + 4)), (by first | rfl | (simp; done) | (simp [*]; done)), H', ⟨by have := HJ2.out; have := HJ6.out; have := HJ9.out; have := HJ11.out; have := HJ14.out; first | omega | exact Nat.le_refl _⟩, by repeat (first | exact Drawn0.refl _ | apply Drawn0.step)⟩
            ·replace c18 := Bool.eq_false_iff.mpr c18
             subst c18
             have H1 : (ref09_Closed.j5 kj14 a0 x3_14 t144 t146) = some r := by rw [if_neg (show ¬ (false = true) by decide)] at H; exact H
             clear H
             have H := H1
             clear H1
             have H' := Aside0.mk H
             clear H
             go_wp2
             go_meet
             case rel => exact ⟨_, (x3_14), (by first | rfl | (simp; done) | (simp [*]; done)), H', ⟨by have := HJ2.out; have := HJ6.out; have := HJ9.out; have := HJ11.out; have := HJ14.out; first | omega | exact Nat.le_refl _⟩, by repeat (first | exact Drawn0.refl _ | apply Drawn0.step)⟩
           case rest =>
            clear HC17
            try clear c1
            try clear c2
            try clear p2
            try clear c5
            try clear c6
            try clear p6
            try clear c9
            try clear c11
            try clear c14
            try clear c16
            try clear c18
            try clear p2
            try clear p6
            obtain ⟨kq, x3_16, rfl, HA, HJ16, ⟨mc16, rfl⟩⟩ := hcut
            cases kq with
            | zero => exact absurd HA.out (by simp [ref09_Closed.j5])
            | succ kj16 =>
             have H := HA.out
             clear HA
             simp only [ref09_Closed.j5] at H
             have HC19 := Aside0.mk H
             clear H
             go_upto_region 11 with (fail)
             go_cut [37] (fun v37 wc => ∃ (kq : Nat) (x37_18 : Bool), v37 = .bool x37_18 ∧ Aside0 (ref09_Closed.j6 kq x3_16 t144 t146 x37_18 = some r) ∧ Aside0 (kq ≤ kj16) ∧ Drawn0 w wc)
             case first =>
              have H := HC19.out
              clear HC19
              replace H := Option.bind_eq_some_iff.mp H
              obtain ⟨t149, A200, H⟩ := H
              replace H : (if t149 = true then (ref09_Closed.j6 kj16 x3_16 t144 t146 true) else (ref09_Closed.j6 kj16 x3_16 t144 t146 t144)) = some r := H
              have A20 := Aside0.mk A200
              clear A200
              by_cases c21 : t149 = true
              ·subst c21
               have H1 : (ref09_Closed.j6 kj16 x3_16 t144 t146 true) = some r := by rw [if_pos rfl] at H; exact H
               clear H
               have H := H1
               clear H1
               have H' := Aside0.mk H
               clear H
               go_wp2_with (first | ((with_reducible refine gate_callee (f := 18) rfl ?_); refine goesL_ (some 34) rfl rfl Try.func18 (by kernel_rfl) rfl #[.int .i64 a0, .int .i64 8] rfl (by (try simp only [List.map_toArray, List.map_cons, List.map_nil]); first | done | rfl | (simp only [List.length_drop, List.length_take]; rfl)) ?_; (with_reducible refine (ref09_Has.calls a0 8 true _ A20.out).mono ?_); rintro e w' ⟨rfl, ⟨nd, rfl⟩⟩; refine ⟨_, rfl, ?_⟩))
               go_meet
               case rel => exact ⟨_, (true), (by first | rfl | (simp; done) | (simp [*]; done)), H', ⟨by have := HJ2.out; have := HJ6.out; have := HJ9.out; have := HJ11.out; have := HJ14.out; have := HJ16.out; first | omega | exact Nat.le_refl _⟩, by repeat (first | exact Drawn0.refl _ | apply Drawn0.step)⟩
              ·replace c21 := Bool.eq_false_iff.mpr c21
               subst c21
               have H1 : (ref09_Closed.j6 kj16 x3_16 t144 t146 t144) = some r := by rw [if_neg (show ¬ (false = true) by decide)] at H; exact H
               clear H
               have H := H1
               clear H1
               have H' := Aside0.mk H
               clear H
               go_wp2_with (first | ((with_reducible refine gate_callee (f := 18) rfl ?_); refine goesL_ (some 34) rfl rfl Try.func18 (by kernel_rfl) rfl #[.int .i64 a0, .int .i64 8] rfl (by (try simp only [List.map_toArray, List.map_cons, List.map_nil]); first | done | rfl | (simp only [List.length_drop, List.length_take]; rfl)) ?_; (with_reducible refine (ref09_Has.calls a0 8 false _ A20.out).mono ?_); rintro e w' ⟨rfl, ⟨nd, rfl⟩⟩; refine ⟨_, rfl, ?_⟩))
               go_meet
               case rel => exact ⟨_, (t144), (by first | rfl | (simp; done) | (simp [*]; done)), H', ⟨by have := HJ2.out; have := HJ6.out; have := HJ9.out; have := HJ11.out; have := HJ14.out; have := HJ16.out; first | omega | exact Nat.le_refl _⟩, by repeat (first | exact Drawn0.refl _ | apply Drawn0.step)⟩
             case rest =>
              clear HC19
              try clear c1
              try clear c2
              try clear p2
              try clear c5
              try clear c6
              try clear p6
              try clear c9
              try clear c11
              try clear c14
              try clear c16
              try clear c18
              try clear c20
              try clear c21
              try clear p2
              try clear p6
              obtain ⟨kq, x37_18, rfl, HA, HJ18, ⟨mc18, rfl⟩⟩ := hcut
              cases kq with
              | zero => exact absurd HA.out (by simp [ref09_Closed.j6])
              | succ kj18 =>
               have H := HA.out
               clear HA
               simp only [ref09_Closed.j6] at H
               have HC22 := Aside0.mk H
               clear H
               go_upto_if 37 with (fail)
               go_cut [3] (fun v3 wc => ∃ (kq : Nat) (x3_21 : Int), v3 = .int .i64 x3_21 ∧ Aside0 (ref09_Closed.j7 kq x3_21 t144 t146 = some r) ∧ Aside0 (kq ≤ kj18) ∧ Drawn0 w wc)
               case first =>
                have H := HC22.out
                clear HC22
                by_cases c23 : x37_18 = true
                ·subst c23
                 have H1 : (ref09_Closed.j7 kj18 (wrap64 (x3_16 + 8)) t144 t146) = some r := by rw [if_pos rfl] at H; exact H
                 clear H
                 have H := H1
                 clear H1
                 have H' := Aside0.mk H
                 clear H
                 go_wp2
                 go_meet
                 case rel => exact ⟨_, (wrap64 (x3_16 + 8)), (by first | rfl | (simp; done) | (simp [*]; done)), H', ⟨by have := HJ2.out; have := HJ6.out; have := HJ9.out; have := HJ11.out; have := HJ14.out; have := HJ16.out; have := HJ18.out; first | omega | exact Nat.le_refl _⟩, by repeat (first | exact Drawn0.refl _ | apply Drawn0.step)⟩
                ·replace c23 := Bool.eq_false_iff.mpr c23
                 subst c23
                 have H1 : (ref09_Closed.j7 kj18 x3_16 t144 t146) = some r := by rw [if_neg (show ¬ (false = true) by decide)] at H; exact H
                 clear H
                 have H := H1
                 clear H1
                 have H' := Aside0.mk H
                 clear H
                 go_wp2
                 go_meet
                 case rel => exact ⟨_, (x3_16), (by first | rfl | (simp; done) | (simp [*]; done)), H', ⟨by have := HJ2.out; have := HJ6.out; have := HJ9.out; have := HJ11.out; have := HJ14.out; have := HJ16.out; have := HJ18.out; first | omega | exact Nat.le_refl _⟩, by repeat (first | exact Drawn0.refl _ | apply Drawn0.step)⟩
               case rest =>
                clear HC22
                try clear c1
                try clear c2
                try clear p2
                try clear c5
                try clear c6
                try clear p6
                try clear c9
                try clear c11
                try clear c14
                try clear c16
                try clear c18
                try clear c20
                try clear c21
                try clear c23
                try clear p2
                try clear p6
                obtain ⟨kq, x3_21, rfl, HA, HJ21, ⟨mc21, rfl⟩⟩ := hcut
                cases kq with
                | zero => exact absurd HA.out (by simp [ref09_Closed.j7])
                | succ kj21 =>
                 have H := HA.out
                 clear HA
                 simp only [ref09_Closed.j7] at H
                 by_cases c24 : t144 = true
                 ·subst c24
                  have H1 : (if t146 = true then (some (wrap64 ((wrap64 (x3_21 + 16)) + 32))) else (some (wrap64 (x3_21 + 16)))) = some r := by rw [if_pos rfl] at H; exact H
                  clear H
                  have H := H1
                  clear H1
                  by_cases c25 : t146 = true
                  ·subst c25
                   have H1 : (some (wrap64 ((wrap64 (x3_21 + 16)) + 32))) = some r := by rw [if_pos rfl] at H; exact H
                   clear H
                   have H := H1
                   clear H1
                   obtain rfl := Option.some.inj H
                   go_wp2
                   go_ret
                   exact ⟨by first | rfl | (simp; done) | (simp [*]; done), by repeat (first | exact Drawn0.refl _ | apply Drawn0.step)⟩
                  ·replace c25 := Bool.eq_false_iff.mpr c25
                   subst c25
                   have H1 : (some (wrap64 (x3_21 + 16))) = some r := by rw [if_neg (show ¬ (false = true) by decide)] at H; exact H
                   clear H
                   have H := H1
                   clear H1
                   obtain rfl := Option.some.inj H
                   go_wp2
                   go_ret
                   exact ⟨by first | rfl | (simp; done) | (simp [*]; done), by repeat (first | exact Drawn0.refl _ | apply Drawn0.step)⟩
                 ·replace c24 := Bool.eq_false_iff.mpr c24
                  subst c24
                  have H1 : (if t146 = true then (some (wrap64 (x3_21 + 32))) else (some x3_21)) = some r := by rw [if_neg (show ¬ (false = true) by decide)] at H; exact H
                  clear H
                  have H := H1
                  clear H1
                  by_cases c26 : t146 = true
                  ·subst c26
                   have H1 : (some (wrap64 (x3_21 + 32))) = some r := by rw [if_pos rfl] at H; exact H
                   clear H
                   have H := H1
                   clear H1
                   obtain rfl := Option.some.inj H
                   go_wp2
                   go_ret
                   exact ⟨by first | rfl | (simp; done) | (simp [*]; done), by repeat (first | exact Drawn0.refl _ | apply Drawn0.step)⟩
                  ·replace c26 := Bool.eq_false_iff.mpr c26
                   subst c26
                   have H1 : (some x3_21) = some r := by rw [if_neg (show ¬ (false = true) by decide)] at H; exact H
                   clear H
                   have H := H1
                   clear H1
                   obtain rfl := Option.some.inj H
                   go_wp2
                   go_ret
                   exact ⟨by first | rfl | (simp; done) | (simp [*]; done), by repeat (first | exact Drawn0.refl _ | apply Drawn0.step)⟩
end Go.Proofs.Ytfocaefnmfkojaa.Q
