/- A part of the proof of catalogueSound_holds: words and contracts that its last text uses. -/
import Derived.Test.YtfocaefnmfkojaaCCatalogueSound0
import Derived.Test.YtfocaefnmfkojaaProg
namespace Go.Proofs.Ytfocaefnmfkojaa.H
open Go.RowKit Go.Proofs.YtfocaefnmfkojaaW.PrintWords Go.Proofs.YtfocaefnmfkojaaW.PrintLast Go.Proofs.YtfocaefnmfkojaaW.PrintMore
set_option linter.unusedVariables false
set_option linter.unusedSimpArgs false
theorem cell_of_heap {W2 : World} {g : Nat} {inner : List Value} {e : TypeId} (h : W2.heap[g]? = some (.cells inner.toArray e (0, 0))) (m : Nat) (u : Value) (hu : inner[m]? = some u) : W2.cell? ⟨g, m, none⟩ = some u := by
  simp [World.cell?, h, hu]
theorem V_lit {α : Type} (d : Kd α) (e : Nat) (W : World) (base : Nat) (ok : Nat → Prop) (hok : ok W.heap.size) (xs : List α) (inner : List Value) (hl : xs.length ≤ 9223372036854775807)
    (h : ∀ j p, xs[j]? = some p → ∃ c, c.length = d.sz ∧ Kd.FK d W ok p c ∧ ∀ i u, c[i]? = some u → inner[j * d.sz + i]? = some u) :
    Kd.V d e (W.alloc (.cells inner.toArray e)) base ok (.slice (some ⟨W.heap.size, 0, none⟩) xs.length xs.length) xs := by
  refine ⟨_, _, rfl, Nat.le_refl _, fun W2 hW2 => ⟨rfl, hl, fun _ => ⟨_, rfl, fun j p hj => ?_⟩⟩⟩
  obtain ⟨c, hc, hK, hi⟩ := h j p hj
  have hsz : (W.alloc (.cells inner.toArray e)).heap.size = W.heap.size + 1 := by simp
  refine ⟨c, hc, hK W2 (fun k hk hlt => (hW2 k hk (by omega)).trans (Below.heap_alloc W _ k hlt)), fun i u hu => ?_⟩
  rw [add_plain]
  exact cell_of_heap ((hW2 _ hok (by omega)).trans (heap_alloc_new W _)) _ _ (hi i u hu)
theorem V_FK_slice {α : Type} {d : Kd α} {e base : Nat} {W : World} {ok : Nat → Prop} {A : Option Addr} {n c : Nat} {xs : List α} (h : Kd.V d e W base ok (.slice A n c) xs) : Kd.FK (Kd.slice e d) W ok xs [.slice A n c] := by
  obtain ⟨hn, hc, hf⟩ := Kd.V_at h
  subst hn
  exact Kd.FK_slice_mk hc hf
end Go.Proofs.Ytfocaefnmfkojaa.H
namespace Go.Proofs.Ytfocaefnmfkojaa.Q
open Go.RowKit Go.Proofs.YtfocaefnmfkojaaW.PrintWords Go.Proofs.YtfocaefnmfkojaaW.PrintLast Go.Proofs.YtfocaefnmfkojaaW.PrintMore
attribute [local go_sem] max2_int min2_int max_two min_two max_three min_three max_four min_four   -- for this text's walks alone
set_option linter.unusedVariables false
set_option linter.unusedSimpArgs false
def errW : Option Int → Value
 | none => .nilIface
 | some c => .iface 0 (.int .i64 c)
theorem errW_none : errW none = .nilIface := rfl
theorem errW_some (c : Int) : errW (some c) = .iface 0 (.int .i64 c) := rfl
theorem info3 : (Try.prog.info? 3).map (fun i => (i.zero, i.size, i.bytes)) = some (some (.int .i64 0), 1, 8) := by kernel_rfl
theorem info44 : (Try.prog.info? 44).map (fun i => (i.zero, i.size, i.bytes)) = some (some (.agg #[(.int .i64 0), (.int .i64 0), (.int .i64 0), (.slice none 0 0)]), 4, 48) := by kernel_rfl
theorem info46 : (Try.prog.info? 46).map (fun i => (i.zero, i.size, i.bytes)) = some (some (.agg #[(.bool false), (.int .i64 0), (.int .i64 0)]), 3, 24) := by kernel_rfl
theorem info86 : (Try.prog.info? 86).map (fun i => (i.zero, i.size, i.bytes)) = some (some (.agg #[(.int .i64 0), (.int .i64 0)]), 2, 16) := by kernel_rfl
theorem info154 : (Try.prog.info? 154).map (fun i => (i.zero, i.size, i.bytes)) = some (some (.agg #[(.int .i64 0), (.int .i64 0)]), 2, 16) := by kernel_rfl
structure S46 where
 f0 : Bool
 f1 : Int
 f2 : Int
def z46 : S46 := ⟨false, (0 : Int), (0 : Int)⟩
def k46 : Kd S46 := Kd.iso (Kd.pair Kd.bool (Kd.pair (Kd.int .i64) (Kd.int .i64))) (fun x : S46 => (x.f0, x.f1, x.f2))
theorem k46_open {w : World} {x : S46} {cs : List Value} (h : k46.K w x cs) : cs = [.bool x.f0, .int .i64 x.f1, .int .i64 x.f2] := by
 obtain ⟨_, _, rfl, rfl, ⟨_, _, rfl, rfl, rfl⟩⟩ := h
 exact rfl
theorem k46_mk (w : World) (x : S46)  : k46.K w x [.bool x.f0, .int .i64 x.f1, .int .i64 x.f2] := ⟨[.bool x.f0], [.int .i64 x.f1, .int .i64 x.f2], rfl, rfl, ⟨[.int .i64 x.f1], [.int .i64 x.f2], rfl, rfl, rfl⟩⟩
theorem k46_mkM (w : World) (base : Nat) (ok : Nat → Prop) (x : S46)  : k46.M w base ok x [.bool x.f0, .int .i64 x.f1, .int .i64 x.f2] := ⟨[.bool x.f0], [.int .i64 x.f1, .int .i64 x.f2], rfl, rfl, ⟨[.int .i64 x.f1], [.int .i64 x.f2], rfl, rfl, rfl⟩⟩
theorem k46_mkF (W : World) (ok : Nat → Prop) (x : S46) : Kd.FK k46 W ok x [.bool x.f0, .int .i64 x.f1, .int .i64 x.f2] := fun W2 _ => k46_mk W2 x
def rd_T46 (xs : List S46) (i : Int) : S46 := xs.getD i.toNat z46
theorem at_T46 {w : World} {A : Option Addr} {n : Nat} {xs : List S46} (h : Kd.C k46 w A n xs) (i : Int) (h0 : 0 ≤ i) (h1 : i < n) : ∃ ad , A = some ad ∧ w.cell? (ad.add (i.toNat * 3)) = some (.bool (rd_T46 xs i).f0) ∧ w.cell? ⟨(ad.add (i.toNat * 3)).block, (ad.add (i.toNat * 3)).off + 1, none⟩ = some (.int .i64 (rd_T46 xs i).f1) ∧ w.cell? ⟨(ad.add (i.toNat * 3)).block, (ad.add (i.toNat * 3)).off + 2, none⟩ = some (.int .i64 (rd_T46 xs i).f2) := by
 obtain ⟨ad, c, e, _, hK, hc0⟩ := Kd.C_get h z46 i h0 h1
 have hc : ∀ j u, c[j]? = some u → w.cell? (ad.add (i.toNat * 3 + j)) = some u := hc0
 obtain rfl := k46_open hK
 exact ⟨ad, e, hc 0 _ rfl, by rw [← add_field _ _ 1 (by omega)]; exact hc 1 _ rfl, by rw [← add_field _ _ 2 (by omega)]; exact hc 2 _ rfl⟩
def rd_L3 (xs : List (List S46)) (i : Int) : (List S46) := xs.getD i.toNat ([] : List S46)
theorem at_L3 {w : World} {A : Option Addr} {n : Nat} {xs : List (List S46)} (h : Kd.C (Kd.slice 46 k46) w A n xs) (i : Int) (h0 : 0 ≤ i) (h1 : i < n) : ∃ ad A0 c0, A = some ad ∧ w.cell? (ad.add i.toNat) = some (.slice A0 (rd_L3 xs i).length c0) ∧ (rd_L3 xs i).length ≤ c0 ∧ k46.C w A0 (rd_L3 xs i).length (rd_L3 xs i) := by
 obtain ⟨ad, c, e, _, hK, hc0⟩ := Kd.C_get h ([] : List S46) i h0 h1
 have hc : ∀ j u, c[j]? = some u → w.cell? (ad.add (i.toNat * 1 + j)) = some u := hc0
 obtain ⟨A0, c0, rfl, l0, g0⟩ := hK
 exact ⟨ad, A0, c0, e, by have hq := hc 0 _ rfl; rwa [Nat.mul_one, Nat.add_zero] at hq, l0, g0⟩
structure S44 where
 f0 : Int
 f1 : Int
 f2 : Int
 f3 : (List S46)
def z44 : S44 := ⟨(0 : Int), (0 : Int), (0 : Int), ([] : List S46)⟩
def k44 : Kd S44 := Kd.iso (Kd.pair (Kd.int .i64) (Kd.pair (Kd.int .i64) (Kd.pair (Kd.int .i64) (Kd.slice 46 k46)))) (fun x : S44 => (x.f0, x.f1, x.f2, x.f3))
theorem k44_open {w : World} {x : S44} {cs : List Value} (h : k44.K w x cs) : ∃ A3 c3, cs = [.int .i64 x.f0, .int .i64 x.f1, .int .i64 x.f2, .slice A3 x.f3.length c3] ∧ x.f3.length ≤ c3 ∧ k46.C w A3 x.f3.length x.f3 := by
 obtain ⟨_, _, rfl, rfl, ⟨_, _, rfl, rfl, ⟨_, _, rfl, rfl, ⟨A3, c3, rfl, l3, g3⟩⟩⟩⟩ := h
 exact ⟨A3, c3, rfl, l3, g3⟩
theorem k44_mk (w : World) (x : S44) {A3 : Option Addr} {c3 : Nat} (l3 : x.f3.length ≤ c3) (g3 : k46.C w A3 x.f3.length x.f3) : k44.K w x [.int .i64 x.f0, .int .i64 x.f1, .int .i64 x.f2, .slice A3 x.f3.length c3] := ⟨[.int .i64 x.f0], [.int .i64 x.f1, .int .i64 x.f2, .slice A3 x.f3.length c3], rfl, rfl, ⟨[.int .i64 x.f1], [.int .i64 x.f2, .slice A3 x.f3.length c3], rfl, rfl, ⟨[.int .i64 x.f2], [.slice A3 x.f3.length c3], rfl, rfl, ⟨A3, c3, rfl, l3, g3⟩⟩⟩⟩
theorem k44_mkF (W : World) (ok : Nat → Prop) (x : S44) {A3 : Option Addr} {c3 : Nat} (l3 : x.f3.length ≤ c3) (g3 : Kd.F k46 W ok A3 x.f3.length x.f3) : Kd.FK k44 W ok x [.int .i64 x.f0, .int .i64 x.f1, .int .i64 x.f2, .slice A3 x.f3.length c3] := fun W2 hW => k44_mk W2 x l3 (g3 W2 hW)
def rd_T44 (xs : List S44) (i : Int) : S44 := xs.getD i.toNat z44
theorem at_T44 {w : World} {A : Option Addr} {n : Nat} {xs : List S44} (h : Kd.C k44 w A n xs) (i : Int) (h0 : 0 ≤ i) (h1 : i < n) : ∃ ad A3 c3, A = some ad ∧ w.cell? (ad.add (i.toNat * 4)) = some (.int .i64 (rd_T44 xs i).f0) ∧ w.cell? ⟨(ad.add (i.toNat * 4)).block, (ad.add (i.toNat * 4)).off + 1, none⟩ = some (.int .i64 (rd_T44 xs i).f1) ∧ w.cell? ⟨(ad.add (i.toNat * 4)).block, (ad.add (i.toNat * 4)).off + 2, none⟩ = some (.int .i64 (rd_T44 xs i).f2) ∧ w.cell? ⟨(ad.add (i.toNat * 4)).block, (ad.add (i.toNat * 4)).off + 3, none⟩ = some (.slice A3 (rd_T44 xs i).f3.length c3) ∧ (rd_T44 xs i).f3.length ≤ c3 ∧ k46.C w A3 (rd_T44 xs i).f3.length (rd_T44 xs i).f3 := by
 obtain ⟨ad, c, e, _, hK, hc0⟩ := Kd.C_get h z44 i h0 h1
 have hc : ∀ j u, c[j]? = some u → w.cell? (ad.add (i.toNat * 4 + j)) = some u := hc0
 obtain ⟨A3, c3, rfl, l3, g3⟩ := k44_open hK
 exact ⟨ad, A3, c3, e, hc 0 _ rfl, by rw [← add_field _ _ 1 (by omega)]; exact hc 1 _ rfl, by rw [← add_field _ _ 2 (by omega)]; exact hc 2 _ rfl, by rw [← add_field _ _ 3 (by omega)]; exact hc 3 _ rfl, l3, g3⟩
structure S25 where
 f0 : ByteArray
 f1 : (List S44)
 f2 : Int
def z25 : S25 := ⟨(⟨#[]⟩ : ByteArray), ([] : List S44), (0 : Int)⟩
def k25 : Kd S25 := Kd.iso (Kd.pair Kd.string (Kd.pair (Kd.slice 44 k44) (Kd.int .i64))) (fun x : S25 => (x.f0, x.f1, x.f2))
theorem k25_open {w : World} {x : S25} {cs : List Value} (h : k25.K w x cs) : ∃ A1 c1, cs = [.string x.f0, .slice A1 x.f1.length c1, .int .i64 x.f2] ∧ x.f1.length ≤ c1 ∧ k44.C w A1 x.f1.length x.f1 := by
 obtain ⟨_, _, rfl, rfl, ⟨_, _, rfl, ⟨A1, c1, rfl, l1, g1⟩, rfl⟩⟩ := h
 exact ⟨A1, c1, rfl, l1, g1⟩
theorem k25_mk (w : World) (x : S25) {A1 : Option Addr} {c1 : Nat} (l1 : x.f1.length ≤ c1) (g1 : k44.C w A1 x.f1.length x.f1) : k25.K w x [.string x.f0, .slice A1 x.f1.length c1, .int .i64 x.f2] := ⟨[.string x.f0], [.slice A1 x.f1.length c1, .int .i64 x.f2], rfl, rfl, ⟨[.slice A1 x.f1.length c1], [.int .i64 x.f2], rfl, ⟨A1, c1, rfl, l1, g1⟩, rfl⟩⟩
theorem k25_openF {W : World} {ok : Nat → Prop} {x : S25} {cs : List Value} (h : Kd.FK k25 W ok x cs) : ∃ A1 c1, cs = [.string x.f0, .slice A1 x.f1.length c1, .int .i64 x.f2] ∧ x.f1.length ≤ c1 ∧ Kd.F k44 W ok A1 x.f1.length x.f1 := by
 obtain ⟨A1, c1, rfl, l1, _⟩ := k25_open (Kd.FK_now h)
 exact ⟨A1, c1, rfl, l1, (fun W' hW => by obtain ⟨A1_, c1_, he, l1_, g1_⟩ := k25_open (h W' hW); injection (Option.some.inj (show some (Value.slice A1 x.f1.length c1) = some (Value.slice A1_ x.f1.length c1_) from congrArg (fun l => l[1]?) he)) with ha_ _ _; rw [ha_]; exact g1_)⟩
theorem k25_mkF (W : World) (ok : Nat → Prop) (x : S25) {A1 : Option Addr} {c1 : Nat} (l1 : x.f1.length ≤ c1) (g1 : Kd.F k44 W ok A1 x.f1.length x.f1) : Kd.FK k25 W ok x [.string x.f0, .slice A1 x.f1.length c1, .int .i64 x.f2] := fun W2 hW => k25_mk W2 x l1 (g1 W2 hW)
def rd_T25 (xs : List S25) (i : Int) : S25 := xs.getD i.toNat z25
theorem at_T25 {w : World} {A : Option Addr} {n : Nat} {xs : List S25} (h : Kd.C k25 w A n xs) (i : Int) (h0 : 0 ≤ i) (h1 : i < n) : ∃ ad A1 c1, A = some ad ∧ w.cell? (ad.add (i.toNat * 3)) = some (.string (rd_T25 xs i).f0) ∧ w.cell? ⟨(ad.add (i.toNat * 3)).block, (ad.add (i.toNat * 3)).off + 1, none⟩ = some (.slice A1 (rd_T25 xs i).f1.length c1) ∧ w.cell? ⟨(ad.add (i.toNat * 3)).block, (ad.add (i.toNat * 3)).off + 2, none⟩ = some (.int .i64 (rd_T25 xs i).f2) ∧ (rd_T25 xs i).f1.length ≤ c1 ∧ k44.C w A1 (rd_T25 xs i).f1.length (rd_T25 xs i).f1 := by
 obtain ⟨ad, c, e, _, hK, hc0⟩ := Kd.C_get h z25 i h0 h1
 have hc : ∀ j u, c[j]? = some u → w.cell? (ad.add (i.toNat * 3 + j)) = some u := hc0
 obtain ⟨A1, c1, rfl, l1, g1⟩ := k25_open hK
 exact ⟨ad, A1, c1, e, hc 0 _ rfl, by rw [← add_field _ _ 1 (by omega)]; exact hc 1 _ rfl, by rw [← add_field _ _ 2 (by omega)]; exact hc 2 _ rfl, l1, g1⟩
structure S86 where
 f0 : Int
 f1 : Int
def z86 : S86 := ⟨(0 : Int), (0 : Int)⟩
def k86 : Kd S86 := Kd.iso (Kd.pair (Kd.int .i64) (Kd.int .i64)) (fun x : S86 => (x.f0, x.f1))
theorem k86_open {w : World} {x : S86} {cs : List Value} (h : k86.K w x cs) : cs = [.int .i64 x.f0, .int .i64 x.f1] := by
 obtain ⟨_, _, rfl, rfl, rfl⟩ := h
 exact rfl
theorem k86_mkM (w : World) (base : Nat) (ok : Nat → Prop) (x : S86)  : k86.M w base ok x [.int .i64 x.f0, .int .i64 x.f1] := ⟨[.int .i64 x.f0], [.int .i64 x.f1], rfl, rfl, rfl⟩
def rd_T86 (xs : List S86) (i : Int) : S86 := xs.getD i.toNat z86
theorem at_T86 {w : World} {A : Option Addr} {n : Nat} {xs : List S86} (h : Kd.C k86 w A n xs) (i : Int) (h0 : 0 ≤ i) (h1 : i < n) : ∃ ad , A = some ad ∧ w.cell? (ad.add (i.toNat * 2)) = some (.int .i64 (rd_T86 xs i).f0) ∧ w.cell? ⟨(ad.add (i.toNat * 2)).block, (ad.add (i.toNat * 2)).off + 1, none⟩ = some (.int .i64 (rd_T86 xs i).f1) := by
 obtain ⟨ad, c, e, _, hK, hc0⟩ := Kd.C_get h z86 i h0 h1
 have hc : ∀ j u, c[j]? = some u → w.cell? (ad.add (i.toNat * 2 + j)) = some u := hc0
 obtain rfl := k86_open hK
 exact ⟨ad, e, hc 0 _ rfl, by rw [← add_field _ _ 1 (by omega)]; exact hc 1 _ rfl⟩
structure S154 where
 f0 : Int
 f1 : Int
def z154 : S154 := ⟨(0 : Int), (0 : Int)⟩
def k154 : Kd S154 := Kd.iso (Kd.pair (Kd.int .i64) (Kd.int .i64)) (fun x : S154 => (x.f0, x.f1))
theorem k154_open {w : World} {x : S154} {cs : List Value} (h : k154.K w x cs) : cs = [.int .i64 x.f0, .int .i64 x.f1] := by
 obtain ⟨_, _, rfl, rfl, rfl⟩ := h
 exact rfl
theorem k154_mkM (w : World) (base : Nat) (ok : Nat → Prop) (x : S154)  : k154.M w base ok x [.int .i64 x.f0, .int .i64 x.f1] := ⟨[.int .i64 x.f0], [.int .i64 x.f1], rfl, rfl, rfl⟩
def rd_T154 (xs : List S154) (i : Int) : S154 := xs.getD i.toNat z154
theorem at_T154 {w : World} {A : Option Addr} {n : Nat} {xs : List S154} (h : Kd.C k154 w A n xs) (i : Int) (h0 : 0 ≤ i) (h1 : i < n) : ∃ ad , A = some ad ∧ w.cell? (ad.add (i.toNat * 2)) = some (.int .i64 (rd_T154 xs i).f0) ∧ w.cell? ⟨(ad.add (i.toNat * 2)).block, (ad.add (i.toNat * 2)).off + 1, none⟩ = some (.int .i64 (rd_T154 xs i).f1) := by
 obtain ⟨ad, c, e, _, hK, hc0⟩ := Kd.C_get h z154 i h0 h1
 have hc : ∀ j u, c[j]? = some u → w.cell? (ad.add (i.toNat * 2 + j)) = some u := hc0
 obtain rfl := k154_open hK
 exact ⟨ad, e, hc 0 _ rfl, by rw [← add_field _ _ 1 (by omega)]; exact hc 1 _ rfl⟩
structure S79 where
 f0 : Int
 f1 : Int
end Go.Proofs.Ytfocaefnmfkojaa.Q
namespace Go.Proofs.Ytfocaefnmfkojaa.Q
open Go.RowKit Go.Proofs.YtfocaefnmfkojaaW.PrintWords Go.Proofs.YtfocaefnmfkojaaW.PrintLast Go.Proofs.YtfocaefnmfkojaaW.PrintMore
attribute [local go_sem] max2_int min2_int max_two min_two max_three min_three max_four min_four   -- for this text's walks alone
set_option linter.unusedVariables false
set_option linter.unusedSimpArgs false
theorem eqA46 (d : Nat) (w : World) (x0 y0 : Bool) (x1 y1 : Int) (x2 y2 : Int) :
  (Op.equalIn (d + 2) 46 (.agg #[.bool x0, .int .i64 x1, .int .i64 x2]) (.agg #[.bool y0, .int .i64 y1, .int .i64 y2])).run Try.prog w = .ok (x0 == y0 && (x1 == y1 && (x2 == y2))) w := by
 refine eqA_of Try.underlying46 (by kernel_rfl) ?_
 refine eqf_cons (by rfl) (by go_simp; rfl) (by go_simp; rfl) (by go_simp) ?_
 refine eqf_cons (by rfl) (by go_simp; rfl) (by go_simp; rfl) (by go_simp) ?_
 exact eqf_last (by rfl) (by go_simp; rfl) (by go_simp; rfl) (by go_simp)
end Go.Proofs.Ytfocaefnmfkojaa.Q
namespace Go.Proofs.Ytfocaefnmfkojaa.Q
open Go.RowKit Go.Proofs.YtfocaefnmfkojaaW.PrintWords Go.Proofs.YtfocaefnmfkojaaW.PrintLast Go.Proofs.YtfocaefnmfkojaaW.PrintMore
attribute [local go_sem] max2_int min2_int max_two min_two max_three min_three max_four min_four   -- for this text's walks alone
set_option linter.unusedVariables false
set_option linter.unusedSimpArgs false
def op_Write.f (a0 : Int) (a1 : Int) : Option (Bool × Int × Int) := some (true, a0, a1)
set_option maxHeartbeats 8000000 in
set_option maxRecDepth 100000 in
theorem op_Write.calls (a0 : Int) (a1 : Int) (r1 : Bool) (r2 : Int) (r3 : Int) (w : World) (h : op_Write.f a0 a1 = some (r1, r2, r3)) :
  Calls Try.prog 60 #[.int .i64 a0, .int .i64 a1] w fun e w' => e = .returned (.agg #[.bool r1, .int .i64 r2, .int .i64 r3]) ∧ Below w.heap.size w w' := by
 have hu46 := Try.underlying46
 have HB := Aside0.mk (Below.refl w.heap.size w)
 have H : (some (true, a0, a1)) = some (r1, r2, r3) := h
 clear h
 simp only [Option.some.injEq, Prod.mk.injEq] at H
 obtain ⟨rfl, rfl, rfl⟩ := H
 go_enter Try.func60, Try.ntmps60
 go_wp2_with (first | ((with_reducible refine gate_dst (N := 4) rfl ?_); refine box_event ?hg (N := 4) ?hd (cs := #[.bool false, .int .i64 0, .int .i64 0]) (t := 46) ?hr ?_; (case hd => rfl); (case hg => rfl); (case hr => first | (go_simp; done) | (go_simp; rfl)); intro gb101 hg w3 hbox hb; have n0_ := Aside0.mk (below_step (by repeat (first | (with_reducible first | exact HB.out | apply below_alloc | apply pw_below_drewN | apply below_drew1))) hb); have n1_ := Aside0.mk (hbox); have n2_ := Aside0.mk ((by rw [hg]; exact (below_size (by repeat (first | (with_reducible first | exact HB.out | apply below_alloc | apply pw_below_drewN | apply below_drew1)))) : w.heap.size ≤ gb101)); have n3_ := Aside0.mk ((by rw [hg]; exact (below_size (by repeat (first | (with_reducible first | exact HB.out | apply below_alloc | apply pw_below_drewN | apply below_drew1)))) : w.heap.size ≤ gb101)); clear HB; have HB := n0_; have BK101 := n1_; have GW101 := n2_; have GE101 := n3_; clear n0_ n1_ n2_ n3_; clear hb hbox hg; have hcz4_0 : w3.cell? ⟨gb101, 0, none⟩ = some (.bool false) := (blk_cell BK101.out 0).trans rfl; have hcz4_1 : w3.cell? ⟨gb101, 1, none⟩ = some (.int .i64 0) := (blk_cell BK101.out 1).trans rfl; have hcz4_2 : w3.cell? ⟨gb101, 2, none⟩ = some (.int .i64 0) := (blk_cell BK101.out 2).trans rfl; have hfz4_0 := blk_frozen BK101.out 0; have hfz4_1 := blk_frozen BK101.out 1; have hfz4_2 := blk_frozen BK101.out 2))
 refine bodyPost_ret (results_cell_row rfl _ _ gb101 46 #[.bool true, .int .i64 a0, .int .i64 a1] (0, 0) _ rfl (by (with_reducible repeat (first | refine blk_drewN ?_ _ | refine blk_drew ?_ | refine blk_alloc ?_ _)); refine blk_put (cs := #[.bool true, .int .i64 a0, .int .i64 0]) ?_ 2 _ rfl; (with_reducible repeat (first | refine blk_drewN ?_ _ | refine blk_drew ?_ | refine blk_alloc ?_ _)); refine blk_put (cs := #[.bool true, .int .i64 0, .int .i64 0]) ?_ 1 _ rfl; (with_reducible repeat (first | refine blk_drewN ?_ _ | refine blk_drew ?_ | refine blk_alloc ?_ _)); refine blk_put (cs := #[.bool false, .int .i64 0, .int .i64 0]) ?_ 0 _ rfl; (with_reducible repeat (first | refine blk_drewN ?_ _ | refine blk_drew ?_ | refine blk_alloc ?_ _)); exact BK101.out) Try.underlying46 rfl (by kernel_rfl)) rfl ?_
 exact ⟨by first | rfl | (simp <;> rfl) | (simp [*] <;> rfl), by repeat (first | (with_reducible first | exact HB.out | apply below_alloc | apply pw_below_drewN | apply below_drew1 | refine below_set ?_ GE101.out))⟩
end Go.Proofs.Ytfocaefnmfkojaa.Q
namespace Go.Proofs.Ytfocaefnmfkojaa.Q
open Go.RowKit Go.Proofs.YtfocaefnmfkojaaW.PrintWords Go.Proofs.YtfocaefnmfkojaaW.PrintLast Go.Proofs.YtfocaefnmfkojaaW.PrintMore
attribute [local go_sem] max2_int min2_int max_two min_two max_three min_three max_four min_four   -- for this text's walks alone
set_option linter.unusedVariables false
set_option linter.unusedSimpArgs false
def op_Read.f (a0 : Int) (a1 : Int) : Option (Bool × Int × Int) := some (false, a0, a1)
set_option maxHeartbeats 8000000 in
set_option maxRecDepth 100000 in
theorem op_Read.calls (a0 : Int) (a1 : Int) (r1 : Bool) (r2 : Int) (r3 : Int) (w : World) (h : op_Read.f a0 a1 = some (r1, r2, r3)) :
  Calls Try.prog 65 #[.int .i64 a0, .int .i64 a1] w fun e w' => e = .returned (.agg #[.bool r1, .int .i64 r2, .int .i64 r3]) ∧ Below w.heap.size w w' := by
 have hu46 := Try.underlying46
 have HB := Aside0.mk (Below.refl w.heap.size w)
 have H : (some (false, a0, a1)) = some (r1, r2, r3) := h
 clear h
 simp only [Option.some.injEq, Prod.mk.injEq] at H
 obtain ⟨rfl, rfl, rfl⟩ := H
 go_enter Try.func65, Try.ntmps65
 go_wp2_with (first | ((with_reducible refine gate_dst (N := 4) rfl ?_); refine box_event ?hg (N := 4) ?hd (cs := #[.bool false, .int .i64 0, .int .i64 0]) (t := 46) ?hr ?_; (case hd => rfl); (case hg => rfl); (case hr => first | (go_simp; done) | (go_simp; rfl)); intro gb101 hg w3 hbox hb; have n0_ := Aside0.mk (below_step (by repeat (first | (with_reducible first | exact HB.out | apply below_alloc | apply pw_below_drewN | apply below_drew1))) hb); have n1_ := Aside0.mk (hbox); have n2_ := Aside0.mk ((by rw [hg]; exact (below_size (by repeat (first | (with_reducible first | exact HB.out | apply below_alloc | apply pw_below_drewN | apply below_drew1)))) : w.heap.size ≤ gb101)); have n3_ := Aside0.mk ((by rw [hg]; exact (below_size (by repeat (first | (with_reducible first | exact HB.out | apply below_alloc | apply pw_below_drewN | apply below_drew1)))) : w.heap.size ≤ gb101)); clear HB; have HB := n0_; have BK101 := n1_; have GW101 := n2_; have GE101 := n3_; clear n0_ n1_ n2_ n3_; clear hb hbox hg; have hcz4_0 : w3.cell? ⟨gb101, 0, none⟩ = some (.bool false) := (blk_cell BK101.out 0).trans rfl; have hcz4_1 : w3.cell? ⟨gb101, 1, none⟩ = some (.int .i64 0) := (blk_cell BK101.out 1).trans rfl; have hcz4_2 : w3.cell? ⟨gb101, 2, none⟩ = some (.int .i64 0) := (blk_cell BK101.out 2).trans rfl; have hfz4_0 := blk_frozen BK101.out 0; have hfz4_1 := blk_frozen BK101.out 1; have hfz4_2 := blk_frozen BK101.out 2))
 refine bodyPost_ret (results_cell_row rfl _ _ gb101 46 #[.bool false, .int .i64 a0, .int .i64 a1] (0, 0) _ rfl (by (with_reducible repeat (first | refine blk_drewN ?_ _ | refine blk_drew ?_ | refine blk_alloc ?_ _)); refine blk_put (cs := #[.bool false, .int .i64 a0, .int .i64 0]) ?_ 2 _ rfl; (with_reducible repeat (first | refine blk_drewN ?_ _ | refine blk_drew ?_ | refine blk_alloc ?_ _)); refine blk_put (cs := #[.bool false, .int .i64 0, .int .i64 0]) ?_ 1 _ rfl; (with_reducible repeat (first | refine blk_drewN ?_ _ | refine blk_drew ?_ | refine blk_alloc ?_ _)); refine blk_put (cs := #[.bool false, .int .i64 0, .int .i64 0]) ?_ 0 _ rfl; (with_reducible repeat (first | refine blk_drewN ?_ _ | refine blk_drew ?_ | refine blk_alloc ?_ _)); exact BK101.out) Try.underlying46 rfl (by kernel_rfl)) rfl ?_
 exact ⟨by first | rfl | (simp <;> rfl) | (simp [*] <;> rfl), by repeat (first | (with_reducible first | exact HB.out | apply below_alloc | apply pw_below_drewN | apply below_drew1 | refine below_set ?_ GE101.out))⟩
end Go.Proofs.Ytfocaefnmfkojaa.Q
namespace Go.Proofs.Ytfocaefnmfkojaa.Q
open Go.RowKit Go.Proofs.YtfocaefnmfkojaaW.PrintWords Go.Proofs.YtfocaefnmfkojaaW.PrintLast Go.Proofs.YtfocaefnmfkojaaW.PrintMore
attribute [local go_sem] max2_int min2_int max_two min_two max_three min_three max_four min_four   -- for this text's walks alone
set_option linter.unusedVariables false
set_option linter.unusedSimpArgs false
def catalogue_after.l0 : Nat → Bool → List (S44) → List (List (S46)) → Int → Int → Option ((List (S44)))
 | 0, _, _, _, _, _ => none
 | k + 1, x0, x5, x9, x10, x11 => if x11 < x10 then (if 0 ≤ x11 then (if x11 < (x9.length : Int) then (if x0 = true then (if x5.length < 2932031007402 then (catalogue_after.l0 k x0 (x5 ++ [(⟨0, wrap64 ((wrap64 (2 * x11)) + 1), wrap64 ((wrap64 (2 * x11)) + 2), rd_L3 x9 x11⟩ : S44)]) x9 x10 (wrap64 (x11 + 1))) else (none)) else (if x5.length < 2932031007402 then (catalogue_after.l0 k x0 (x5 ++ [(⟨x11, wrap64 ((wrap64 (2 * x11)) + 1), wrap64 ((wrap64 (2 * x11)) + 2), rd_L3 x9 x11⟩ : S44)]) x9 x10 (wrap64 (x11 + 1))) else (none))) else (none)) else (none)) else (some x5)
def catalogue_after.f (k : Nat) (a0 : Bool) (l1 : List (List (S46))) : Option ((List (S44))) := catalogue_after.l0 k a0 ([] : List (S44)) l1 (l1.length : Int) 0
set_option maxHeartbeats 8000000 in
set_option maxRecDepth 100000 in
theorem catalogue_after.calls (k : Nat) (a0 : Bool) (P1_ : Nat → Prop) (A1 : Option Addr) (c1 : Nat) (l1 : List (List (S46))) (r : List (S44)) (w : World) (hs1 : Kd.V (Kd.slice 46 k46) 42 w w.heap.size (fun k_ => P1_ k_) (.slice A1 l1.length c1) l1) (h : catalogue_after.f k a0 l1 = some r) :
  Calls Try.prog 85 #[.bool a0, .slice A1 l1.length c1] w fun e w' => ∃ v0_ : Value, e = .returned (v0_) ∧ Kd.N k44 44 w' w.heap.size (fun k_ => (P1_ k_ ∨ w.heap.size ≤ k_)) v0_ r ∧ Below w.heap.size w w' := by
 have hu44 := Try.underlying44
 have HO1 := Aside0.mk (show Kd.V (Kd.slice 46 k46) 42 w w.heap.size (fun k_ => (P1_ k_ ∨ w.heap.size ≤ k_)) (.slice A1 l1.length c1) l1 from Kd.V_mono hs1 (fun k_ hk => .inl hk))
 have HB := Aside0.mk (Below.refl w.heap.size w)
 have H : (catalogue_after.l0 k a0 ([] : List (S44)) l1 (l1.length : Int) 0) = some r := h
 clear h
 have H' := Aside0.mk H
 clear H
 go_enter Try.func85, Try.ntmps85
 go_wp2
 go_loopg [5, 11] k (fun kq v5 v11 w' => ∃ (x5_1 : List (S44)) (x11_1 : Int), v11 = .int .i64 x11_1 ∧ Aside0 (catalogue_after.l0 kq a0 x5_1 l1 (l1.length : Int) x11_1 = some r) ∧ Aside0 (kq ≤ k) ∧ Aside0 (Kd.N k44 44 w' w.heap.size (fun k_ => (P1_ k_ ∨ w.heap.size ≤ k_)) v5 x5_1) ∧ Aside0 (Kd.V (Kd.slice 46 k46) 42 w' w.heap.size (fun k_ => (P1_ k_ ∨ w.heap.size ≤ k_) ∧ some k_ ≠ (v5 : Value).ownBlock) (.slice A1 l1.length c1) l1) ∧ Aside0 (Below w.heap.size w w'))
 case atStart => exact ⟨(([] : List (S44))), (0), (by first | rfl | (simp; done) | (simp [*]; done)), H', ⟨Nat.le_refl _⟩, ⟨by first | exact Kd.S_nil _ _ _ _ _ | exact Kd.N_nil _ _ _ _ _ | exact Kd.V_nil _ _ _ _ _ | exact Kd.Q_nil _ _ _ _ _ | exact Kd.R_nil _ _ _ _ _⟩, ⟨by (with_reducible repeat (first | apply Kd.V_alloc | apply Kd.V_drewN | apply Kd.V_drew)); exact Kd.V_mono HO1.out (fun _ hk => ⟨hk, (by simp [Value.ownBlock])⟩)⟩, ⟨by repeat (first | (with_reducible first | exact HB.out | apply below_alloc | apply pw_below_drewN | apply below_drew1))⟩⟩
 case round =>
  clear H'
  try clear c1
  try clear p2
  obtain ⟨x5_1, x11_1, rfl, HA, HK1, HO_5, HO_9, HB⟩ := hrel
  cases gk with
  | zero => exact absurd HA.out (by simp [catalogue_after.l0])
  | succ k1 =>
   have H := HA.out
   clear HA
   simp only [catalogue_after.l0] at H
   by_cases c3 : x11_1 < (l1.length : Int)
   ·rw [if_pos c3] at H
    have c3b0 : decide (x11_1 < (l1.length : Int)) = true := decide_eq_true c3
    clear c3
    by_cases c4 : 0 ≤ x11_1
    ·rw [if_pos c4] at H
     have c4b0 : decide (0 ≤ x11_1) = true := decide_eq_true c4
     clear c4
     by_cases c5 : x11_1 < (l1.length : Int)
     ·rw [if_pos c5] at H
      have c5b0 : decide (x11_1 < (l1.length : Int)) = true := decide_eq_true c5
      clear c5
      by_cases c6 : a0 = true
      ·subst c6
       have H1 : (if x5_1.length < 2932031007402 then (catalogue_after.l0 k1 true (x5_1 ++ [(⟨0, wrap64 ((wrap64 (2 * x11_1)) + 1), wrap64 ((wrap64 (2 * x11_1)) + 2), rd_L3 l1 x11_1⟩ : S44)]) l1 (l1.length : Int) (wrap64 (x11_1 + 1))) else (none)) = some r := by rw [if_pos rfl] at H; exact H
       clear H
       have H := H1
       clear H1
       by_cases c7 : x5_1.length < 2932031007402
       ·rw [if_pos c7] at H
        have LMc7 := Aside0.mk c7
        clear c7
        obtain ⟨y103, hy103⟩ : ∃ y_ : List (S44), y_ = (x5_1 ++ [(⟨0, wrap64 ((wrap64 (2 * x11_1)) + 1), wrap64 ((wrap64 (2 * x11_1)) + 2), rd_L3 l1 x11_1⟩ : S44)]) := ⟨_, rfl⟩
        replace H : (catalogue_after.l0 k1 true y103 l1 (l1.length : Int) (wrap64 (x11_1 + 1))) = some r := by first | (rw [hy103]; with_reducible exact H) | (have H2_ := (Option.bind_some _ _).symm.trans H; rw [hy103]; with_reducible exact H2_) | (have H2_ := (Option.bind_some _ _).symm.trans H; with_reducible exact H2_) | with_reducible exact H | (rw [hy103]; exact H) | exact H
        have Ny103 := Aside0.mk hy103
        clear hy103
        have H' := Aside0.mk H
        clear H
        have p101 : 0 ≤ (x11_1 : Int) := of_decide_eq_true (by assumption)
        have q101 : x11_1 < (l1.length : Int) := of_decide_eq_true (by assumption)
        obtain ⟨ad101, A101_0, c101_0, e101, hx101_0, hl101_0, hi101_0⟩ := at_L3 (Kd.V_reads' HO_9.out).2.2 x11_1 p101 q101
        cases e101
        obtain ⟨ce101, hce101, hMe101, hcc101⟩ := Kd.V_get HO_9.out [] x11_1 p101 (by first | exact q101 | exact of_decide_eq_true (by assumption) | (have e_ := (Kd.V_reads' HO_9.out).1; omega))
        obtain ⟨ua101_0, uc101_0, rfl, ul101_0, ge101_0⟩ := Kd.FK_slice_open hMe101
        have hv101_0 := hcc101 0 _ rfl
        rw [Nat.add_zero, show ((Kd.slice 46 k46)).sz = 1 from rfl, Nat.mul_one] at hv101_0
        replace hv101_0 := Option.some.inj (hv101_0.symm.trans hx101_0)
        injection hv101_0 with hva_ hvn_ hvc_
        rw [hva_] at ge101_0
        rw [hvc_] at ul101_0
        have HL101_0 := Aside0.mk (show Kd.V k46 46 _ w.heap.size _ _ (rd_L3 l1 x11_1) from Kd.V_mk ul101_0 ge101_0)
        clear hva_ hvn_ hvc_ ge101_0 ul101_0
        clear hcc101 hce101
        have HR101_0 := Aside0.mk hi101_0
        have HC101_0 := Aside0.mk hl101_0
        clear hi101_0 hl101_0
        replace p101 := eq_true p101
        replace q101 := eq_true q101
        go_wp2_with (first | ((with_reducible refine gate_dst (N := 8) rfl ?_); refine box_event ?hg (N := 8) ?hd (cs := #[.int .i64 0, .int .i64 0, .int .i64 0, .slice none 0 0]) (t := 44) ?hr ?_; (case hd => rfl); (case hg => rfl); (case hr => first | (go_simp; done) | (go_simp; rfl)); intro gb102 hg w8 hbox hb; have n0_ := Aside0.mk (Kd.N_below (Kd.N_elderB (by (with_reducible repeat (first | apply Kd.N_alloc | apply Kd.N_drewN | apply Kd.N_drew)); exact HO_5.out) gb102 (Nat.le_of_eq hg.symm)) hb); have n1_ := Aside0.mk (Kd.V_below (Kd.V_elderB (by (with_reducible repeat (first | apply Kd.V_alloc | apply Kd.V_drewN | apply Kd.V_drew)); exact HO_9.out) gb102 (Nat.le_of_eq hg.symm)) hb); have n2_ := Aside0.mk (Kd.V_below (Kd.V_elderB (by (with_reducible repeat (first | apply Kd.V_alloc | apply Kd.V_drewN | apply Kd.V_drew)); exact HL101_0.out) gb102 (Nat.le_of_eq hg.symm)) hb); have n3_ := Aside0.mk (Kd.C_below (by repeat (first | (with_reducible exact HR101_0.out) | (with_reducible refine Kd.C_alloc ?_ _) | (with_reducible refine Kd.C_drewN ?_ _) | (with_reducible refine Kd.C_drew ?_) | exact HR101_0.out)) hb); have n4_ := Aside0.mk (below_step (by repeat (first | (with_reducible first | exact HB.out | apply below_alloc | apply pw_below_drewN | apply below_drew1))) hb); have n5_ := Aside0.mk (hbox); have n6_ := Aside0.mk ((by rw [hg]; exact (below_size (by repeat (first | (with_reducible first | exact HB.out | apply below_alloc | apply pw_below_drewN | apply below_drew1)))) : w.heap.size ≤ gb102)); have n7_ := Aside0.mk ((by rw [hg]; exact (below_size (by repeat (first | (with_reducible first | exact HB.out | apply below_alloc | apply pw_below_drewN | apply below_drew1)))) : w.heap.size ≤ gb102)); clear HO_5; clear HO_9; clear HL101_0; clear HR101_0; clear HB; have HO_5 := n0_; have HO_9 := n1_; have HL101_0 := n2_; have HR101_0 := n3_; have HB := n4_; have BK102 := n5_; have GW102 := n6_; have GE102 := n7_; clear n0_ n1_ n2_ n3_ n4_ n5_ n6_ n7_; clear hb hbox hg; have hcz9_0 : w8.cell? ⟨gb102, 0, none⟩ = some (.int .i64 0) := (blk_cell BK102.out 0).trans rfl; have hcz9_1 : w8.cell? ⟨gb102, 1, none⟩ = some (.int .i64 0) := (blk_cell BK102.out 1).trans rfl; have hcz9_2 : w8.cell? ⟨gb102, 2, none⟩ = some (.int .i64 0) := (blk_cell BK102.out 2).trans rfl; have hcz9_3 : w8.cell? ⟨gb102, 3, none⟩ = some (.slice none 0 0) := (blk_cell BK102.out 3).trans rfl; have hfz9_0 := blk_frozen BK102.out 0; have hfz9_1 := blk_frozen BK102.out 1; have hfz9_2 := blk_frozen BK102.out 2; have hfz9_3 := blk_frozen BK102.out 3) | ((with_reducible refine gate_store (t := 44) (p := 8) rfl ?_); refine store_event (t := 44) (p := 8) (v := ?vo_w10) (w1 := ((((w8.setCell ⟨gb102, 0, none⟩ (.int .i64 0)).setCell ⟨gb102, 1, none⟩ (.int .i64 (wrap64 ((wrap64 (2 * x11_1)) + 1)))).setCell ⟨gb102, 2, none⟩ (.int .i64 (wrap64 ((wrap64 (2 * x11_1)) + 2)))).setCell ⟨gb102, 3, none⟩ (.slice A101_0 (rd_L3 l1 x11_1).length c101_0))) ?hg ?ho ?hn ?hr ?_; (case ho => rfl); (case hg => rfl); (case hn => rfl); (case hr => first | (go_simp; done) | (go_simp; rfl)); intro w10 hw; have n0_ : Aside0 (Kd.N k44 44 w10 w.heap.size (fun k_ => (P1_ k_ ∨ w.heap.size ≤ k_) ∧ k_ ≠ gb102) u5 x5_1) := ⟨(by rw [hw]; exact (by (with_reducible repeat (first | apply Kd.N_alloc | apply Kd.N_drewN | apply Kd.N_drew)); exact Kd.N_mono (Kd.N_far (p := ⟨gb102, 3, none⟩) (Kd.N_far (p := ⟨gb102, 2, none⟩) (Kd.N_far (p := ⟨gb102, 1, none⟩) (Kd.N_far (p := ⟨gb102, 0, none⟩) (Kd.N_mono HO_5.out (fun k_ hk => (⟨hk, hk.2⟩ : _ ∧ k_ ≠ gb102))) (fun _ hk => hk.2) (.int .i64 0)) (fun _ hk => hk.2) (.int .i64 (wrap64 ((wrap64 (2 * x11_1)) + 1)))) (fun _ hk => hk.2) (.int .i64 (wrap64 ((wrap64 (2 * x11_1)) + 2)))) (fun _ hk => hk.2) (.slice A101_0 (rd_L3 l1 x11_1).length c101_0)) (fun _ hk => ⟨hk.1.1, hk.1.2⟩)))⟩; have n1_ : Aside0 (Kd.V (Kd.slice 46 k46) 42 w10 w.heap.size (fun k_ => (P1_ k_ ∨ w.heap.size ≤ k_) ∧ some k_ ≠ (u5 : Value).ownBlock ∧ k_ ≠ gb102) (.slice (some ad101) l1.length c1) l1) := ⟨(by rw [hw]; exact (by (with_reducible repeat (first | apply Kd.V_alloc | apply Kd.V_drewN | apply Kd.V_drew)); exact Kd.V_mono (Kd.V_far (p := ⟨gb102, 3, none⟩) (Kd.V_far (p := ⟨gb102, 2, none⟩) (Kd.V_far (p := ⟨gb102, 1, none⟩) (Kd.V_far (p := ⟨gb102, 0, none⟩) (Kd.V_mono HO_9.out (fun k_ hk => (⟨hk, hk.2⟩ : _ ∧ k_ ≠ gb102))) (fun _ hk => hk.2) (.int .i64 0)) (fun _ hk => hk.2) (.int .i64 (wrap64 ((wrap64 (2 * x11_1)) + 1)))) (fun _ hk => hk.2) (.int .i64 (wrap64 ((wrap64 (2 * x11_1)) + 2)))) (fun _ hk => hk.2) (.slice A101_0 (rd_L3 l1 x11_1).length c101_0)) (fun _ hk => ⟨hk.1.1.1, ⟨hk.1.1.2, hk.1.2⟩⟩)))⟩; have n2_ : Aside0 (Kd.V k46 46 w10 w.heap.size (fun k_ => (P1_ k_ ∨ w.heap.size ≤ k_) ∧ some k_ ≠ (u5 : Value).ownBlock ∧ k_ ≠ gb102) (.slice A101_0 (rd_L3 l1 x11_1).length c101_0) (rd_L3 l1 x11_1)) := ⟨(by rw [hw]; exact (by (with_reducible repeat (first | apply Kd.V_alloc | apply Kd.V_drewN | apply Kd.V_drew)); exact Kd.V_mono (Kd.V_far (p := ⟨gb102, 3, none⟩) (Kd.V_far (p := ⟨gb102, 2, none⟩) (Kd.V_far (p := ⟨gb102, 1, none⟩) (Kd.V_far (p := ⟨gb102, 0, none⟩) (Kd.V_mono HL101_0.out (fun k_ hk => (⟨hk, hk.2⟩ : _ ∧ k_ ≠ gb102))) (fun _ hk => hk.2) (.int .i64 0)) (fun _ hk => hk.2) (.int .i64 (wrap64 ((wrap64 (2 * x11_1)) + 1)))) (fun _ hk => hk.2) (.int .i64 (wrap64 ((wrap64 (2 * x11_1)) + 2)))) (fun _ hk => hk.2) (.slice A101_0 (rd_L3 l1 x11_1).length c101_0)) (fun _ hk => ⟨hk.1.1.1, ⟨hk.1.1.2, hk.1.2⟩⟩)))⟩; have n3_ : Aside0 (w10.heap[gb102]? = some (.cells #[.int .i64 0, .int .i64 (wrap64 ((wrap64 (2 * x11_1)) + 1)), .int .i64 (wrap64 ((wrap64 (2 * x11_1)) + 2)), .slice A101_0 (rd_L3 l1 x11_1).length c101_0] 44 (0, 0))) := ⟨(by rw [hw]; exact (by (with_reducible repeat (first | refine blk_drewN ?_ _ | refine blk_drew ?_ | refine blk_alloc ?_ _)); refine blk_put (cs := #[.int .i64 0, .int .i64 (wrap64 ((wrap64 (2 * x11_1)) + 1)), .int .i64 (wrap64 ((wrap64 (2 * x11_1)) + 2)), .slice none 0 0]) ?_ 3 _ rfl; (with_reducible repeat (first | refine blk_drewN ?_ _ | refine blk_drew ?_ | refine blk_alloc ?_ _)); refine blk_put (cs := #[.int .i64 0, .int .i64 (wrap64 ((wrap64 (2 * x11_1)) + 1)), .int .i64 0, .slice none 0 0]) ?_ 2 _ rfl; (with_reducible repeat (first | refine blk_drewN ?_ _ | refine blk_drew ?_ | refine blk_alloc ?_ _)); refine blk_put (cs := #[.int .i64 0, .int .i64 0, .int .i64 0, .slice none 0 0]) ?_ 1 _ rfl; (with_reducible repeat (first | refine blk_drewN ?_ _ | refine blk_drew ?_ | refine blk_alloc ?_ _)); refine blk_put (cs := #[.int .i64 0, .int .i64 0, .int .i64 0, .slice none 0 0]) ?_ 0 _ rfl; (with_reducible repeat (first | refine blk_drewN ?_ _ | refine blk_drew ?_ | refine blk_alloc ?_ _)); exact BK102.out))⟩; have n4_ : Aside0 (Below w.heap.size w w10) := ⟨(by rw [hw]; exact (by repeat (first | (with_reducible first | exact HB.out | apply below_alloc | apply pw_below_drewN | apply below_drew1 | refine below_set ?_ GE102.out))))⟩; clear hw; clear HO_5; clear HO_9; clear HL101_0; clear BK102; clear HB; have HO_5 := n0_; have HO_9 := n1_; have HL101_0 := n2_; have BK102 := n3_; have HB := n4_; clear n0_ n1_ n2_ n3_ n4_; have hcz11_0 : w10.cell? ⟨gb102, 0, none⟩ = some (.int .i64 0) := (blk_cell BK102.out 0).trans rfl; have hcz11_1 : w10.cell? ⟨gb102, 1, none⟩ = some (.int .i64 (wrap64 ((wrap64 (2 * x11_1)) + 1))) := (blk_cell BK102.out 1).trans rfl; have hcz11_2 : w10.cell? ⟨gb102, 2, none⟩ = some (.int .i64 (wrap64 ((wrap64 (2 * x11_1)) + 2))) := (blk_cell BK102.out 2).trans rfl; have hcz11_3 : w10.cell? ⟨gb102, 3, none⟩ = some (.slice A101_0 (rd_L3 l1 x11_1).length c101_0) := (blk_cell BK102.out 3).trans rfl; have hfz11_0 := blk_frozen BK102.out 0; have hfz11_1 := blk_frozen BK102.out 1; have hfz11_2 := blk_frozen BK102.out 2; have hfz11_3 := blk_frozen BK102.out 3) | ((with_reducible refine gate_builtin (b := .append) (xs := #[.tmp 28, .tmp 30]) rfl ?_); at_builtin; refine Kd.N_append k44 (w0 := w) w.heap.size rfl (.tmp 28) (.tmp 30) 23 44 (.agg #[(.int .i64 0), (.int .i64 0), (.int .i64 0), (.slice none 0 0)]) 48 rfl Try.underlying23 info44 rfl (by decide) (by omega) u5 x5_1 (⟨0, wrap64 ((wrap64 (2 * x11_1)) + 1), wrap64 ((wrap64 (2 * x11_1)) + 2), rd_L3 l1 x11_1⟩ : S44) [.int .i64 0, .int .i64 (wrap64 ((wrap64 (2 * x11_1)) + 1)), .int .i64 (wrap64 ((wrap64 (2 * x11_1)) + 2)), .slice A101_0 (rd_L3 l1 x11_1).length c101_0] (fun k_ => (P1_ k_ ∨ w.heap.size ≤ k_) ∧ k_ ≠ gb102) (fun k_ => ((fun k_ => (P1_ k_ ∨ w.heap.size ≤ k_) ∧ k_ ≠ gb102)) k_ ∧ some k_ ≠ (u5 : Value).ownBlock) rfl rfl ?aP (fun _ hk => hk) ?aF ?aO ?aB ?aS ?aL ?_; (case aP => exact (k44_mkF _ _ (⟨0, wrap64 ((wrap64 (2 * x11_1)) + 1), wrap64 ((wrap64 (2 * x11_1)) + 2), rd_L3 l1 x11_1⟩ : S44) (Kd.V_reads' (Kd.V_mono (ok' := (fun k_ => ((fun k_ => (P1_ k_ ∨ w.heap.size ≤ k_) ∧ k_ ≠ gb102)) k_ ∧ some k_ ≠ (u5 : Value).ownBlock)) (HL101_0.out) (fun k_ hk => ⟨⟨hk.1, hk.2.2⟩, hk.2.1⟩))).2.1 (Kd.V_F (Kd.V_mono (ok' := (fun k_ => ((fun k_ => (P1_ k_ ∨ w.heap.size ≤ k_) ∧ k_ ≠ gb102)) k_ ∧ some k_ ≠ (u5 : Value).ownBlock)) (HL101_0.out) (fun k_ hk => ⟨⟨hk.1, hk.2.2⟩, hk.2.1⟩))))); (case aB => exact (by repeat (first | (with_reducible first | exact HB.out | apply below_alloc | apply pw_below_drewN | apply below_drew1 | refine below_set ?_ GE102.out)))); (case aF => exact (fun k_ hk => ⟨(.inr (Nat.le_trans (below_size (by repeat (first | (with_reducible first | exact HB.out | apply below_alloc | apply pw_below_drewN | apply below_drew1 | refine below_set ?_ GE102.out)))) hk)), Kd.freshB (g := gb102) (o := .cells #[.int .i64 0, .int .i64 (wrap64 ((wrap64 (2 * x11_1)) + 1)), .int .i64 (wrap64 ((wrap64 (2 * x11_1)) + 2)), .slice A101_0 (rd_L3 l1 x11_1).length c101_0] 44 (0, 0)) (by (with_reducible repeat (first | refine blk_drewN ?_ _ | refine blk_drew ?_ | refine blk_alloc ?_ _)); exact BK102.out) k_ hk⟩)); (case aO => exact (by (with_reducible repeat (first | apply Kd.N_alloc | apply Kd.N_drewN | apply Kd.N_drew)); exact HO_5.out)); (case aS => exact (below_size (by repeat (first | (with_reducible first | exact HB.out | apply below_alloc | apply pw_below_drewN | apply below_drew1 | refine below_set ?_ GE102.out))))); (case aL => have := LMc7.out; omega); intro v104 w12 ho hb hg hat; rw [← Ny103.out] at ho; have n0_ := Aside0.mk (Kd.V_afterv (ok := (fun k_ => (P1_ k_ ∨ w.heap.size ≤ k_) ∧ k_ ≠ gb102)) (by (with_reducible repeat (first | apply Kd.V_alloc | apply Kd.V_drewN | apply Kd.V_drew)); exact Kd.V_mono HO_9.out (fun _ hk => ⟨⟨hk.1, hk.2.2⟩, hk.2.1⟩)) hg hat); have n1_ := Aside0.mk (Kd.V_afterv (ok := (fun k_ => (P1_ k_ ∨ w.heap.size ≤ k_) ∧ k_ ≠ gb102)) (by (with_reducible repeat (first | apply Kd.V_alloc | apply Kd.V_drewN | apply Kd.V_drew)); exact Kd.V_mono HL101_0.out (fun _ hk => ⟨⟨hk.1, hk.2.2⟩, hk.2.1⟩)) hg hat); have n2_ := Aside0.mk (blk_grown (g := gb102) (o := .cells #[.int .i64 0, .int .i64 (wrap64 ((wrap64 (2 * x11_1)) + 1)), .int .i64 (wrap64 ((wrap64 (2 * x11_1)) + 2)), .slice A101_0 (rd_L3 l1 x11_1).length c101_0] 44 (0, 0)) (by (with_reducible repeat (first | refine blk_drewN ?_ _ | refine blk_drew ?_ | refine blk_alloc ?_ _)); exact BK102.out) hg (Kd.N_away HO_5.out (fun _ hk => hk.2))); have n3_ := Aside0.mk (hb); have n4_ := Aside0.mk (ho); clear HO_9; clear HL101_0; clear BK102; clear HB; clear HO_5; have HO_9 := n0_; have HL101_0 := n1_; have BK102 := n2_; have HB := n3_; have HO105 := n4_; clear n0_ n1_ n2_ n3_ n4_; clear ho hb hg hat))
        go_roundg k1
        case measure => have := HK1.out; omega
        case rel => exact ⟨(y103), (wrap64 (x11_1 + 1)), (by first | rfl | (simp; done) | (simp [*]; done)), H', ⟨by have := HK1.out; omega⟩, ⟨by (with_reducible repeat (first | apply Kd.N_alloc | apply Kd.N_drewN | apply Kd.N_drew)); exact Kd.N_mono HO105.out (fun _ hk => hk.1)⟩, ⟨by (with_reducible repeat (first | apply Kd.V_alloc | apply Kd.V_drewN | apply Kd.V_drew)); exact Kd.V_mono HO_9.out (fun _ hk => ⟨hk.1.1, hk.2⟩)⟩, ⟨by repeat (first | (with_reducible first | exact HB.out | apply below_alloc | apply pw_below_drewN | apply below_drew1 | refine below_set ?_ GE102.out))⟩⟩
       ·rw [if_neg c7] at H
        exact absurd H (by simp)
      ·replace c6 := Bool.eq_false_iff.mpr c6
       subst c6
       have H1 : (if x5_1.length < 2932031007402 then (catalogue_after.l0 k1 false (x5_1 ++ [(⟨x11_1, wrap64 ((wrap64 (2 * x11_1)) + 1), wrap64 ((wrap64 (2 * x11_1)) + 2), rd_L3 l1 x11_1⟩ : S44)]) l1 (l1.length : Int) (wrap64 (x11_1 + 1))) else (none)) = some r := by rw [if_neg (show ¬ (false = true) by decide)] at H; exact H
       clear H
       have H := H1
       clear H1
       by_cases c13 : x5_1.length < 2932031007402
       ·rw [if_pos c13] at H
        have LMc13 := Aside0.mk c13
        clear c13
        obtain ⟨y106, hy106⟩ : ∃ y_ : List (S44), y_ = (x5_1 ++ [(⟨x11_1, wrap64 ((wrap64 (2 * x11_1)) + 1), wrap64 ((wrap64 (2 * x11_1)) + 2), rd_L3 l1 x11_1⟩ : S44)]) := ⟨_, rfl⟩
        replace H : (catalogue_after.l0 k1 false y106 l1 (l1.length : Int) (wrap64 (x11_1 + 1))) = some r := by first | (rw [hy106]; with_reducible exact H) | (have H2_ := (Option.bind_some _ _).symm.trans H; rw [hy106]; with_reducible exact H2_) | (have H2_ := (Option.bind_some _ _).symm.trans H; with_reducible exact H2_) | with_reducible exact H | (rw [hy106]; exact H) | exact H
        have Ny106 := Aside0.mk hy106
        clear hy106
        have H' := Aside0.mk H
        clear H
        have p101 : 0 ≤ (x11_1 : Int) := of_decide_eq_true (by assumption)
        have q101 : x11_1 < (l1.length : Int) := of_decide_eq_true (by assumption)
        obtain ⟨ad101, A101_0, c101_0, e101, hx101_0, hl101_0, hi101_0⟩ := at_L3 (Kd.V_reads' HO_9.out).2.2 x11_1 p101 q101
        cases e101
        obtain ⟨ce101, hce101, hMe101, hcc101⟩ := Kd.V_get HO_9.out [] x11_1 p101 (by first | exact q101 | exact of_decide_eq_true (by assumption) | (have e_ := (Kd.V_reads' HO_9.out).1; omega))
        obtain ⟨ua101_0, uc101_0, rfl, ul101_0, ge101_0⟩ := Kd.FK_slice_open hMe101
        have hv101_0 := hcc101 0 _ rfl
        rw [Nat.add_zero, show ((Kd.slice 46 k46)).sz = 1 from rfl, Nat.mul_one] at hv101_0
        replace hv101_0 := Option.some.inj (hv101_0.symm.trans hx101_0)
        injection hv101_0 with hva_ hvn_ hvc_
        rw [hva_] at ge101_0
        rw [hvc_] at ul101_0
        have HL101_0 := Aside0.mk (show Kd.V k46 46 _ w.heap.size _ _ (rd_L3 l1 x11_1) from Kd.V_mk ul101_0 ge101_0)
        clear hva_ hvn_ hvc_ ge101_0 ul101_0
        clear hcc101 hce101
        have HR101_0 := Aside0.mk hi101_0
        have HC101_0 := Aside0.mk hl101_0
        clear hi101_0 hl101_0
        replace p101 := eq_true p101
        replace q101 := eq_true q101
        go_wp2_with (first | ((with_reducible refine gate_dst (N := 8) rfl ?_); refine box_event ?hg (N := 8) ?hd (cs := #[.int .i64 0, .int .i64 0, .int .i64 0, .slice none 0 0]) (t := 44) ?hr ?_; (case hd => rfl); (case hg => rfl); (case hr => first | (go_simp; done) | (go_simp; rfl)); intro gb102 hg w14 hbox hb; have n0_ := Aside0.mk (Kd.N_below (Kd.N_elderB (by (with_reducible repeat (first | apply Kd.N_alloc | apply Kd.N_drewN | apply Kd.N_drew)); exact HO_5.out) gb102 (Nat.le_of_eq hg.symm)) hb); have n1_ := Aside0.mk (Kd.V_below (Kd.V_elderB (by (with_reducible repeat (first | apply Kd.V_alloc | apply Kd.V_drewN | apply Kd.V_drew)); exact HO_9.out) gb102 (Nat.le_of_eq hg.symm)) hb); have n2_ := Aside0.mk (Kd.V_below (Kd.V_elderB (by (with_reducible repeat (first | apply Kd.V_alloc | apply Kd.V_drewN | apply Kd.V_drew)); exact HL101_0.out) gb102 (Nat.le_of_eq hg.symm)) hb); have n3_ := Aside0.mk (Kd.C_below (by repeat (first | (with_reducible exact HR101_0.out) | (with_reducible refine Kd.C_alloc ?_ _) | (with_reducible refine Kd.C_drewN ?_ _) | (with_reducible refine Kd.C_drew ?_) | exact HR101_0.out)) hb); have n4_ := Aside0.mk (below_step (by repeat (first | (with_reducible first | exact HB.out | apply below_alloc | apply pw_below_drewN | apply below_drew1))) hb); have n5_ := Aside0.mk (hbox); have n6_ := Aside0.mk ((by rw [hg]; exact (below_size (by repeat (first | (with_reducible first | exact HB.out | apply below_alloc | apply pw_below_drewN | apply below_drew1)))) : w.heap.size ≤ gb102)); have n7_ := Aside0.mk ((by rw [hg]; exact (below_size (by repeat (first | (with_reducible first | exact HB.out | apply below_alloc | apply pw_below_drewN | apply below_drew1)))) : w.heap.size ≤ gb102)); clear HO_5; clear HO_9; clear HL101_0; clear HR101_0; clear HB; have HO_5 := n0_; have HO_9 := n1_; have HL101_0 := n2_; have HR101_0 := n3_; have HB := n4_; have BK102 := n5_; have GW102 := n6_; have GE102 := n7_; clear n0_ n1_ n2_ n3_ n4_ n5_ n6_ n7_; clear hb hbox hg; have hcz15_0 : w14.cell? ⟨gb102, 0, none⟩ = some (.int .i64 0) := (blk_cell BK102.out 0).trans rfl; have hcz15_1 : w14.cell? ⟨gb102, 1, none⟩ = some (.int .i64 0) := (blk_cell BK102.out 1).trans rfl; have hcz15_2 : w14.cell? ⟨gb102, 2, none⟩ = some (.int .i64 0) := (blk_cell BK102.out 2).trans rfl; have hcz15_3 : w14.cell? ⟨gb102, 3, none⟩ = some (.slice none 0 0) := (blk_cell BK102.out 3).trans rfl; have hfz15_0 := blk_frozen BK102.out 0; have hfz15_1 := blk_frozen BK102.out 1; have hfz15_2 := blk_frozen BK102.out 2; have hfz15_3 := blk_frozen BK102.out 3) | ((with_reducible refine gate_store (t := 44) (p := 8) rfl ?_); refine store_event (t := 44) (p := 8) (v := ?vo_w16) (w1 := ((((w14.setCell ⟨gb102, 0, none⟩ (.int .i64 0)).setCell ⟨gb102, 1, none⟩ (.int .i64 (wrap64 ((wrap64 (2 * x11_1)) + 1)))).setCell ⟨gb102, 2, none⟩ (.int .i64 (wrap64 ((wrap64 (2 * x11_1)) + 2)))).setCell ⟨gb102, 3, none⟩ (.slice A101_0 (rd_L3 l1 x11_1).length c101_0))) ?hg ?ho ?hn ?hr ?_; (case ho => rfl); (case hg => rfl); (case hn => rfl); (case hr => first | (go_simp; done) | (go_simp; rfl)); intro w16 hw; have n0_ : Aside0 (Kd.N k44 44 w16 w.heap.size (fun k_ => (P1_ k_ ∨ w.heap.size ≤ k_) ∧ k_ ≠ gb102) u5 x5_1) := ⟨(by rw [hw]; exact (by (with_reducible repeat (first | apply Kd.N_alloc | apply Kd.N_drewN | apply Kd.N_drew)); exact Kd.N_mono (Kd.N_far (p := ⟨gb102, 3, none⟩) (Kd.N_far (p := ⟨gb102, 2, none⟩) (Kd.N_far (p := ⟨gb102, 1, none⟩) (Kd.N_far (p := ⟨gb102, 0, none⟩) (Kd.N_mono HO_5.out (fun k_ hk => (⟨hk, hk.2⟩ : _ ∧ k_ ≠ gb102))) (fun _ hk => hk.2) (.int .i64 0)) (fun _ hk => hk.2) (.int .i64 (wrap64 ((wrap64 (2 * x11_1)) + 1)))) (fun _ hk => hk.2) (.int .i64 (wrap64 ((wrap64 (2 * x11_1)) + 2)))) (fun _ hk => hk.2) (.slice A101_0 (rd_L3 l1 x11_1).length c101_0)) (fun _ hk => ⟨hk.1.1, hk.1.2⟩)))⟩; have n1_ : Aside0 (Kd.V (Kd.slice 46 k46) 42 w16 w.heap.size (fun k_ => (P1_ k_ ∨ w.heap.size ≤ k_) ∧ some k_ ≠ (u5 : Value).ownBlock ∧ k_ ≠ gb102) (.slice (some ad101) l1.length c1) l1) := ⟨(by rw [hw]; exact (by (with_reducible repeat (first | apply Kd.V_alloc | apply Kd.V_drewN | apply Kd.V_drew)); exact Kd.V_mono (Kd.V_far (p := ⟨gb102, 3, none⟩) (Kd.V_far (p := ⟨gb102, 2, none⟩) (Kd.V_far (p := ⟨gb102, 1, none⟩) (Kd.V_far (p := ⟨gb102, 0, none⟩) (Kd.V_mono HO_9.out (fun k_ hk => (⟨hk, hk.2⟩ : _ ∧ k_ ≠ gb102))) (fun _ hk => hk.2) (.int .i64 0)) (fun _ hk => hk.2) (.int .i64 (wrap64 ((wrap64 (2 * x11_1)) + 1)))) (fun _ hk => hk.2) (.int .i64 (wrap64 ((wrap64 (2 * x11_1)) + 2)))) (fun _ hk => hk.2) (.slice A101_0 (rd_L3 l1 x11_1).length c101_0)) (fun _ hk => ⟨hk.1.1.1, ⟨hk.1.1.2, hk.1.2⟩⟩)))⟩; have n2_ : Aside0 (Kd.V k46 46 w16 w.heap.size (fun k_ => (P1_ k_ ∨ w.heap.size ≤ k_) ∧ some k_ ≠ (u5 : Value).ownBlock ∧ k_ ≠ gb102) (.slice A101_0 (rd_L3 l1 x11_1).length c101_0) (rd_L3 l1 x11_1)) := ⟨(by rw [hw]; exact (by (with_reducible repeat (first | apply Kd.V_alloc | apply Kd.V_drewN | apply Kd.V_drew)); exact Kd.V_mono (Kd.V_far (p := ⟨gb102, 3, none⟩) (Kd.V_far (p := ⟨gb102, 2, none⟩) (Kd.V_far (p := ⟨gb102, 1, none⟩) (Kd.V_far (p := ⟨gb102, 0, none⟩) (Kd.V_mono HL101_0.out (fun k_ hk => (⟨hk, hk.2⟩ : _ ∧ k_ ≠ gb102))) (fun _ hk => hk.2) (.int .i64 0)) (fun _ hk => hk.2) (.int .i64 (wrap64 ((wrap64 (2 * x11_1)) + 1)))) (fun _ hk => hk.2) (.int .i64 (wrap64 ((wrap64 (2 * x11_1)) + 2)))) (fun _ hk => hk.2) (.slice A101_0 (rd_L3 l1 x11_1).length c101_0)) (fun _ hk => ⟨hk.1.1.1, ⟨hk.1.1.2, hk.1.2⟩⟩)))⟩; have n3_ : Aside0 (w16.heap[gb102]? = some (.cells #[.int .i64 0, .int .i64 (wrap64 ((wrap64 (2 * x11_1)) + 1)), .int .i64 (wrap64 ((wrap64 (2 * x11_1)) + 2)), .slice A101_0 (rd_L3 l1 x11_1).length c101_0] 44 (0, 0))) := ⟨(by rw [hw]; exact (by (with_reducible repeat (first | refine blk_drewN ?_ _ | refine blk_drew ?_ | refine blk_alloc ?_ _)); refine blk_put (cs := #[.int .i64 0, .int .i64 (wrap64 ((wrap64 (2 * x11_1)) + 1)), .int .i64 (wrap64 ((wrap64 (2 * x11_1)) + 2)), .slice none 0 0]) ?_ 3 _ rfl; (with_reducible repeat (first | refine blk_drewN ?_ _ | refine blk_drew ?_ | refine blk_alloc ?_ _)); refine blk_put (cs := #[.int .i64 0, .int .i64 (wrap64 ((wrap64 (2 * x11_1)) + 1)), .int .i64 0, .slice none 0 0]) ?_ 2 _ rfl; (with_reducible repeat (first | refine blk_drewN ?_ _ | refine blk_drew ?_ | refine blk_alloc ?_ _)); refine blk_put (cs := #[.int .i64 0, .int .i64 0, .int .i64 0, .slice none 0 0]) ?_ 1 _ rfl; (with_reducible repeat (first | refine blk_drewN ?_ _ | refine blk_drew ?_ | refine blk_alloc ?_ _)); refine blk_put (cs := #[.int .i64 0, .int .i64 0, .int .i64 0, .slice none 0 0]) ?_ 0 _ rfl; (with_reducible repeat (first | refine blk_drewN ?_ _ | refine blk_drew ?_ | refine blk_alloc ?_ _)); exact BK102.out))⟩; have n4_ : Aside0 (Below w.heap.size w w16) := ⟨(by rw [hw]; exact (by repeat (first | (with_reducible first | exact HB.out | apply below_alloc | apply pw_below_drewN | apply below_drew1 | refine below_set ?_ GE102.out))))⟩; clear hw; clear HO_5; clear HO_9; clear HL101_0; clear BK102; clear HB; have HO_5 := n0_; have HO_9 := n1_; have HL101_0 := n2_; have BK102 := n3_; have HB := n4_; clear n0_ n1_ n2_ n3_ n4_; have hcz17_0 : w16.cell? ⟨gb102, 0, none⟩ = some (.int .i64 0) := (blk_cell BK102.out 0).trans rfl; have hcz17_1 : w16.cell? ⟨gb102, 1, none⟩ = some (.int .i64 (wrap64 ((wrap64 (2 * x11_1)) + 1))) := (blk_cell BK102.out 1).trans rfl; have hcz17_2 : w16.cell? ⟨gb102, 2, none⟩ = some (.int .i64 (wrap64 ((wrap64 (2 * x11_1)) + 2))) := (blk_cell BK102.out 2).trans rfl; have hcz17_3 : w16.cell? ⟨gb102, 3, none⟩ = some (.slice A101_0 (rd_L3 l1 x11_1).length c101_0) := (blk_cell BK102.out 3).trans rfl; have hfz17_0 := blk_frozen BK102.out 0; have hfz17_1 := blk_frozen BK102.out 1; have hfz17_2 := blk_frozen BK102.out 2; have hfz17_3 := blk_frozen BK102.out 3) | ((with_reducible refine gate_store (t := 3) (p := 27) rfl ?_); refine store_event (t := 3) (p := 27) (v := ?vo_w18) (w1 := (w16.setCell ⟨gb102, 0, none⟩ (.int .i64 x11_1))) ?hg ?ho ?hn ?hr ?_; (case ho => rfl); (case hg => rfl); (case hn => rfl); (case hr => first | (go_simp; done) | (go_simp; rfl)); intro w18 hw; have n0_ : Aside0 (Kd.N k44 44 w18 w.heap.size (fun k_ => (P1_ k_ ∨ w.heap.size ≤ k_) ∧ k_ ≠ gb102) u5 x5_1) := ⟨(by rw [hw]; exact (by (with_reducible repeat (first | apply Kd.N_alloc | apply Kd.N_drewN | apply Kd.N_drew)); exact Kd.N_mono (Kd.N_far (p := ⟨gb102, 0, none⟩) (Kd.N_mono HO_5.out (fun k_ hk => (⟨hk, hk.2⟩ : _ ∧ k_ ≠ gb102))) (fun _ hk => hk.2) (.int .i64 x11_1)) (fun _ hk => ⟨hk.1.1, hk.1.2⟩)))⟩; have n1_ : Aside0 (Kd.V (Kd.slice 46 k46) 42 w18 w.heap.size (fun k_ => (P1_ k_ ∨ w.heap.size ≤ k_) ∧ some k_ ≠ (u5 : Value).ownBlock ∧ k_ ≠ gb102) (.slice (some ad101) l1.length c1) l1) := ⟨(by rw [hw]; exact (by (with_reducible repeat (first | apply Kd.V_alloc | apply Kd.V_drewN | apply Kd.V_drew)); exact Kd.V_mono (Kd.V_far (p := ⟨gb102, 0, none⟩) (Kd.V_mono HO_9.out (fun k_ hk => (⟨hk, hk.2.2⟩ : _ ∧ k_ ≠ gb102))) (fun _ hk => hk.2) (.int .i64 x11_1)) (fun _ hk => ⟨hk.1.1, ⟨hk.1.2.1, hk.1.2.2⟩⟩)))⟩; have n2_ : Aside0 (Kd.V k46 46 w18 w.heap.size (fun k_ => (P1_ k_ ∨ w.heap.size ≤ k_) ∧ some k_ ≠ (u5 : Value).ownBlock ∧ k_ ≠ gb102) (.slice A101_0 (rd_L3 l1 x11_1).length c101_0) (rd_L3 l1 x11_1)) := ⟨(by rw [hw]; exact (by (with_reducible repeat (first | apply Kd.V_alloc | apply Kd.V_drewN | apply Kd.V_drew)); exact Kd.V_mono (Kd.V_far (p := ⟨gb102, 0, none⟩) (Kd.V_mono HL101_0.out (fun k_ hk => (⟨hk, hk.2.2⟩ : _ ∧ k_ ≠ gb102))) (fun _ hk => hk.2) (.int .i64 x11_1)) (fun _ hk => ⟨hk.1.1, ⟨hk.1.2.1, hk.1.2.2⟩⟩)))⟩; have n3_ : Aside0 (w18.heap[gb102]? = some (.cells #[.int .i64 x11_1, .int .i64 (wrap64 ((wrap64 (2 * x11_1)) + 1)), .int .i64 (wrap64 ((wrap64 (2 * x11_1)) + 2)), .slice A101_0 (rd_L3 l1 x11_1).length c101_0] 44 (0, 0))) := ⟨(by rw [hw]; exact (by (with_reducible repeat (first | refine blk_drewN ?_ _ | refine blk_drew ?_ | refine blk_alloc ?_ _)); refine blk_put (cs := #[.int .i64 0, .int .i64 (wrap64 ((wrap64 (2 * x11_1)) + 1)), .int .i64 (wrap64 ((wrap64 (2 * x11_1)) + 2)), .slice A101_0 (rd_L3 l1 x11_1).length c101_0]) ?_ 0 _ rfl; (with_reducible repeat (first | refine blk_drewN ?_ _ | refine blk_drew ?_ | refine blk_alloc ?_ _)); exact BK102.out))⟩; have n4_ : Aside0 (Below w.heap.size w w18) := ⟨(by rw [hw]; exact (by repeat (first | (with_reducible first | exact HB.out | apply below_alloc | apply pw_below_drewN | apply below_drew1 | refine below_set ?_ GE102.out))))⟩; clear hw; clear HO_5; clear HO_9; clear HL101_0; clear BK102; clear HB; have HO_5 := n0_; have HO_9 := n1_; have HL101_0 := n2_; have BK102 := n3_; have HB := n4_; clear n0_ n1_ n2_ n3_ n4_; have hcz19_0 : w18.cell? ⟨gb102, 0, none⟩ = some (.int .i64 x11_1) := (blk_cell BK102.out 0).trans rfl; have hcz19_1 : w18.cell? ⟨gb102, 1, none⟩ = some (.int .i64 (wrap64 ((wrap64 (2 * x11_1)) + 1))) := (blk_cell BK102.out 1).trans rfl; have hcz19_2 : w18.cell? ⟨gb102, 2, none⟩ = some (.int .i64 (wrap64 ((wrap64 (2 * x11_1)) + 2))) := (blk_cell BK102.out 2).trans rfl; have hcz19_3 : w18.cell? ⟨gb102, 3, none⟩ = some (.slice A101_0 (rd_L3 l1 x11_1).length c101_0) := (blk_cell BK102.out 3).trans rfl; have hfz19_0 := blk_frozen BK102.out 0; have hfz19_1 := blk_frozen BK102.out 1; have hfz19_2 := blk_frozen BK102.out 2; have hfz19_3 := blk_frozen BK102.out 3) | ((with_reducible refine gate_builtin (b := .append) (xs := #[.tmp 28, .tmp 30]) rfl ?_); at_builtin; refine Kd.N_append k44 (w0 := w) w.heap.size rfl (.tmp 28) (.tmp 30) 23 44 (.agg #[(.int .i64 0), (.int .i64 0), (.int .i64 0), (.slice none 0 0)]) 48 rfl Try.underlying23 info44 rfl (by decide) (by omega) u5 x5_1 (⟨x11_1, wrap64 ((wrap64 (2 * x11_1)) + 1), wrap64 ((wrap64 (2 * x11_1)) + 2), rd_L3 l1 x11_1⟩ : S44) [.int .i64 x11_1, .int .i64 (wrap64 ((wrap64 (2 * x11_1)) + 1)), .int .i64 (wrap64 ((wrap64 (2 * x11_1)) + 2)), .slice A101_0 (rd_L3 l1 x11_1).length c101_0] (fun k_ => (P1_ k_ ∨ w.heap.size ≤ k_) ∧ k_ ≠ gb102) (fun k_ => ((fun k_ => (P1_ k_ ∨ w.heap.size ≤ k_) ∧ k_ ≠ gb102)) k_ ∧ some k_ ≠ (u5 : Value).ownBlock) rfl rfl ?aP (fun _ hk => hk) ?aF ?aO ?aB ?aS ?aL ?_; (case aP => exact (k44_mkF _ _ (⟨x11_1, wrap64 ((wrap64 (2 * x11_1)) + 1), wrap64 ((wrap64 (2 * x11_1)) + 2), rd_L3 l1 x11_1⟩ : S44) (Kd.V_reads' (Kd.V_mono (ok' := (fun k_ => ((fun k_ => (P1_ k_ ∨ w.heap.size ≤ k_) ∧ k_ ≠ gb102)) k_ ∧ some k_ ≠ (u5 : Value).ownBlock)) (HL101_0.out) (fun k_ hk => ⟨⟨hk.1, hk.2.2⟩, hk.2.1⟩))).2.1 (Kd.V_F (Kd.V_mono (ok' := (fun k_ => ((fun k_ => (P1_ k_ ∨ w.heap.size ≤ k_) ∧ k_ ≠ gb102)) k_ ∧ some k_ ≠ (u5 : Value).ownBlock)) (HL101_0.out) (fun k_ hk => ⟨⟨hk.1, hk.2.2⟩, hk.2.1⟩))))); (case aB => exact (by repeat (first | (with_reducible first | exact HB.out | apply below_alloc | apply pw_below_drewN | apply below_drew1 | refine below_set ?_ GE102.out)))); (case aF => exact (fun k_ hk => ⟨(.inr (Nat.le_trans (below_size (by repeat (first | (with_reducible first | exact HB.out | apply below_alloc | apply pw_below_drewN | apply below_drew1 | refine below_set ?_ GE102.out)))) hk)), Kd.freshB (g := gb102) (o := .cells #[.int .i64 x11_1, .int .i64 (wrap64 ((wrap64 (2 * x11_1)) + 1)), .int .i64 (wrap64 ((wrap64 (2 * x11_1)) + 2)), .slice A101_0 (rd_L3 l1 x11_1).length c101_0] 44 (0, 0)) (by (with_reducible repeat (first | refine blk_drewN ?_ _ | refine blk_drew ?_ | refine blk_alloc ?_ _)); exact BK102.out) k_ hk⟩)); (case aO => exact (by (with_reducible repeat (first | apply Kd.N_alloc | apply Kd.N_drewN | apply Kd.N_drew)); exact HO_5.out)); (case aS => exact (below_size (by repeat (first | (with_reducible first | exact HB.out | apply below_alloc | apply pw_below_drewN | apply below_drew1 | refine below_set ?_ GE102.out))))); (case aL => have := LMc13.out; omega); intro v107 w20 ho hb hg hat; rw [← Ny106.out] at ho; have n0_ := Aside0.mk (Kd.V_afterv (ok := (fun k_ => (P1_ k_ ∨ w.heap.size ≤ k_) ∧ k_ ≠ gb102)) (by (with_reducible repeat (first | apply Kd.V_alloc | apply Kd.V_drewN | apply Kd.V_drew)); exact Kd.V_mono HO_9.out (fun _ hk => ⟨⟨hk.1, hk.2.2⟩, hk.2.1⟩)) hg hat); have n1_ := Aside0.mk (Kd.V_afterv (ok := (fun k_ => (P1_ k_ ∨ w.heap.size ≤ k_) ∧ k_ ≠ gb102)) (by (with_reducible repeat (first | apply Kd.V_alloc | apply Kd.V_drewN | apply Kd.V_drew)); exact Kd.V_mono HL101_0.out (fun _ hk => ⟨⟨hk.1, hk.2.2⟩, hk.2.1⟩)) hg hat); have n2_ := Aside0.mk (blk_grown (g := gb102) (o := .cells #[.int .i64 x11_1, .int .i64 (wrap64 ((wrap64 (2 * x11_1)) + 1)), .int .i64 (wrap64 ((wrap64 (2 * x11_1)) + 2)), .slice A101_0 (rd_L3 l1 x11_1).length c101_0] 44 (0, 0)) (by (with_reducible repeat (first | refine blk_drewN ?_ _ | refine blk_drew ?_ | refine blk_alloc ?_ _)); exact BK102.out) hg (Kd.N_away HO_5.out (fun _ hk => hk.2))); have n3_ := Aside0.mk (hb); have n4_ := Aside0.mk (ho); clear HO_9; clear HL101_0; clear BK102; clear HB; clear HO_5; have HO_9 := n0_; have HL101_0 := n1_; have BK102 := n2_; have HB := n3_; have HO108 := n4_; clear n0_ n1_ n2_ n3_ n4_; clear ho hb hg hat))
        go_roundg k1
        case measure => have := HK1.out; omega
        case rel => exact ⟨(y106), (wrap64 (x11_1 + 1)), (by first | rfl | (simp; done) | (simp [*]; done)), H', ⟨by have := HK1.out; omega⟩, ⟨by (with_reducible repeat (first | apply Kd.N_alloc | apply Kd.N_drewN | apply Kd.N_drew)); exact Kd.N_mono HO108.out (fun _ hk => hk.1)⟩, ⟨by (with_reducible repeat (first | apply Kd.V_alloc | apply Kd.V_drewN | apply Kd.V_drew)); exact Kd.V_mono HO_9.out (fun _ hk => ⟨hk.1.1, hk.2⟩)⟩, ⟨by repeat (first | (with_reducible first | exact HB.out | apply below_alloc | apply pw_below_drewN | apply below_drew1 | refine below_set ?_ GE102.out))⟩⟩
       ·rw [if_neg c13] at H
        exact absurd H (by simp)
     ·rw [if_neg c5] at H
      exact absurd H (by simp)
    ·rw [if_neg c4] at H
     exact absurd H (by simp)
   ·rw [if_neg c3] at H
    have c3b0 : decide (x11_1 < (l1.length : Int)) = false := decide_eq_false c3
    clear c3
    obtain rfl := Option.some.inj H
    go_wp2
    go_ret
    exact ⟨_, by first | rfl | (simp <;> rfl) | (simp [*] <;> rfl), by (with_reducible repeat (first | apply Kd.N_alloc | apply Kd.N_drewN | apply Kd.N_drew)); exact HO_5.out, by repeat (first | (with_reducible first | exact HB.out | apply below_alloc | apply pw_below_drewN | apply below_drew1))⟩
end Go.Proofs.Ytfocaefnmfkojaa.Q
namespace Go.Proofs.Ytfocaefnmfkojaa.Q
end Go.Proofs.Ytfocaefnmfkojaa.Q
namespace Go.Proofs.Ytfocaefnmfkojaa.Q
open Go.RowKit Go.Proofs.YtfocaefnmfkojaaW.PrintWords Go.Proofs.YtfocaefnmfkojaaW.PrintLast Go.Proofs.YtfocaefnmfkojaaW.PrintMore
attribute [local go_sem] max2_int min2_int max_two min_two max_three min_three max_four min_four   -- for this text's walks alone
set_option linter.unusedVariables false
set_option linter.unusedSimpArgs false
def catalogue_at.l0 : Nat → List (S44) → Int → List (List (S46)) → Int → Int → Option ((List (S44)))
 | 0, _, _, _, _, _ => none
 | k + 1, x3, x4, x9, x10, x11 => if x11 < x10 then (if 0 ≤ x11 then (if x11 < (x9.length : Int) then (if x3.length < 2932031007402 then (catalogue_at.l0 k (x3 ++ [(⟨x11, wrap64 (x11 + 1), wrap64 ((wrap64 (x4 + x11)) + 1), rd_L3 x9 x11⟩ : S44)]) x4 x9 x10 (wrap64 (x11 + 1))) else (none)) else (none)) else (none)) else (some x3)
def catalogue_at.f (k : Nat) (l0 : List (List (S46))) : Option ((List (S44))) := catalogue_at.l0 k ([] : List (S44)) (l0.length : Int) l0 (l0.length : Int) 0
set_option maxHeartbeats 8000000 in
set_option maxRecDepth 100000 in
theorem catalogue_at.calls (k : Nat) (P0_ : Nat → Prop) (A0 : Option Addr) (c0 : Nat) (l0 : List (List (S46))) (r : List (S44)) (w : World) (hs0 : Kd.V (Kd.slice 46 k46) 42 w w.heap.size (fun k_ => P0_ k_) (.slice A0 l0.length c0) l0) (h : catalogue_at.f k l0 = some r) :
  Calls Try.prog 87 #[.slice A0 l0.length c0] w fun e w' => ∃ v0_ : Value, e = .returned (v0_) ∧ Kd.N k44 44 w' w.heap.size (fun k_ => (P0_ k_ ∨ w.heap.size ≤ k_)) v0_ r ∧ Below w.heap.size w w' := by
 have hu44 := Try.underlying44
 have HO0 := Aside0.mk (show Kd.V (Kd.slice 46 k46) 42 w w.heap.size (fun k_ => (P0_ k_ ∨ w.heap.size ≤ k_)) (.slice A0 l0.length c0) l0 from Kd.V_mono hs0 (fun k_ hk => .inl hk))
 have HB := Aside0.mk (Below.refl w.heap.size w)
 have H : (catalogue_at.l0 k ([] : List (S44)) (l0.length : Int) l0 (l0.length : Int) 0) = some r := h
 clear h
 have H' := Aside0.mk H
 clear H
 go_enter Try.func87, Try.ntmps87
 go_wp2
 go_loopg [3, 11] k (fun kq v3 v11 w' => ∃ (x3_1 : List (S44)) (x11_1 : Int), v11 = .int .i64 x11_1 ∧ Aside0 (catalogue_at.l0 kq x3_1 (l0.length : Int) l0 (l0.length : Int) x11_1 = some r) ∧ Aside0 (kq ≤ k) ∧ Aside0 (Kd.N k44 44 w' w.heap.size (fun k_ => (P0_ k_ ∨ w.heap.size ≤ k_)) v3 x3_1) ∧ Aside0 (Kd.V (Kd.slice 46 k46) 42 w' w.heap.size (fun k_ => (P0_ k_ ∨ w.heap.size ≤ k_) ∧ some k_ ≠ (v3 : Value).ownBlock) (.slice A0 l0.length c0) l0) ∧ Aside0 (Below w.heap.size w w'))
 case atStart => exact ⟨(([] : List (S44))), (0), (by first | rfl | (simp; done) | (simp [*]; done)), H', ⟨Nat.le_refl _⟩, ⟨by first | exact Kd.S_nil _ _ _ _ _ | exact Kd.N_nil _ _ _ _ _ | exact Kd.V_nil _ _ _ _ _ | exact Kd.Q_nil _ _ _ _ _ | exact Kd.R_nil _ _ _ _ _⟩, ⟨by (with_reducible repeat (first | apply Kd.V_alloc | apply Kd.V_drewN | apply Kd.V_drew)); exact Kd.V_mono HO0.out (fun _ hk => ⟨hk, (by simp [Value.ownBlock])⟩)⟩, ⟨by repeat (first | (with_reducible first | exact HB.out | apply below_alloc | apply pw_below_drewN | apply below_drew1))⟩⟩
 case round =>
  clear H'
  obtain ⟨x3_1, x11_1, rfl, HA, HK1, HO_3, HO_9, HB⟩ := hrel
  cases gk with
  | zero => exact absurd HA.out (by simp [catalogue_at.l0])
  | succ k1 =>
   have H := HA.out
   clear HA
   simp only [catalogue_at.l0] at H
   by_cases c2 : x11_1 < (l0.length : Int)
   ·rw [if_pos c2] at H
    have c2b0 : decide (x11_1 < (l0.length : Int)) = true := decide_eq_true c2
    clear c2
    by_cases c3 : 0 ≤ x11_1
    ·rw [if_pos c3] at H
     have c3b0 : decide (0 ≤ x11_1) = true := decide_eq_true c3
     clear c3
     by_cases c4 : x11_1 < (l0.length : Int)
     ·rw [if_pos c4] at H
      have c4b0 : decide (x11_1 < (l0.length : Int)) = true := decide_eq_true c4
      clear c4
      by_cases c5 : x3_1.length < 2932031007402
      ·rw [if_pos c5] at H
       have LMc5 := Aside0.mk c5
       clear c5
       obtain ⟨y102, hy102⟩ : ∃ y_ : List (S44), y_ = (x3_1 ++ [(⟨x11_1, wrap64 (x11_1 + 1), wrap64 ((wrap64 ((l0.length : Int) + x11_1)) + 1), rd_L3 l0 x11_1⟩ : S44)]) := ⟨_, rfl⟩
       replace H : (catalogue_at.l0 k1 y102 (l0.length : Int) l0 (l0.length : Int) (wrap64 (x11_1 + 1))) = some r := by first | (rw [hy102]; with_reducible exact H) | (have H2_ := (Option.bind_some _ _).symm.trans H; rw [hy102]; with_reducible exact H2_) | (have H2_ := (Option.bind_some _ _).symm.trans H; with_reducible exact H2_) | with_reducible exact H | (rw [hy102]; exact H) | exact H
       have Ny102 := Aside0.mk hy102
       clear hy102
       have H' := Aside0.mk H
       clear H
       have p101 : 0 ≤ (x11_1 : Int) := of_decide_eq_true (by assumption)
       have q101 : x11_1 < (l0.length : Int) := of_decide_eq_true (by assumption)
       obtain ⟨ad101, A101_0, c101_0, e101, hx101_0, hl101_0, hi101_0⟩ := at_L3 (Kd.V_reads' HO_9.out).2.2 x11_1 p101 q101
       cases e101
       obtain ⟨ce101, hce101, hMe101, hcc101⟩ := Kd.V_get HO_9.out [] x11_1 p101 (by first | exact q101 | exact of_decide_eq_true (by assumption) | (have e_ := (Kd.V_reads' HO_9.out).1; omega))
       obtain ⟨ua101_0, uc101_0, rfl, ul101_0, ge101_0⟩ := Kd.FK_slice_open hMe101
       have hv101_0 := hcc101 0 _ rfl
       rw [Nat.add_zero, show ((Kd.slice 46 k46)).sz = 1 from rfl, Nat.mul_one] at hv101_0
       replace hv101_0 := Option.some.inj (hv101_0.symm.trans hx101_0)
       injection hv101_0 with hva_ hvn_ hvc_
       rw [hva_] at ge101_0
       rw [hvc_] at ul101_0
       have HL101_0 := Aside0.mk (show Kd.V k46 46 _ w.heap.size _ _ (rd_L3 l0 x11_1) from Kd.V_mk ul101_0 ge101_0)
       clear hva_ hvn_ hvc_ ge101_0 ul101_0
       clear hcc101 hce101
       have HR101_0 := Aside0.mk hi101_0
       have HC101_0 := Aside0.mk hl101_0
       clear hi101_0 hl101_0
       replace p101 := eq_true p101
       replace q101 := eq_true q101
       go_wp2_with (first | ((with_reducible refine gate_builtin (b := .append) (xs := #[.tmp 16, .tmp 26]) rfl ?_); at_builtin; refine Kd.N_append k44 (w0 := w) w.heap.size rfl (.tmp 16) (.tmp 26) 23 44 (.agg #[(.int .i64 0), (.int .i64 0), (.int .i64 0), (.slice none 0 0)]) 48 rfl Try.underlying23 info44 rfl (by decide) (by omega) u3 x3_1 (⟨x11_1, wrap64 (x11_1 + 1), wrap64 ((wrap64 ((l0.length : Int) + x11_1)) + 1), rd_L3 l0 x11_1⟩ : S44) [.int .i64 x11_1, .int .i64 (wrap64 (x11_1 + 1)), .int .i64 (wrap64 ((wrap64 ((l0.length : Int) + x11_1)) + 1)), .slice A101_0 (rd_L3 l0 x11_1).length c101_0] (fun k_ => (P0_ k_ ∨ w.heap.size ≤ k_)) (fun k_ => ((fun k_ => (P0_ k_ ∨ w.heap.size ≤ k_))) k_ ∧ some k_ ≠ (u3 : Value).ownBlock) rfl rfl ?aP (fun _ hk => hk) ?aF ?aO ?aB ?aS ?aL ?_; (case aP => exact (k44_mkF _ _ (⟨x11_1, wrap64 (x11_1 + 1), wrap64 ((wrap64 ((l0.length : Int) + x11_1)) + 1), rd_L3 l0 x11_1⟩ : S44) (Kd.V_reads' (Kd.V_mono (ok' := (fun k_ => ((fun k_ => (P0_ k_ ∨ w.heap.size ≤ k_))) k_ ∧ some k_ ≠ (u3 : Value).ownBlock)) (HL101_0.out) (fun k_ hk => ⟨hk.1, hk.2⟩))).2.1 (Kd.V_F (Kd.V_mono (ok' := (fun k_ => ((fun k_ => (P0_ k_ ∨ w.heap.size ≤ k_))) k_ ∧ some k_ ≠ (u3 : Value).ownBlock)) (HL101_0.out) (fun k_ hk => ⟨hk.1, hk.2⟩))))); (case aB => exact (by repeat (first | (with_reducible first | exact HB.out | apply below_alloc | apply pw_below_drewN | apply below_drew1)))); (case aF => exact (fun k_ hk => (.inr (Nat.le_trans (below_size (by repeat (first | (with_reducible first | exact HB.out | apply below_alloc | apply pw_below_drewN | apply below_drew1)))) hk)))); (case aO => exact (by (with_reducible repeat (first | apply Kd.N_alloc | apply Kd.N_drewN | apply Kd.N_drew)); exact HO_3.out)); (case aS => exact (below_size (by repeat (first | (with_reducible first | exact HB.out | apply below_alloc | apply pw_below_drewN | apply below_drew1))))); (case aL => have := LMc5.out; omega); intro v103 w6 ho hb hg hat; rw [← Ny102.out] at ho; have n0_ := Aside0.mk (Kd.V_afterv (ok := (fun k_ => (P0_ k_ ∨ w.heap.size ≤ k_))) (by (with_reducible repeat (first | apply Kd.V_alloc | apply Kd.V_drewN | apply Kd.V_drew)); exact HO_9.out) hg hat); have n1_ := Aside0.mk (Kd.V_afterv (ok := (fun k_ => (P0_ k_ ∨ w.heap.size ≤ k_))) (by (with_reducible repeat (first | apply Kd.V_alloc | apply Kd.V_drewN | apply Kd.V_drew)); exact HL101_0.out) hg hat); have n2_ := Aside0.mk (hb); have n3_ := Aside0.mk (ho); clear HO_9; clear HL101_0; clear HB; clear HO_3; have HO_9 := n0_; have HL101_0 := n1_; have HB := n2_; have HO104 := n3_; clear n0_ n1_ n2_ n3_; clear ho hb hg hat))
       go_roundg k1
       case measure => have := HK1.out; omega
       case rel => exact ⟨(y102), (wrap64 (x11_1 + 1)), (by first | rfl | (simp; done) | (simp [*]; done)), H', ⟨by have := HK1.out; omega⟩, ⟨by (with_reducible repeat (first | apply Kd.N_alloc | apply Kd.N_drewN | apply Kd.N_drew)); exact HO104.out⟩, ⟨by (with_reducible repeat (first | apply Kd.V_alloc | apply Kd.V_drewN | apply Kd.V_drew)); exact HO_9.out⟩, ⟨by repeat (first | (with_reducible first | exact HB.out | apply below_alloc | apply pw_below_drewN | apply below_drew1))⟩⟩
      ·rw [if_neg c5] at H
       exact absurd H (by simp)
     ·rw [if_neg c4] at H
      exact absurd H (by simp)
    ·rw [if_neg c3] at H
     exact absurd H (by simp)
   ·rw [if_neg c2] at H
    have c2b0 : decide (x11_1 < (l0.length : Int)) = false := decide_eq_false c2
    clear c2
    obtain rfl := Option.some.inj H
    go_wp2
    go_ret
    exact ⟨_, by first | rfl | (simp <;> rfl) | (simp [*] <;> rfl), by (with_reducible repeat (first | apply Kd.N_alloc | apply Kd.N_drewN | apply Kd.N_drew)); exact HO_3.out, by repeat (first | (with_reducible first | exact HB.out | apply below_alloc | apply pw_below_drewN | apply below_drew1))⟩
end Go.Proofs.Ytfocaefnmfkojaa.Q
namespace Go.Proofs.Ytfocaefnmfkojaa.Q
open Go.RowKit Go.Proofs.YtfocaefnmfkojaaW.PrintWords Go.Proofs.YtfocaefnmfkojaaW.PrintLast Go.Proofs.YtfocaefnmfkojaaW.PrintMore
attribute [local go_sem] max2_int min2_int max_two min_two max_three min_three max_four min_four   -- for this text's walks alone
set_option linter.unusedVariables false
set_option linter.unusedSimpArgs false
def entry0 : S25 := ⟨⟨#[111, 119, 110, 32, 119, 114, 105, 116, 101, 32, 117, 110, 115, 101, 101, 110]⟩, [(⟨0, 1, 2, [(⟨true, 0, 1⟩ : S46)]⟩ : S44), (⟨0, 3, 4, [(⟨false, 0, 0⟩ : S46)]⟩ : S44)], 1⟩
def entry1 : S25 := ⟨⟨#[99, 97, 117, 115, 101, 32, 117, 110, 115, 101, 101, 110]⟩, [(⟨0, 1, 4, [(⟨true, 0, 1⟩ : S46)]⟩ : S44), (⟨1, 2, 5, [(⟨false, 0, 1⟩ : S46), (⟨true, 1, 2⟩ : S46)]⟩ : S44), (⟨2, 3, 6, [(⟨false, 1, 2⟩ : S46), (⟨false, 0, 0⟩ : S46)]⟩ : S44)], 2⟩
def entry2 : S25 := ⟨⟨#[108, 111, 110, 103, 32, 102, 111, 114, 107]⟩, [(⟨0, 1, 5, [(⟨true, 0, 1⟩ : S46)]⟩ : S44), (⟨1, 2, 6, [(⟨true, 1, 2⟩ : S46)]⟩ : S44), (⟨2, 3, 7, [(⟨false, 0, 1⟩ : S46), (⟨false, 1, 0⟩ : S46)]⟩ : S44), (⟨3, 4, 8, [(⟨false, 0, 0⟩ : S46), (⟨false, 1, 2⟩ : S46)]⟩ : S44)], 4⟩
def entry3 : S25 := ⟨⟨#[108, 111, 115, 116, 32, 117, 112, 100, 97, 116, 101]⟩, [(⟨0, 1, 3, [(⟨false, 0, 0⟩ : S46), (⟨true, 0, 1⟩ : S46)]⟩ : S44), (⟨1, 2, 4, [(⟨false, 0, 0⟩ : S46), (⟨true, 0, 2⟩ : S46)]⟩ : S44)], 8⟩
def entry4 : S25 := ⟨⟨#[119, 114, 105, 116, 101, 32, 115, 107, 101, 119]⟩, [(⟨0, 1, 3, [(⟨false, 1, 0⟩ : S46), (⟨true, 0, 1⟩ : S46)]⟩ : S44), (⟨1, 2, 4, [(⟨false, 0, 0⟩ : S46), (⟨true, 1, 2⟩ : S46)]⟩ : S44)], 16⟩
def entry5 : S25 := ⟨⟨#[115, 116, 97, 108, 101, 32, 114, 101, 97, 100]⟩, [(⟨0, 1, 2, [(⟨true, 0, 1⟩ : S46)]⟩ : S44), (⟨1, 3, 4, [(⟨false, 0, 0⟩ : S46)]⟩ : S44)], 32⟩
def catalogue_All.f : Option (List (S25)) := some [entry0, entry1, entry2, entry3, entry4, entry5]
set_option maxHeartbeats 1000000 in
theorem catalogue_ops.any (v : Value) (w : World) : Calls Try.prog 86 #[v] w fun e w' => e = .returned v ∧ w = w' := by
 go_enter Try.func86, Try.ntmps86
 go_wp2
 go_ret
 exact ⟨rfl, rfl⟩
theorem catalogue_ops.lit1 (a : Bool) (b c : Int) (base : Nat) (W : World) (ok : Nat → Prop) (hok : ok W.heap.size) :
  Calls Try.prog 86 #[.slice (some ⟨W.heap.size, 0, none⟩) 1 1] (W.alloc (.cells #[.bool a, .int .i64 b, .int .i64 c] 46)) fun e w' => ∃ ad, e = .returned (.slice (some ad) 1 1) ∧ Kd.V k46 46 w' base ok (.slice (some ad) 1 1) [(⟨a, b, c⟩ : S46)] ∧ Below W.heap.size W w' := by
 refine (catalogue_ops.any _ _).mono ?_
 rintro e w' ⟨rfl, rfl⟩
 refine ⟨_, rfl, H.V_lit k46 46 W base ok hok [(⟨a, b, c⟩ : S46)] [.bool a, .int .i64 b, .int .i64 c] (by simp) ?_, (Below.refl _ _).alloc (Nat.le_refl _) _⟩
 rintro (_ | j) p hp
 ·obtain rfl : (⟨a, b, c⟩ : S46) = p := by simpa using hp
  exact ⟨_, rfl, k46_mkF W ok _, fun i u hu => by simpa [show k46.sz = 3 from rfl] using hu⟩
 ·simp at hp
theorem catalogue_ops.lit2 (a a' : Bool) (b c b' c' : Int) (base : Nat) (W : World) (ok : Nat → Prop) (hok : ok W.heap.size) :
  Calls Try.prog 86 #[.slice (some ⟨W.heap.size, 0, none⟩) 2 2] (W.alloc (.cells #[.bool a, .int .i64 b, .int .i64 c, .bool a', .int .i64 b', .int .i64 c'] 46)) fun e w' => ∃ ad, e = .returned (.slice (some ad) 2 2) ∧ Kd.V k46 46 w' base ok (.slice (some ad) 2 2) [(⟨a, b, c⟩ : S46), (⟨a', b', c'⟩ : S46)] ∧ Below W.heap.size W w' := by
 refine (catalogue_ops.any _ _).mono ?_
 rintro e w' ⟨rfl, rfl⟩
 refine ⟨_, rfl, H.V_lit k46 46 W base ok hok [(⟨a, b, c⟩ : S46), (⟨a', b', c'⟩ : S46)] [.bool a, .int .i64 b, .int .i64 c, .bool a', .int .i64 b', .int .i64 c'] (by simp) ?_, (Below.refl _ _).alloc (Nat.le_refl _) _⟩
 rintro (_ | _ | j) p hp
 ·obtain rfl : (⟨a, b, c⟩ : S46) = p := by simpa using hp
  refine ⟨_, rfl, k46_mkF W ok _, fun i u hu => ?_⟩
  match i, hu with
  | 0, hu => simpa [show k46.sz = 3 from rfl] using hu
  | 1, hu => simpa [show k46.sz = 3 from rfl] using hu
  | 2, hu => simpa [show k46.sz = 3 from rfl] using hu
  | i + 3, hu => simp at hu
 ·obtain rfl : (⟨a', b', c'⟩ : S46) = p := by simpa using hp
  refine ⟨_, rfl, k46_mkF W ok _, fun i u hu => ?_⟩
  match i, hu with
  | 0, hu => simpa [show k46.sz = 3 from rfl] using hu
  | 1, hu => simpa [show k46.sz = 3 from rfl] using hu
  | 2, hu => simpa [show k46.sz = 3 from rfl] using hu
  | i + 3, hu => simp at hu
 ·simp at hp
set_option maxHeartbeats 8000000 in
set_option maxRecDepth 100000 in
theorem catalogue_All.calls (r : List (S25)) (w : World) (h : catalogue_All.f = some r) :
  Calls Try.prog 54 #[] w fun e w' => ∃ v0_ : Value, e = .returned (v0_) ∧ Kd.V k25 25 w' w.heap.size (fun k_ => (w.heap.size ≤ k_)) v0_ r ∧ Below w.heap.size w w' := by
 obtain rfl := Option.some.inj h
 clear h
 have hu25 := Try.underlying25
 have HB := Aside0.mk (Below.refl w.heap.size w)
 go_enter Try.func54, Try.ntmps54
 go_wp2_with fail
 refine (op_Write.calls 0 1 true 0 1 _ rfl).mono ?_
 rintro e w1 ⟨rfl, hb⟩
 replace HB := Aside0.mk (below_step HB.out hb)
 clear hb
 go_wp2_with fail
 refine (catalogue_ops.lit1 true 0 1 w.heap.size _ (fun k_ => (w.heap.size ≤ k_)) HB.out.size).mono ?_
 rintro e w2 ⟨A1, rfl, hv, hb⟩
 replace HB := Aside0.mk (below_step HB.out hb)
 have hv1 := Aside0.mk hv; clear hv hb
 go_wp2_with fail
 refine (op_Read.calls 0 0 false 0 0 _ rfl).mono ?_
 rintro e w3 ⟨rfl, hb⟩
 replace hv1 := Aside0.mk (Kd.V_below hv1.out hb)
 replace HB := Aside0.mk (below_step HB.out hb)
 clear hb
 go_wp2_with fail
 refine (catalogue_ops.lit1 false 0 0 w.heap.size _ (fun k_ => (w.heap.size ≤ k_)) HB.out.size).mono ?_
 rintro e w4 ⟨A2, rfl, hv, hb⟩
 replace hv1 := Aside0.mk (Kd.V_below hv1.out hb)
 replace HB := Aside0.mk (below_step HB.out hb)
 have hv2 := Aside0.mk hv; clear hv hb
 go_wp2_with fail
 have hs := H.V_lit (Kd.slice 46 k46) 42 w4 (w4.alloc (.cells [.slice (some A1) 1 1, .slice (some A2) 1 1].toArray 42)).heap.size (fun k_ => (w.heap.size ≤ k_)) HB.out.size ([[(⟨true, 0, 1⟩ : S46)], [(⟨false, 0, 0⟩ : S46)]] : List (List S46)) [.slice (some A1) 1 1, .slice (some A2) 1 1] (by simp) (by
  rintro (_ | _ | j) p hp
  ·obtain rfl : ([(⟨true, 0, 1⟩ : S46)] : List S46) = p := by simpa using hp
   refine ⟨_, rfl, H.V_FK_slice hv1.out, fun i u hu => ?_⟩
   match i, hu with
   | 0, hu => simpa [show (Kd.slice 46 k46).sz = 1 from rfl] using hu
   | i + 1, hu => simp at hu
  ·obtain rfl : ([(⟨false, 0, 0⟩ : S46)] : List S46) = p := by simpa using hp
   refine ⟨_, rfl, H.V_FK_slice hv2.out, fun i u hu => ?_⟩
   match i, hu with
   | 0, hu => simpa [show (Kd.slice 46 k46).sz = 1 from rfl] using hu
   | i + 1, hu => simp at hu
  ·simp at hp)
 refine (catalogue_after.calls 10 true (fun k_ => (w.heap.size ≤ k_)) _ _ [[(⟨true, 0, 1⟩ : S46)], [(⟨false, 0, 0⟩ : S46)]] [(⟨0, 1, 2, [(⟨true, 0, 1⟩ : S46)]⟩ : S44), (⟨0, 3, 4, [(⟨false, 0, 0⟩ : S46)]⟩ : S44)] _ hs (by kernel_rfl)).mono ?_
 rintro e w5 ⟨v, rfl, hN, hb0⟩
 have hb := below_step (below_alloc (Below.refl _ w4) (.cells [.slice (some A1) 1 1, .slice (some A2) 1 1].toArray 42)) hb0
 have hv := Kd.V_mono (ok' := (fun k_ => (w.heap.size ≤ k_))) (Kd.N_V (base' := w.heap.size) hN) (fun k_ hk => hk.elim id (fun h => Nat.le_trans HB.out.size (Nat.le_trans (by simp) h)))
 clear hs hN hb0
 replace hv1 := Aside0.mk (Kd.V_below hv1.out hb)
 replace hv2 := Aside0.mk (Kd.V_below hv2.out hb)
 replace HB := Aside0.mk (below_step HB.out hb)
 clear hb
 clear hv1
 clear hv2
 obtain ⟨B0, c0, rfl⟩ := Kd.V_slice hv
 have ht0 := Aside0.mk hv; clear hv
 go_wp2_with fail
 refine (op_Write.calls 0 1 true 0 1 _ rfl).mono ?_
 rintro e w6 ⟨rfl, hb⟩
 replace ht0 := Aside0.mk (Kd.V_below ht0.out hb)
 replace HB := Aside0.mk (below_step HB.out hb)
 clear hb
 go_wp2_with fail
 refine (catalogue_ops.lit1 true 0 1 w.heap.size _ (fun k_ => (w.heap.size ≤ k_)) HB.out.size).mono ?_
 rintro e w7 ⟨A3, rfl, hv, hb⟩
 replace ht0 := Aside0.mk (Kd.V_below ht0.out hb)
 replace HB := Aside0.mk (below_step HB.out hb)
 have hv3 := Aside0.mk hv; clear hv hb
 go_wp2_with fail
 refine (op_Read.calls 0 1 false 0 1 _ rfl).mono ?_
 rintro e w8 ⟨rfl, hb⟩
 replace ht0 := Aside0.mk (Kd.V_below ht0.out hb)
 replace hv3 := Aside0.mk (Kd.V_below hv3.out hb)
 replace HB := Aside0.mk (below_step HB.out hb)
 clear hb
 go_wp2_with fail
 refine (op_Write.calls 1 2 true 1 2 _ rfl).mono ?_
 rintro e w9 ⟨rfl, hb⟩
 replace ht0 := Aside0.mk (Kd.V_below ht0.out hb)
 replace hv3 := Aside0.mk (Kd.V_below hv3.out hb)
 replace HB := Aside0.mk (below_step HB.out hb)
 clear hb
 go_wp2_with fail
 refine (catalogue_ops.lit2 false true 0 1 1 2 w.heap.size _ (fun k_ => (w.heap.size ≤ k_)) HB.out.size).mono ?_
 rintro e w10 ⟨A4, rfl, hv, hb⟩
 replace ht0 := Aside0.mk (Kd.V_below ht0.out hb)
 replace hv3 := Aside0.mk (Kd.V_below hv3.out hb)
 replace HB := Aside0.mk (below_step HB.out hb)
 have hv4 := Aside0.mk hv; clear hv hb
 go_wp2_with fail
 refine (op_Read.calls 1 2 false 1 2 _ rfl).mono ?_
 rintro e w11 ⟨rfl, hb⟩
 replace ht0 := Aside0.mk (Kd.V_below ht0.out hb)
 replace hv3 := Aside0.mk (Kd.V_below hv3.out hb)
 replace hv4 := Aside0.mk (Kd.V_below hv4.out hb)
 replace HB := Aside0.mk (below_step HB.out hb)
 clear hb
 go_wp2_with fail
 refine (op_Read.calls 0 0 false 0 0 _ rfl).mono ?_
 rintro e w12 ⟨rfl, hb⟩
 replace ht0 := Aside0.mk (Kd.V_below ht0.out hb)
 replace hv3 := Aside0.mk (Kd.V_below hv3.out hb)
 replace hv4 := Aside0.mk (Kd.V_below hv4.out hb)
 replace HB := Aside0.mk (below_step HB.out hb)
 clear hb
 go_wp2_with fail
 refine (catalogue_ops.lit2 false false 1 2 0 0 w.heap.size _ (fun k_ => (w.heap.size ≤ k_)) HB.out.size).mono ?_
 rintro e w13 ⟨A5, rfl, hv, hb⟩
 replace ht0 := Aside0.mk (Kd.V_below ht0.out hb)
 replace hv3 := Aside0.mk (Kd.V_below hv3.out hb)
 replace hv4 := Aside0.mk (Kd.V_below hv4.out hb)
 replace HB := Aside0.mk (below_step HB.out hb)
 have hv5 := Aside0.mk hv; clear hv hb
 go_wp2_with fail
 have hs := H.V_lit (Kd.slice 46 k46) 42 w13 (w13.alloc (.cells [.slice (some A3) 1 1, .slice (some A4) 2 2, .slice (some A5) 2 2].toArray 42)).heap.size (fun k_ => (w.heap.size ≤ k_)) HB.out.size ([[(⟨true, 0, 1⟩ : S46)], [(⟨false, 0, 1⟩ : S46), (⟨true, 1, 2⟩ : S46)], [(⟨false, 1, 2⟩ : S46), (⟨false, 0, 0⟩ : S46)]] : List (List S46)) [.slice (some A3) 1 1, .slice (some A4) 2 2, .slice (some A5) 2 2] (by simp) (by
  rintro (_ | _ | _ | j) p hp
  ·obtain rfl : ([(⟨true, 0, 1⟩ : S46)] : List S46) = p := by simpa using hp
   refine ⟨_, rfl, H.V_FK_slice hv3.out, fun i u hu => ?_⟩
   match i, hu with
   | 0, hu => simpa [show (Kd.slice 46 k46).sz = 1 from rfl] using hu
   | i + 1, hu => simp at hu
  ·obtain rfl : ([(⟨false, 0, 1⟩ : S46), (⟨true, 1, 2⟩ : S46)] : List S46) = p := by simpa using hp
   refine ⟨_, rfl, H.V_FK_slice hv4.out, fun i u hu => ?_⟩
   match i, hu with
   | 0, hu => simpa [show (Kd.slice 46 k46).sz = 1 from rfl] using hu
   | i + 1, hu => simp at hu
  ·obtain rfl : ([(⟨false, 1, 2⟩ : S46), (⟨false, 0, 0⟩ : S46)] : List S46) = p := by simpa using hp
   refine ⟨_, rfl, H.V_FK_slice hv5.out, fun i u hu => ?_⟩
   match i, hu with
   | 0, hu => simpa [show (Kd.slice 46 k46).sz = 1 from rfl] using hu
   | i + 1, hu => simp at hu
  ·simp at hp)
 refine (catalogue_at.calls 10 (fun k_ => (w.heap.size ≤ k_)) _ _ [[(⟨true, 0, 1⟩ : S46)], [(⟨false, 0, 1⟩ : S46), (⟨true, 1, 2⟩ : S46)], [(⟨false, 1, 2⟩ : S46), (⟨false, 0, 0⟩ : S46)]] [(⟨0, 1, 4, [(⟨true, 0, 1⟩ : S46)]⟩ : S44), (⟨1, 2, 5, [(⟨false, 0, 1⟩ : S46), (⟨true, 1, 2⟩ : S46)]⟩ : S44), (⟨2, 3, 6, [(⟨false, 1, 2⟩ : S46), (⟨false, 0, 0⟩ : S46)]⟩ : S44)] _ hs (by kernel_rfl)).mono ?_
 rintro e w14 ⟨v, rfl, hN, hb0⟩
 have hb := below_step (below_alloc (Below.refl _ w13) (.cells [.slice (some A3) 1 1, .slice (some A4) 2 2, .slice (some A5) 2 2].toArray 42)) hb0
 have hv := Kd.V_mono (ok' := (fun k_ => (w.heap.size ≤ k_))) (Kd.N_V (base' := w.heap.size) hN) (fun k_ hk => hk.elim id (fun h => Nat.le_trans HB.out.size (Nat.le_trans (by simp) h)))
 clear hs hN hb0
 replace ht0 := Aside0.mk (Kd.V_below ht0.out hb)
 replace hv3 := Aside0.mk (Kd.V_below hv3.out hb)
 replace hv4 := Aside0.mk (Kd.V_below hv4.out hb)
 replace hv5 := Aside0.mk (Kd.V_below hv5.out hb)
 replace HB := Aside0.mk (below_step HB.out hb)
 clear hb
 clear hv3
 clear hv4
 clear hv5
 obtain ⟨B1, c1, rfl⟩ := Kd.V_slice hv
 have ht1 := Aside0.mk hv; clear hv
 go_wp2_with fail
 refine (op_Write.calls 0 1 true 0 1 _ rfl).mono ?_
 rintro e w15 ⟨rfl, hb⟩
 replace ht0 := Aside0.mk (Kd.V_below ht0.out hb)
 replace ht1 := Aside0.mk (Kd.V_below ht1.out hb)
 replace HB := Aside0.mk (below_step HB.out hb)
 clear hb
 go_wp2_with fail
 refine (catalogue_ops.lit1 true 0 1 w.heap.size _ (fun k_ => (w.heap.size ≤ k_)) HB.out.size).mono ?_
 rintro e w16 ⟨A6, rfl, hv, hb⟩
 replace ht0 := Aside0.mk (Kd.V_below ht0.out hb)
 replace ht1 := Aside0.mk (Kd.V_below ht1.out hb)
 replace HB := Aside0.mk (below_step HB.out hb)
 have hv6 := Aside0.mk hv; clear hv hb
 go_wp2_with fail
 refine (op_Write.calls 1 2 true 1 2 _ rfl).mono ?_
 rintro e w17 ⟨rfl, hb⟩
 replace ht0 := Aside0.mk (Kd.V_below ht0.out hb)
 replace ht1 := Aside0.mk (Kd.V_below ht1.out hb)
 replace hv6 := Aside0.mk (Kd.V_below hv6.out hb)
 replace HB := Aside0.mk (below_step HB.out hb)
 clear hb
 go_wp2_with fail
 refine (catalogue_ops.lit1 true 1 2 w.heap.size _ (fun k_ => (w.heap.size ≤ k_)) HB.out.size).mono ?_
 rintro e w18 ⟨A7, rfl, hv, hb⟩
 replace ht0 := Aside0.mk (Kd.V_below ht0.out hb)
 replace ht1 := Aside0.mk (Kd.V_below ht1.out hb)
 replace hv6 := Aside0.mk (Kd.V_below hv6.out hb)
 replace HB := Aside0.mk (below_step HB.out hb)
 have hv7 := Aside0.mk hv; clear hv hb
 go_wp2_with fail
 refine (op_Read.calls 0 1 false 0 1 _ rfl).mono ?_
 rintro e w19 ⟨rfl, hb⟩
 replace ht0 := Aside0.mk (Kd.V_below ht0.out hb)
 replace ht1 := Aside0.mk (Kd.V_below ht1.out hb)
 replace hv6 := Aside0.mk (Kd.V_below hv6.out hb)
 replace hv7 := Aside0.mk (Kd.V_below hv7.out hb)
 replace HB := Aside0.mk (below_step HB.out hb)
 clear hb
 go_wp2_with fail
 refine (op_Read.calls 1 0 false 1 0 _ rfl).mono ?_
 rintro e w20 ⟨rfl, hb⟩
 replace ht0 := Aside0.mk (Kd.V_below ht0.out hb)
 replace ht1 := Aside0.mk (Kd.V_below ht1.out hb)
 replace hv6 := Aside0.mk (Kd.V_below hv6.out hb)
 replace hv7 := Aside0.mk (Kd.V_below hv7.out hb)
 replace HB := Aside0.mk (below_step HB.out hb)
 clear hb
 go_wp2_with fail
 refine (catalogue_ops.lit2 false false 0 1 1 0 w.heap.size _ (fun k_ => (w.heap.size ≤ k_)) HB.out.size).mono ?_
 rintro e w21 ⟨A8, rfl, hv, hb⟩
 replace ht0 := Aside0.mk (Kd.V_below ht0.out hb)
 replace ht1 := Aside0.mk (Kd.V_below ht1.out hb)
 replace hv6 := Aside0.mk (Kd.V_below hv6.out hb)
 replace hv7 := Aside0.mk (Kd.V_below hv7.out hb)
 replace HB := Aside0.mk (below_step HB.out hb)
 have hv8 := Aside0.mk hv; clear hv hb
 go_wp2_with fail
 refine (op_Read.calls 0 0 false 0 0 _ rfl).mono ?_
 rintro e w22 ⟨rfl, hb⟩
 replace ht0 := Aside0.mk (Kd.V_below ht0.out hb)
 replace ht1 := Aside0.mk (Kd.V_below ht1.out hb)
 replace hv6 := Aside0.mk (Kd.V_below hv6.out hb)
 replace hv7 := Aside0.mk (Kd.V_below hv7.out hb)
 replace hv8 := Aside0.mk (Kd.V_below hv8.out hb)
 replace HB := Aside0.mk (below_step HB.out hb)
 clear hb
 go_wp2_with fail
 refine (op_Read.calls 1 2 false 1 2 _ rfl).mono ?_
 rintro e w23 ⟨rfl, hb⟩
 replace ht0 := Aside0.mk (Kd.V_below ht0.out hb)
 replace ht1 := Aside0.mk (Kd.V_below ht1.out hb)
 replace hv6 := Aside0.mk (Kd.V_below hv6.out hb)
 replace hv7 := Aside0.mk (Kd.V_below hv7.out hb)
 replace hv8 := Aside0.mk (Kd.V_below hv8.out hb)
 replace HB := Aside0.mk (below_step HB.out hb)
 clear hb
 go_wp2_with fail
 refine (catalogue_ops.lit2 false false 0 0 1 2 w.heap.size _ (fun k_ => (w.heap.size ≤ k_)) HB.out.size).mono ?_
 rintro e w24 ⟨A9, rfl, hv, hb⟩
 replace ht0 := Aside0.mk (Kd.V_below ht0.out hb)
 replace ht1 := Aside0.mk (Kd.V_below ht1.out hb)
 replace hv6 := Aside0.mk (Kd.V_below hv6.out hb)
 replace hv7 := Aside0.mk (Kd.V_below hv7.out hb)
 replace hv8 := Aside0.mk (Kd.V_below hv8.out hb)
 replace HB := Aside0.mk (below_step HB.out hb)
 have hv9 := Aside0.mk hv; clear hv hb
 go_wp2_with fail
 have hs := H.V_lit (Kd.slice 46 k46) 42 w24 (w24.alloc (.cells [.slice (some A6) 1 1, .slice (some A7) 1 1, .slice (some A8) 2 2, .slice (some A9) 2 2].toArray 42)).heap.size (fun k_ => (w.heap.size ≤ k_)) HB.out.size ([[(⟨true, 0, 1⟩ : S46)], [(⟨true, 1, 2⟩ : S46)], [(⟨false, 0, 1⟩ : S46), (⟨false, 1, 0⟩ : S46)], [(⟨false, 0, 0⟩ : S46), (⟨false, 1, 2⟩ : S46)]] : List (List S46)) [.slice (some A6) 1 1, .slice (some A7) 1 1, .slice (some A8) 2 2, .slice (some A9) 2 2] (by simp) (by
  rintro (_ | _ | _ | _ | j) p hp
  ·obtain rfl : ([(⟨true, 0, 1⟩ : S46)] : List S46) = p := by simpa using hp
   refine ⟨_, rfl, H.V_FK_slice hv6.out, fun i u hu => ?_⟩
   match i, hu with
   | 0, hu => simpa [show (Kd.slice 46 k46).sz = 1 from rfl] using hu
   | i + 1, hu => simp at hu
  ·obtain rfl : ([(⟨true, 1, 2⟩ : S46)] : List S46) = p := by simpa using hp
   refine ⟨_, rfl, H.V_FK_slice hv7.out, fun i u hu => ?_⟩
   match i, hu with
   | 0, hu => simpa [show (Kd.slice 46 k46).sz = 1 from rfl] using hu
   | i + 1, hu => simp at hu
  ·obtain rfl : ([(⟨false, 0, 1⟩ : S46), (⟨false, 1, 0⟩ : S46)] : List S46) = p := by simpa using hp
   refine ⟨_, rfl, H.V_FK_slice hv8.out, fun i u hu => ?_⟩
   match i, hu with
   | 0, hu => simpa [show (Kd.slice 46 k46).sz = 1 from rfl] using hu
   | i + 1, hu => simp at hu
  ·obtain rfl : ([(⟨false, 0, 0⟩ : S46), (⟨false, 1, 2⟩ : S46)] : List S46) = p := by simpa using hp
   refine ⟨_, rfl, H.V_FK_slice hv9.out, fun i u hu => ?_⟩
   match i, hu with
   | 0, hu => simpa [show (Kd.slice 46 k46).sz = 1 from rfl] using hu
   | i + 1, hu => simp at hu
  ·simp at hp)
 refine (catalogue_at.calls 10 (fun k_ => (w.heap.size ≤ k_)) _ _ [[(⟨true, 0, 1⟩ : S46)], [(⟨true, 1, 2⟩ : S46)], [(⟨false, 0, 1⟩ : S46), (⟨false, 1, 0⟩ : S46)], [(⟨false, 0, 0⟩ : S46), (⟨false, 1, 2⟩ : S46)]] [(⟨0, 1, 5, [(⟨true, 0, 1⟩ : S46)]⟩ : S44), (⟨1, 2, 6, [(⟨true, 1, 2⟩ : S46)]⟩ : S44), (⟨2, 3, 7, [(⟨false, 0, 1⟩ : S46), (⟨false, 1, 0⟩ : S46)]⟩ : S44), (⟨3, 4, 8, [(⟨false, 0, 0⟩ : S46), (⟨false, 1, 2⟩ : S46)]⟩ : S44)] _ hs (by kernel_rfl)).mono ?_
 rintro e w25 ⟨v, rfl, hN, hb0⟩
 have hb := below_step (below_alloc (Below.refl _ w24) (.cells [.slice (some A6) 1 1, .slice (some A7) 1 1, .slice (some A8) 2 2, .slice (some A9) 2 2].toArray 42)) hb0
 have hv := Kd.V_mono (ok' := (fun k_ => (w.heap.size ≤ k_))) (Kd.N_V (base' := w.heap.size) hN) (fun k_ hk => hk.elim id (fun h => Nat.le_trans HB.out.size (Nat.le_trans (by simp) h)))
 clear hs hN hb0
 replace ht0 := Aside0.mk (Kd.V_below ht0.out hb)
 replace ht1 := Aside0.mk (Kd.V_below ht1.out hb)
 replace hv6 := Aside0.mk (Kd.V_below hv6.out hb)
 replace hv7 := Aside0.mk (Kd.V_below hv7.out hb)
 replace hv8 := Aside0.mk (Kd.V_below hv8.out hb)
 replace hv9 := Aside0.mk (Kd.V_below hv9.out hb)
 replace HB := Aside0.mk (below_step HB.out hb)
 clear hb
 clear hv6
 clear hv7
 clear hv8
 clear hv9
 obtain ⟨B2, c2, rfl⟩ := Kd.V_slice hv
 have ht2 := Aside0.mk hv; clear hv
 go_wp2_with fail
 refine (op_Read.calls 0 0 false 0 0 _ rfl).mono ?_
 rintro e w26 ⟨rfl, hb⟩
 replace ht0 := Aside0.mk (Kd.V_below ht0.out hb)
 replace ht1 := Aside0.mk (Kd.V_below ht1.out hb)
 replace ht2 := Aside0.mk (Kd.V_below ht2.out hb)
 replace HB := Aside0.mk (below_step HB.out hb)
 clear hb
 go_wp2_with fail
 refine (op_Write.calls 0 1 true 0 1 _ rfl).mono ?_
 rintro e w27 ⟨rfl, hb⟩
 replace ht0 := Aside0.mk (Kd.V_below ht0.out hb)
 replace ht1 := Aside0.mk (Kd.V_below ht1.out hb)
 replace ht2 := Aside0.mk (Kd.V_below ht2.out hb)
 replace HB := Aside0.mk (below_step HB.out hb)
 clear hb
 go_wp2_with fail
 refine (catalogue_ops.lit2 false true 0 0 0 1 w.heap.size _ (fun k_ => (w.heap.size ≤ k_)) HB.out.size).mono ?_
 rintro e w28 ⟨A10, rfl, hv, hb⟩
 replace ht0 := Aside0.mk (Kd.V_below ht0.out hb)
 replace ht1 := Aside0.mk (Kd.V_below ht1.out hb)
 replace ht2 := Aside0.mk (Kd.V_below ht2.out hb)
 replace HB := Aside0.mk (below_step HB.out hb)
 have hv10 := Aside0.mk hv; clear hv hb
 go_wp2_with fail
 refine (op_Read.calls 0 0 false 0 0 _ rfl).mono ?_
 rintro e w29 ⟨rfl, hb⟩
 replace ht0 := Aside0.mk (Kd.V_below ht0.out hb)
 replace ht1 := Aside0.mk (Kd.V_below ht1.out hb)
 replace ht2 := Aside0.mk (Kd.V_below ht2.out hb)
 replace hv10 := Aside0.mk (Kd.V_below hv10.out hb)
 replace HB := Aside0.mk (below_step HB.out hb)
 clear hb
 go_wp2_with fail
 refine (op_Write.calls 0 2 true 0 2 _ rfl).mono ?_
 rintro e w30 ⟨rfl, hb⟩
 replace ht0 := Aside0.mk (Kd.V_below ht0.out hb)
 replace ht1 := Aside0.mk (Kd.V_below ht1.out hb)
 replace ht2 := Aside0.mk (Kd.V_below ht2.out hb)
 replace hv10 := Aside0.mk (Kd.V_below hv10.out hb)
 replace HB := Aside0.mk (below_step HB.out hb)
 clear hb
 go_wp2_with fail
 refine (catalogue_ops.lit2 false true 0 0 0 2 w.heap.size _ (fun k_ => (w.heap.size ≤ k_)) HB.out.size).mono ?_
 rintro e w31 ⟨A11, rfl, hv, hb⟩
 replace ht0 := Aside0.mk (Kd.V_below ht0.out hb)
 replace ht1 := Aside0.mk (Kd.V_below ht1.out hb)
 replace ht2 := Aside0.mk (Kd.V_below ht2.out hb)
 replace hv10 := Aside0.mk (Kd.V_below hv10.out hb)
 replace HB := Aside0.mk (below_step HB.out hb)
 have hv11 := Aside0.mk hv; clear hv hb
 go_wp2_with fail
 have hs := H.V_lit (Kd.slice 46 k46) 42 w31 (w31.alloc (.cells [.slice (some A10) 2 2, .slice (some A11) 2 2].toArray 42)).heap.size (fun k_ => (w.heap.size ≤ k_)) HB.out.size ([[(⟨false, 0, 0⟩ : S46), (⟨true, 0, 1⟩ : S46)], [(⟨false, 0, 0⟩ : S46), (⟨true, 0, 2⟩ : S46)]] : List (List S46)) [.slice (some A10) 2 2, .slice (some A11) 2 2] (by simp) (by
  rintro (_ | _ | j) p hp
  ·obtain rfl : ([(⟨false, 0, 0⟩ : S46), (⟨true, 0, 1⟩ : S46)] : List S46) = p := by simpa using hp
   refine ⟨_, rfl, H.V_FK_slice hv10.out, fun i u hu => ?_⟩
   match i, hu with
   | 0, hu => simpa [show (Kd.slice 46 k46).sz = 1 from rfl] using hu
   | i + 1, hu => simp at hu
  ·obtain rfl : ([(⟨false, 0, 0⟩ : S46), (⟨true, 0, 2⟩ : S46)] : List S46) = p := by simpa using hp
   refine ⟨_, rfl, H.V_FK_slice hv11.out, fun i u hu => ?_⟩
   match i, hu with
   | 0, hu => simpa [show (Kd.slice 46 k46).sz = 1 from rfl] using hu
   | i + 1, hu => simp at hu
  ·simp at hp)
 refine (catalogue_at.calls 10 (fun k_ => (w.heap.size ≤ k_)) _ _ [[(⟨false, 0, 0⟩ : S46), (⟨true, 0, 1⟩ : S46)], [(⟨false, 0, 0⟩ : S46), (⟨true, 0, 2⟩ : S46)]] [(⟨0, 1, 3, [(⟨false, 0, 0⟩ : S46), (⟨true, 0, 1⟩ : S46)]⟩ : S44), (⟨1, 2, 4, [(⟨false, 0, 0⟩ : S46), (⟨true, 0, 2⟩ : S46)]⟩ : S44)] _ hs (by kernel_rfl)).mono ?_
 rintro e w32 ⟨v, rfl, hN, hb0⟩
 have hb := below_step (below_alloc (Below.refl _ w31) (.cells [.slice (some A10) 2 2, .slice (some A11) 2 2].toArray 42)) hb0
 have hv := Kd.V_mono (ok' := (fun k_ => (w.heap.size ≤ k_))) (Kd.N_V (base' := w.heap.size) hN) (fun k_ hk => hk.elim id (fun h => Nat.le_trans HB.out.size (Nat.le_trans (by simp) h)))
 clear hs hN hb0
 replace ht0 := Aside0.mk (Kd.V_below ht0.out hb)
 replace ht1 := Aside0.mk (Kd.V_below ht1.out hb)
 replace ht2 := Aside0.mk (Kd.V_below ht2.out hb)
 replace hv10 := Aside0.mk (Kd.V_below hv10.out hb)
 replace hv11 := Aside0.mk (Kd.V_below hv11.out hb)
 replace HB := Aside0.mk (below_step HB.out hb)
 clear hb
 clear hv10
 clear hv11
 obtain ⟨B3, c3, rfl⟩ := Kd.V_slice hv
 have ht3 := Aside0.mk hv; clear hv
 go_wp2_with fail
 refine (op_Read.calls 1 0 false 1 0 _ rfl).mono ?_
 rintro e w33 ⟨rfl, hb⟩
 replace ht0 := Aside0.mk (Kd.V_below ht0.out hb)
 replace ht1 := Aside0.mk (Kd.V_below ht1.out hb)
 replace ht2 := Aside0.mk (Kd.V_below ht2.out hb)
 replace ht3 := Aside0.mk (Kd.V_below ht3.out hb)
 replace HB := Aside0.mk (below_step HB.out hb)
 clear hb
 go_wp2_with fail
 refine (op_Write.calls 0 1 true 0 1 _ rfl).mono ?_
 rintro e w34 ⟨rfl, hb⟩
 replace ht0 := Aside0.mk (Kd.V_below ht0.out hb)
 replace ht1 := Aside0.mk (Kd.V_below ht1.out hb)
 replace ht2 := Aside0.mk (Kd.V_below ht2.out hb)
 replace ht3 := Aside0.mk (Kd.V_below ht3.out hb)
 replace HB := Aside0.mk (below_step HB.out hb)
 clear hb
 go_wp2_with fail
 refine (catalogue_ops.lit2 false true 1 0 0 1 w.heap.size _ (fun k_ => (w.heap.size ≤ k_)) HB.out.size).mono ?_
 rintro e w35 ⟨A12, rfl, hv, hb⟩
 replace ht0 := Aside0.mk (Kd.V_below ht0.out hb)
 replace ht1 := Aside0.mk (Kd.V_below ht1.out hb)
 replace ht2 := Aside0.mk (Kd.V_below ht2.out hb)
 replace ht3 := Aside0.mk (Kd.V_below ht3.out hb)
 replace HB := Aside0.mk (below_step HB.out hb)
 have hv12 := Aside0.mk hv; clear hv hb
 go_wp2_with fail
 refine (op_Read.calls 0 0 false 0 0 _ rfl).mono ?_
 rintro e w36 ⟨rfl, hb⟩
 replace ht0 := Aside0.mk (Kd.V_below ht0.out hb)
 replace ht1 := Aside0.mk (Kd.V_below ht1.out hb)
 replace ht2 := Aside0.mk (Kd.V_below ht2.out hb)
 replace ht3 := Aside0.mk (Kd.V_below ht3.out hb)
 replace hv12 := Aside0.mk (Kd.V_below hv12.out hb)
 replace HB := Aside0.mk (below_step HB.out hb)
 clear hb
 go_wp2_with fail
 refine (op_Write.calls 1 2 true 1 2 _ rfl).mono ?_
 rintro e w37 ⟨rfl, hb⟩
 replace ht0 := Aside0.mk (Kd.V_below ht0.out hb)
 replace ht1 := Aside0.mk (Kd.V_below ht1.out hb)
 replace ht2 := Aside0.mk (Kd.V_below ht2.out hb)
 replace ht3 := Aside0.mk (Kd.V_below ht3.out hb)
 replace hv12 := Aside0.mk (Kd.V_below hv12.out hb)
 replace HB := Aside0.mk (below_step HB.out hb)
 clear hb
 go_wp2_with fail
 refine (catalogue_ops.lit2 false true 0 0 1 2 w.heap.size _ (fun k_ => (w.heap.size ≤ k_)) HB.out.size).mono ?_
 rintro e w38 ⟨A13, rfl, hv, hb⟩
 replace ht0 := Aside0.mk (Kd.V_below ht0.out hb)
 replace ht1 := Aside0.mk (Kd.V_below ht1.out hb)
 replace ht2 := Aside0.mk (Kd.V_below ht2.out hb)
 replace ht3 := Aside0.mk (Kd.V_below ht3.out hb)
 replace hv12 := Aside0.mk (Kd.V_below hv12.out hb)
 replace HB := Aside0.mk (below_step HB.out hb)
 have hv13 := Aside0.mk hv; clear hv hb
 go_wp2_with fail
 have hs := H.V_lit (Kd.slice 46 k46) 42 w38 (w38.alloc (.cells [.slice (some A12) 2 2, .slice (some A13) 2 2].toArray 42)).heap.size (fun k_ => (w.heap.size ≤ k_)) HB.out.size ([[(⟨false, 1, 0⟩ : S46), (⟨true, 0, 1⟩ : S46)], [(⟨false, 0, 0⟩ : S46), (⟨true, 1, 2⟩ : S46)]] : List (List S46)) [.slice (some A12) 2 2, .slice (some A13) 2 2] (by simp) (by
  rintro (_ | _ | j) p hp
  ·obtain rfl : ([(⟨false, 1, 0⟩ : S46), (⟨true, 0, 1⟩ : S46)] : List S46) = p := by simpa using hp
   refine ⟨_, rfl, H.V_FK_slice hv12.out, fun i u hu => ?_⟩
   match i, hu with
   | 0, hu => simpa [show (Kd.slice 46 k46).sz = 1 from rfl] using hu
   | i + 1, hu => simp at hu
  ·obtain rfl : ([(⟨false, 0, 0⟩ : S46), (⟨true, 1, 2⟩ : S46)] : List S46) = p := by simpa using hp
   refine ⟨_, rfl, H.V_FK_slice hv13.out, fun i u hu => ?_⟩
   match i, hu with
   | 0, hu => simpa [show (Kd.slice 46 k46).sz = 1 from rfl] using hu
   | i + 1, hu => simp at hu
  ·simp at hp)
 refine (catalogue_at.calls 10 (fun k_ => (w.heap.size ≤ k_)) _ _ [[(⟨false, 1, 0⟩ : S46), (⟨true, 0, 1⟩ : S46)], [(⟨false, 0, 0⟩ : S46), (⟨true, 1, 2⟩ : S46)]] [(⟨0, 1, 3, [(⟨false, 1, 0⟩ : S46), (⟨true, 0, 1⟩ : S46)]⟩ : S44), (⟨1, 2, 4, [(⟨false, 0, 0⟩ : S46), (⟨true, 1, 2⟩ : S46)]⟩ : S44)] _ hs (by kernel_rfl)).mono ?_
 rintro e w39 ⟨v, rfl, hN, hb0⟩
 have hb := below_step (below_alloc (Below.refl _ w38) (.cells [.slice (some A12) 2 2, .slice (some A13) 2 2].toArray 42)) hb0
 have hv := Kd.V_mono (ok' := (fun k_ => (w.heap.size ≤ k_))) (Kd.N_V (base' := w.heap.size) hN) (fun k_ hk => hk.elim id (fun h => Nat.le_trans HB.out.size (Nat.le_trans (by simp) h)))
 clear hs hN hb0
 replace ht0 := Aside0.mk (Kd.V_below ht0.out hb)
 replace ht1 := Aside0.mk (Kd.V_below ht1.out hb)
 replace ht2 := Aside0.mk (Kd.V_below ht2.out hb)
 replace ht3 := Aside0.mk (Kd.V_below ht3.out hb)
 replace hv12 := Aside0.mk (Kd.V_below hv12.out hb)
 replace hv13 := Aside0.mk (Kd.V_below hv13.out hb)
 replace HB := Aside0.mk (below_step HB.out hb)
 clear hb
 clear hv12
 clear hv13
 obtain ⟨B4, c4, rfl⟩ := Kd.V_slice hv
 have ht4 := Aside0.mk hv; clear hv
 go_wp2_with fail
 refine (op_Write.calls 0 1 true 0 1 _ rfl).mono ?_
 rintro e w40 ⟨rfl, hb⟩
 replace ht0 := Aside0.mk (Kd.V_below ht0.out hb)
 replace ht1 := Aside0.mk (Kd.V_below ht1.out hb)
 replace ht2 := Aside0.mk (Kd.V_below ht2.out hb)
 replace ht3 := Aside0.mk (Kd.V_below ht3.out hb)
 replace ht4 := Aside0.mk (Kd.V_below ht4.out hb)
 replace HB := Aside0.mk (below_step HB.out hb)
 clear hb
 go_wp2_with fail
 refine (catalogue_ops.lit1 true 0 1 w.heap.size _ (fun k_ => (w.heap.size ≤ k_)) HB.out.size).mono ?_
 rintro e w41 ⟨A14, rfl, hv, hb⟩
 replace ht0 := Aside0.mk (Kd.V_below ht0.out hb)
 replace ht1 := Aside0.mk (Kd.V_below ht1.out hb)
 replace ht2 := Aside0.mk (Kd.V_below ht2.out hb)
 replace ht3 := Aside0.mk (Kd.V_below ht3.out hb)
 replace ht4 := Aside0.mk (Kd.V_below ht4.out hb)
 replace HB := Aside0.mk (below_step HB.out hb)
 have hv14 := Aside0.mk hv; clear hv hb
 go_wp2_with fail
 refine (op_Read.calls 0 0 false 0 0 _ rfl).mono ?_
 rintro e w42 ⟨rfl, hb⟩
 replace ht0 := Aside0.mk (Kd.V_below ht0.out hb)
 replace ht1 := Aside0.mk (Kd.V_below ht1.out hb)
 replace ht2 := Aside0.mk (Kd.V_below ht2.out hb)
 replace ht3 := Aside0.mk (Kd.V_below ht3.out hb)
 replace ht4 := Aside0.mk (Kd.V_below ht4.out hb)
 replace hv14 := Aside0.mk (Kd.V_below hv14.out hb)
 replace HB := Aside0.mk (below_step HB.out hb)
 clear hb
 go_wp2_with fail
 refine (catalogue_ops.lit1 false 0 0 w.heap.size _ (fun k_ => (w.heap.size ≤ k_)) HB.out.size).mono ?_
 rintro e w43 ⟨A15, rfl, hv, hb⟩
 replace ht0 := Aside0.mk (Kd.V_below ht0.out hb)
 replace ht1 := Aside0.mk (Kd.V_below ht1.out hb)
 replace ht2 := Aside0.mk (Kd.V_below ht2.out hb)
 replace ht3 := Aside0.mk (Kd.V_below ht3.out hb)
 replace ht4 := Aside0.mk (Kd.V_below ht4.out hb)
 replace hv14 := Aside0.mk (Kd.V_below hv14.out hb)
 replace HB := Aside0.mk (below_step HB.out hb)
 have hv15 := Aside0.mk hv; clear hv hb
 go_wp2_with fail
 have hs := H.V_lit (Kd.slice 46 k46) 42 w43 (w43.alloc (.cells [.slice (some A14) 1 1, .slice (some A15) 1 1].toArray 42)).heap.size (fun k_ => (w.heap.size ≤ k_)) HB.out.size ([[(⟨true, 0, 1⟩ : S46)], [(⟨false, 0, 0⟩ : S46)]] : List (List S46)) [.slice (some A14) 1 1, .slice (some A15) 1 1] (by simp) (by
  rintro (_ | _ | j) p hp
  ·obtain rfl : ([(⟨true, 0, 1⟩ : S46)] : List S46) = p := by simpa using hp
   refine ⟨_, rfl, H.V_FK_slice hv14.out, fun i u hu => ?_⟩
   match i, hu with
   | 0, hu => simpa [show (Kd.slice 46 k46).sz = 1 from rfl] using hu
   | i + 1, hu => simp at hu
  ·obtain rfl : ([(⟨false, 0, 0⟩ : S46)] : List S46) = p := by simpa using hp
   refine ⟨_, rfl, H.V_FK_slice hv15.out, fun i u hu => ?_⟩
   match i, hu with
   | 0, hu => simpa [show (Kd.slice 46 k46).sz = 1 from rfl] using hu
   | i + 1, hu => simp at hu
  ·simp at hp)
 refine (catalogue_after.calls 10 false (fun k_ => (w.heap.size ≤ k_)) _ _ [[(⟨true, 0, 1⟩ : S46)], [(⟨false, 0, 0⟩ : S46)]] [(⟨0, 1, 2, [(⟨true, 0, 1⟩ : S46)]⟩ : S44), (⟨1, 3, 4, [(⟨false, 0, 0⟩ : S46)]⟩ : S44)] _ hs (by kernel_rfl)).mono ?_
 rintro e w44 ⟨v, rfl, hN, hb0⟩
 have hb := below_step (below_alloc (Below.refl _ w43) (.cells [.slice (some A14) 1 1, .slice (some A15) 1 1].toArray 42)) hb0
 have hv := Kd.V_mono (ok' := (fun k_ => (w.heap.size ≤ k_))) (Kd.N_V (base' := w.heap.size) hN) (fun k_ hk => hk.elim id (fun h => Nat.le_trans HB.out.size (Nat.le_trans (by simp) h)))
 clear hs hN hb0
 replace ht0 := Aside0.mk (Kd.V_below ht0.out hb)
 replace ht1 := Aside0.mk (Kd.V_below ht1.out hb)
 replace ht2 := Aside0.mk (Kd.V_below ht2.out hb)
 replace ht3 := Aside0.mk (Kd.V_below ht3.out hb)
 replace ht4 := Aside0.mk (Kd.V_below ht4.out hb)
 replace hv14 := Aside0.mk (Kd.V_below hv14.out hb)
 replace hv15 := Aside0.mk (Kd.V_below hv15.out hb)
 replace HB := Aside0.mk (below_step HB.out hb)
 clear hb
 clear hv14
 clear hv15
 obtain ⟨B5, c5, rfl⟩ := Kd.V_slice hv
 have ht5 := Aside0.mk hv; clear hv
 go_wp2
 have hs := H.V_lit k25 25 w44 w.heap.size (fun k_ => (w.heap.size ≤ k_)) HB.out.size [entry0, entry1, entry2, entry3, entry4, entry5] [.string ⟨#[111, 119, 110, 32, 119, 114, 105, 116, 101, 32, 117, 110, 115, 101, 101, 110]⟩, .slice B0 ([(⟨0, 1, 2, [(⟨true, 0, 1⟩ : S46)]⟩ : S44), (⟨0, 3, 4, [(⟨false, 0, 0⟩ : S46)]⟩ : S44)] : List S44).length c0, .int .i64 1, .string ⟨#[99, 97, 117, 115, 101, 32, 117, 110, 115, 101, 101, 110]⟩, .slice B1 ([(⟨0, 1, 4, [(⟨true, 0, 1⟩ : S46)]⟩ : S44), (⟨1, 2, 5, [(⟨false, 0, 1⟩ : S46), (⟨true, 1, 2⟩ : S46)]⟩ : S44), (⟨2, 3, 6, [(⟨false, 1, 2⟩ : S46), (⟨false, 0, 0⟩ : S46)]⟩ : S44)] : List S44).length c1, .int .i64 2, .string ⟨#[108, 111, 110, 103, 32, 102, 111, 114, 107]⟩, .slice B2 ([(⟨0, 1, 5, [(⟨true, 0, 1⟩ : S46)]⟩ : S44), (⟨1, 2, 6, [(⟨true, 1, 2⟩ : S46)]⟩ : S44), (⟨2, 3, 7, [(⟨false, 0, 1⟩ : S46), (⟨false, 1, 0⟩ : S46)]⟩ : S44), (⟨3, 4, 8, [(⟨false, 0, 0⟩ : S46), (⟨false, 1, 2⟩ : S46)]⟩ : S44)] : List S44).length c2, .int .i64 4, .string ⟨#[108, 111, 115, 116, 32, 117, 112, 100, 97, 116, 101]⟩, .slice B3 ([(⟨0, 1, 3, [(⟨false, 0, 0⟩ : S46), (⟨true, 0, 1⟩ : S46)]⟩ : S44), (⟨1, 2, 4, [(⟨false, 0, 0⟩ : S46), (⟨true, 0, 2⟩ : S46)]⟩ : S44)] : List S44).length c3, .int .i64 8, .string ⟨#[119, 114, 105, 116, 101, 32, 115, 107, 101, 119]⟩, .slice B4 ([(⟨0, 1, 3, [(⟨false, 1, 0⟩ : S46), (⟨true, 0, 1⟩ : S46)]⟩ : S44), (⟨1, 2, 4, [(⟨false, 0, 0⟩ : S46), (⟨true, 1, 2⟩ : S46)]⟩ : S44)] : List S44).length c4, .int .i64 16, .string ⟨#[115, 116, 97, 108, 101, 32, 114, 101, 97, 100]⟩, .slice B5 ([(⟨0, 1, 2, [(⟨true, 0, 1⟩ : S46)]⟩ : S44), (⟨1, 3, 4, [(⟨false, 0, 0⟩ : S46)]⟩ : S44)] : List S44).length c5, .int .i64 32] (by simp) (by
  rintro (_ | _ | _ | _ | _ | _ | j) p hp
  ·obtain rfl : entry0 = p := by simpa using hp
   obtain ⟨_, hc, hf⟩ := Kd.V_at ht0.out
   refine ⟨_, rfl, k25_mkF w44 (fun k_ => (w.heap.size ≤ k_)) entry0 hc hf, fun i u hu => ?_⟩
   match i, hu with
   | 0, hu => exact hu
   | 1, hu => exact hu
   | 2, hu => exact hu
   | i + 3, hu => simp at hu
  ·obtain rfl : entry1 = p := by simpa using hp
   obtain ⟨_, hc, hf⟩ := Kd.V_at ht1.out
   refine ⟨_, rfl, k25_mkF w44 (fun k_ => (w.heap.size ≤ k_)) entry1 hc hf, fun i u hu => ?_⟩
   match i, hu with
   | 0, hu => exact hu
   | 1, hu => exact hu
   | 2, hu => exact hu
   | i + 3, hu => simp at hu
  ·obtain rfl : entry2 = p := by simpa using hp
   obtain ⟨_, hc, hf⟩ := Kd.V_at ht2.out
   refine ⟨_, rfl, k25_mkF w44 (fun k_ => (w.heap.size ≤ k_)) entry2 hc hf, fun i u hu => ?_⟩
   match i, hu with
   | 0, hu => exact hu
   | 1, hu => exact hu
   | 2, hu => exact hu
   | i + 3, hu => simp at hu
  ·obtain rfl : entry3 = p := by simpa using hp
   obtain ⟨_, hc, hf⟩ := Kd.V_at ht3.out
   refine ⟨_, rfl, k25_mkF w44 (fun k_ => (w.heap.size ≤ k_)) entry3 hc hf, fun i u hu => ?_⟩
   match i, hu with
   | 0, hu => exact hu
   | 1, hu => exact hu
   | 2, hu => exact hu
   | i + 3, hu => simp at hu
  ·obtain rfl : entry4 = p := by simpa using hp
   obtain ⟨_, hc, hf⟩ := Kd.V_at ht4.out
   refine ⟨_, rfl, k25_mkF w44 (fun k_ => (w.heap.size ≤ k_)) entry4 hc hf, fun i u hu => ?_⟩
   match i, hu with
   | 0, hu => exact hu
   | 1, hu => exact hu
   | 2, hu => exact hu
   | i + 3, hu => simp at hu
  ·obtain rfl : entry5 = p := by simpa using hp
   obtain ⟨_, hc, hf⟩ := Kd.V_at ht5.out
   refine ⟨_, rfl, k25_mkF w44 (fun k_ => (w.heap.size ≤ k_)) entry5 hc hf, fun i u hu => ?_⟩
   match i, hu with
   | 0, hu => exact hu
   | 1, hu => exact hu
   | 2, hu => exact hu
   | i + 3, hu => simp at hu
  ·simp at hp)
 go_ret
 exact ⟨_, rfl, hs, below_alloc HB.out _⟩
end Go.Proofs.Ytfocaefnmfkojaa.Q
namespace Go.Proofs.Ytfocaefnmfkojaa.Q
open Go.RowKit Go.Proofs.YtfocaefnmfkojaaW.PrintWords Go.Proofs.YtfocaefnmfkojaaW.PrintLast Go.Proofs.YtfocaefnmfkojaaW.PrintMore
attribute [local go_sem] max2_int min2_int max_two min_two max_three min_three max_four min_four   -- for this text's walks alone
set_option linter.unusedVariables false
set_option linter.unusedSimpArgs false
def level_Is.f (a0 : Int) : Option (Bool) := if a0 ≥ 0 then (some (decide (a0 < 12))) else (some false)
set_option maxHeartbeats 8000000 in
set_option maxRecDepth 100000 in
theorem level_Is.calls (a0 : Int) (r : Bool) (w : World) (h : level_Is.f a0 = some r) :
  Calls Try.prog 55 #[.int .i64 a0] w fun e w' => e = .returned (.bool r) ∧ Drawn0 w w' := by
 have H : (if a0 ≥ 0 then (some (decide (a0 < 12))) else (some false)) = some r := h
 clear h
 by_cases c2 : a0 ≥ 0
 ·rw [if_pos c2] at H
  have c2b0 : decide (0 ≤ a0) = true := decide_eq_true c2
  clear c2
  obtain rfl := Option.some.inj H
  go_enter Try.func55, Try.ntmps55
  go_wp2
  go_ret
  exact ⟨by first | rfl | (simp; done) | (simp [*]; done), by repeat (first | exact Drawn0.refl _ | apply Drawn0.step)⟩
 ·rw [if_neg c2] at H
  have c2b0 : decide (0 ≤ a0) = false := decide_eq_false c2
  clear c2
  obtain rfl := Option.some.inj H
  go_enter Try.func55, Try.ntmps55
  go_wp2
  go_ret
  exact ⟨by first | rfl | (simp; done) | (simp [*]; done), by repeat (first | exact Drawn0.refl _ | apply Drawn0.step)⟩
end Go.Proofs.Ytfocaefnmfkojaa.Q
namespace Go.Proofs.Ytfocaefnmfkojaa.Q
open Go.RowKit Go.Proofs.YtfocaefnmfkojaaW.PrintWords Go.Proofs.YtfocaefnmfkojaaW.PrintLast Go.Proofs.YtfocaefnmfkojaaW.PrintMore
attribute [local go_sem] max2_int min2_int max_two min_two max_three min_three max_four min_four   -- for this text's walks alone
set_option linter.unusedVariables false
set_option linter.unusedSimpArgs false
set_option maxHeartbeats 1000000 in
theorem level_asks.calls (w : World) : Calls Try.prog 102 #[] w fun e w' => e = .returned (.agg #[.int .i64 0, .int .i64 1, .int .i64 3, .int .i64 9, .int .i64 5, .int .i64 11, .int .i64 13, .int .i64 17, .int .i64 34, .int .i64 36, .int .i64 44, .int .i64 48]) ∧ Below w.heap.size w w' := by
 have hu := Try.underlying139
 go_enter Try.func102, Try.ntmps102
 go_wp2
 exact bodyPost_ret (v := .agg #[.int .i64 0, .int .i64 1, .int .i64 3, .int .i64 9, .int .i64 5, .int .i64 11, .int .i64 13, .int .i64 17, .int .i64 34, .int .i64 36, .int .i64 44, .int .i64 48]) (by simp [results, Try.results102, go_sem]) rfl ⟨rfl, (Below.refl _ _).alloc (Nat.le_refl _) _⟩
def asksL : List Int := [0, 1, 3, 9, 5, 11, 13, 17, 34, 36, 44, 48]
set_option maxRecDepth 100000 in
theorem asks_index (a : Int) (h0 : 0 ≤ a) (h1 : a < 12) (W : World) : (Instr.index 139 (.agg #[.int .i64 0, .int .i64 1, .int .i64 3, .int .i64 9, .int .i64 5, .int .i64 11, .int .i64 13, .int .i64 17, .int .i64 34, .int .i64 36, .int .i64 44, .int .i64 48]) (.int .i64 a)).run Try.prog W = .ok (.int .i64 (asksL.getD a.toNat 0)) W := by
 have : a = 0 ∨ a = 1 ∨ a = 2 ∨ a = 3 ∨ a = 4 ∨ a = 5 ∨ a = 6 ∨ a = 7 ∨ a = 8 ∨ a = 9 ∨ a = 10 ∨ a = 11 := by omega
 rcases this with rfl | rfl | rfl | rfl | rfl | rfl | rfl | rfl | rfl | rfl | rfl | rfl <;> rfl
def level_Asks.f (a0 : Int) : Option (Int) := some (if 0 ≤ a0 ∧ a0 < 12 then asksL.getD a0.toNat 0 else 0)
set_option maxHeartbeats 1000000 in
theorem level_Asks.calls (a0 : Int) (r : Int) (w : World) (h : level_Asks.f a0 = some r) :
  Calls Try.prog 88 #[.int .i64 a0] w fun e w' => e = .returned (.int .i64 r) ∧ Below w.heap.size w w' := by
 by_cases hc : 0 ≤ a0 ∧ a0 < 12
 ·have hr : r = asksL.getD a0.toNat 0 := by unfold level_Asks.f at h; rw [if_pos hc] at h; exact (Option.some.inj h).symm
  have HR := Aside0.mk hr
  have hi : level_Is.f a0 = some true := by unfold level_Is.f; rw [if_pos hc.1]; simp [hc.2]
  have HI := Aside0.mk hi
  have hidx := asks_index a0 hc.1 hc.2
  clear h hc hr hi
  go_enter Try.func88, Try.ntmps88
  go_wp2_with (first | (go_at_call 55; (refine (level_Is.calls _ _ _ HI.out).mono ?_); rintro e w' ⟨rfl, ⟨nd, rfl⟩⟩) | (go_at_call 102; (refine (level_asks.calls _).mono ?_); rintro e w' ⟨rfl, hb⟩))
  go_ret
  exact ⟨by rw [HR.out]; simp, (pw_below_drewN (Below.refl _ w) nd).trans (by simpa using hb)⟩
 ·have hr : r = 0 := by unfold level_Asks.f at h; rw [if_neg hc] at h; exact (Option.some.inj h).symm
  have HR := Aside0.mk hr
  have hi : level_Is.f a0 = some false := by
   unfold level_Is.f
   by_cases h0 : a0 ≥ 0
   ·rw [if_pos h0]; simp; omega
   ·rw [if_neg h0]
  have HI := Aside0.mk hi
  clear h hc hr hi
  go_enter Try.func88, Try.ntmps88
  go_wp2_with (first | (go_at_call 55; (refine (level_Is.calls _ _ _ HI.out).mono ?_); rintro e w' ⟨rfl, ⟨nd, rfl⟩⟩) | (go_at_call 102; (refine (level_asks.calls _).mono ?_); rintro e w' ⟨rfl, hb⟩))
  go_ret
  exact ⟨by rw [HR.out]; rfl, pw_below_drewN (Below.refl _ w) nd⟩
end Go.Proofs.Ytfocaefnmfkojaa.Q
namespace Go.Proofs.Ytfocaefnmfkojaa.Q
open Go.RowKit Go.Proofs.YtfocaefnmfkojaaW.PrintWords Go.Proofs.YtfocaefnmfkojaaW.PrintLast Go.Proofs.YtfocaefnmfkojaaW.PrintMore
attribute [local go_sem] max2_int min2_int max_two min_two max_three min_three max_four min_four   -- for this text's walks alone
set_option linter.unusedVariables false
set_option linter.unusedSimpArgs false
def level_Closed.j0 : Nat → Int → Option (Int)
 | 0, _ => none
 | k + 1, x0 => if (Go.bits .and .i64 x0 4) = 0 then (if (Go.bits .and .i64 x0 32) = 0 then (some (Go.bits .and .i64 x0 63)) else (some (Go.bits .and .i64 (Go.bits .or .i64 x0 1) 63))) else (if (Go.bits .and .i64 (Go.bits .or .i64 x0 2) 32) = 0 then (some (Go.bits .and .i64 (Go.bits .or .i64 x0 2) 63)) else (some (Go.bits .and .i64 (Go.bits .or .i64 (Go.bits .or .i64 x0 2) 1) 63)))
def level_Closed.f (k : Nat) (a0 : Int) : Option (Int) := if (Go.bits .and .i64 a0 16) = 0 then (level_Closed.j0 k a0) else (level_Closed.j0 k (Go.bits .or .i64 a0 12))
theorem level_Closed.mono_l : ∀ k, (∀ y0, LeO (level_Closed.j0 k y0) (level_Closed.j0 (k + 1) y0))
 | 0 => fun _ r h => by simp [level_Closed.j0] at h
 | k + 1 => by
  have ih0 := level_Closed.mono_l k
  ·intro y0
   unfold level_Closed.j0
   repeat' first
   | (with_reducible exact ih0 _)
   | (with_reducible exact LeO.refl _)
   | (with_reducible exact LeO.none _)
   | (with_reducible refine LeO.ite ?_ ?_)
   | (with_reducible refine LeO.bind ?_ (fun _ => ?_))
   | exact ih0 _
   | exact LeO.none _
   | refine LeO.ite ?_ ?_
   | refine LeO.bind ?_ (fun _ => ?_)
theorem level_Closed.mono : ∀ a0 k, LeO (level_Closed.f k a0) (level_Closed.f (k + 1) a0) := by
 intro a0 k
 have ih0 := level_Closed.mono_l k
 unfold level_Closed.f
 repeat' first
   | (with_reducible exact ih0 _)
   | (with_reducible exact LeO.refl _)
   | (with_reducible exact LeO.none _)
   | (with_reducible refine LeO.ite ?_ ?_)
   | (with_reducible refine LeO.bind ?_ (fun _ => ?_))
   | exact ih0 _
   | exact LeO.none _
   | refine LeO.ite ?_ ?_
   | refine LeO.bind ?_ (fun _ => ?_)
set_option maxHeartbeats 8000000 in
set_option maxRecDepth 100000 in
theorem level_Closed.calls (k : Nat) (a0 : Int) (r : Int) (w : World) (h : level_Closed.f k a0 = some r) :
  Calls Try.prog 89 #[.int .i64 a0] w fun e w' => e = .returned (.int .i64 r) ∧ Drawn0 w w' := by
 have H : (if (Go.bits .and .i64 a0 16) = 0 then (level_Closed.j0 k a0) else (level_Closed.j0 k (Go.bits .or .i64 a0 12))) = some r := h
 clear h
 have HC2 := Aside0.mk H
 clear H
 go_enter Try.func89, Try.ntmps89
 go_upto_if 5 with (fail)
 go_cut [0] (fun v0 wc => ∃ (kq : Nat) (x0_1 : Int), v0 = .int .i64 x0_1 ∧ Aside0 (level_Closed.j0 kq x0_1 = some r) ∧ Aside0 (kq ≤ k) ∧ Drawn0 w wc)
 case first =>
  have H := HC2.out
  clear HC2
  by_cases c3 : (Go.bits .and .i64 a0 16) = 0
  ·rw [if_pos c3] at H
   have c3b0 : ((Go.bits .and .i64 a0 16) == 0) = true := beq_iff_eq.mpr c3
   have c3b1 : ((Go.bits .and .i64 a0 16) != 0) = false := bne_eq_false_iff_eq.mpr c3
   clear c3
   (first | rw [c3b0] | (simp only [i64_w, i32_w]; rw [c3b0]) | skip)
   have H' := Aside0.mk H
   clear H
   go_wp2
   go_meet
   case rel => exact ⟨_, (a0), (by first | rfl | (simp; done) | (simp [*]; done)), H', ⟨by first | omega | exact Nat.le_refl _⟩, by repeat (first | exact Drawn0.refl _ | apply Drawn0.step)⟩
  ·rw [if_neg c3] at H
   have c3b0 : ((Go.bits .and .i64 a0 16) == 0) = false := beq_eq_false_iff_ne.mpr c3
   have c3b1 : ((Go.bits .and .i64 a0 16) != 0) = true := bne_iff_ne.mpr c3
   (first | rw [c3b0] | (simp only [i64_w, i32_w]; rw [c3b0]) | skip)
   have H' := Aside0.mk H
   clear H
   go_wp2
   go_meet
   case rel => exact ⟨_, (Go.bits .or .i64 a0 12), (by first | rfl | (simp; done) | (simp [*]; done)), H', ⟨by first | omega | exact Nat.le_refl _⟩, by repeat (first | exact Drawn0.refl _ | apply Drawn0.step)⟩
 case rest =>
  clear HC2
  try clear p2
  try clear c3
  try clear c3b0
  try clear c3b1
  obtain ⟨kq, x0_1, rfl, HA, HJ1, ⟨mc1, rfl⟩⟩ := hcut
  cases kq with
  | zero => exact absurd HA.out (by simp [level_Closed.j0])
  | succ kj1 =>
   have H := HA.out
   clear HA
   simp only [level_Closed.j0] at H
   by_cases c4 : (Go.bits .and .i64 x0_1 4) = 0
   ·rw [if_pos c4] at H
    have c4b0 : ((Go.bits .and .i64 x0_1 4) == 0) = true := beq_iff_eq.mpr c4
    have c4b1 : ((Go.bits .and .i64 x0_1 4) != 0) = false := bne_eq_false_iff_eq.mpr c4
    clear c4
    by_cases c5 : (Go.bits .and .i64 x0_1 32) = 0
    ·rw [if_pos c5] at H
     have c5b0 : ((Go.bits .and .i64 x0_1 32) == 0) = true := beq_iff_eq.mpr c5
     have c5b1 : ((Go.bits .and .i64 x0_1 32) != 0) = false := bne_eq_false_iff_eq.mpr c5
     clear c5
     obtain rfl := Option.some.inj H
     go_wp2
     go_ret
     exact ⟨by first | rfl | (simp; done) | (simp [*]; done), by repeat (first | exact Drawn0.refl _ | apply Drawn0.step)⟩
    ·rw [if_neg c5] at H
     have c5b0 : ((Go.bits .and .i64 x0_1 32) == 0) = false := beq_eq_false_iff_ne.mpr c5
     have c5b1 : ((Go.bits .and .i64 x0_1 32) != 0) = true := bne_iff_ne.mpr c5
     obtain rfl := Option.some.inj H
     go_wp2
     go_ret
     exact ⟨by first | rfl | (simp; done) | (simp [*]; done), by repeat (first | exact Drawn0.refl _ | apply Drawn0.step)⟩
   ·rw [if_neg c4] at H
    have c4b0 : ((Go.bits .and .i64 x0_1 4) == 0) = false := beq_eq_false_iff_ne.mpr c4
    have c4b1 : ((Go.bits .and .i64 x0_1 4) != 0) = true := bne_iff_ne.mpr c4
    by_cases c6 : (Go.bits .and .i64 (Go.bits .or .i64 x0_1 2) 32) = 0
    ·rw [if_pos c6] at H
     have c6b0 : ((Go.bits .and .i64 (Go.bits .or .i64 x0_1 2) 32) == 0) = true := beq_iff_eq.mpr c6
     have c6b1 : ((Go.bits .and .i64 (Go.bits .or .i64 x0_1 2) 32) != 0) = false := bne_eq_false_iff_eq.mpr c6
     clear c6
     obtain rfl := Option.some.inj H
     go_wp2
     go_ret
     exact ⟨by first | rfl | (simp; done) | (simp [*]; done), by repeat (first | exact Drawn0.refl _ | apply Drawn0.step)⟩
    ·rw [if_neg c6] at H
     have c6b0 : ((Go.bits .and .i64 (Go.bits .or .i64 x0_1 2) 32) == 0) = false := beq_eq_false_iff_ne.mpr c6
     have c6b1 : ((Go.bits .and .i64 (Go.bits .or .i64 x0_1 2) 32) != 0) = true := bne_iff_ne.mpr c6
     obtain rfl := Option.some.inj H
     go_wp2
     go_ret
     exact ⟨by first | rfl | (simp; done) | (simp [*]; done), by repeat (first | exact Drawn0.refl _ | apply Drawn0.step)⟩
end Go.Proofs.Ytfocaefnmfkojaa.Q
namespace Go.Proofs.Ytfocaefnmfkojaa.Q
open Go.RowKit Go.Proofs.YtfocaefnmfkojaaW.PrintWords Go.Proofs.YtfocaefnmfkojaaW.PrintLast Go.Proofs.YtfocaefnmfkojaaW.PrintMore
attribute [local go_sem] max2_int min2_int max_two min_two max_three min_three max_four min_four   -- for this text's walks alone
set_option linter.unusedVariables false
set_option linter.unusedSimpArgs false
def table_Missing.f (k : Nat) (a0 : Int) (a1 : Int) : Option (Int) := (level_Asks.f a1).bind fun t101 => ((level_Asks.f a0).bind fun t102 => ((level_Closed.f k t102).bind fun t103 => (some (Go.bits .andNot .i64 t101 t103))))
theorem table_Missing.mono : ∀ a0 a1 k, LeO (table_Missing.f k a0 a1) (table_Missing.f (k + 1) a0 a1) := by
 intro a0 a1 k
 unfold table_Missing.f
 repeat' first
   | (with_reducible exact level_Closed.mono _ _)
   | (with_reducible exact LeO.refl _)
   | (with_reducible exact LeO.none _)
   | (with_reducible refine LeO.ite ?_ ?_)
   | (with_reducible refine LeO.bind ?_ (fun _ => ?_))
   | exact level_Closed.mono _ _
   | exact LeO.none _
   | refine LeO.ite ?_ ?_
   | refine LeO.bind ?_ (fun _ => ?_)
set_option maxHeartbeats 8000000 in
set_option maxRecDepth 100000 in
theorem table_Missing.calls (k : Nat) (a0 : Int) (a1 : Int) (r : Int) (w : World) (h : table_Missing.f k a0 a1 = some r) :
  Calls Try.prog 56 #[.int .i64 a0, .int .i64 a1] w fun e w' => e = .returned (.int .i64 r) ∧ Below w.heap.size w w' := by
 have HB := Aside0.mk (Below.refl w.heap.size w)
 have H : ((level_Asks.f a1).bind fun t101 => ((level_Asks.f a0).bind fun t102 => ((level_Closed.f k t102).bind fun t103 => (some (Go.bits .andNot .i64 t101 t103))))) = some r := h
 clear h
 replace H := Option.bind_eq_some_iff.mp H
 obtain ⟨t101, A30, H⟩ := H
 replace H : ((level_Asks.f a0).bind fun t102 => ((level_Closed.f k t102).bind fun t103 => (some (Go.bits .andNot .i64 t101 t103)))) = some r := H
 have A3 := Aside0.mk A30
 clear A30
 replace H := Option.bind_eq_some_iff.mp H
 obtain ⟨t102, A40, H⟩ := H
 replace H : ((level_Closed.f k t102).bind fun t103 => (some (Go.bits .andNot .i64 t101 t103))) = some r := H
 have A4 := Aside0.mk A40
 clear A40
 replace H := Option.bind_eq_some_iff.mp H
 obtain ⟨t103, A50, H⟩ := H
 replace H : (some (Go.bits .andNot .i64 t101 t103)) = some r := H
 have A5 := Aside0.mk A50
 clear A50
 obtain rfl := Option.some.inj H
 go_enter Try.func56, Try.ntmps56
 go_wp2_with (first | ((with_reducible refine gate_callee (f := 88) rfl ?_); refine goesL_ (some 6) rfl rfl Try.func88 (by kernel_rfl) rfl #[.int .i64 a1] rfl (by (try simp only [List.map_toArray, List.map_cons, List.map_nil]); first | done | rfl | (simp only [List.length_drop, List.length_take]; rfl)) ?_; (with_reducible refine (level_Asks.calls a1 t101 _ A3.out).mono ?_); rintro e w6 ⟨rfl, hb⟩; refine ⟨_, rfl, ?_⟩; have n0_ := Aside0.mk (below_step (by repeat (first | (with_reducible first | exact HB.out | apply below_alloc | apply pw_below_drewN | apply below_drew1))) hb); clear HB; have HB := n0_; clear n0_; (try clear hb); (try clear hb2); (try clear hk); (try clear hi)) | ((with_reducible refine gate_callee (f := 88) rfl ?_); refine goesL_ (some 8) rfl rfl Try.func88 (by kernel_rfl) rfl #[.int .i64 a0] rfl (by (try simp only [List.map_toArray, List.map_cons, List.map_nil]); first | done | rfl | (simp only [List.length_drop, List.length_take]; rfl)) ?_; (with_reducible refine (level_Asks.calls a0 t102 _ A4.out).mono ?_); rintro e w7 ⟨rfl, hb⟩; refine ⟨_, rfl, ?_⟩; have n0_ := Aside0.mk (below_step (by repeat (first | (with_reducible first | exact HB.out | apply below_alloc | apply pw_below_drewN | apply below_drew1))) hb); clear HB; have HB := n0_; clear n0_; (try clear hb); (try clear hb2); (try clear hk); (try clear hi)) | ((with_reducible refine gate_callee (f := 89) rfl ?_); refine goesL_ (some 9) rfl rfl Try.func89 (by kernel_rfl) rfl #[.int .i64 t102] rfl (by (try simp only [List.map_toArray, List.map_cons, List.map_nil]); first | done | rfl | (simp only [List.length_drop, List.length_take]; rfl)) ?_; (with_reducible refine (level_Closed.calls k t102 t103 _ A5.out).mono ?_); rintro e w' ⟨rfl, ⟨nd, rfl⟩⟩; refine ⟨_, rfl, ?_⟩))
 go_ret
 exact ⟨by first | rfl | (simp <;> rfl) | (simp [*] <;> rfl), by repeat (first | (with_reducible first | exact HB.out | apply below_alloc | apply pw_below_drewN | apply below_drew1))⟩
end Go.Proofs.Ytfocaefnmfkojaa.Q
namespace Go.Proofs.Ytfocaefnmfkojaa.Q
open Go.RowKit Go.Proofs.YtfocaefnmfkojaaW.PrintWords Go.Proofs.YtfocaefnmfkojaaW.PrintLast Go.Proofs.YtfocaefnmfkojaaW.PrintMore
attribute [local go_sem] max2_int min2_int max_two min_two max_three min_three max_four min_four   -- for this text's walks alone
set_option linter.unusedVariables false
set_option linter.unusedSimpArgs false
mutual
def catalogue_Find.j0 : Nat → Int → Int → Bool → Option (ByteArray × (List (S44)) × Int × Bool)
 | 0, _, _, _ => none
 | k + 1, x0, x1, x15 => if x15 = true then (some ((⟨#[]⟩ : ByteArray), ([] : List (S44)), 0, false)) else ((catalogue_All.f).bind fun t104 => (catalogue_Find.l0 k x0 x1 t104 (t104.length : Int) 0))
def catalogue_Find.l0 : Nat → Int → Int → List (S25) → Int → Int → Option (ByteArray × (List (S44)) × Int × Bool)
 | 0, _, _, _, _, _ => none
 | k + 1, x0, x1, x17, x18, x19 => if x19 < x18 then (if 0 ≤ x19 then (if x19 < (x17.length : Int) then ((table_Missing.f k x0 x1).bind fun t109 => (if (Go.bits .and .i64 t109 ((rd_T25 x17 x19).f2)) = 0 then (catalogue_Find.l0 k x0 x1 x17 x18 (wrap64 (x19 + 1))) else (some ((rd_T25 x17 x19).f0, (rd_T25 x17 x19).f1, (rd_T25 x17 x19).f2, true)))) else (none)) else (none)) else (some ((⟨#[]⟩ : ByteArray), ([] : List (S44)), 0, false))
end
def catalogue_Find.f (k : Nat) (a0 : Int) (a1 : Int) : Option (ByteArray × (List (S44)) × Int × Bool) := (level_Is.f a0).bind fun t102 => (if t102 = true then ((level_Is.f a1).bind fun t103 => (catalogue_Find.j0 k a0 a1 (!t103))) else (catalogue_Find.j0 k a0 a1 true))
theorem catalogue_Find.mono_l : ∀ k, (∀ y0 y1 y2, LeO (catalogue_Find.j0 k y0 y1 y2) (catalogue_Find.j0 (k + 1) y0 y1 y2)) ∧ (∀ y0 y1 y2 y3 y4, LeO (catalogue_Find.l0 k y0 y1 y2 y3 y4) (catalogue_Find.l0 (k + 1) y0 y1 y2 y3 y4))
 | 0 => ⟨fun _ _ _ r h => by simp [catalogue_Find.j0] at h, fun _ _ _ _ _ r h => by simp [catalogue_Find.l0] at h⟩
 | k + 1 => by
  obtain ⟨ih0, ih1⟩ := catalogue_Find.mono_l k
  refine ⟨?_, ?_⟩
  ·intro y0 y1 y2
   unfold catalogue_Find.j0
   repeat' first
   | (with_reducible exact ih0 _ _ _)
   | (with_reducible exact ih1 _ _ _ _ _)
   | (with_reducible exact table_Missing.mono _ _ _)
   | (with_reducible exact LeO.refl _)
   | (with_reducible exact LeO.none _)
   | (with_reducible refine LeO.ite ?_ ?_)
   | (with_reducible refine LeO.bind ?_ (fun _ => ?_))
   | exact ih0 _ _ _
   | exact ih1 _ _ _ _ _
   | exact table_Missing.mono _ _ _
   | exact LeO.none _
   | refine LeO.ite ?_ ?_
   | refine LeO.bind ?_ (fun _ => ?_)
  ·intro y0 y1 y2 y3 y4
   unfold catalogue_Find.l0
   repeat' first
   | (with_reducible exact ih0 _ _ _)
   | (with_reducible exact ih1 _ _ _ _ _)
   | (with_reducible exact table_Missing.mono _ _ _)
   | (with_reducible exact LeO.refl _)
   | (with_reducible exact LeO.none _)
   | (with_reducible refine LeO.ite ?_ ?_)
   | (with_reducible refine LeO.bind ?_ (fun _ => ?_))
   | exact ih0 _ _ _
   | exact ih1 _ _ _ _ _
   | exact table_Missing.mono _ _ _
   | exact LeO.none _
   | refine LeO.ite ?_ ?_
   | refine LeO.bind ?_ (fun _ => ?_)
theorem catalogue_Find.mono : ∀ a0 a1 k, LeO (catalogue_Find.f k a0 a1) (catalogue_Find.f (k + 1) a0 a1) := by
 intro a0 a1 k
 obtain ⟨ih0, ih1⟩ := catalogue_Find.mono_l k
 unfold catalogue_Find.f
 repeat' first
   | (with_reducible exact ih0 _ _ _)
   | (with_reducible exact ih1 _ _ _ _ _)
   | (with_reducible exact table_Missing.mono _ _ _)
   | (with_reducible exact LeO.refl _)
   | (with_reducible exact LeO.none _)
   | (with_reducible refine LeO.ite ?_ ?_)
   | (with_reducible refine LeO.bind ?_ (fun _ => ?_))
   | exact ih0 _ _ _
   | exact ih1 _ _ _ _ _
   | exact table_Missing.mono _ _ _
   | exact LeO.none _
   | refine LeO.ite ?_ ?_
   | refine LeO.bind ?_ (fun _ => ?_)
set_option maxHeartbeats 8000000 in
set_option maxRecDepth 100000 in
theorem catalogue_Find.calls (k : Nat) (a0 : Int) (a1 : Int) (r1 : ByteArray) (r2 : List (S44)) (r3 : Int) (r4 : Bool) (w : World) (h : catalogue_Find.f k a0 a1 = some (r1, r2, r3, r4)) :
  Calls Try.prog 14 #[.int .i64 a0, .int .i64 a1] w fun e w' => ∃ v1_ : Value, e = .returned (.tuple #[.agg #[.string r1, v1_, .int .i64 r3], .bool r4]) ∧ Kd.V k44 44 w' w.heap.size (fun k_ => (w.heap.size ≤ k_)) v1_ r2 ∧ Below w.heap.size w w' := by
 have hu25 := Try.underlying25
 have HB := Aside0.mk (Below.refl w.heap.size w)
 have H : ((level_Is.f a0).bind fun t102 => (if t102 = true then ((level_Is.f a1).bind fun t103 => (catalogue_Find.j0 k a0 a1 (!t103))) else (catalogue_Find.j0 k a0 a1 true))) = some (r1, r2, r3, r4) := h
 clear h
 have HC3 := Aside0.mk H
 clear H
 go_enter Try.func14, Try.ntmps14
 go_upto_region 1 with (first | ((with_reducible refine gate_dst (N := 4) rfl ?_); refine box_event ?hg (N := 4) ?hd (cs := #[.string (⟨#[]⟩ : ByteArray), .slice none 0 0, .int .i64 0]) (t := 25) ?hr ?_; (case hd => rfl); (case hg => rfl); (case hr => first | (go_simp; done) | (go_simp; rfl)); intro gb101 hg w4 hbox hb; have n0_ := Aside0.mk (below_step (by repeat (first | (with_reducible first | exact HB.out | apply below_alloc | apply pw_below_drewN | apply below_drew1))) hb); have n1_ := Aside0.mk (hbox); have n2_ := Aside0.mk ((by rw [hg]; exact (below_size (by repeat (first | (with_reducible first | exact HB.out | apply below_alloc | apply pw_below_drewN | apply below_drew1)))) : w.heap.size ≤ gb101)); have n3_ := Aside0.mk ((by rw [hg]; exact (below_size (by repeat (first | (with_reducible first | exact HB.out | apply below_alloc | apply pw_below_drewN | apply below_drew1)))) : w.heap.size ≤ gb101)); clear HB; have HB := n0_; have BK101 := n1_; have GW101 := n2_; have GE101 := n3_; clear n0_ n1_ n2_ n3_; clear hb hbox hg))
 (try simp only [Act.put, List.setIfInBounds_toArray, List.set_cons_zero, List.set_cons_succ])
 go_cut [15] (fun v15 wc => ∃ (kq : Nat) (x15_2 : Bool), v15 = .bool x15_2 ∧ Aside0 (catalogue_Find.j0 kq a0 a1 x15_2 = some (r1, r2, r3, r4)) ∧ Aside0 (kq ≤ k) ∧ Aside0 (wc.heap[gb101]? = some (.cells #[.string (⟨#[]⟩ : ByteArray), (.slice none 0 0), .int .i64 0] 25 (0, 0))) ∧ Aside0 (Below w.heap.size w wc))
 case first =>
  have H := HC3.out
  clear HC3
  replace H := Option.bind_eq_some_iff.mp H
  obtain ⟨t102, A50, H⟩ := H
  replace H : (if t102 = true then ((level_Is.f a1).bind fun t103 => (catalogue_Find.j0 k a0 a1 (!t103))) else (catalogue_Find.j0 k a0 a1 true)) = some (r1, r2, r3, r4) := H
  have A5 := Aside0.mk A50
  clear A50
  by_cases c6 : t102 = true
  ·subst c6
   have H1 : ((level_Is.f a1).bind fun t103 => (catalogue_Find.j0 k a0 a1 (!t103))) = some (r1, r2, r3, r4) := by rw [if_pos rfl] at H; exact H
   clear H
   have H := H1
   clear H1
   replace H := Option.bind_eq_some_iff.mp H
   obtain ⟨t103, A70, H⟩ := H
   replace H : (catalogue_Find.j0 k a0 a1 (!t103)) = some (r1, r2, r3, r4) := H
   have A7 := Aside0.mk A70
   clear A70
   have H' := Aside0.mk H
   clear H
   go_wp2_with (first | ((with_reducible refine gate_callee (f := 55) rfl ?_); refine goesL_ (some 9) rfl rfl Try.func55 (by kernel_rfl) rfl #[.int .i64 a0] rfl (by (try simp only [List.map_toArray, List.map_cons, List.map_nil]); first | done | rfl | (simp only [List.length_drop, List.length_take]; rfl)) ?_; (with_reducible refine (level_Is.calls a0 true _ A5.out).mono ?_); rintro e w' ⟨rfl, ⟨nd, rfl⟩⟩; refine ⟨_, rfl, ?_⟩) | (go_at_call 55; (with_reducible refine (level_Is.calls a1 t103 _ A7.out).mono ?_); rintro e w' ⟨rfl, ⟨nd, rfl⟩⟩))
   go_meet
   case rel => exact ⟨_, (!t103), (by first | rfl | (simp; done) | (simp [*]; done)), H', ⟨by first | omega | exact Nat.le_refl _⟩, ⟨by (with_reducible repeat (first | refine blk_drewN ?_ _ | refine blk_drew ?_ | refine blk_alloc ?_ _)); exact BK101.out⟩, ⟨by repeat (first | (with_reducible first | exact HB.out | apply below_alloc | apply pw_below_drewN | apply below_drew1 | refine below_set ?_ GE101.out))⟩⟩
  ·replace c6 := Bool.eq_false_iff.mpr c6
   subst c6
   have H1 : (catalogue_Find.j0 k a0 a1 true) = some (r1, r2, r3, r4) := by rw [if_neg (show ¬ (false = true) by decide)] at H; exact H
   clear H
   have H := H1
   clear H1
   have H' := Aside0.mk H
   clear H
   go_wp2_with (first | ((with_reducible refine gate_callee (f := 55) rfl ?_); refine goesL_ (some 9) rfl rfl Try.func55 (by kernel_rfl) rfl #[.int .i64 a0] rfl (by (try simp only [List.map_toArray, List.map_cons, List.map_nil]); first | done | rfl | (simp only [List.length_drop, List.length_take]; rfl)) ?_; (with_reducible refine (level_Is.calls a0 false _ A5.out).mono ?_); rintro e w' ⟨rfl, ⟨nd, rfl⟩⟩; refine ⟨_, rfl, ?_⟩))
   go_meet
   case rel => exact ⟨_, (true), (by first | rfl | (simp; done) | (simp [*]; done)), H', ⟨by first | omega | exact Nat.le_refl _⟩, ⟨by (with_reducible repeat (first | refine blk_drewN ?_ _ | refine blk_drew ?_ | refine blk_alloc ?_ _)); exact BK101.out⟩, ⟨by repeat (first | (with_reducible first | exact HB.out | apply below_alloc | apply pw_below_drewN | apply below_drew1 | refine below_set ?_ GE101.out))⟩⟩
 case rest =>
  clear HC3
  try clear c1
  try clear p2
  try clear c5
  try clear c6
  obtain ⟨kq, x15_2, rfl, HA, HJ2, BK101, HB⟩ := hcut
  cases kq with
  | zero => exact absurd HA.out (by simp [catalogue_Find.j0])
  | succ kj2 =>
   have H := HA.out
   clear HA
   simp only [catalogue_Find.j0] at H
   by_cases c8 : x15_2 = true
   ·subst c8
    have H1 : (some ((⟨#[]⟩ : ByteArray), ([] : List (S44)), 0, false)) = some (r1, r2, r3, r4) := by rw [if_pos rfl] at H; exact H
    clear H
    have H := H1
    clear H1
    simp only [Option.some.injEq, Prod.mk.injEq] at H
    obtain ⟨rfl, rfl, rfl, rfl⟩ := H
    have hcz9_0 : wc.cell? ⟨gb101, 0, none⟩ = some (.string (⟨#[]⟩ : ByteArray)) := (blk_cell BK101.out 0).trans rfl
    have hcz9_1 : wc.cell? ⟨gb101, 1, none⟩ = some (.slice none 0 0) := (blk_cell BK101.out 1).trans rfl
    have hcz9_2 : wc.cell? ⟨gb101, 2, none⟩ = some (.int .i64 0) := (blk_cell BK101.out 2).trans rfl
    have hfz9_0 := blk_frozen BK101.out 0
    have hfz9_1 := blk_frozen BK101.out 1
    have hfz9_2 := blk_frozen BK101.out 2
    go_wp2
    refine bodyPost_ret (results_ct rfl _ _ gb101 25 #[.string (⟨#[]⟩ : ByteArray), .slice none 0 0, .int .i64 0] (0, 0) _ rfl (by (with_reducible repeat (first | refine blk_drewN ?_ _ | refine blk_drew ?_ | refine blk_alloc ?_ _)); refine blk_put (cs := #[.string (⟨#[]⟩ : ByteArray), .slice none 0 0, .int .i64 0]) ?_ 2 _ rfl; (with_reducible repeat (first | refine blk_drewN ?_ _ | refine blk_drew ?_ | refine blk_alloc ?_ _)); refine blk_put (cs := #[.string (⟨#[]⟩ : ByteArray), .slice none 0 0, .int .i64 0]) ?_ 1 _ rfl; (with_reducible repeat (first | refine blk_drewN ?_ _ | refine blk_drew ?_ | refine blk_alloc ?_ _)); refine blk_put (cs := #[.string (⟨#[]⟩ : ByteArray), .slice none 0 0, .int .i64 0]) ?_ 0 _ rfl; (with_reducible repeat (first | refine blk_drewN ?_ _ | refine blk_drew ?_ | refine blk_alloc ?_ _)); exact BK101.out) Try.underlying25 rfl (by kernel_rfl)) rfl ?_
    exact ⟨_, by first | rfl | (simp <;> rfl) | (simp [*] <;> rfl), (Kd.V_nil _ _ _ _ _), by repeat (first | (with_reducible first | exact HB.out | apply below_alloc | apply pw_below_drewN | apply below_drew1 | refine below_set ?_ GE101.out))⟩
   ·replace c8 := Bool.eq_false_iff.mpr c8
    subst c8
    have H1 : ((catalogue_All.f).bind fun t104 => (catalogue_Find.l0 kj2 a0 a1 t104 (t104.length : Int) 0)) = some (r1, r2, r3, r4) := by rw [if_neg (show ¬ (false = true) by decide)] at H; exact H
    clear H
    have H := H1
    clear H1
    replace H := Option.bind_eq_some_iff.mp H
    obtain ⟨t104, A100, H⟩ := H
    replace H : (catalogue_Find.l0 kj2 a0 a1 t104 (t104.length : Int) 0) = some (r1, r2, r3, r4) := H
    have A10 := Aside0.mk A100
    clear A100
    have H' := Aside0.mk H
    clear H
    go_wp2_with (first | ((with_reducible refine gate_callee (f := 54) rfl ?_); refine goesL_ (some 17) rfl rfl Try.func54 (by kernel_rfl) rfl #[] rfl (by (try simp only [List.map_toArray, List.map_cons, List.map_nil]); first | done | rfl | (simp only [List.length_drop, List.length_take]; rfl)) ?_; (with_reducible refine (catalogue_All.calls  t104 _ A10.out).mono ?_); rintro e w11 ⟨v105, rfl, ho0, hb⟩; refine ⟨_, rfl, ?_⟩; have n0_ := Aside0.mk (Kd.V_lower (Kd.V_mono (ok' := fun k_ => (w.heap.size ≤ k_) ∧ k_ ≠ gb101) ho0 (fun k_ hk_ => ⟨(Nat.le_trans (below_size (by repeat (first | (with_reducible first | exact HB.out | apply below_alloc | apply pw_below_drewN | apply below_drew1 | refine below_set ?_ GE101.out)))) hk_), (Kd.freshB (g := gb101) (o := .cells #[.string (⟨#[]⟩ : ByteArray), .slice none 0 0, .int .i64 0] 25 (0, 0)) (by (with_reducible repeat (first | refine blk_drewN ?_ _ | refine blk_drew ?_ | refine blk_alloc ?_ _)); exact BK101.out) k_ hk_)⟩)) (below_size (by repeat (first | (with_reducible first | exact HB.out | apply below_alloc | apply pw_below_drewN | apply below_drew1 | refine below_set ?_ GE101.out))))); have n1_ := Aside0.mk (blk_below (g := gb101) (o := .cells #[.string (⟨#[]⟩ : ByteArray), .slice none 0 0, .int .i64 0] 25 (0, 0)) (by (with_reducible repeat (first | refine blk_drewN ?_ _ | refine blk_drew ?_ | refine blk_alloc ?_ _)); exact BK101.out) hb); have n2_ := Aside0.mk (below_step (by repeat (first | (with_reducible first | exact HB.out | apply below_alloc | apply pw_below_drewN | apply below_drew1 | refine below_set ?_ GE101.out))) hb); clear BK101; clear HB; have HO106 := n0_; have BK101 := n1_; have HB := n2_; clear n0_ n1_ n2_; (try clear hb); (try clear hb2); (try clear hk); (try clear hi); (try clear ho0); obtain ⟨Ao12, co12, eo12⟩ := Kd.V_slice HO106.out; subst eo12))
    go_loopg [19] kj2 (fun kq v19 w' => ∃ (x19_2 : Int) (x102000_2 : ByteArray) (x102002_2 : Int), v19 = .int .i64 x19_2 ∧ Aside0 (catalogue_Find.l0 kq a0 a1 t104 (t104.length : Int) x19_2 = some (r1, r2, r3, r4)) ∧ Aside0 (kq ≤ kj2) ∧ Aside0 (Kd.V k25 25 w' w.heap.size (fun k_ => (w.heap.size ≤ k_) ∧ k_ ≠ gb101) (.slice Ao12 t104.length co12) t104) ∧ Aside0 (w'.heap[gb101]? = some (.cells #[.string x102000_2, (.slice none 0 0), .int .i64 x102002_2] 25 (0, 0))) ∧ Aside0 (Below w.heap.size w w'))
    case atStart => exact ⟨(0), ((⟨#[]⟩ : ByteArray)), (0), (by first | rfl | (simp; done) | (simp [*]; done)), H', ⟨Nat.le_refl _⟩, ⟨by (with_reducible repeat (first | apply Kd.V_alloc | apply Kd.V_drewN | apply Kd.V_drew)); exact HO106.out⟩, ⟨by (with_reducible repeat (first | refine blk_drewN ?_ _ | refine blk_drew ?_ | refine blk_alloc ?_ _)); exact BK101.out⟩, ⟨by repeat (first | (with_reducible first | exact HB.out | apply below_alloc | apply pw_below_drewN | apply below_drew1 | refine below_set ?_ GE101.out))⟩⟩
    case round =>
     clear H'
     try clear c1
     try clear p2
     try clear c5
     try clear c6
     try clear c8
     try clear hcz9_0
     try clear hcz9_1
     try clear hcz9_2
     try clear hfz9_0
     try clear hfz9_1
     try clear hfz9_2
     try clear p2
     obtain ⟨x19_2, x102000_2, x102002_2, rfl, HA, HK2, HO_17, BK101, HB⟩ := hrel
     cases gk with
     | zero => exact absurd HA.out (by simp [catalogue_Find.l0])
     | succ k2 =>
      have H := HA.out
      clear HA
      simp only [catalogue_Find.l0] at H
      by_cases c13 : x19_2 < (t104.length : Int)
      ·rw [if_pos c13] at H
       have c13b0 : decide (x19_2 < (t104.length : Int)) = true := decide_eq_true c13
       clear c13
       by_cases c14 : 0 ≤ x19_2
       ·rw [if_pos c14] at H
        have c14b0 : decide (0 ≤ x19_2) = true := decide_eq_true c14
        clear c14
        by_cases c15 : x19_2 < (t104.length : Int)
        ·rw [if_pos c15] at H
         have c15b0 : decide (x19_2 < (t104.length : Int)) = true := decide_eq_true c15
         clear c15
         replace H := Option.bind_eq_some_iff.mp H
         obtain ⟨t109, A160, H⟩ := H
         replace H : (if (Go.bits .and .i64 t109 ((rd_T25 t104 x19_2).f2)) = 0 then (catalogue_Find.l0 k2 a0 a1 t104 (t104.length : Int) (wrap64 (x19_2 + 1))) else (some ((rd_T25 t104 x19_2).f0, (rd_T25 t104 x19_2).f1, (rd_T25 t104 x19_2).f2, true))) = some (r1, r2, r3, r4) := H
         have A16 := Aside0.mk A160
         clear A160
         by_cases c17 : (Go.bits .and .i64 t109 ((rd_T25 t104 x19_2).f2)) = 0
         ·rw [if_pos c17] at H
          have c17b0 : ((Go.bits .and .i64 t109 ((rd_T25 t104 x19_2).f2)) == 0) = true := beq_iff_eq.mpr c17
          have c17b1 : ((Go.bits .and .i64 t109 ((rd_T25 t104 x19_2).f2)) != 0) = false := bne_eq_false_iff_eq.mpr c17
          clear c17
          have H' := Aside0.mk H
          clear H
          have p107 : 0 ≤ (x19_2 : Int) := of_decide_eq_true (by assumption)
          have q107 : x19_2 < (t104.length : Int) := of_decide_eq_true (by assumption)
          obtain ⟨ad107, A107_1, c107_1, e107, hx107_0, hx107_1, hx107_2, hl107_1, hi107_1⟩ := at_T25 (Kd.V_reads' HO_17.out).2.2 x19_2 p107 q107
          cases e107
          obtain ⟨ce107, hce107, hMe107, hcc107⟩ := Kd.V_get HO_17.out z25 x19_2 p107 (by first | exact q107 | exact of_decide_eq_true (by assumption) | (have e_ := (Kd.V_reads' HO_17.out).1; omega))
          obtain ⟨ua107_1, uc107_1, rfl, ul107_1, ge107_1⟩ := k25_openF hMe107
          have hv107_1 := hcc107 1 _ rfl
          rw [add_field _ _ 1 (by omega)] at hv107_1
          replace hv107_1 := Option.some.inj (hv107_1.symm.trans hx107_1)
          injection hv107_1 with hva_ hvn_ hvc_
          rw [hva_] at ge107_1
          rw [hvc_] at ul107_1
          have HL107_1 := Aside0.mk (show Kd.V k44 44 _ w.heap.size _ _ ((rd_T25 t104 x19_2).f1) from Kd.V_mk ul107_1 ge107_1)
          clear hva_ hvn_ hvc_ ge107_1 ul107_1
          clear hcc107 hce107
          have HR107_1 := Aside0.mk hi107_1
          have HC107_1 := Aside0.mk hl107_1
          clear hi107_1 hl107_1
          replace p107 := eq_true p107
          replace q107 := eq_true q107
          try go_wp2_with (first | ((with_reducible refine gate_dst (N := 7) rfl ?_); refine box_event ?hg (N := 7) ?hd (cs := #[.string (⟨#[]⟩ : ByteArray), .slice none 0 0, .int .i64 0]) (t := 25) ?hr ?_; (case hd => rfl); (case hg => rfl); (case hr => first | (go_simp; done) | (go_simp; rfl)); intro gb108 hg w18 hbox hb; have n0_ := Aside0.mk (Kd.V_below (Kd.V_elderB (by (with_reducible repeat (first | apply Kd.V_alloc | apply Kd.V_drewN | apply Kd.V_drew)); exact HO_17.out) gb108 (Nat.le_of_eq hg.symm)) hb); have n1_ := Aside0.mk (Kd.V_below (Kd.V_elderB (by (with_reducible repeat (first | apply Kd.V_alloc | apply Kd.V_drewN | apply Kd.V_drew)); exact HL107_1.out) gb108 (Nat.le_of_eq hg.symm)) hb); have n2_ := Aside0.mk (blk_below (g := gb101) (o := .cells #[.string x102000_2, .slice none 0 0, .int .i64 x102002_2] 25 (0, 0)) (by (with_reducible repeat (first | refine blk_drewN ?_ _ | refine blk_drew ?_ | refine blk_alloc ?_ _)); exact BK101.out) hb); have n3_ := Aside0.mk (Kd.C_below (by repeat (first | (with_reducible exact HR107_1.out) | (with_reducible refine Kd.C_alloc ?_ _) | (with_reducible refine Kd.C_drewN ?_ _) | (with_reducible refine Kd.C_drew ?_) | exact HR107_1.out)) hb); have n4_ := Aside0.mk (below_step (by repeat (first | (with_reducible first | exact HB.out | apply below_alloc | apply pw_below_drewN | apply below_drew1 | refine below_set ?_ GE101.out))) hb); have n5_ := Aside0.mk (hbox); have n6_ := Aside0.mk ((by rw [hg]; exact (below_size (by repeat (first | (with_reducible first | exact HB.out | apply below_alloc | apply pw_below_drewN | apply below_drew1 | refine below_set ?_ GE101.out)))) : w.heap.size ≤ gb108)); have n7_ := Aside0.mk ((by rw [hg]; exact (below_size (by repeat (first | (with_reducible first | exact HB.out | apply below_alloc | apply pw_below_drewN | apply below_drew1 | refine below_set ?_ GE101.out)))) : w.heap.size ≤ gb108)); have n8_ := Aside0.mk ((by rw [hg]; exact Nat.ne_of_lt (blk_lt (g := gb101) (o := .cells #[.string x102000_2, .slice none 0 0, .int .i64 x102002_2] 25 (0, 0)) (by (with_reducible repeat (first | refine blk_drewN ?_ _ | refine blk_drew ?_ | refine blk_alloc ?_ _)); exact BK101.out)) : gb101 ≠ gb108)); have n9_ := Aside0.mk ((by rw [hg]; exact Nat.ne_of_gt (blk_lt (g := gb101) (o := .cells #[.string x102000_2, .slice none 0 0, .int .i64 x102002_2] 25 (0, 0)) (by (with_reducible repeat (first | refine blk_drewN ?_ _ | refine blk_drew ?_ | refine blk_alloc ?_ _)); exact BK101.out)) : gb108 ≠ gb101)); clear HO_17; clear HL107_1; clear BK101; clear HR107_1; clear HB; have HO_17 := n0_; have HL107_1 := n1_; have BK101 := n2_; have HR107_1 := n3_; have HB := n4_; have BK108 := n5_; have GW108 := n6_; have GE108 := n7_; have NB101_108 := n8_; have NB108_101 := n9_; clear n0_ n1_ n2_ n3_ n4_ n5_ n6_ n7_ n8_ n9_; clear hb hbox hg; have hnb19 := NB108_101.out; have hnc19 := NB101_108.out; have hcz20_0 : w18.cell? ⟨gb108, 0, none⟩ = some (.string (⟨#[]⟩ : ByteArray)) := (blk_cell BK108.out 0).trans rfl; have hcz20_1 : w18.cell? ⟨gb108, 1, none⟩ = some (.slice none 0 0) := (blk_cell BK108.out 1).trans rfl; have hcz20_2 : w18.cell? ⟨gb108, 2, none⟩ = some (.int .i64 0) := (blk_cell BK108.out 2).trans rfl; have hfz20_0 := blk_frozen BK108.out 0; have hfz20_1 := blk_frozen BK108.out 1; have hfz20_2 := blk_frozen BK108.out 2))
          have n0_ : Aside0 (Kd.V k25 25 (((w18.setCell ⟨gb108, 0, none⟩ (.string ((rd_T25 t104 x19_2).f0))).setCell ⟨gb108, 1, none⟩ (.slice A107_1 ((rd_T25 t104 x19_2).f1).length c107_1)).setCell ⟨gb108, 2, none⟩ (.int .i64 ((rd_T25 t104 x19_2).f2))) w.heap.size (fun k_ => (w.heap.size ≤ k_) ∧ k_ ≠ gb101 ∧ k_ ≠ gb108) (.slice (some ad107) t104.length co12) t104) := ⟨by (with_reducible repeat (first | apply Kd.V_alloc | apply Kd.V_drewN | apply Kd.V_drew)); exact Kd.V_mono (Kd.V_far (p := ⟨gb108, 2, none⟩) (Kd.V_far (p := ⟨gb108, 1, none⟩) (Kd.V_far (p := ⟨gb108, 0, none⟩) (Kd.V_mono HO_17.out (fun k_ hk => (⟨hk, hk.2⟩ : _ ∧ k_ ≠ gb108))) (fun _ hk => hk.2) (.string ((rd_T25 t104 x19_2).f0))) (fun _ hk => hk.2) (.slice A107_1 ((rd_T25 t104 x19_2).f1).length c107_1)) (fun _ hk => hk.2) (.int .i64 ((rd_T25 t104 x19_2).f2))) (fun _ hk => ⟨hk.1.1.1, ⟨hk.1.1.2, hk.1.2⟩⟩)⟩
          have n1_ : Aside0 (Kd.V k44 44 (((w18.setCell ⟨gb108, 0, none⟩ (.string ((rd_T25 t104 x19_2).f0))).setCell ⟨gb108, 1, none⟩ (.slice A107_1 ((rd_T25 t104 x19_2).f1).length c107_1)).setCell ⟨gb108, 2, none⟩ (.int .i64 ((rd_T25 t104 x19_2).f2))) w.heap.size (fun k_ => (w.heap.size ≤ k_) ∧ k_ ≠ gb101 ∧ k_ ≠ gb108) (.slice A107_1 ((rd_T25 t104 x19_2).f1).length c107_1) ((rd_T25 t104 x19_2).f1)) := ⟨by (with_reducible repeat (first | apply Kd.V_alloc | apply Kd.V_drewN | apply Kd.V_drew)); exact Kd.V_mono (Kd.V_far (p := ⟨gb108, 2, none⟩) (Kd.V_far (p := ⟨gb108, 1, none⟩) (Kd.V_far (p := ⟨gb108, 0, none⟩) (Kd.V_mono HL107_1.out (fun k_ hk => (⟨hk, hk.2⟩ : _ ∧ k_ ≠ gb108))) (fun _ hk => hk.2) (.string ((rd_T25 t104 x19_2).f0))) (fun _ hk => hk.2) (.slice A107_1 ((rd_T25 t104 x19_2).f1).length c107_1)) (fun _ hk => hk.2) (.int .i64 ((rd_T25 t104 x19_2).f2))) (fun _ hk => ⟨hk.1.1.1, ⟨hk.1.1.2, hk.1.2⟩⟩)⟩
          have n2_ : Aside0 ((((w18.setCell ⟨gb108, 0, none⟩ (.string ((rd_T25 t104 x19_2).f0))).setCell ⟨gb108, 1, none⟩ (.slice A107_1 ((rd_T25 t104 x19_2).f1).length c107_1)).setCell ⟨gb108, 2, none⟩ (.int .i64 ((rd_T25 t104 x19_2).f2))).heap[gb101]? = some (.cells #[.string x102000_2, .slice none 0 0, .int .i64 x102002_2] 25 (0, 0))) := ⟨by (with_reducible repeat (first | refine blk_drewN ?_ _ | refine blk_drew ?_ | refine blk_alloc ?_ _)); refine blk_far ?_ NB101_108.out _; (with_reducible repeat (first | refine blk_drewN ?_ _ | refine blk_drew ?_ | refine blk_alloc ?_ _)); refine blk_far ?_ NB101_108.out _; (with_reducible repeat (first | refine blk_drewN ?_ _ | refine blk_drew ?_ | refine blk_alloc ?_ _)); refine blk_far ?_ NB101_108.out _; (with_reducible repeat (first | refine blk_drewN ?_ _ | refine blk_drew ?_ | refine blk_alloc ?_ _)); exact BK101.out⟩
          have n3_ : Aside0 ((((w18.setCell ⟨gb108, 0, none⟩ (.string ((rd_T25 t104 x19_2).f0))).setCell ⟨gb108, 1, none⟩ (.slice A107_1 ((rd_T25 t104 x19_2).f1).length c107_1)).setCell ⟨gb108, 2, none⟩ (.int .i64 ((rd_T25 t104 x19_2).f2))).heap[gb108]? = some (.cells #[.string ((rd_T25 t104 x19_2).f0), .slice A107_1 ((rd_T25 t104 x19_2).f1).length c107_1, .int .i64 ((rd_T25 t104 x19_2).f2)] 25 (0, 0))) := ⟨by (with_reducible repeat (first | refine blk_drewN ?_ _ | refine blk_drew ?_ | refine blk_alloc ?_ _)); refine blk_put (cs := #[.string ((rd_T25 t104 x19_2).f0), .slice A107_1 ((rd_T25 t104 x19_2).f1).length c107_1, .int .i64 0]) ?_ 2 _ rfl; (with_reducible repeat (first | refine blk_drewN ?_ _ | refine blk_drew ?_ | refine blk_alloc ?_ _)); refine blk_put (cs := #[.string ((rd_T25 t104 x19_2).f0), .slice none 0 0, .int .i64 0]) ?_ 1 _ rfl; (with_reducible repeat (first | refine blk_drewN ?_ _ | refine blk_drew ?_ | refine blk_alloc ?_ _)); refine blk_put (cs := #[.string (⟨#[]⟩ : ByteArray), .slice none 0 0, .int .i64 0]) ?_ 0 _ rfl; (with_reducible repeat (first | refine blk_drewN ?_ _ | refine blk_drew ?_ | refine blk_alloc ?_ _)); exact BK108.out⟩
          have n4_ : Aside0 (Below w.heap.size w (((w18.setCell ⟨gb108, 0, none⟩ (.string ((rd_T25 t104 x19_2).f0))).setCell ⟨gb108, 1, none⟩ (.slice A107_1 ((rd_T25 t104 x19_2).f1).length c107_1)).setCell ⟨gb108, 2, none⟩ (.int .i64 ((rd_T25 t104 x19_2).f2)))) := ⟨by repeat (first | (with_reducible first | exact HB.out | apply below_alloc | apply pw_below_drewN | apply below_drew1 | refine below_set ?_ GE101.out | refine below_set ?_ GE108.out))⟩
          (try clear HO_17)
          (try clear HL107_1)
          (try clear BK101)
          (try clear BK108)
          (try clear HB)
          generalize (((w18.setCell ⟨gb108, 0, none⟩ (.string ((rd_T25 t104 x19_2).f0))).setCell ⟨gb108, 1, none⟩ (.slice A107_1 ((rd_T25 t104 x19_2).f1).length c107_1)).setCell ⟨gb108, 2, none⟩ (.int .i64 ((rd_T25 t104 x19_2).f2))) = w21 at n0_ n1_ n2_ n3_ n4_ ⊢
          have HO_17 := n0_
          have HL107_1 := n1_
          have BK101 := n2_
          have BK108 := n3_
          have HB := n4_
          clear n0_ n1_ n2_ n3_ n4_
          have n0_ := Aside0.mk (Kd.V_drew HO_17.out)
          have n1_ := Aside0.mk (Kd.V_drew HL107_1.out)
          have n2_ := Aside0.mk (blk_drew BK101.out)
          have n3_ := Aside0.mk (blk_drew BK108.out)
          have n4_ := Aside0.mk (below_drew1 HB.out)
          clear HO_17
          clear HL107_1
          clear BK101
          clear BK108
          clear HB
          have HO_17 := n0_
          have HL107_1 := n1_
          have BK101 := n2_
          have BK108 := n3_
          have HB := n4_
          clear n0_ n1_ n2_ n3_ n4_
          refine start_ (n := 7) (S := fun w' => w'.cell? ⟨gb108, 0, none⟩ = some (.string ((rd_T25 t104 x19_2).f0)) ∧ w'.cell? ⟨gb108, 1, none⟩ = some (.slice A107_1 ((rd_T25 t104 x19_2).f1).length c107_1) ∧ w'.cell? ⟨gb108, 2, none⟩ = some (.int .i64 ((rd_T25 t104 x19_2).f2))) (ds := []) #[false, false, false, false, false, false, false] (by kernel_rfl) rfl rfl ⟨(blk_cell BK108.out 0).trans rfl, (blk_cell BK108.out 1).trans rfl, (blk_cell BK108.out 2).trans rfl⟩ (fun hHeld => ?_)
          generalize w21.drew = w22 at HO_17 HL107_1 BK101 BK108 HB hHeld ⊢
          refine pure_ (i := 0) (N := some 23) (v := ?_) (a' := ?_) #[true, false, false, false, false, false, false] rfl rfl (by kernel_rfl) (fun _ _ _ h => h) (Or.inl ⟨by rfl, ?_⟩) ?_ ?_
          rotate_left
          ·intro w'
           go_simp
           with_reducible rfl
          rotate_left
          ·simp only [Act.put, List.setIfInBounds_toArray, List.set_cons_zero, List.set_cons_succ, i64_w, i32_w]
           rfl
          refine pure_ (i := 1) (N := some 24) (v := ?_) (a' := ?_) #[true, true, false, false, false, false, false] rfl rfl (by kernel_rfl) (fun _ _ _ h => h) (Or.inl ⟨by rfl, ?_⟩) ?_ ?_
          rotate_left
          ·intro w'
           go_simp
           with_reducible rfl
          rotate_left
          ·simp only [Act.put, List.setIfInBounds_toArray, List.set_cons_zero, List.set_cons_succ, i64_w, i32_w]
           rfl
          refine pure_ (i := 3) (N := some 26) (v := ?_) (a' := ?_) #[true, true, false, true, false, false, false] rfl rfl (by kernel_rfl) (fun _ _ _ h => h) (Or.inl ⟨by rfl, ?_⟩) ?_ ?_
          rotate_left
          ·intro w'
           go_simp
           with_reducible rfl
          rotate_left
          ·simp only [Act.put, List.setIfInBounds_toArray, List.set_cons_zero, List.set_cons_succ, i64_w, i32_w]
           rfl
          refine take_ (i := 4) (N := some 27) (v := ?_) (a' := ?_) #[true, true, false, true, true, false, false] rfl rfl (by kernel_rfl) (fun _ _ _ h => h) (Or.inl ⟨by rfl, ?_⟩) hHeld ?_ ?_
          rotate_left
          ·rintro w' ⟨s0, s1, s2⟩
           go_simp
           with_reducible rfl
          rotate_left
          ·simp only [Act.put, List.setIfInBounds_toArray, List.set_cons_zero, List.set_cons_succ, i64_w, i32_w]
           rfl
          refine one_ (i := 2) (N := some 25) #[true, true, true, true, true, false, false] rfl rfl (by kernel_rfl) (by decide) (fun K hK => ?_)
          refine goes_ Try.func56 (by kernel_rfl) rfl #[.int .i64 a0, .int .i64 a1] (by rfl) rfl rfl (by (try simp only [List.map_toArray, List.map_cons, List.map_nil]); first | done | rfl | (simp only [List.length_drop, List.length_take]; rfl)) ?_
          with_reducible refine (table_Missing.calls k2 a0 a1 t109 _ A16.out).mono ?_
          rintro e w23 ⟨rfl, hb⟩
          refine ⟨_, rfl, ?_⟩
          have n0_ := Aside0.mk (Kd.V_below (by (with_reducible repeat (first | apply Kd.V_alloc | apply Kd.V_drewN | apply Kd.V_drew)); exact HO_17.out) hb)
          have n1_ := Aside0.mk (Kd.V_below (by (with_reducible repeat (first | apply Kd.V_alloc | apply Kd.V_drewN | apply Kd.V_drew)); exact HL107_1.out) hb)
          have n2_ := Aside0.mk (blk_below (g := gb101) (o := .cells #[.string x102000_2, .slice none 0 0, .int .i64 x102002_2] 25 (0, 0)) (by (with_reducible repeat (first | refine blk_drewN ?_ _ | refine blk_drew ?_ | refine blk_alloc ?_ _)); exact BK101.out) hb)
          have n3_ := Aside0.mk (blk_below (g := gb108) (o := .cells #[.string ((rd_T25 t104 x19_2).f0), .slice A107_1 ((rd_T25 t104 x19_2).f1).length c107_1, .int .i64 ((rd_T25 t104 x19_2).f2)] 25 (0, 0)) (by (with_reducible repeat (first | refine blk_drewN ?_ _ | refine blk_drew ?_ | refine blk_alloc ?_ _)); exact BK108.out) hb)
          have n4_ := Aside0.mk (below_step (by repeat (first | (with_reducible first | exact HB.out | apply below_alloc | apply pw_below_drewN | apply below_drew1 | refine below_set ?_ GE101.out | refine below_set ?_ GE108.out))) hb)
          clear HO_17
          clear HL107_1
          clear BK101
          clear BK108
          clear HB
          have HO_17 := n0_
          have HL107_1 := n1_
          have BK101 := n2_
          have BK108 := n3_
          have HB := n4_
          clear n0_ n1_ n2_ n3_ n4_
          (try clear hb)
          (try clear hb2)
          (try clear hk)
          (try clear hi)
          refine hK.out _ _ ⟨(blk_cell BK108.out 0).trans rfl, (blk_cell BK108.out 1).trans rfl, (blk_cell BK108.out 2).trans rfl⟩ (fun hHeld => ?_)
          clear hK K
          refine norm_ (a' := ?_) ?_ ?_
          rotate_left
          ·show Act.put _ (some 25) _ = _
           simp only [Act.put, List.setIfInBounds_toArray, List.set_cons_zero, List.set_cons_succ, i64_w, i32_w]
           rfl
          refine pure_ (i := 5) (N := some 28) (v := ?_) (a' := ?_) #[true, true, true, true, true, true, false] rfl rfl (by kernel_rfl) (fun _ _ _ h => h) (Or.inl ⟨by rfl, ?_⟩) ?_ ?_
          rotate_left
          ·intro w'
           go_simp
           with_reducible rfl
          rotate_left
          ·simp only [Act.put, List.setIfInBounds_toArray, List.set_cons_zero, List.set_cons_succ, i64_w, i32_w]
           rfl
          refine pure_ (i := 6) (N := some 29) (v := ?_) (a' := ?_) #[true, true, true, true, true, true, true] rfl rfl (by kernel_rfl) (fun _ _ _ h => h) (Or.inl ⟨by rfl, ?_⟩) ?_ ?_
          rotate_left
          ·intro w'
           go_simp
           with_reducible rfl
          rotate_left
          ·simp only [Act.put, List.setIfInBounds_toArray, List.set_cons_zero, List.set_cons_succ, i64_w, i32_w]
           rfl
          refine done_ (by kernel_rfl) ?_
          try go_wp2
          go_roundg k2
          case measure => have := HJ2.out; have := HK2.out; omega
          case rel => exact ⟨(wrap64 (x19_2 + 1)), (x102000_2), (x102002_2), (by first | rfl | (simp; done) | (simp [*]; done)), H', ⟨by have := HJ2.out; have := HK2.out; omega⟩, ⟨by (with_reducible repeat (first | apply Kd.V_alloc | apply Kd.V_drewN | apply Kd.V_drew)); exact Kd.V_mono HO_17.out (fun _ hk => ⟨hk.1, hk.2.1⟩)⟩, ⟨by (with_reducible repeat (first | refine blk_drewN ?_ _ | refine blk_drew ?_ | refine blk_alloc ?_ _)); exact BK101.out⟩, ⟨by repeat (first | (with_reducible first | exact HB.out | apply below_alloc | apply pw_below_drewN | apply below_drew1 | refine below_set ?_ GE101.out | refine below_set ?_ GE108.out))⟩⟩
         ·rw [if_neg c17] at H
          have c17b0 : ((Go.bits .and .i64 t109 ((rd_T25 t104 x19_2).f2)) == 0) = false := beq_eq_false_iff_ne.mpr c17
          have c17b1 : ((Go.bits .and .i64 t109 ((rd_T25 t104 x19_2).f2)) != 0) = true := bne_iff_ne.mpr c17
          simp only [Option.some.injEq, Prod.mk.injEq] at H
          obtain ⟨rfl, rfl, rfl, rfl⟩ := H
          have p107 : 0 ≤ (x19_2 : Int) := of_decide_eq_true (by assumption)
          have q107 : x19_2 < (t104.length : Int) := of_decide_eq_true (by assumption)
          obtain ⟨ad107, A107_1, c107_1, e107, hx107_0, hx107_1, hx107_2, hl107_1, hi107_1⟩ := at_T25 (Kd.V_reads' HO_17.out).2.2 x19_2 p107 q107
          cases e107
          obtain ⟨ce107, hce107, hMe107, hcc107⟩ := Kd.V_get HO_17.out z25 x19_2 p107 (by first | exact q107 | exact of_decide_eq_true (by assumption) | (have e_ := (Kd.V_reads' HO_17.out).1; omega))
          obtain ⟨ua107_1, uc107_1, rfl, ul107_1, ge107_1⟩ := k25_openF hMe107
          have hv107_1 := hcc107 1 _ rfl
          rw [add_field _ _ 1 (by omega)] at hv107_1
          replace hv107_1 := Option.some.inj (hv107_1.symm.trans hx107_1)
          injection hv107_1 with hva_ hvn_ hvc_
          rw [hva_] at ge107_1
          rw [hvc_] at ul107_1
          have HL107_1 := Aside0.mk (show Kd.V k44 44 _ w.heap.size _ _ ((rd_T25 t104 x19_2).f1) from Kd.V_mk ul107_1 ge107_1)
          clear hva_ hvn_ hvc_ ge107_1 ul107_1
          clear hcc107 hce107
          have HR107_1 := Aside0.mk hi107_1
          have HC107_1 := Aside0.mk hl107_1
          clear hi107_1 hl107_1
          replace p107 := eq_true p107
          replace q107 := eq_true q107
          try go_wp2_with (first | ((with_reducible refine gate_dst (N := 7) rfl ?_); refine box_event ?hg (N := 7) ?hd (cs := #[.string (⟨#[]⟩ : ByteArray), .slice none 0 0, .int .i64 0]) (t := 25) ?hr ?_; (case hd => rfl); (case hg => rfl); (case hr => first | (go_simp; done) | (go_simp; rfl)); intro gb108 hg w24 hbox hb; have n0_ := Aside0.mk (Kd.V_below (Kd.V_elderB (by (with_reducible repeat (first | apply Kd.V_alloc | apply Kd.V_drewN | apply Kd.V_drew)); exact HO_17.out) gb108 (Nat.le_of_eq hg.symm)) hb); have n1_ := Aside0.mk (Kd.V_below (Kd.V_elderB (by (with_reducible repeat (first | apply Kd.V_alloc | apply Kd.V_drewN | apply Kd.V_drew)); exact HL107_1.out) gb108 (Nat.le_of_eq hg.symm)) hb); have n2_ := Aside0.mk (blk_below (g := gb101) (o := .cells #[.string x102000_2, .slice none 0 0, .int .i64 x102002_2] 25 (0, 0)) (by (with_reducible repeat (first | refine blk_drewN ?_ _ | refine blk_drew ?_ | refine blk_alloc ?_ _)); exact BK101.out) hb); have n3_ := Aside0.mk (Kd.C_below (by repeat (first | (with_reducible exact HR107_1.out) | (with_reducible refine Kd.C_alloc ?_ _) | (with_reducible refine Kd.C_drewN ?_ _) | (with_reducible refine Kd.C_drew ?_) | exact HR107_1.out)) hb); have n4_ := Aside0.mk (below_step (by repeat (first | (with_reducible first | exact HB.out | apply below_alloc | apply pw_below_drewN | apply below_drew1 | refine below_set ?_ GE101.out))) hb); have n5_ := Aside0.mk (hbox); have n6_ := Aside0.mk ((by rw [hg]; exact (below_size (by repeat (first | (with_reducible first | exact HB.out | apply below_alloc | apply pw_below_drewN | apply below_drew1 | refine below_set ?_ GE101.out)))) : w.heap.size ≤ gb108)); have n7_ := Aside0.mk ((by rw [hg]; exact (below_size (by repeat (first | (with_reducible first | exact HB.out | apply below_alloc | apply pw_below_drewN | apply below_drew1 | refine below_set ?_ GE101.out)))) : w.heap.size ≤ gb108)); have n8_ := Aside0.mk ((by rw [hg]; exact Nat.ne_of_lt (blk_lt (g := gb101) (o := .cells #[.string x102000_2, .slice none 0 0, .int .i64 x102002_2] 25 (0, 0)) (by (with_reducible repeat (first | refine blk_drewN ?_ _ | refine blk_drew ?_ | refine blk_alloc ?_ _)); exact BK101.out)) : gb101 ≠ gb108)); have n9_ := Aside0.mk ((by rw [hg]; exact Nat.ne_of_gt (blk_lt (g := gb101) (o := .cells #[.string x102000_2, .slice none 0 0, .int .i64 x102002_2] 25 (0, 0)) (by (with_reducible repeat (first | refine blk_drewN ?_ _ | refine blk_drew ?_ | refine blk_alloc ?_ _)); exact BK101.out)) : gb108 ≠ gb101)); clear HO_17; clear HL107_1; clear BK101; clear HR107_1; clear HB; have HO_17 := n0_; have HL107_1 := n1_; have BK101 := n2_; have HR107_1 := n3_; have HB := n4_; have BK108 := n5_; have GW108 := n6_; have GE108 := n7_; have NB101_108 := n8_; have NB108_101 := n9_; clear n0_ n1_ n2_ n3_ n4_ n5_ n6_ n7_ n8_ n9_; clear hb hbox hg; have hnb25 := NB108_101.out; have hnc25 := NB101_108.out; have hcz26_0 : w24.cell? ⟨gb108, 0, none⟩ = some (.string (⟨#[]⟩ : ByteArray)) := (blk_cell BK108.out 0).trans rfl; have hcz26_1 : w24.cell? ⟨gb108, 1, none⟩ = some (.slice none 0 0) := (blk_cell BK108.out 1).trans rfl; have hcz26_2 : w24.cell? ⟨gb108, 2, none⟩ = some (.int .i64 0) := (blk_cell BK108.out 2).trans rfl; have hfz26_0 := blk_frozen BK108.out 0; have hfz26_1 := blk_frozen BK108.out 1; have hfz26_2 := blk_frozen BK108.out 2))
          have n0_ : Aside0 (Kd.V k25 25 (((w24.setCell ⟨gb108, 0, none⟩ (.string ((rd_T25 t104 x19_2).f0))).setCell ⟨gb108, 1, none⟩ (.slice A107_1 ((rd_T25 t104 x19_2).f1).length c107_1)).setCell ⟨gb108, 2, none⟩ (.int .i64 ((rd_T25 t104 x19_2).f2))) w.heap.size (fun k_ => (w.heap.size ≤ k_) ∧ k_ ≠ gb101 ∧ k_ ≠ gb108) (.slice (some ad107) t104.length co12) t104) := ⟨by (with_reducible repeat (first | apply Kd.V_alloc | apply Kd.V_drewN | apply Kd.V_drew)); exact Kd.V_mono (Kd.V_far (p := ⟨gb108, 2, none⟩) (Kd.V_far (p := ⟨gb108, 1, none⟩) (Kd.V_far (p := ⟨gb108, 0, none⟩) (Kd.V_mono HO_17.out (fun k_ hk => (⟨hk, hk.2⟩ : _ ∧ k_ ≠ gb108))) (fun _ hk => hk.2) (.string ((rd_T25 t104 x19_2).f0))) (fun _ hk => hk.2) (.slice A107_1 ((rd_T25 t104 x19_2).f1).length c107_1)) (fun _ hk => hk.2) (.int .i64 ((rd_T25 t104 x19_2).f2))) (fun _ hk => ⟨hk.1.1.1, ⟨hk.1.1.2, hk.1.2⟩⟩)⟩
          have n1_ : Aside0 (Kd.V k44 44 (((w24.setCell ⟨gb108, 0, none⟩ (.string ((rd_T25 t104 x19_2).f0))).setCell ⟨gb108, 1, none⟩ (.slice A107_1 ((rd_T25 t104 x19_2).f1).length c107_1)).setCell ⟨gb108, 2, none⟩ (.int .i64 ((rd_T25 t104 x19_2).f2))) w.heap.size (fun k_ => (w.heap.size ≤ k_) ∧ k_ ≠ gb101 ∧ k_ ≠ gb108) (.slice A107_1 ((rd_T25 t104 x19_2).f1).length c107_1) ((rd_T25 t104 x19_2).f1)) := ⟨by (with_reducible repeat (first | apply Kd.V_alloc | apply Kd.V_drewN | apply Kd.V_drew)); exact Kd.V_mono (Kd.V_far (p := ⟨gb108, 2, none⟩) (Kd.V_far (p := ⟨gb108, 1, none⟩) (Kd.V_far (p := ⟨gb108, 0, none⟩) (Kd.V_mono HL107_1.out (fun k_ hk => (⟨hk, hk.2⟩ : _ ∧ k_ ≠ gb108))) (fun _ hk => hk.2) (.string ((rd_T25 t104 x19_2).f0))) (fun _ hk => hk.2) (.slice A107_1 ((rd_T25 t104 x19_2).f1).length c107_1)) (fun _ hk => hk.2) (.int .i64 ((rd_T25 t104 x19_2).f2))) (fun _ hk => ⟨hk.1.1.1, ⟨hk.1.1.2, hk.1.2⟩⟩)⟩
          have n2_ : Aside0 ((((w24.setCell ⟨gb108, 0, none⟩ (.string ((rd_T25 t104 x19_2).f0))).setCell ⟨gb108, 1, none⟩ (.slice A107_1 ((rd_T25 t104 x19_2).f1).length c107_1)).setCell ⟨gb108, 2, none⟩ (.int .i64 ((rd_T25 t104 x19_2).f2))).heap[gb101]? = some (.cells #[.string x102000_2, .slice none 0 0, .int .i64 x102002_2] 25 (0, 0))) := ⟨by (with_reducible repeat (first | refine blk_drewN ?_ _ | refine blk_drew ?_ | refine blk_alloc ?_ _)); refine blk_far ?_ NB101_108.out _; (with_reducible repeat (first | refine blk_drewN ?_ _ | refine blk_drew ?_ | refine blk_alloc ?_ _)); refine blk_far ?_ NB101_108.out _; (with_reducible repeat (first | refine blk_drewN ?_ _ | refine blk_drew ?_ | refine blk_alloc ?_ _)); refine blk_far ?_ NB101_108.out _; (with_reducible repeat (first | refine blk_drewN ?_ _ | refine blk_drew ?_ | refine blk_alloc ?_ _)); exact BK101.out⟩
          have n3_ : Aside0 ((((w24.setCell ⟨gb108, 0, none⟩ (.string ((rd_T25 t104 x19_2).f0))).setCell ⟨gb108, 1, none⟩ (.slice A107_1 ((rd_T25 t104 x19_2).f1).length c107_1)).setCell ⟨gb108, 2, none⟩ (.int .i64 ((rd_T25 t104 x19_2).f2))).heap[gb108]? = some (.cells #[.string ((rd_T25 t104 x19_2).f0), .slice A107_1 ((rd_T25 t104 x19_2).f1).length c107_1, .int .i64 ((rd_T25 t104 x19_2).f2)] 25 (0, 0))) := ⟨by (with_reducible repeat (first | refine blk_drewN ?_ _ | refine blk_drew ?_ | refine blk_alloc ?_ _)); refine blk_put (cs := #[.string ((rd_T25 t104 x19_2).f0), .slice A107_1 ((rd_T25 t104 x19_2).f1).length c107_1, .int .i64 0]) ?_ 2 _ rfl; (with_reducible repeat (first | refine blk_drewN ?_ _ | refine blk_drew ?_ | refine blk_alloc ?_ _)); refine blk_put (cs := #[.string ((rd_T25 t104 x19_2).f0), .slice none 0 0, .int .i64 0]) ?_ 1 _ rfl; (with_reducible repeat (first | refine blk_drewN ?_ _ | refine blk_drew ?_ | refine blk_alloc ?_ _)); refine blk_put (cs := #[.string (⟨#[]⟩ : ByteArray), .slice none 0 0, .int .i64 0]) ?_ 0 _ rfl; (with_reducible repeat (first | refine blk_drewN ?_ _ | refine blk_drew ?_ | refine blk_alloc ?_ _)); exact BK108.out⟩
          have n4_ : Aside0 (Below w.heap.size w (((w24.setCell ⟨gb108, 0, none⟩ (.string ((rd_T25 t104 x19_2).f0))).setCell ⟨gb108, 1, none⟩ (.slice A107_1 ((rd_T25 t104 x19_2).f1).length c107_1)).setCell ⟨gb108, 2, none⟩ (.int .i64 ((rd_T25 t104 x19_2).f2)))) := ⟨by repeat (first | (with_reducible first | exact HB.out | apply below_alloc | apply pw_below_drewN | apply below_drew1 | refine below_set ?_ GE101.out | refine below_set ?_ GE108.out))⟩
          (try clear HO_17)
          (try clear HL107_1)
          (try clear BK101)
          (try clear BK108)
          (try clear HB)
          generalize (((w24.setCell ⟨gb108, 0, none⟩ (.string ((rd_T25 t104 x19_2).f0))).setCell ⟨gb108, 1, none⟩ (.slice A107_1 ((rd_T25 t104 x19_2).f1).length c107_1)).setCell ⟨gb108, 2, none⟩ (.int .i64 ((rd_T25 t104 x19_2).f2))) = w27 at n0_ n1_ n2_ n3_ n4_ ⊢
          have HO_17 := n0_
          have HL107_1 := n1_
          have BK101 := n2_
          have BK108 := n3_
          have HB := n4_
          clear n0_ n1_ n2_ n3_ n4_
          have n0_ := Aside0.mk (Kd.V_drew HO_17.out)
          have n1_ := Aside0.mk (Kd.V_drew HL107_1.out)
          have n2_ := Aside0.mk (blk_drew BK101.out)
          have n3_ := Aside0.mk (blk_drew BK108.out)
          have n4_ := Aside0.mk (below_drew1 HB.out)
          clear HO_17
          clear HL107_1
          clear BK101
          clear BK108
          clear HB
          have HO_17 := n0_
          have HL107_1 := n1_
          have BK101 := n2_
          have BK108 := n3_
          have HB := n4_
          clear n0_ n1_ n2_ n3_ n4_
          refine start_ (n := 7) (S := fun w' => w'.cell? ⟨gb108, 0, none⟩ = some (.string ((rd_T25 t104 x19_2).f0)) ∧ w'.cell? ⟨gb108, 1, none⟩ = some (.slice A107_1 ((rd_T25 t104 x19_2).f1).length c107_1) ∧ w'.cell? ⟨gb108, 2, none⟩ = some (.int .i64 ((rd_T25 t104 x19_2).f2))) (ds := []) #[false, false, false, false, false, false, false] (by kernel_rfl) rfl rfl ⟨(blk_cell BK108.out 0).trans rfl, (blk_cell BK108.out 1).trans rfl, (blk_cell BK108.out 2).trans rfl⟩ (fun hHeld => ?_)
          generalize w27.drew = w28 at HO_17 HL107_1 BK101 BK108 HB hHeld ⊢
          refine pure_ (i := 0) (N := some 23) (v := ?_) (a' := ?_) #[true, false, false, false, false, false, false] rfl rfl (by kernel_rfl) (fun _ _ _ h => h) (Or.inl ⟨by rfl, ?_⟩) ?_ ?_
          rotate_left
          ·intro w'
           go_simp
           with_reducible rfl
          rotate_left
          ·simp only [Act.put, List.setIfInBounds_toArray, List.set_cons_zero, List.set_cons_succ, i64_w, i32_w]
           rfl
          refine pure_ (i := 1) (N := some 24) (v := ?_) (a' := ?_) #[true, true, false, false, false, false, false] rfl rfl (by kernel_rfl) (fun _ _ _ h => h) (Or.inl ⟨by rfl, ?_⟩) ?_ ?_
          rotate_left
          ·intro w'
           go_simp
           with_reducible rfl
          rotate_left
          ·simp only [Act.put, List.setIfInBounds_toArray, List.set_cons_zero, List.set_cons_succ, i64_w, i32_w]
           rfl
          refine pure_ (i := 3) (N := some 26) (v := ?_) (a' := ?_) #[true, true, false, true, false, false, false] rfl rfl (by kernel_rfl) (fun _ _ _ h => h) (Or.inl ⟨by rfl, ?_⟩) ?_ ?_
          rotate_left
          ·intro w'
           go_simp
           with_reducible rfl
          rotate_left
          ·simp only [Act.put, List.setIfInBounds_toArray, List.set_cons_zero, List.set_cons_succ, i64_w, i32_w]
           rfl
          refine take_ (i := 4) (N := some 27) (v := ?_) (a' := ?_) #[true, true, false, true, true, false, false] rfl rfl (by kernel_rfl) (fun _ _ _ h => h) (Or.inl ⟨by rfl, ?_⟩) hHeld ?_ ?_
          rotate_left
          ·rintro w' ⟨s0, s1, s2⟩
           go_simp
           with_reducible rfl
          rotate_left
          ·simp only [Act.put, List.setIfInBounds_toArray, List.set_cons_zero, List.set_cons_succ, i64_w, i32_w]
           rfl
          refine one_ (i := 2) (N := some 25) #[true, true, true, true, true, false, false] rfl rfl (by kernel_rfl) (by decide) (fun K hK => ?_)
          refine goes_ Try.func56 (by kernel_rfl) rfl #[.int .i64 a0, .int .i64 a1] (by rfl) rfl rfl (by (try simp only [List.map_toArray, List.map_cons, List.map_nil]); first | done | rfl | (simp only [List.length_drop, List.length_take]; rfl)) ?_
          with_reducible refine (table_Missing.calls k2 a0 a1 t109 _ A16.out).mono ?_
          rintro e w29 ⟨rfl, hb⟩
          refine ⟨_, rfl, ?_⟩
          have n0_ := Aside0.mk (Kd.V_below (by (with_reducible repeat (first | apply Kd.V_alloc | apply Kd.V_drewN | apply Kd.V_drew)); exact HO_17.out) hb)
          have n1_ := Aside0.mk (Kd.V_below (by (with_reducible repeat (first | apply Kd.V_alloc | apply Kd.V_drewN | apply Kd.V_drew)); exact HL107_1.out) hb)
          have n2_ := Aside0.mk (blk_below (g := gb101) (o := .cells #[.string x102000_2, .slice none 0 0, .int .i64 x102002_2] 25 (0, 0)) (by (with_reducible repeat (first | refine blk_drewN ?_ _ | refine blk_drew ?_ | refine blk_alloc ?_ _)); exact BK101.out) hb)
          have n3_ := Aside0.mk (blk_below (g := gb108) (o := .cells #[.string ((rd_T25 t104 x19_2).f0), .slice A107_1 ((rd_T25 t104 x19_2).f1).length c107_1, .int .i64 ((rd_T25 t104 x19_2).f2)] 25 (0, 0)) (by (with_reducible repeat (first | refine blk_drewN ?_ _ | refine blk_drew ?_ | refine blk_alloc ?_ _)); exact BK108.out) hb)
          have n4_ := Aside0.mk (below_step (by repeat (first | (with_reducible first | exact HB.out | apply below_alloc | apply pw_below_drewN | apply below_drew1 | refine below_set ?_ GE101.out | refine below_set ?_ GE108.out))) hb)
          clear HO_17
          clear HL107_1
          clear BK101
          clear BK108
          clear HB
          have HO_17 := n0_
          have HL107_1 := n1_
          have BK101 := n2_
          have BK108 := n3_
          have HB := n4_
          clear n0_ n1_ n2_ n3_ n4_
          (try clear hb)
          (try clear hb2)
          (try clear hk)
          (try clear hi)
          refine hK.out _ _ ⟨(blk_cell BK108.out 0).trans rfl, (blk_cell BK108.out 1).trans rfl, (blk_cell BK108.out 2).trans rfl⟩ (fun hHeld => ?_)
          clear hK K
          refine norm_ (a' := ?_) ?_ ?_
          rotate_left
          ·show Act.put _ (some 25) _ = _
           simp only [Act.put, List.setIfInBounds_toArray, List.set_cons_zero, List.set_cons_succ, i64_w, i32_w]
           rfl
          refine pure_ (i := 5) (N := some 28) (v := ?_) (a' := ?_) #[true, true, true, true, true, true, false] rfl rfl (by kernel_rfl) (fun _ _ _ h => h) (Or.inl ⟨by rfl, ?_⟩) ?_ ?_
          rotate_left
          ·intro w'
           go_simp
           with_reducible rfl
          rotate_left
          ·simp only [Act.put, List.setIfInBounds_toArray, List.set_cons_zero, List.set_cons_succ, i64_w, i32_w]
           rfl
          refine pure_ (i := 6) (N := some 29) (v := ?_) (a' := ?_) #[true, true, true, true, true, true, true] rfl rfl (by kernel_rfl) (fun _ _ _ h => h) (Or.inl ⟨by rfl, ?_⟩) ?_ ?_
          rotate_left
          ·intro w'
           go_simp
           with_reducible rfl
          rotate_left
          ·simp only [Act.put, List.setIfInBounds_toArray, List.set_cons_zero, List.set_cons_succ, i64_w, i32_w]
           rfl
          refine done_ (by kernel_rfl) ?_
          have hcz30_0 : w29.cell? ⟨gb108, 0, none⟩ = some (.string ((rd_T25 t104 x19_2).f0)) := (blk_cell BK108.out 0).trans rfl
          have hcz30_1 : w29.cell? ⟨gb108, 1, none⟩ = some (.slice A107_1 ((rd_T25 t104 x19_2).f1).length c107_1) := (blk_cell BK108.out 1).trans rfl
          have hcz30_2 : w29.cell? ⟨gb108, 2, none⟩ = some (.int .i64 ((rd_T25 t104 x19_2).f2)) := (blk_cell BK108.out 2).trans rfl
          have hfz30_0 := blk_frozen BK108.out 0
          have hfz30_1 := blk_frozen BK108.out 1
          have hfz30_2 := blk_frozen BK108.out 2
          have hcz31_0 : w29.cell? ⟨gb101, 0, none⟩ = some (.string x102000_2) := (blk_cell BK101.out 0).trans rfl
          have hcz31_1 : w29.cell? ⟨gb101, 1, none⟩ = some (.slice none 0 0) := (blk_cell BK101.out 1).trans rfl
          have hcz31_2 : w29.cell? ⟨gb101, 2, none⟩ = some (.int .i64 x102002_2) := (blk_cell BK101.out 2).trans rfl
          have hfz31_0 := blk_frozen BK101.out 0
          have hfz31_1 := blk_frozen BK101.out 1
          have hfz31_2 := blk_frozen BK101.out 2
          try go_wp2
          refine bodyPost_ret (results_ct rfl _ _ gb101 25 #[.string ((rd_T25 t104 x19_2).f0), .slice A107_1 ((rd_T25 t104 x19_2).f1).length c107_1, .int .i64 ((rd_T25 t104 x19_2).f2)] (0, 0) _ rfl (by (with_reducible repeat (first | refine blk_drewN ?_ _ | refine blk_drew ?_ | refine blk_alloc ?_ _)); refine blk_put (cs := #[.string ((rd_T25 t104 x19_2).f0), .slice A107_1 ((rd_T25 t104 x19_2).f1).length c107_1, .int .i64 x102002_2]) ?_ 2 _ rfl; (with_reducible repeat (first | refine blk_drewN ?_ _ | refine blk_drew ?_ | refine blk_alloc ?_ _)); refine blk_put (cs := #[.string ((rd_T25 t104 x19_2).f0), .slice none 0 0, .int .i64 x102002_2]) ?_ 1 _ rfl; (with_reducible repeat (first | refine blk_drewN ?_ _ | refine blk_drew ?_ | refine blk_alloc ?_ _)); refine blk_put (cs := #[.string x102000_2, .slice none 0 0, .int .i64 x102002_2]) ?_ 0 _ rfl; (with_reducible repeat (first | refine blk_drewN ?_ _ | refine blk_drew ?_ | refine blk_alloc ?_ _)); exact BK101.out) Try.underlying25 rfl (by kernel_rfl)) rfl ?_
          exact ⟨_, by first | rfl | (simp <;> rfl) | (simp [*] <;> rfl), by (with_reducible repeat (first | apply Kd.V_alloc | apply Kd.V_drewN | apply Kd.V_drew)); exact Kd.V_mono (Kd.V_far (p := ⟨gb101, 2, none⟩) (Kd.V_far (p := ⟨gb101, 1, none⟩) (Kd.V_far (p := ⟨gb101, 0, none⟩) (Kd.V_mono HL107_1.out (fun k_ hk => (⟨hk, hk.2.1⟩ : _ ∧ k_ ≠ gb101))) (fun _ hk => hk.2) (.string ((rd_T25 t104 x19_2).f0))) (fun _ hk => hk.2) (.slice A107_1 ((rd_T25 t104 x19_2).f1).length c107_1)) (fun _ hk => hk.2) (.int .i64 ((rd_T25 t104 x19_2).f2))) (fun _ hk => hk.1.1), by repeat (first | (with_reducible first | exact HB.out | apply below_alloc | apply pw_below_drewN | apply below_drew1 | refine below_set ?_ GE101.out | refine below_set ?_ GE108.out))⟩
        ·rw [if_neg c15] at H
         exact absurd H (by simp)
       ·rw [if_neg c14] at H
        exact absurd H (by simp)
      ·rw [if_neg c13] at H
       have c13b0 : decide (x19_2 < (t104.length : Int)) = false := decide_eq_false c13
       clear c13
       simp only [Option.some.injEq, Prod.mk.injEq] at H
       obtain ⟨rfl, rfl, rfl, rfl⟩ := H
       have hcz32_0 : wr.cell? ⟨gb101, 0, none⟩ = some (.string x102000_2) := (blk_cell BK101.out 0).trans rfl
       have hcz32_1 : wr.cell? ⟨gb101, 1, none⟩ = some (.slice none 0 0) := (blk_cell BK101.out 1).trans rfl
       have hcz32_2 : wr.cell? ⟨gb101, 2, none⟩ = some (.int .i64 x102002_2) := (blk_cell BK101.out 2).trans rfl
       have hfz32_0 := blk_frozen BK101.out 0
       have hfz32_1 := blk_frozen BK101.out 1
       have hfz32_2 := blk_frozen BK101.out 2
       go_wp2
       refine bodyPost_ret (results_ct rfl _ _ gb101 25 #[.string (⟨#[]⟩ : ByteArray), .slice none 0 0, .int .i64 0] (0, 0) _ rfl (by (with_reducible repeat (first | refine blk_drewN ?_ _ | refine blk_drew ?_ | refine blk_alloc ?_ _)); refine blk_put (cs := #[.string (⟨#[]⟩ : ByteArray), .slice none 0 0, .int .i64 x102002_2]) ?_ 2 _ rfl; (with_reducible repeat (first | refine blk_drewN ?_ _ | refine blk_drew ?_ | refine blk_alloc ?_ _)); refine blk_put (cs := #[.string (⟨#[]⟩ : ByteArray), .slice none 0 0, .int .i64 x102002_2]) ?_ 1 _ rfl; (with_reducible repeat (first | refine blk_drewN ?_ _ | refine blk_drew ?_ | refine blk_alloc ?_ _)); refine blk_put (cs := #[.string x102000_2, .slice none 0 0, .int .i64 x102002_2]) ?_ 0 _ rfl; (with_reducible repeat (first | refine blk_drewN ?_ _ | refine blk_drew ?_ | refine blk_alloc ?_ _)); exact BK101.out) Try.underlying25 rfl (by kernel_rfl)) rfl ?_
       exact ⟨_, by first | rfl | (simp <;> rfl) | (simp [*] <;> rfl), (Kd.V_nil _ _ _ _ _), by repeat (first | (with_reducible first | exact HB.out | apply below_alloc | apply pw_below_drewN | apply below_drew1 | refine below_set ?_ GE101.out))⟩
end Go.Proofs.Ytfocaefnmfkojaa.Q
namespace Go.Proofs.Ytfocaefnmfkojaa.Q
open Go.RowKit Go.Proofs.YtfocaefnmfkojaaW.PrintWords Go.Proofs.YtfocaefnmfkojaaW.PrintLast Go.Proofs.YtfocaefnmfkojaaW.PrintMore
attribute [local go_sem] max2_int min2_int max_two min_two max_three min_three max_four min_four   -- for this text's walks alone
set_option linter.unusedVariables false
set_option linter.unusedSimpArgs false
def burgagelaw20_speaks.f (k : Nat)  : Option (Bool) := (catalogue_Find.f k 6 7).bind fun bt101 => ((catalogue_Find.f k 7 6).bind fun bt108 => (if bt101.2.2.2 = true then (if bt108.2.2.2 = true then (some false) else (if bt101.1.toList = ([119, 114, 105, 116, 101, 32, 115, 107, 101, 119] : List UInt8) then (if bt101.2.2.1 = 16 then ((catalogue_All.f).bind fun t115 => (some ((t115.length : Int) == 6))) else (some false)) else (some false))) else (some false)))
theorem burgagelaw20_speaks.mono : ∀ k, LeO (burgagelaw20_speaks.f k ) (burgagelaw20_speaks.f (k + 1) ) := by
 intro  k
 unfold burgagelaw20_speaks.f
 repeat' first
   | (with_reducible exact catalogue_Find.mono _ _ _)
   | (with_reducible exact LeO.refl _)
   | (with_reducible exact LeO.none _)
   | (with_reducible refine LeO.ite ?_ ?_)
   | (with_reducible refine LeO.bind ?_ (fun _ => ?_))
   | exact catalogue_Find.mono _ _ _
   | exact LeO.none _
   | refine LeO.ite ?_ ?_
   | refine LeO.bind ?_ (fun _ => ?_)
set_option maxHeartbeats 8000000 in
set_option maxRecDepth 100000 in
theorem burgagelaw20_speaks.calls (k : Nat)  (r : Bool) (w : World) (h : burgagelaw20_speaks.f k  = some r) :
  Calls Try.prog 13 #[] w fun e w' => e = .returned (.bool r) ∧ Below w.heap.size w w' := by
 have hu25 := Try.underlying25
 have HB := Aside0.mk (Below.refl w.heap.size w)
 have H : ((catalogue_Find.f k 6 7).bind fun bt101 => ((catalogue_Find.f k 7 6).bind fun bt108 => (if bt101.2.2.2 = true then (if bt108.2.2.2 = true then (some false) else (if bt101.1.toList = ([119, 114, 105, 116, 101, 32, 115, 107, 101, 119] : List UInt8) then (if bt101.2.2.1 = 16 then ((catalogue_All.f).bind fun t115 => (some ((t115.length : Int) == 6))) else (some false)) else (some false))) else (some false)))) = some r := h
 clear h
 replace H := Option.bind_eq_some_iff.mp H
 obtain ⟨⟨t101, t102, t105, t106⟩, A10, H⟩ := H
 replace H : ((catalogue_Find.f k 7 6).bind fun bt108 => (if t106 = true then (if bt108.2.2.2 = true then (some false) else (if t101.toList = ([119, 114, 105, 116, 101, 32, 115, 107, 101, 119] : List UInt8) then (if t105 = 16 then ((catalogue_All.f).bind fun t115 => (some ((t115.length : Int) == 6))) else (some false)) else (some false))) else (some false))) = some r := H
 have A1 := Aside0.mk A10
 clear A10
 replace H := Option.bind_eq_some_iff.mp H
 obtain ⟨⟨t108, t109, t112, t113⟩, A20, H⟩ := H
 replace H : (if t106 = true then (if t113 = true then (some false) else (if t101.toList = ([119, 114, 105, 116, 101, 32, 115, 107, 101, 119] : List UInt8) then (if t105 = 16 then ((catalogue_All.f).bind fun t115 => (some ((t115.length : Int) == 6))) else (some false)) else (some false))) else (some false)) = some r := H
 have A2 := Aside0.mk A20
 clear A20
 by_cases c3 : t106 = true
 ·subst c3
  have H1 : (if t113 = true then (some false) else (if t101.toList = ([119, 114, 105, 116, 101, 32, 115, 107, 101, 119] : List UInt8) then (if t105 = 16 then ((catalogue_All.f).bind fun t115 => (some ((t115.length : Int) == 6))) else (some false)) else (some false))) = some r := by rw [if_pos rfl] at H; exact H
  clear H
  have H := H1
  clear H1
  by_cases c4 : t113 = true
  ·subst c4
   have H1 : (some false) = some r := by rw [if_pos rfl] at H; exact H
   clear H
   have H := H1
   clear H1
   obtain rfl := Option.some.inj H
   go_enter Try.func13, Try.ntmps13
   go_wp2_with (first | ((with_reducible refine gate_callee (f := 14) rfl ?_); refine goesL_ (some 6) rfl rfl Try.func14 (by kernel_rfl) rfl #[.int .i64 6, .int .i64 7] rfl (by (try simp only [List.map_toArray, List.map_cons, List.map_nil]); first | done | rfl | (simp only [List.length_drop, List.length_take]; rfl)) ?_; (with_reducible refine (catalogue_Find.calls k 6 7 t101 t102 t105 true _ A1.out).mono ?_); rintro e w5 ⟨v103, rfl, ho0, hb⟩; refine ⟨_, rfl, ?_⟩; have n0_ := Aside0.mk (Kd.V_lower (Kd.V_mono (ok' := fun k_ => True) ho0 (fun k_ hk_ => trivial)) (below_size (by repeat (first | (with_reducible first | exact HB.out | apply below_alloc | apply pw_below_drewN | apply below_drew1))))); have n1_ := Aside0.mk (below_step (by repeat (first | (with_reducible first | exact HB.out | apply below_alloc | apply pw_below_drewN | apply below_drew1))) hb); clear HB; have HO104 := n0_; have HB := n1_; clear n0_ n1_; (try clear hb); (try clear hb2); (try clear hk); (try clear hi); (try clear ho0)) | ((with_reducible refine gate_dst (N := 1) rfl ?_); (try (refine gate_guard (by rfl) ?_; dsimp only)); refine box_event ?hg (N := 1) ?hd (cs := #[.string (⟨#[]⟩ : ByteArray), .slice none 0 0, .int .i64 0]) (t := 25) ?hr ?_; (case hd => rfl); (case hg => rfl); (case hr => first | (go_simp; done) | (go_simp; rfl)); intro gb107 hg w6 hbox hb; have n0_ := Aside0.mk (Kd.V_below (Kd.V_elderB (by (with_reducible repeat (first | apply Kd.V_alloc | apply Kd.V_drewN | apply Kd.V_drew)); exact HO104.out) gb107 (Nat.le_of_eq hg.symm)) hb); have n1_ := Aside0.mk (below_step (by repeat (first | (with_reducible first | exact HB.out | apply below_alloc | apply pw_below_drewN | apply below_drew1))) hb); have n2_ := Aside0.mk (hbox); have n3_ := Aside0.mk ((by rw [hg]; exact (below_size (by repeat (first | (with_reducible first | exact HB.out | apply below_alloc | apply pw_below_drewN | apply below_drew1)))) : w.heap.size ≤ gb107)); have n4_ := Aside0.mk ((by rw [hg]; exact (below_size (by repeat (first | (with_reducible first | exact HB.out | apply below_alloc | apply pw_below_drewN | apply below_drew1)))) : w.heap.size ≤ gb107)); clear HO104; clear HB; have HO104 := n0_; have HB := n1_; have BK107 := n2_; have GW107 := n3_; have GE107 := n4_; clear n0_ n1_ n2_ n3_ n4_; clear hb hbox hg; have hcz7_0 : w6.cell? ⟨gb107, 0, none⟩ = some (.string (⟨#[]⟩ : ByteArray)) := (blk_cell BK107.out 0).trans rfl; have hcz7_1 : w6.cell? ⟨gb107, 1, none⟩ = some (.slice none 0 0) := (blk_cell BK107.out 1).trans rfl; have hcz7_2 : w6.cell? ⟨gb107, 2, none⟩ = some (.int .i64 0) := (blk_cell BK107.out 2).trans rfl; have hfz7_0 := blk_frozen BK107.out 0; have hfz7_1 := blk_frozen BK107.out 1; have hfz7_2 := blk_frozen BK107.out 2; obtain ⟨Ao8, co8, eo8⟩ := Kd.V_slice HO104.out; subst eo8) | ((with_reducible refine gate_callee (f := 14) rfl ?_); refine goesL_ (some 10) rfl rfl Try.func14 (by kernel_rfl) rfl #[.int .i64 7, .int .i64 6] rfl (by (try simp only [List.map_toArray, List.map_cons, List.map_nil]); first | done | rfl | (simp only [List.length_drop, List.length_take]; rfl)) ?_; (with_reducible refine (catalogue_Find.calls k 7 6 t108 t109 t112 true _ A2.out).mono ?_); rintro e w9 ⟨v110, rfl, ho0, hb⟩; refine ⟨_, rfl, ?_⟩; have n0_ := Aside0.mk (Kd.V_below (by (with_reducible repeat (first | apply Kd.V_alloc | apply Kd.V_drewN | apply Kd.V_drew)); exact (Kd.V_mono (Kd.V_far (p := ⟨gb107, 2, none⟩) (Kd.V_far (p := ⟨gb107, 1, none⟩) (Kd.V_far (p := ⟨gb107, 0, none⟩) (Kd.V_mono HO104.out (fun k_ hk => (⟨hk, hk.2⟩ : _ ∧ k_ ≠ gb107))) (fun _ hk => hk.2) (.string t101)) (fun _ hk => hk.2) (.slice Ao8 t102.length co8)) (fun _ hk => hk.2) (.int .i64 t105)) (fun _ h_ => h_.1))) hb); have n1_ := Aside0.mk (Kd.V_lower (Kd.V_mono (ok' := fun k_ => k_ ≠ gb107) ho0 (fun k_ hk_ => (Kd.freshB (g := gb107) (o := .cells #[.string t101, .slice Ao8 t102.length co8, .int .i64 t105] 25 (0, 0)) (by (with_reducible repeat (first | refine blk_drewN ?_ _ | refine blk_drew ?_ | refine blk_alloc ?_ _)); refine blk_put (cs := #[.string t101, .slice Ao8 t102.length co8, .int .i64 0]) ?_ 2 _ rfl; (with_reducible repeat (first | refine blk_drewN ?_ _ | refine blk_drew ?_ | refine blk_alloc ?_ _)); refine blk_put (cs := #[.string t101, .slice none 0 0, .int .i64 0]) ?_ 1 _ rfl; (with_reducible repeat (first | refine blk_drewN ?_ _ | refine blk_drew ?_ | refine blk_alloc ?_ _)); refine blk_put (cs := #[.string (⟨#[]⟩ : ByteArray), .slice none 0 0, .int .i64 0]) ?_ 0 _ rfl; (with_reducible repeat (first | refine blk_drewN ?_ _ | refine blk_drew ?_ | refine blk_alloc ?_ _)); exact BK107.out) k_ hk_))) (below_size (by repeat (first | (with_reducible first | exact HB.out | apply below_alloc | apply pw_below_drewN | apply below_drew1 | refine below_set ?_ GE107.out))))); have n2_ := Aside0.mk (blk_below (g := gb107) (o := .cells #[.string t101, .slice Ao8 t102.length co8, .int .i64 t105] 25 (0, 0)) (by (with_reducible repeat (first | refine blk_drewN ?_ _ | refine blk_drew ?_ | refine blk_alloc ?_ _)); refine blk_put (cs := #[.string t101, .slice Ao8 t102.length co8, .int .i64 0]) ?_ 2 _ rfl; (with_reducible repeat (first | refine blk_drewN ?_ _ | refine blk_drew ?_ | refine blk_alloc ?_ _)); refine blk_put (cs := #[.string t101, .slice none 0 0, .int .i64 0]) ?_ 1 _ rfl; (with_reducible repeat (first | refine blk_drewN ?_ _ | refine blk_drew ?_ | refine blk_alloc ?_ _)); refine blk_put (cs := #[.string (⟨#[]⟩ : ByteArray), .slice none 0 0, .int .i64 0]) ?_ 0 _ rfl; (with_reducible repeat (first | refine blk_drewN ?_ _ | refine blk_drew ?_ | refine blk_alloc ?_ _)); exact BK107.out) hb); have n3_ := Aside0.mk (below_step (by repeat (first | (with_reducible first | exact HB.out | apply below_alloc | apply pw_below_drewN | apply below_drew1 | refine below_set ?_ GE107.out))) hb); clear HO104; clear BK107; clear HB; have HO104 := n0_; have HO111 := n1_; have BK107 := n2_; have HB := n3_; clear n0_ n1_ n2_ n3_; (try clear hb); (try clear hb2); (try clear hk); (try clear hi); (try clear ho0)) | ((with_reducible refine gate_dst (N := 3) rfl ?_); (try (refine gate_guard (by rfl) ?_; dsimp only)); refine box_event ?hg (N := 3) ?hd (cs := #[.string (⟨#[]⟩ : ByteArray), .slice none 0 0, .int .i64 0]) (t := 25) ?hr ?_; (case hd => rfl); (case hg => rfl); (case hr => first | (go_simp; done) | (go_simp; rfl)); intro gb114 hg w10 hbox hb; have n0_ := Aside0.mk (Kd.V_below (Kd.V_elderB (by (with_reducible repeat (first | apply Kd.V_alloc | apply Kd.V_drewN | apply Kd.V_drew)); exact HO104.out) gb114 (Nat.le_of_eq hg.symm)) hb); have n1_ := Aside0.mk (Kd.V_below (Kd.V_elderB (by (with_reducible repeat (first | apply Kd.V_alloc | apply Kd.V_drewN | apply Kd.V_drew)); exact HO111.out) gb114 (Nat.le_of_eq hg.symm)) hb); have n2_ := Aside0.mk (blk_below (g := gb107) (o := .cells #[.string t101, .slice Ao8 t102.length co8, .int .i64 t105] 25 (0, 0)) (by (with_reducible repeat (first | refine blk_drewN ?_ _ | refine blk_drew ?_ | refine blk_alloc ?_ _)); exact BK107.out) hb); have n3_ := Aside0.mk (below_step (by repeat (first | (with_reducible first | exact HB.out | apply below_alloc | apply pw_below_drewN | apply below_drew1 | refine below_set ?_ GE107.out))) hb); have n4_ := Aside0.mk (hbox); have n5_ := Aside0.mk ((by rw [hg]; exact (below_size (by repeat (first | (with_reducible first | exact HB.out | apply below_alloc | apply pw_below_drewN | apply below_drew1 | refine below_set ?_ GE107.out)))) : w.heap.size ≤ gb114)); have n6_ := Aside0.mk ((by rw [hg]; exact (below_size (by repeat (first | (with_reducible first | exact HB.out | apply below_alloc | apply pw_below_drewN | apply below_drew1 | refine below_set ?_ GE107.out)))) : w.heap.size ≤ gb114)); have n7_ := Aside0.mk ((by rw [hg]; exact Nat.ne_of_lt (blk_lt (g := gb107) (o := .cells #[.string t101, .slice Ao8 t102.length co8, .int .i64 t105] 25 (0, 0)) (by (with_reducible repeat (first | refine blk_drewN ?_ _ | refine blk_drew ?_ | refine blk_alloc ?_ _)); exact BK107.out)) : gb107 ≠ gb114)); have n8_ := Aside0.mk ((by rw [hg]; exact Nat.ne_of_gt (blk_lt (g := gb107) (o := .cells #[.string t101, .slice Ao8 t102.length co8, .int .i64 t105] 25 (0, 0)) (by (with_reducible repeat (first | refine blk_drewN ?_ _ | refine blk_drew ?_ | refine blk_alloc ?_ _)); exact BK107.out)) : gb114 ≠ gb107)); clear HO104; clear HO111; clear BK107; clear HB; have HO104 := n0_; have HO111 := n1_; have BK107 := n2_; have HB := n3_; have BK114 := n4_; have GW114 := n5_; have GE114 := n6_; have NB107_114 := n7_; have NB114_107 := n8_; clear n0_ n1_ n2_ n3_ n4_ n5_ n6_ n7_ n8_; clear hb hbox hg; have hnb11 := NB114_107.out; have hnc11 := NB107_114.out; have hcz12_0 : w10.cell? ⟨gb114, 0, none⟩ = some (.string (⟨#[]⟩ : ByteArray)) := (blk_cell BK114.out 0).trans rfl; have hcz12_1 : w10.cell? ⟨gb114, 1, none⟩ = some (.slice none 0 0) := (blk_cell BK114.out 1).trans rfl; have hcz12_2 : w10.cell? ⟨gb114, 2, none⟩ = some (.int .i64 0) := (blk_cell BK114.out 2).trans rfl; have hfz12_0 := blk_frozen BK114.out 0; have hfz12_1 := blk_frozen BK114.out 1; have hfz12_2 := blk_frozen BK114.out 2; obtain ⟨Ao13, co13, eo13⟩ := Kd.V_slice HO111.out; subst eo13))
   go_ret
   exact ⟨by first | rfl | (simp <;> rfl) | (simp [*] <;> rfl), by repeat (first | (with_reducible first | exact HB.out | apply below_alloc | apply pw_below_drewN | apply below_drew1 | refine below_set ?_ GE107.out | refine below_set ?_ GE114.out))⟩
  ·replace c4 := Bool.eq_false_iff.mpr c4
   subst c4
   have H1 : (if t101.toList = ([119, 114, 105, 116, 101, 32, 115, 107, 101, 119] : List UInt8) then (if t105 = 16 then ((catalogue_All.f).bind fun t115 => (some ((t115.length : Int) == 6))) else (some false)) else (some false)) = some r := by rw [if_neg (show ¬ (false = true) by decide)] at H; exact H
   clear H
   have H := H1
   clear H1
   by_cases c14 : t101.toList = ([119, 114, 105, 116, 101, 32, 115, 107, 101, 119] : List UInt8)
   ·rw [if_pos c14] at H
    have c14b0 : (t101.toList == ([119, 114, 105, 116, 101, 32, 115, 107, 101, 119] : List UInt8)) = true := beq_iff_eq.mpr c14
    have c14b1 : (t101.toList != ([119, 114, 105, 116, 101, 32, 115, 107, 101, 119] : List UInt8)) = false := bne_eq_false_iff_eq.mpr c14
    clear c14
    by_cases c15 : t105 = 16
    ·rw [if_pos c15] at H
     have c15b0 : (t105 == 16) = true := beq_iff_eq.mpr c15
     have c15b1 : (t105 != 16) = false := bne_eq_false_iff_eq.mpr c15
     clear c15
     replace H := Option.bind_eq_some_iff.mp H
     obtain ⟨t115, A160, H⟩ := H
     replace H : (some ((t115.length : Int) == 6)) = some r := H
     have A16 := Aside0.mk A160
     clear A160
     obtain rfl := Option.some.inj H
     go_enter Try.func13, Try.ntmps13
     go_wp2_with (first | ((with_reducible refine gate_callee (f := 14) rfl ?_); refine goesL_ (some 6) rfl rfl Try.func14 (by kernel_rfl) rfl #[.int .i64 6, .int .i64 7] rfl (by (try simp only [List.map_toArray, List.map_cons, List.map_nil]); first | done | rfl | (simp only [List.length_drop, List.length_take]; rfl)) ?_; (with_reducible refine (catalogue_Find.calls k 6 7 t101 t102 t105 true _ A1.out).mono ?_); rintro e w17 ⟨v103, rfl, ho0, hb⟩; refine ⟨_, rfl, ?_⟩; have n0_ := Aside0.mk (Kd.V_lower (Kd.V_mono (ok' := fun k_ => True) ho0 (fun k_ hk_ => trivial)) (below_size (by repeat (first | (with_reducible first | exact HB.out | apply below_alloc | apply pw_below_drewN | apply below_drew1))))); have n1_ := Aside0.mk (below_step (by repeat (first | (with_reducible first | exact HB.out | apply below_alloc | apply pw_below_drewN | apply below_drew1))) hb); clear HB; have HO104 := n0_; have HB := n1_; clear n0_ n1_; (try clear hb); (try clear hb2); (try clear hk); (try clear hi); (try clear ho0)) | ((with_reducible refine gate_dst (N := 1) rfl ?_); (try (refine gate_guard (by rfl) ?_; dsimp only)); refine box_event ?hg (N := 1) ?hd (cs := #[.string (⟨#[]⟩ : ByteArray), .slice none 0 0, .int .i64 0]) (t := 25) ?hr ?_; (case hd => rfl); (case hg => rfl); (case hr => first | (go_simp; done) | (go_simp; rfl)); intro gb107 hg w18 hbox hb; have n0_ := Aside0.mk (Kd.V_below (Kd.V_elderB (by (with_reducible repeat (first | apply Kd.V_alloc | apply Kd.V_drewN | apply Kd.V_drew)); exact HO104.out) gb107 (Nat.le_of_eq hg.symm)) hb); have n1_ := Aside0.mk (below_step (by repeat (first | (with_reducible first | exact HB.out | apply below_alloc | apply pw_below_drewN | apply below_drew1))) hb); have n2_ := Aside0.mk (hbox); have n3_ := Aside0.mk ((by rw [hg]; exact (below_size (by repeat (first | (with_reducible first | exact HB.out | apply below_alloc | apply pw_below_drewN | apply below_drew1)))) : w.heap.size ≤ gb107)); have n4_ := Aside0.mk ((by rw [hg]; exact (below_size (by repeat (first | (with_reducible first | exact HB.out | apply below_alloc | apply pw_below_drewN | apply below_drew1)))) : w.heap.size ≤ gb107)); clear HO104; clear HB; have HO104 := n0_; have HB := n1_; have BK107 := n2_; have GW107 := n3_; have GE107 := n4_; clear n0_ n1_ n2_ n3_ n4_; clear hb hbox hg; have hcz19_0 : w18.cell? ⟨gb107, 0, none⟩ = some (.string (⟨#[]⟩ : ByteArray)) := (blk_cell BK107.out 0).trans rfl; have hcz19_1 : w18.cell? ⟨gb107, 1, none⟩ = some (.slice none 0 0) := (blk_cell BK107.out 1).trans rfl; have hcz19_2 : w18.cell? ⟨gb107, 2, none⟩ = some (.int .i64 0) := (blk_cell BK107.out 2).trans rfl; have hfz19_0 := blk_frozen BK107.out 0; have hfz19_1 := blk_frozen BK107.out 1; have hfz19_2 := blk_frozen BK107.out 2; obtain ⟨Ao20, co20, eo20⟩ := Kd.V_slice HO104.out; subst eo20) | ((with_reducible refine gate_callee (f := 14) rfl ?_); refine goesL_ (some 10) rfl rfl Try.func14 (by kernel_rfl) rfl #[.int .i64 7, .int .i64 6] rfl (by (try simp only [List.map_toArray, List.map_cons, List.map_nil]); first | done | rfl | (simp only [List.length_drop, List.length_take]; rfl)) ?_; (with_reducible refine (catalogue_Find.calls k 7 6 t108 t109 t112 false _ A2.out).mono ?_); rintro e w21 ⟨v110, rfl, ho0, hb⟩; refine ⟨_, rfl, ?_⟩; have n0_ := Aside0.mk (Kd.V_below (by (with_reducible repeat (first | apply Kd.V_alloc | apply Kd.V_drewN | apply Kd.V_drew)); exact (Kd.V_mono (Kd.V_far (p := ⟨gb107, 2, none⟩) (Kd.V_far (p := ⟨gb107, 1, none⟩) (Kd.V_far (p := ⟨gb107, 0, none⟩) (Kd.V_mono HO104.out (fun k_ hk => (⟨hk, hk.2⟩ : _ ∧ k_ ≠ gb107))) (fun _ hk => hk.2) (.string t101)) (fun _ hk => hk.2) (.slice Ao20 t102.length co20)) (fun _ hk => hk.2) (.int .i64 t105)) (fun _ h_ => h_.1))) hb); have n1_ := Aside0.mk (Kd.V_lower (Kd.V_mono (ok' := fun k_ => k_ ≠ gb107) ho0 (fun k_ hk_ => (Kd.freshB (g := gb107) (o := .cells #[.string t101, .slice Ao20 t102.length co20, .int .i64 t105] 25 (0, 0)) (by (with_reducible repeat (first | refine blk_drewN ?_ _ | refine blk_drew ?_ | refine blk_alloc ?_ _)); refine blk_put (cs := #[.string t101, .slice Ao20 t102.length co20, .int .i64 0]) ?_ 2 _ rfl; (with_reducible repeat (first | refine blk_drewN ?_ _ | refine blk_drew ?_ | refine blk_alloc ?_ _)); refine blk_put (cs := #[.string t101, .slice none 0 0, .int .i64 0]) ?_ 1 _ rfl; (with_reducible repeat (first | refine blk_drewN ?_ _ | refine blk_drew ?_ | refine blk_alloc ?_ _)); refine blk_put (cs := #[.string (⟨#[]⟩ : ByteArray), .slice none 0 0, .int .i64 0]) ?_ 0 _ rfl; (with_reducible repeat (first | refine blk_drewN ?_ _ | refine blk_drew ?_ | refine blk_alloc ?_ _)); exact BK107.out) k_ hk_))) (below_size (by repeat (first | (with_reducible first | exact HB.out | apply below_alloc | apply pw_below_drewN | apply below_drew1 | refine below_set ?_ GE107.out))))); have n2_ := Aside0.mk (blk_below (g := gb107) (o := .cells #[.string t101, .slice Ao20 t102.length co20, .int .i64 t105] 25 (0, 0)) (by (with_reducible repeat (first | refine blk_drewN ?_ _ | refine blk_drew ?_ | refine blk_alloc ?_ _)); refine blk_put (cs := #[.string t101, .slice Ao20 t102.length co20, .int .i64 0]) ?_ 2 _ rfl; (with_reducible repeat (first | refine blk_drewN ?_ _ | refine blk_drew ?_ | refine blk_alloc ?_ _)); refine blk_put (cs := #[.string t101, .slice none 0 0, .int .i64 0]) ?_ 1 _ rfl; (with_reducible repeat (first | refine blk_drewN ?_ _ | refine blk_drew ?_ | refine blk_alloc ?_ _)); refine blk_put (cs := #[.string (⟨#[]⟩ : ByteArray), .slice none 0 0, .int .i64 0]) ?_ 0 _ rfl; (with_reducible repeat (first | refine blk_drewN ?_ _ | refine blk_drew ?_ | refine blk_alloc ?_ _)); exact BK107.out) hb); have n3_ := Aside0.mk (below_step (by repeat (first | (with_reducible first | exact HB.out | apply below_alloc | apply pw_below_drewN | apply below_drew1 | refine below_set ?_ GE107.out))) hb); clear HO104; clear BK107; clear HB; have HO104 := n0_; have HO111 := n1_; have BK107 := n2_; have HB := n3_; clear n0_ n1_ n2_ n3_; (try clear hb); (try clear hb2); (try clear hk); (try clear hi); (try clear ho0)) | ((with_reducible refine gate_dst (N := 3) rfl ?_); (try (refine gate_guard (by rfl) ?_; dsimp only)); refine box_event ?hg (N := 3) ?hd (cs := #[.string (⟨#[]⟩ : ByteArray), .slice none 0 0, .int .i64 0]) (t := 25) ?hr ?_; (case hd => rfl); (case hg => rfl); (case hr => first | (go_simp; done) | (go_simp; rfl)); intro gb114 hg w22 hbox hb; have n0_ := Aside0.mk (Kd.V_below (Kd.V_elderB (by (with_reducible repeat (first | apply Kd.V_alloc | apply Kd.V_drewN | apply Kd.V_drew)); exact HO104.out) gb114 (Nat.le_of_eq hg.symm)) hb); have n1_ := Aside0.mk (Kd.V_below (Kd.V_elderB (by (with_reducible repeat (first | apply Kd.V_alloc | apply Kd.V_drewN | apply Kd.V_drew)); exact HO111.out) gb114 (Nat.le_of_eq hg.symm)) hb); have n2_ := Aside0.mk (blk_below (g := gb107) (o := .cells #[.string t101, .slice Ao20 t102.length co20, .int .i64 t105] 25 (0, 0)) (by (with_reducible repeat (first | refine blk_drewN ?_ _ | refine blk_drew ?_ | refine blk_alloc ?_ _)); exact BK107.out) hb); have n3_ := Aside0.mk (below_step (by repeat (first | (with_reducible first | exact HB.out | apply below_alloc | apply pw_below_drewN | apply below_drew1 | refine below_set ?_ GE107.out))) hb); have n4_ := Aside0.mk (hbox); have n5_ := Aside0.mk ((by rw [hg]; exact (below_size (by repeat (first | (with_reducible first | exact HB.out | apply below_alloc | apply pw_below_drewN | apply below_drew1 | refine below_set ?_ GE107.out)))) : w.heap.size ≤ gb114)); have n6_ := Aside0.mk ((by rw [hg]; exact (below_size (by repeat (first | (with_reducible first | exact HB.out | apply below_alloc | apply pw_below_drewN | apply below_drew1 | refine below_set ?_ GE107.out)))) : w.heap.size ≤ gb114)); have n7_ := Aside0.mk ((by rw [hg]; exact Nat.ne_of_lt (blk_lt (g := gb107) (o := .cells #[.string t101, .slice Ao20 t102.length co20, .int .i64 t105] 25 (0, 0)) (by (with_reducible repeat (first | refine blk_drewN ?_ _ | refine blk_drew ?_ | refine blk_alloc ?_ _)); exact BK107.out)) : gb107 ≠ gb114)); have n8_ := Aside0.mk ((by rw [hg]; exact Nat.ne_of_gt (blk_lt (g := gb107) (o := .cells #[.string t101, .slice Ao20 t102.length co20, .int .i64 t105] 25 (0, 0)) (by (with_reducible repeat (first | refine blk_drewN ?_ _ | refine blk_drew ?_ | refine blk_alloc ?_ _)); exact BK107.out)) : gb114 ≠ gb107)); clear HO104; clear HO111; clear BK107; clear HB; have HO104 := n0_; have HO111 := n1_; have BK107 := n2_; have HB := n3_; have BK114 := n4_; have GW114 := n5_; have GE114 := n6_; have NB107_114 := n7_; have NB114_107 := n8_; clear n0_ n1_ n2_ n3_ n4_ n5_ n6_ n7_ n8_; clear hb hbox hg; have hnb23 := NB114_107.out; have hnc23 := NB107_114.out; have hcz24_0 : w22.cell? ⟨gb114, 0, none⟩ = some (.string (⟨#[]⟩ : ByteArray)) := (blk_cell BK114.out 0).trans rfl; have hcz24_1 : w22.cell? ⟨gb114, 1, none⟩ = some (.slice none 0 0) := (blk_cell BK114.out 1).trans rfl; have hcz24_2 : w22.cell? ⟨gb114, 2, none⟩ = some (.int .i64 0) := (blk_cell BK114.out 2).trans rfl; have hfz24_0 := blk_frozen BK114.out 0; have hfz24_1 := blk_frozen BK114.out 1; have hfz24_2 := blk_frozen BK114.out 2; obtain ⟨Ao25, co25, eo25⟩ := Kd.V_slice HO111.out; subst eo25; have hcz26_0 : w22.cell? ⟨gb107, 0, none⟩ = some (.string t101) := (blk_cell BK107.out 0).trans rfl; have hcz26_1 : w22.cell? ⟨gb107, 1, none⟩ = some (.slice Ao20 t102.length co20) := (blk_cell BK107.out 1).trans rfl; have hcz26_2 : w22.cell? ⟨gb107, 2, none⟩ = some (.int .i64 t105) := (blk_cell BK107.out 2).trans rfl; have hfz26_0 := blk_frozen BK107.out 0; have hfz26_1 := blk_frozen BK107.out 1; have hfz26_2 := blk_frozen BK107.out 2) | (go_at_call 54; (with_reducible refine (catalogue_All.calls  t115 _ A16.out).mono ?_); rintro e w27 ⟨v116, rfl, ho0, hb⟩; have n0_ := Aside0.mk (Kd.V_below (by (with_reducible repeat (first | apply Kd.V_alloc | apply Kd.V_drewN | apply Kd.V_drew)); exact (Kd.V_mono (Kd.V_far (p := ⟨gb114, 2, none⟩) (Kd.V_far (p := ⟨gb114, 1, none⟩) (Kd.V_far (p := ⟨gb114, 0, none⟩) (Kd.V_mono HO104.out (fun k_ hk => (⟨hk, hk.2⟩ : _ ∧ k_ ≠ gb114))) (fun _ hk => hk.2) (.string t108)) (fun _ hk => hk.2) (.slice Ao25 t109.length co25)) (fun _ hk => hk.2) (.int .i64 t112)) (fun _ h_ => h_.1))) hb); have n1_ := Aside0.mk (Kd.V_below (by (with_reducible repeat (first | apply Kd.V_alloc | apply Kd.V_drewN | apply Kd.V_drew)); exact (Kd.V_mono (Kd.V_far (p := ⟨gb114, 2, none⟩) (Kd.V_far (p := ⟨gb114, 1, none⟩) (Kd.V_far (p := ⟨gb114, 0, none⟩) (Kd.V_mono HO111.out (fun k_ hk => (⟨hk, hk.2⟩ : _ ∧ k_ ≠ gb114))) (fun _ hk => hk.2) (.string t108)) (fun _ hk => hk.2) (.slice Ao25 t109.length co25)) (fun _ hk => hk.2) (.int .i64 t112)) (fun _ h_ => h_.1))) hb); have n2_ := Aside0.mk (Kd.V_lower (Kd.V_mono (ok' := fun k_ => k_ ≠ gb107 ∧ k_ ≠ gb114) ho0 (fun k_ hk_ => ⟨(Kd.freshB (g := gb107) (o := .cells #[.string t101, .slice Ao20 t102.length co20, .int .i64 t105] 25 (0, 0)) (by (with_reducible repeat (first | refine blk_drewN ?_ _ | refine blk_drew ?_ | refine blk_alloc ?_ _)); refine blk_far ?_ NB107_114.out _; (with_reducible repeat (first | refine blk_drewN ?_ _ | refine blk_drew ?_ | refine blk_alloc ?_ _)); refine blk_far ?_ NB107_114.out _; (with_reducible repeat (first | refine blk_drewN ?_ _ | refine blk_drew ?_ | refine blk_alloc ?_ _)); refine blk_far ?_ NB107_114.out _; (with_reducible repeat (first | refine blk_drewN ?_ _ | refine blk_drew ?_ | refine blk_alloc ?_ _)); exact BK107.out) k_ hk_), (Kd.freshB (g := gb114) (o := .cells #[.string t108, .slice Ao25 t109.length co25, .int .i64 t112] 25 (0, 0)) (by (with_reducible repeat (first | refine blk_drewN ?_ _ | refine blk_drew ?_ | refine blk_alloc ?_ _)); refine blk_put (cs := #[.string t108, .slice Ao25 t109.length co25, .int .i64 0]) ?_ 2 _ rfl; (with_reducible repeat (first | refine blk_drewN ?_ _ | refine blk_drew ?_ | refine blk_alloc ?_ _)); refine blk_put (cs := #[.string t108, .slice none 0 0, .int .i64 0]) ?_ 1 _ rfl; (with_reducible repeat (first | refine blk_drewN ?_ _ | refine blk_drew ?_ | refine blk_alloc ?_ _)); refine blk_put (cs := #[.string (⟨#[]⟩ : ByteArray), .slice none 0 0, .int .i64 0]) ?_ 0 _ rfl; (with_reducible repeat (first | refine blk_drewN ?_ _ | refine blk_drew ?_ | refine blk_alloc ?_ _)); exact BK114.out) k_ hk_)⟩)) (below_size (by repeat (first | (with_reducible first | exact HB.out | apply below_alloc | apply pw_below_drewN | apply below_drew1 | refine below_set ?_ GE107.out | refine below_set ?_ GE114.out))))); have n3_ := Aside0.mk (blk_below (g := gb107) (o := .cells #[.string t101, .slice Ao20 t102.length co20, .int .i64 t105] 25 (0, 0)) (by (with_reducible repeat (first | refine blk_drewN ?_ _ | refine blk_drew ?_ | refine blk_alloc ?_ _)); refine blk_far ?_ NB107_114.out _; (with_reducible repeat (first | refine blk_drewN ?_ _ | refine blk_drew ?_ | refine blk_alloc ?_ _)); refine blk_far ?_ NB107_114.out _; (with_reducible repeat (first | refine blk_drewN ?_ _ | refine blk_drew ?_ | refine blk_alloc ?_ _)); refine blk_far ?_ NB107_114.out _; (with_reducible repeat (first | refine blk_drewN ?_ _ | refine blk_drew ?_ | refine blk_alloc ?_ _)); exact BK107.out) hb); have n4_ := Aside0.mk (blk_below (g := gb114) (o := .cells #[.string t108, .slice Ao25 t109.length co25, .int .i64 t112] 25 (0, 0)) (by (with_reducible repeat (first | refine blk_drewN ?_ _ | refine blk_drew ?_ | refine blk_alloc ?_ _)); refine blk_put (cs := #[.string t108, .slice Ao25 t109.length co25, .int .i64 0]) ?_ 2 _ rfl; (with_reducible repeat (first | refine blk_drewN ?_ _ | refine blk_drew ?_ | refine blk_alloc ?_ _)); refine blk_put (cs := #[.string t108, .slice none 0 0, .int .i64 0]) ?_ 1 _ rfl; (with_reducible repeat (first | refine blk_drewN ?_ _ | refine blk_drew ?_ | refine blk_alloc ?_ _)); refine blk_put (cs := #[.string (⟨#[]⟩ : ByteArray), .slice none 0 0, .int .i64 0]) ?_ 0 _ rfl; (with_reducible repeat (first | refine blk_drewN ?_ _ | refine blk_drew ?_ | refine blk_alloc ?_ _)); exact BK114.out) hb); have n5_ := Aside0.mk (below_step (by repeat (first | (with_reducible first | exact HB.out | apply below_alloc | apply pw_below_drewN | apply below_drew1 | refine below_set ?_ GE107.out | refine below_set ?_ GE114.out))) hb); clear HO104; clear HO111; clear BK107; clear BK114; clear HB; have HO104 := n0_; have HO111 := n1_; have HO117 := n2_; have BK107 := n3_; have BK114 := n4_; have HB := n5_; clear n0_ n1_ n2_ n3_ n4_ n5_; (try clear hb); (try clear hb2); (try clear hk); (try clear hi); (try clear ho0); obtain ⟨Ao28, co28, eo28⟩ := Kd.V_slice HO117.out; subst eo28))
     go_ret
     exact ⟨by first | rfl | (simp <;> rfl) | (simp [*] <;> rfl), by repeat (first | (with_reducible first | exact HB.out | apply below_alloc | apply pw_below_drewN | apply below_drew1 | refine below_set ?_ GE107.out | refine below_set ?_ GE114.out))⟩
    ·rw [if_neg c15] at H
     have c15b0 : (t105 == 16) = false := beq_eq_false_iff_ne.mpr c15
     have c15b1 : (t105 != 16) = true := bne_iff_ne.mpr c15
     obtain rfl := Option.some.inj H
     go_enter Try.func13, Try.ntmps13
     go_wp2_with (first | ((with_reducible refine gate_callee (f := 14) rfl ?_); refine goesL_ (some 6) rfl rfl Try.func14 (by kernel_rfl) rfl #[.int .i64 6, .int .i64 7] rfl (by (try simp only [List.map_toArray, List.map_cons, List.map_nil]); first | done | rfl | (simp only [List.length_drop, List.length_take]; rfl)) ?_; (with_reducible refine (catalogue_Find.calls k 6 7 t101 t102 t105 true _ A1.out).mono ?_); rintro e w29 ⟨v103, rfl, ho0, hb⟩; refine ⟨_, rfl, ?_⟩; have n0_ := Aside0.mk (Kd.V_lower (Kd.V_mono (ok' := fun k_ => True) ho0 (fun k_ hk_ => trivial)) (below_size (by repeat (first | (with_reducible first | exact HB.out | apply below_alloc | apply pw_below_drewN | apply below_drew1))))); have n1_ := Aside0.mk (below_step (by repeat (first | (with_reducible first | exact HB.out | apply below_alloc | apply pw_below_drewN | apply below_drew1))) hb); clear HB; have HO104 := n0_; have HB := n1_; clear n0_ n1_; (try clear hb); (try clear hb2); (try clear hk); (try clear hi); (try clear ho0)) | ((with_reducible refine gate_dst (N := 1) rfl ?_); (try (refine gate_guard (by rfl) ?_; dsimp only)); refine box_event ?hg (N := 1) ?hd (cs := #[.string (⟨#[]⟩ : ByteArray), .slice none 0 0, .int .i64 0]) (t := 25) ?hr ?_; (case hd => rfl); (case hg => rfl); (case hr => first | (go_simp; done) | (go_simp; rfl)); intro gb107 hg w30 hbox hb; have n0_ := Aside0.mk (Kd.V_below (Kd.V_elderB (by (with_reducible repeat (first | apply Kd.V_alloc | apply Kd.V_drewN | apply Kd.V_drew)); exact HO104.out) gb107 (Nat.le_of_eq hg.symm)) hb); have n1_ := Aside0.mk (below_step (by repeat (first | (with_reducible first | exact HB.out | apply below_alloc | apply pw_below_drewN | apply below_drew1))) hb); have n2_ := Aside0.mk (hbox); have n3_ := Aside0.mk ((by rw [hg]; exact (below_size (by repeat (first | (with_reducible first | exact HB.out | apply below_alloc | apply pw_below_drewN | apply below_drew1)))) : w.heap.size ≤ gb107)); have n4_ := Aside0.mk ((by rw [hg]; exact (below_size (by repeat (first | (with_reducible first | exact HB.out | apply below_alloc | apply pw_below_drewN | apply below_drew1)))) : w.heap.size ≤ gb107)); clear HO104; clear HB; have HO104 := n0_; have HB := n1_; have BK107 := n2_; have GW107 := n3_; have GE107 := n4_; clear n0_ n1_ n2_ n3_ n4_; clear hb hbox hg; have hcz31_0 : w30.cell? ⟨gb107, 0, none⟩ = some (.string (⟨#[]⟩ : ByteArray)) := (blk_cell BK107.out 0).trans rfl; have hcz31_1 : w30.cell? ⟨gb107, 1, none⟩ = some (.slice none 0 0) := (blk_cell BK107.out 1).trans rfl; have hcz31_2 : w30.cell? ⟨gb107, 2, none⟩ = some (.int .i64 0) := (blk_cell BK107.out 2).trans rfl; have hfz31_0 := blk_frozen BK107.out 0; have hfz31_1 := blk_frozen BK107.out 1; have hfz31_2 := blk_frozen BK107.out 2; obtain ⟨Ao32, co32, eo32⟩ := Kd.V_slice HO104.out; subst eo32) | ((with_reducible refine gate_callee (f := 14) rfl ?_); refine goesL_ (some 10) rfl rfl Try.func14 (by kernel_rfl) rfl #[.int .i64 7, .int .i64 6] rfl (by (try simp only [List.map_toArray, List.map_cons, List.map_nil]); first | done | rfl | (simp only [List.length_drop, List.length_take]; rfl)) ?_; (with_reducible refine (catalogue_Find.calls k 7 6 t108 t109 t112 false _ A2.out).mono ?_); rintro e w33 ⟨v110, rfl, ho0, hb⟩; refine ⟨_, rfl, ?_⟩; have n0_ := Aside0.mk (Kd.V_below (by (with_reducible repeat (first | apply Kd.V_alloc | apply Kd.V_drewN | apply Kd.V_drew)); exact (Kd.V_mono (Kd.V_far (p := ⟨gb107, 2, none⟩) (Kd.V_far (p := ⟨gb107, 1, none⟩) (Kd.V_far (p := ⟨gb107, 0, none⟩) (Kd.V_mono HO104.out (fun k_ hk => (⟨hk, hk.2⟩ : _ ∧ k_ ≠ gb107))) (fun _ hk => hk.2) (.string t101)) (fun _ hk => hk.2) (.slice Ao32 t102.length co32)) (fun _ hk => hk.2) (.int .i64 t105)) (fun _ h_ => h_.1))) hb); have n1_ := Aside0.mk (Kd.V_lower (Kd.V_mono (ok' := fun k_ => k_ ≠ gb107) ho0 (fun k_ hk_ => (Kd.freshB (g := gb107) (o := .cells #[.string t101, .slice Ao32 t102.length co32, .int .i64 t105] 25 (0, 0)) (by (with_reducible repeat (first | refine blk_drewN ?_ _ | refine blk_drew ?_ | refine blk_alloc ?_ _)); refine blk_put (cs := #[.string t101, .slice Ao32 t102.length co32, .int .i64 0]) ?_ 2 _ rfl; (with_reducible repeat (first | refine blk_drewN ?_ _ | refine blk_drew ?_ | refine blk_alloc ?_ _)); refine blk_put (cs := #[.string t101, .slice none 0 0, .int .i64 0]) ?_ 1 _ rfl; (with_reducible repeat (first | refine blk_drewN ?_ _ | refine blk_drew ?_ | refine blk_alloc ?_ _)); refine blk_put (cs := #[.string (⟨#[]⟩ : ByteArray), .slice none 0 0, .int .i64 0]) ?_ 0 _ rfl; (with_reducible repeat (first | refine blk_drewN ?_ _ | refine blk_drew ?_ | refine blk_alloc ?_ _)); exact BK107.out) k_ hk_))) (below_size (by repeat (first | (with_reducible first | exact HB.out | apply below_alloc | apply pw_below_drewN | apply below_drew1 | refine below_set ?_ GE107.out))))); have n2_ := Aside0.mk (blk_below (g := gb107) (o := .cells #[.string t101, .slice Ao32 t102.length co32, .int .i64 t105] 25 (0, 0)) (by (with_reducible repeat (first | refine blk_drewN ?_ _ | refine blk_drew ?_ | refine blk_alloc ?_ _)); refine blk_put (cs := #[.string t101, .slice Ao32 t102.length co32, .int .i64 0]) ?_ 2 _ rfl; (with_reducible repeat (first | refine blk_drewN ?_ _ | refine blk_drew ?_ | refine blk_alloc ?_ _)); refine blk_put (cs := #[.string t101, .slice none 0 0, .int .i64 0]) ?_ 1 _ rfl; (with_reducible repeat (first | refine blk_drewN ?_ _ | refine blk_drew ?_ | refine blk_alloc ?_ _)); refine blk_put (cs := #[.string (⟨#[]⟩ : ByteArray), .slice none 0 0, .int .i64 0]) ?_ 0 _ rfl; (with_reducible repeat (first | refine blk_drewN ?_ _ | refine blk_drew ?_ | refine blk_alloc ?_ _)); exact BK107.out) hb); have n3_ := Aside0.mk (below_step (by repeat (first | (with_reducible first | exact HB.out | apply below_alloc | apply pw_below_drewN | apply below_drew1 | refine below_set ?_ GE107.out))) hb); clear HO104; clear BK107; clear HB; have HO104 := n0_; have HO111 := n1_; have BK107 := n2_; have HB := n3_; clear n0_ n1_ n2_ n3_; (try clear hb); (try clear hb2); (try clear hk); (try clear hi); (try clear ho0)) | ((with_reducible refine gate_dst (N := 3) rfl ?_); (try (refine gate_guard (by rfl) ?_; dsimp only)); refine box_event ?hg (N := 3) ?hd (cs := #[.string (⟨#[]⟩ : ByteArray), .slice none 0 0, .int .i64 0]) (t := 25) ?hr ?_; (case hd => rfl); (case hg => rfl); (case hr => first | (go_simp; done) | (go_simp; rfl)); intro gb114 hg w34 hbox hb; have n0_ := Aside0.mk (Kd.V_below (Kd.V_elderB (by (with_reducible repeat (first | apply Kd.V_alloc | apply Kd.V_drewN | apply Kd.V_drew)); exact HO104.out) gb114 (Nat.le_of_eq hg.symm)) hb); have n1_ := Aside0.mk (Kd.V_below (Kd.V_elderB (by (with_reducible repeat (first | apply Kd.V_alloc | apply Kd.V_drewN | apply Kd.V_drew)); exact HO111.out) gb114 (Nat.le_of_eq hg.symm)) hb); have n2_ := Aside0.mk (blk_below (g := gb107) (o := .cells #[.string t101, .slice Ao32 t102.length co32, .int .i64 t105] 25 (0, 0)) (by (with_reducible repeat (first | refine blk_drewN ?_ _ | refine blk_drew ?_ | refine blk_alloc ?_ _)); exact BK107.out) hb); have n3_ := Aside0.mk (below_step (by repeat (first | (with_reducible first | exact HB.out | apply below_alloc | apply pw_below_drewN | apply below_drew1 | refine below_set ?_ GE107.out))) hb); have n4_ := Aside0.mk (hbox); have n5_ := Aside0.mk ((by rw [hg]; exact (below_size (by repeat (first | (with_reducible first | exact HB.out | apply below_alloc | apply pw_below_drewN | apply below_drew1 | refine below_set ?_ GE107.out)))) : w.heap.size ≤ gb114)); have n6_ := Aside0.mk ((by rw [hg]; exact (below_size (by repeat (first | (with_reducible first | exact HB.out | apply below_alloc | apply pw_below_drewN | apply below_drew1 | refine below_set ?_ GE107.out)))) : w.heap.size ≤ gb114)); have n7_ := Aside0.mk ((by rw [hg]; exact Nat.ne_of_lt (blk_lt (g := gb107) (o := .cells #[.string t101, .slice Ao32 t102.length co32, .int .i64 t105] 25 (0, 0)) (by (with_reducible repeat (first | refine blk_drewN ?_ _ | refine blk_drew ?_ | refine blk_alloc ?_ _)); exact BK107.out)) : gb107 ≠ gb114)); have n8_ := Aside0.mk ((by rw [hg]; exact Nat.ne_of_gt (blk_lt (g := gb107) (o := .cells #[.string t101, .slice Ao32 t102.length co32, .int .i64 t105] 25 (0, 0)) (by (with_reducible repeat (first | refine blk_drewN ?_ _ | refine blk_drew ?_ | refine blk_alloc ?_ _)); exact BK107.out)) : gb114 ≠ gb107)); clear HO104; clear HO111; clear BK107; clear HB; have HO104 := n0_; have HO111 := n1_; have BK107 := n2_; have HB := n3_; have BK114 := n4_; have GW114 := n5_; have GE114 := n6_; have NB107_114 := n7_; have NB114_107 := n8_; clear n0_ n1_ n2_ n3_ n4_ n5_ n6_ n7_ n8_; clear hb hbox hg; have hnb35 := NB114_107.out; have hnc35 := NB107_114.out; have hcz36_0 : w34.cell? ⟨gb114, 0, none⟩ = some (.string (⟨#[]⟩ : ByteArray)) := (blk_cell BK114.out 0).trans rfl; have hcz36_1 : w34.cell? ⟨gb114, 1, none⟩ = some (.slice none 0 0) := (blk_cell BK114.out 1).trans rfl; have hcz36_2 : w34.cell? ⟨gb114, 2, none⟩ = some (.int .i64 0) := (blk_cell BK114.out 2).trans rfl; have hfz36_0 := blk_frozen BK114.out 0; have hfz36_1 := blk_frozen BK114.out 1; have hfz36_2 := blk_frozen BK114.out 2; obtain ⟨Ao37, co37, eo37⟩ := Kd.V_slice HO111.out; subst eo37; have hcz38_0 : w34.cell? ⟨gb107, 0, none⟩ = some (.string t101) := (blk_cell BK107.out 0).trans rfl; have hcz38_1 : w34.cell? ⟨gb107, 1, none⟩ = some (.slice Ao32 t102.length co32) := (blk_cell BK107.out 1).trans rfl; have hcz38_2 : w34.cell? ⟨gb107, 2, none⟩ = some (.int .i64 t105) := (blk_cell BK107.out 2).trans rfl; have hfz38_0 := blk_frozen BK107.out 0; have hfz38_1 := blk_frozen BK107.out 1; have hfz38_2 := blk_frozen BK107.out 2))
     go_ret
     exact ⟨by first | rfl | (simp <;> rfl) | (simp [*] <;> rfl), by repeat (first | (with_reducible first | exact HB.out | apply below_alloc | apply pw_below_drewN | apply below_drew1 | refine below_set ?_ GE107.out | refine below_set ?_ GE114.out))⟩
   ·rw [if_neg c14] at H
    have c14b0 : (t101.toList == ([119, 114, 105, 116, 101, 32, 115, 107, 101, 119] : List UInt8)) = false := beq_eq_false_iff_ne.mpr c14
    have c14b1 : (t101.toList != ([119, 114, 105, 116, 101, 32, 115, 107, 101, 119] : List UInt8)) = true := bne_iff_ne.mpr c14
    obtain rfl := Option.some.inj H
    go_enter Try.func13, Try.ntmps13
    go_wp2_with (first | ((with_reducible refine gate_callee (f := 14) rfl ?_); refine goesL_ (some 6) rfl rfl Try.func14 (by kernel_rfl) rfl #[.int .i64 6, .int .i64 7] rfl (by (try simp only [List.map_toArray, List.map_cons, List.map_nil]); first | done | rfl | (simp only [List.length_drop, List.length_take]; rfl)) ?_; (with_reducible refine (catalogue_Find.calls k 6 7 t101 t102 t105 true _ A1.out).mono ?_); rintro e w39 ⟨v103, rfl, ho0, hb⟩; refine ⟨_, rfl, ?_⟩; have n0_ := Aside0.mk (Kd.V_lower (Kd.V_mono (ok' := fun k_ => True) ho0 (fun k_ hk_ => trivial)) (below_size (by repeat (first | (with_reducible first | exact HB.out | apply below_alloc | apply pw_below_drewN | apply below_drew1))))); have n1_ := Aside0.mk (below_step (by repeat (first | (with_reducible first | exact HB.out | apply below_alloc | apply pw_below_drewN | apply below_drew1))) hb); clear HB; have HO104 := n0_; have HB := n1_; clear n0_ n1_; (try clear hb); (try clear hb2); (try clear hk); (try clear hi); (try clear ho0)) | ((with_reducible refine gate_dst (N := 1) rfl ?_); (try (refine gate_guard (by rfl) ?_; dsimp only)); refine box_event ?hg (N := 1) ?hd (cs := #[.string (⟨#[]⟩ : ByteArray), .slice none 0 0, .int .i64 0]) (t := 25) ?hr ?_; (case hd => rfl); (case hg => rfl); (case hr => first | (go_simp; done) | (go_simp; rfl)); intro gb107 hg w40 hbox hb; have n0_ := Aside0.mk (Kd.V_below (Kd.V_elderB (by (with_reducible repeat (first | apply Kd.V_alloc | apply Kd.V_drewN | apply Kd.V_drew)); exact HO104.out) gb107 (Nat.le_of_eq hg.symm)) hb); have n1_ := Aside0.mk (below_step (by repeat (first | (with_reducible first | exact HB.out | apply below_alloc | apply pw_below_drewN | apply below_drew1))) hb); have n2_ := Aside0.mk (hbox); have n3_ := Aside0.mk ((by rw [hg]; exact (below_size (by repeat (first | (with_reducible first | exact HB.out | apply below_alloc | apply pw_below_drewN | apply below_drew1)))) : w.heap.size ≤ gb107)); have n4_ := Aside0.mk ((by rw [hg]; exact (below_size (by repeat (first | (with_reducible first | exact HB.out | apply below_alloc | apply pw_below_drewN | apply below_drew1)))) : w.heap.size ≤ gb107)); clear HO104; clear HB; have HO104 := n0_; have HB := n1_; have BK107 := n2_; have GW107 := n3_; have GE107 := n4_; clear n0_ n1_ n2_ n3_ n4_; clear hb hbox hg; have hcz41_0 : w40.cell? ⟨gb107, 0, none⟩ = some (.string (⟨#[]⟩ : ByteArray)) := (blk_cell BK107.out 0).trans rfl; have hcz41_1 : w40.cell? ⟨gb107, 1, none⟩ = some (.slice none 0 0) := (blk_cell BK107.out 1).trans rfl; have hcz41_2 : w40.cell? ⟨gb107, 2, none⟩ = some (.int .i64 0) := (blk_cell BK107.out 2).trans rfl; have hfz41_0 := blk_frozen BK107.out 0; have hfz41_1 := blk_frozen BK107.out 1; have hfz41_2 := blk_frozen BK107.out 2; obtain ⟨Ao42, co42, eo42⟩ := Kd.V_slice HO104.out; subst eo42) | ((with_reducible refine gate_callee (f := 14) rfl ?_); refine goesL_ (some 10) rfl rfl Try.func14 (by kernel_rfl) rfl #[.int .i64 7, .int .i64 6] rfl (by (try simp only [List.map_toArray, List.map_cons, List.map_nil]); first | done | rfl | (simp only [List.length_drop, List.length_take]; rfl)) ?_; (with_reducible refine (catalogue_Find.calls k 7 6 t108 t109 t112 false _ A2.out).mono ?_); rintro e w43 ⟨v110, rfl, ho0, hb⟩; refine ⟨_, rfl, ?_⟩; have n0_ := Aside0.mk (Kd.V_below (by (with_reducible repeat (first | apply Kd.V_alloc | apply Kd.V_drewN | apply Kd.V_drew)); exact (Kd.V_mono (Kd.V_far (p := ⟨gb107, 2, none⟩) (Kd.V_far (p := ⟨gb107, 1, none⟩) (Kd.V_far (p := ⟨gb107, 0, none⟩) (Kd.V_mono HO104.out (fun k_ hk => (⟨hk, hk.2⟩ : _ ∧ k_ ≠ gb107))) (fun _ hk => hk.2) (.string t101)) (fun _ hk => hk.2) (.slice Ao42 t102.length co42)) (fun _ hk => hk.2) (.int .i64 t105)) (fun _ h_ => h_.1))) hb); have n1_ := Aside0.mk (Kd.V_lower (Kd.V_mono (ok' := fun k_ => k_ ≠ gb107) ho0 (fun k_ hk_ => (Kd.freshB (g := gb107) (o := .cells #[.string t101, .slice Ao42 t102.length co42, .int .i64 t105] 25 (0, 0)) (by (with_reducible repeat (first | refine blk_drewN ?_ _ | refine blk_drew ?_ | refine blk_alloc ?_ _)); refine blk_put (cs := #[.string t101, .slice Ao42 t102.length co42, .int .i64 0]) ?_ 2 _ rfl; (with_reducible repeat (first | refine blk_drewN ?_ _ | refine blk_drew ?_ | refine blk_alloc ?_ _)); refine blk_put (cs := #[.string t101, .slice none 0 0, .int .i64 0]) ?_ 1 _ rfl; (with_reducible repeat (first | refine blk_drewN ?_ _ | refine blk_drew ?_ | refine blk_alloc ?_ _)); refine blk_put (cs := #[.string (⟨#[]⟩ : ByteArray), .slice none 0 0, .int .i64 0]) ?_ 0 _ rfl; (with_reducible repeat (first | refine blk_drewN ?_ _ | refine blk_drew ?_ | refine blk_alloc ?_ _)); exact BK107.out) k_ hk_))) (below_size (by repeat (first | (with_reducible first | exact HB.out | apply below_alloc | apply pw_below_drewN | apply below_drew1 | refine below_set ?_ GE107.out))))); have n2_ := Aside0.mk (blk_below (g := gb107) (o := .cells #[.string t101, .slice Ao42 t102.length co42, .int .i64 t105] 25 (0, 0)) (by (with_reducible repeat (first | refine blk_drewN ?_ _ | refine blk_drew ?_ | refine blk_alloc ?_ _)); refine blk_put (cs := #[.string t101, .slice Ao42 t102.length co42, .int .i64 0]) ?_ 2 _ rfl; (with_reducible repeat (first | refine blk_drewN ?_ _ | refine blk_drew ?_ | refine blk_alloc ?_ _)); refine blk_put (cs := #[.string t101, .slice none 0 0, .int .i64 0]) ?_ 1 _ rfl; (with_reducible repeat (first | refine blk_drewN ?_ _ | refine blk_drew ?_ | refine blk_alloc ?_ _)); refine blk_put (cs := #[.string (⟨#[]⟩ : ByteArray), .slice none 0 0, .int .i64 0]) ?_ 0 _ rfl; (with_reducible repeat (first | refine blk_drewN ?_ _ | refine blk_drew ?_ | refine blk_alloc ?_ _)); exact BK107.out) hb); have n3_ := Aside0.mk (below_step (by repeat (first | (with_reducible first | exact HB.out | apply below_alloc | apply pw_below_drewN | apply below_drew1 | refine below_set ?_ GE107.out))) hb); clear HO104; clear BK107; clear HB; have HO104 := n0_; have HO111 := n1_; have BK107 := n2_; have HB := n3_; clear n0_ n1_ n2_ n3_; (try clear hb); (try clear hb2); (try clear hk); (try clear hi); (try clear ho0)) | ((with_reducible refine gate_dst (N := 3) rfl ?_); (try (refine gate_guard (by rfl) ?_; dsimp only)); refine box_event ?hg (N := 3) ?hd (cs := #[.string (⟨#[]⟩ : ByteArray), .slice none 0 0, .int .i64 0]) (t := 25) ?hr ?_; (case hd => rfl); (case hg => rfl); (case hr => first | (go_simp; done) | (go_simp; rfl)); intro gb114 hg w44 hbox hb; have n0_ := Aside0.mk (Kd.V_below (Kd.V_elderB (by (with_reducible repeat (first | apply Kd.V_alloc | apply Kd.V_drewN | apply Kd.V_drew)); exact HO104.out) gb114 (Nat.le_of_eq hg.symm)) hb); have n1_ := Aside0.mk (Kd.V_below (Kd.V_elderB (by (with_reducible repeat (first | apply Kd.V_alloc | apply Kd.V_drewN | apply Kd.V_drew)); exact HO111.out) gb114 (Nat.le_of_eq hg.symm)) hb); have n2_ := Aside0.mk (blk_below (g := gb107) (o := .cells #[.string t101, .slice Ao42 t102.length co42, .int .i64 t105] 25 (0, 0)) (by (with_reducible repeat (first | refine blk_drewN ?_ _ | refine blk_drew ?_ | refine blk_alloc ?_ _)); exact BK107.out) hb); have n3_ := Aside0.mk (below_step (by repeat (first | (with_reducible first | exact HB.out | apply below_alloc | apply pw_below_drewN | apply below_drew1 | refine below_set ?_ GE107.out))) hb); have n4_ := Aside0.mk (hbox); have n5_ := Aside0.mk ((by rw [hg]; exact (below_size (by repeat (first | (with_reducible first | exact HB.out | apply below_alloc | apply pw_below_drewN | apply below_drew1 | refine below_set ?_ GE107.out)))) : w.heap.size ≤ gb114)); have n6_ := Aside0.mk ((by rw [hg]; exact (below_size (by repeat (first | (with_reducible first | exact HB.out | apply below_alloc | apply pw_below_drewN | apply below_drew1 | refine below_set ?_ GE107.out)))) : w.heap.size ≤ gb114)); have n7_ := Aside0.mk ((by rw [hg]; exact Nat.ne_of_lt (blk_lt (g := gb107) (o := .cells #[.string t101, .slice Ao42 t102.length co42, .int .i64 t105] 25 (0, 0)) (by (with_reducible repeat (first | refine blk_drewN ?_ _ | refine blk_drew ?_ | refine blk_alloc ?_ _)); exact BK107.out)) : gb107 ≠ gb114)); have n8_ := Aside0.mk ((by rw [hg]; exact Nat.ne_of_gt (blk_lt (g := gb107) (o := .cells #[.string t101, .slice Ao42 t102.length co42, .int .i64 t105] 25 (0, 0)) (by (with_reducible repeat (first | refine blk_drewN ?_ _ | refine blk_drew ?_ | refine blk_alloc ?_ _)); exact BK107.out)) : gb114 ≠ gb107)); clear HO104; clear HO111; clear BK107; clear HB; have HO104 := n0_; have HO111 := n1_; have BK107 := n2_; have HB := n3_; have BK114 := n4_; have GW114 := n5_; have GE114 := n6_; have NB107_114 := n7_; have NB114_107 := n8_; clear n0_ n1_ n2_ n3_ n4_ n5_ n6_ n7_ n8_; clear hb hbox hg; have hnb45 := NB114_107.out; have hnc45 := NB107_114.out; have hcz46_0 : w44.cell? ⟨gb114, 0, none⟩ = some (.string (⟨#[]⟩ : ByteArray)) := (blk_cell BK114.out 0).trans rfl; have hcz46_1 : w44.cell? ⟨gb114, 1, none⟩ = some (.slice none 0 0) := (blk_cell BK114.out 1).trans rfl; have hcz46_2 : w44.cell? ⟨gb114, 2, none⟩ = some (.int .i64 0) := (blk_cell BK114.out 2).trans rfl; have hfz46_0 := blk_frozen BK114.out 0; have hfz46_1 := blk_frozen BK114.out 1; have hfz46_2 := blk_frozen BK114.out 2; obtain ⟨Ao47, co47, eo47⟩ := Kd.V_slice HO111.out; subst eo47; have hcz48_0 : w44.cell? ⟨gb107, 0, none⟩ = some (.string t101) := (blk_cell BK107.out 0).trans rfl; have hcz48_1 : w44.cell? ⟨gb107, 1, none⟩ = some (.slice Ao42 t102.length co42) := (blk_cell BK107.out 1).trans rfl; have hcz48_2 : w44.cell? ⟨gb107, 2, none⟩ = some (.int .i64 t105) := (blk_cell BK107.out 2).trans rfl; have hfz48_0 := blk_frozen BK107.out 0; have hfz48_1 := blk_frozen BK107.out 1; have hfz48_2 := blk_frozen BK107.out 2))
    go_ret
    exact ⟨by first | rfl | (simp <;> rfl) | (simp [*] <;> rfl), by repeat (first | (with_reducible first | exact HB.out | apply below_alloc | apply pw_below_drewN | apply below_drew1 | refine below_set ?_ GE107.out | refine below_set ?_ GE114.out))⟩
 ·replace c3 := Bool.eq_false_iff.mpr c3
  subst c3
  have H1 : (some false) = some r := by rw [if_neg (show ¬ (false = true) by decide)] at H; exact H
  clear H
  have H := H1
  clear H1
  obtain rfl := Option.some.inj H
  go_enter Try.func13, Try.ntmps13
  go_wp2_with (first | ((with_reducible refine gate_callee (f := 14) rfl ?_); refine goesL_ (some 6) rfl rfl Try.func14 (by kernel_rfl) rfl #[.int .i64 6, .int .i64 7] rfl (by (try simp only [List.map_toArray, List.map_cons, List.map_nil]); first | done | rfl | (simp only [List.length_drop, List.length_take]; rfl)) ?_; (with_reducible refine (catalogue_Find.calls k 6 7 t101 t102 t105 false _ A1.out).mono ?_); rintro e w49 ⟨v103, rfl, ho0, hb⟩; refine ⟨_, rfl, ?_⟩; have n0_ := Aside0.mk (Kd.V_lower (Kd.V_mono (ok' := fun k_ => True) ho0 (fun k_ hk_ => trivial)) (below_size (by repeat (first | (with_reducible first | exact HB.out | apply below_alloc | apply pw_below_drewN | apply below_drew1))))); have n1_ := Aside0.mk (below_step (by repeat (first | (with_reducible first | exact HB.out | apply below_alloc | apply pw_below_drewN | apply below_drew1))) hb); clear HB; have HO104 := n0_; have HB := n1_; clear n0_ n1_; (try clear hb); (try clear hb2); (try clear hk); (try clear hi); (try clear ho0)) | ((with_reducible refine gate_dst (N := 1) rfl ?_); (try (refine gate_guard (by rfl) ?_; dsimp only)); refine box_event ?hg (N := 1) ?hd (cs := #[.string (⟨#[]⟩ : ByteArray), .slice none 0 0, .int .i64 0]) (t := 25) ?hr ?_; (case hd => rfl); (case hg => rfl); (case hr => first | (go_simp; done) | (go_simp; rfl)); intro gb107 hg w50 hbox hb; have n0_ := Aside0.mk (Kd.V_below (Kd.V_elderB (by (with_reducible repeat (first | apply Kd.V_alloc | apply Kd.V_drewN | apply Kd.V_drew)); exact HO104.out) gb107 (Nat.le_of_eq hg.symm)) hb); have n1_ := Aside0.mk (below_step (by repeat (first | (with_reducible first | exact HB.out | apply below_alloc | apply pw_below_drewN | apply below_drew1))) hb); have n2_ := Aside0.mk (hbox); have n3_ := Aside0.mk ((by rw [hg]; exact (below_size (by repeat (first | (with_reducible first | exact HB.out | apply below_alloc | apply pw_below_drewN | apply below_drew1)))) : w.heap.size ≤ gb107)); have n4_ := Aside0.mk ((by rw [hg]; exact (below_size (by repeat (first | (with_reducible first | exact HB.out | apply below_alloc | apply pw_below_drewN | apply below_drew1)))) : w.heap.size ≤ gb107)); clear HO104; clear HB; have HO104 := n0_; have HB := n1_; have BK107 := n2_; have GW107 := n3_; have GE107 := n4_; clear n0_ n1_ n2_ n3_ n4_; clear hb hbox hg; have hcz51_0 : w50.cell? ⟨gb107, 0, none⟩ = some (.string (⟨#[]⟩ : ByteArray)) := (blk_cell BK107.out 0).trans rfl; have hcz51_1 : w50.cell? ⟨gb107, 1, none⟩ = some (.slice none 0 0) := (blk_cell BK107.out 1).trans rfl; have hcz51_2 : w50.cell? ⟨gb107, 2, none⟩ = some (.int .i64 0) := (blk_cell BK107.out 2).trans rfl; have hfz51_0 := blk_frozen BK107.out 0; have hfz51_1 := blk_frozen BK107.out 1; have hfz51_2 := blk_frozen BK107.out 2; obtain ⟨Ao52, co52, eo52⟩ := Kd.V_slice HO104.out; subst eo52) | ((with_reducible refine gate_callee (f := 14) rfl ?_); refine goesL_ (some 10) rfl rfl Try.func14 (by kernel_rfl) rfl #[.int .i64 7, .int .i64 6] rfl (by (try simp only [List.map_toArray, List.map_cons, List.map_nil]); first | done | rfl | (simp only [List.length_drop, List.length_take]; rfl)) ?_; (with_reducible refine (catalogue_Find.calls k 7 6 t108 t109 t112 t113 _ A2.out).mono ?_); rintro e w53 ⟨v110, rfl, ho0, hb⟩; refine ⟨_, rfl, ?_⟩; have n0_ := Aside0.mk (Kd.V_below (by (with_reducible repeat (first | apply Kd.V_alloc | apply Kd.V_drewN | apply Kd.V_drew)); exact (Kd.V_mono (Kd.V_far (p := ⟨gb107, 2, none⟩) (Kd.V_far (p := ⟨gb107, 1, none⟩) (Kd.V_far (p := ⟨gb107, 0, none⟩) (Kd.V_mono HO104.out (fun k_ hk => (⟨hk, hk.2⟩ : _ ∧ k_ ≠ gb107))) (fun _ hk => hk.2) (.string t101)) (fun _ hk => hk.2) (.slice Ao52 t102.length co52)) (fun _ hk => hk.2) (.int .i64 t105)) (fun _ h_ => h_.1))) hb); have n1_ := Aside0.mk (Kd.V_lower (Kd.V_mono (ok' := fun k_ => k_ ≠ gb107) ho0 (fun k_ hk_ => (Kd.freshB (g := gb107) (o := .cells #[.string t101, .slice Ao52 t102.length co52, .int .i64 t105] 25 (0, 0)) (by (with_reducible repeat (first | refine blk_drewN ?_ _ | refine blk_drew ?_ | refine blk_alloc ?_ _)); refine blk_put (cs := #[.string t101, .slice Ao52 t102.length co52, .int .i64 0]) ?_ 2 _ rfl; (with_reducible repeat (first | refine blk_drewN ?_ _ | refine blk_drew ?_ | refine blk_alloc ?_ _)); refine blk_put (cs := #[.string t101, .slice none 0 0, .int .i64 0]) ?_ 1 _ rfl; (with_reducible repeat (first | refine blk_drewN ?_ _ | refine blk_drew ?_ | refine blk_alloc ?_ _)); refine blk_put (cs := #[.string (⟨#[]⟩ : ByteArray), .slice none 0 0, .int .i64 0]) ?_ 0 _ rfl; (with_reducible repeat (first | refine blk_drewN ?_ _ | refine blk_drew ?_ | refine blk_alloc ?_ _)); exact BK107.out) k_ hk_))) (below_size (by repeat (first | (with_reducible first | exact HB.out | apply below_alloc | apply pw_below_drewN | apply below_drew1 | refine below_set ?_ GE107.out))))); have n2_ := Aside0.mk (blk_below (g := gb107) (o := .cells #[.string t101, .slice Ao52 t102.length co52, .int .i64 t105] 25 (0, 0)) (by (with_reducible repeat (first | refine blk_drewN ?_ _ | refine blk_drew ?_ | refine blk_alloc ?_ _)); refine blk_put (cs := #[.string t101, .slice Ao52 t102.length co52, .int .i64 0]) ?_ 2 _ rfl; (with_reducible repeat (first | refine blk_drewN ?_ _ | refine blk_drew ?_ | refine blk_alloc ?_ _)); refine blk_put (cs := #[.string t101, .slice none 0 0, .int .i64 0]) ?_ 1 _ rfl; (with_reducible repeat (first | refine blk_drewN ?_ _ | refine blk_drew ?_ | refine blk_alloc ?_ _)); refine blk_put (cs := #[.string (⟨#[]⟩ : ByteArray), .slice none 0 0, .int .i64 0]) ?_ 0 _ rfl; (with_reducible repeat (first | refine blk_drewN ?_ _ | refine blk_drew ?_ | refine blk_alloc ?_ _)); exact BK107.out) hb); have n3_ := Aside0.mk (below_step (by repeat (first | (with_reducible first | exact HB.out | apply below_alloc | apply pw_below_drewN | apply below_drew1 | refine below_set ?_ GE107.out))) hb); clear HO104; clear BK107; clear HB; have HO104 := n0_; have HO111 := n1_; have BK107 := n2_; have HB := n3_; clear n0_ n1_ n2_ n3_; (try clear hb); (try clear hb2); (try clear hk); (try clear hi); (try clear ho0)) | ((with_reducible refine gate_dst (N := 3) rfl ?_); (try (refine gate_guard (by rfl) ?_; dsimp only)); refine box_event ?hg (N := 3) ?hd (cs := #[.string (⟨#[]⟩ : ByteArray), .slice none 0 0, .int .i64 0]) (t := 25) ?hr ?_; (case hd => rfl); (case hg => rfl); (case hr => first | (go_simp; done) | (go_simp; rfl)); intro gb114 hg w54 hbox hb; have n0_ := Aside0.mk (Kd.V_below (Kd.V_elderB (by (with_reducible repeat (first | apply Kd.V_alloc | apply Kd.V_drewN | apply Kd.V_drew)); exact HO104.out) gb114 (Nat.le_of_eq hg.symm)) hb); have n1_ := Aside0.mk (Kd.V_below (Kd.V_elderB (by (with_reducible repeat (first | apply Kd.V_alloc | apply Kd.V_drewN | apply Kd.V_drew)); exact HO111.out) gb114 (Nat.le_of_eq hg.symm)) hb); have n2_ := Aside0.mk (blk_below (g := gb107) (o := .cells #[.string t101, .slice Ao52 t102.length co52, .int .i64 t105] 25 (0, 0)) (by (with_reducible repeat (first | refine blk_drewN ?_ _ | refine blk_drew ?_ | refine blk_alloc ?_ _)); exact BK107.out) hb); have n3_ := Aside0.mk (below_step (by repeat (first | (with_reducible first | exact HB.out | apply below_alloc | apply pw_below_drewN | apply below_drew1 | refine below_set ?_ GE107.out))) hb); have n4_ := Aside0.mk (hbox); have n5_ := Aside0.mk ((by rw [hg]; exact (below_size (by repeat (first | (with_reducible first | exact HB.out | apply below_alloc | apply pw_below_drewN | apply below_drew1 | refine below_set ?_ GE107.out)))) : w.heap.size ≤ gb114)); have n6_ := Aside0.mk ((by rw [hg]; exact (below_size (by repeat (first | (with_reducible first | exact HB.out | apply below_alloc | apply pw_below_drewN | apply below_drew1 | refine below_set ?_ GE107.out)))) : w.heap.size ≤ gb114)); have n7_ := Aside0.mk ((by rw [hg]; exact Nat.ne_of_lt (blk_lt (g := gb107) (o := .cells #[.string t101, .slice Ao52 t102.length co52, .int .i64 t105] 25 (0, 0)) (by (with_reducible repeat (first | refine blk_drewN ?_ _ | refine blk_drew ?_ | refine blk_alloc ?_ _)); exact BK107.out)) : gb107 ≠ gb114)); have n8_ := Aside0.mk ((by rw [hg]; exact Nat.ne_of_gt (blk_lt (g := gb107) (o := .cells #[.string t101, .slice Ao52 t102.length co52, .int .i64 t105] 25 (0, 0)) (by (with_reducible repeat (first | refine blk_drewN ?_ _ | refine blk_drew ?_ | refine blk_alloc ?_ _)); exact BK107.out)) : gb114 ≠ gb107)); clear HO104; clear HO111; clear BK107; clear HB; have HO104 := n0_; have HO111 := n1_; have BK107 := n2_; have HB := n3_; have BK114 := n4_; have GW114 := n5_; have GE114 := n6_; have NB107_114 := n7_; have NB114_107 := n8_; clear n0_ n1_ n2_ n3_ n4_ n5_ n6_ n7_ n8_; clear hb hbox hg; have hnb55 := NB114_107.out; have hnc55 := NB107_114.out; have hcz56_0 : w54.cell? ⟨gb114, 0, none⟩ = some (.string (⟨#[]⟩ : ByteArray)) := (blk_cell BK114.out 0).trans rfl; have hcz56_1 : w54.cell? ⟨gb114, 1, none⟩ = some (.slice none 0 0) := (blk_cell BK114.out 1).trans rfl; have hcz56_2 : w54.cell? ⟨gb114, 2, none⟩ = some (.int .i64 0) := (blk_cell BK114.out 2).trans rfl; have hfz56_0 := blk_frozen BK114.out 0; have hfz56_1 := blk_frozen BK114.out 1; have hfz56_2 := blk_frozen BK114.out 2; obtain ⟨Ao57, co57, eo57⟩ := Kd.V_slice HO111.out; subst eo57))
  go_ret
  exact ⟨by first | rfl | (simp <;> rfl) | (simp [*] <;> rfl), by repeat (first | (with_reducible first | exact HB.out | apply below_alloc | apply pw_below_drewN | apply below_drew1 | refine below_set ?_ GE107.out | refine below_set ?_ GE114.out))⟩
end Go.Proofs.Ytfocaefnmfkojaa.Q
namespace Go.Proofs.Ytfocaefnmfkojaa.Q
open Go.RowKit Go.Proofs.YtfocaefnmfkojaaW.PrintWords Go.Proofs.YtfocaefnmfkojaaW.PrintLast Go.Proofs.YtfocaefnmfkojaaW.PrintMore
attribute [local go_sem] max2_int min2_int max_two min_two max_three min_three max_four min_four   -- for this text's walks alone
set_option linter.unusedVariables false
set_option linter.unusedSimpArgs false
def ref09_Has.f (a0 : Int) (a1 : Int) : Option (Bool) := if a1 = 0 then (none) else (some ((Int.tmod (wrap64 (Int.tdiv a0 a1)) 2) == 1))
set_option maxHeartbeats 8000000 in
set_option maxRecDepth 100000 in
theorem ref09_Has.calls (a0 : Int) (a1 : Int) (r : Bool) (w : World) (h : ref09_Has.f a0 a1 = some r) :
  Calls Try.prog 18 #[.int .i64 a0, .int .i64 a1] w fun e w' => e = .returned (.bool r) ∧ Drawn0 w w' := by
 have H : (if a1 = 0 then (none) else (some ((Int.tmod (wrap64 (Int.tdiv a0 a1)) 2) == 1))) = some r := h
 clear h
 by_cases c3 : a1 = 0
 ·rw [if_pos c3] at H
  exact absurd H (by simp)
 ·rw [if_neg c3] at H
  have c3b0 : (a1 == 0) = false := beq_eq_false_iff_ne.mpr c3
  have c3b1 : (a1 != 0) = true := bne_iff_ne.mpr c3
  obtain rfl := Option.some.inj H
  go_enter Try.func18, Try.ntmps18
  go_wp2
  go_ret
  exact ⟨by first | rfl | (simp; done) | (simp [*]; done), by repeat (first | exact Drawn0.refl _ | apply Drawn0.step)⟩
end Go.Proofs.Ytfocaefnmfkojaa.Q
namespace Go.Proofs.Ytfocaefnmfkojaa.Q
open Go.RowKit Go.Proofs.YtfocaefnmfkojaaW.PrintWords Go.Proofs.YtfocaefnmfkojaaW.PrintLast Go.Proofs.YtfocaefnmfkojaaW.PrintMore
attribute [local go_sem] max2_int min2_int max_two min_two max_three min_three max_four min_four   -- for this text's walks alone
set_option linter.unusedVariables false
set_option linter.unusedSimpArgs false
def ref09_Asks.f (a0 : Int) : Option (Int) := if a0 = 1 then (some 1) else (if a0 = 2 then (some 3) else (if a0 = 3 then (some 9) else (if a0 = 4 then (some 5) else (if a0 = 5 then (some 11) else (if a0 = 6 then (some 13) else (if a0 = 7 then (some 17) else (if a0 = 8 then (some 34) else (if a0 = 9 then (some 36) else (if a0 = 10 then (some 44) else (if a0 = 11 then (some 48) else (some 0)))))))))))
set_option maxHeartbeats 8000000 in
set_option maxRecDepth 100000 in
theorem ref09_Asks.calls (a0 : Int) (r : Int) (w : World) (h : ref09_Asks.f a0 = some r) :
  Calls Try.prog 19 #[.int .i64 a0] w fun e w' => e = .returned (.int .i64 r) ∧ Drawn0 w w' := by
 have H : (if a0 = 1 then (some 1) else (if a0 = 2 then (some 3) else (if a0 = 3 then (some 9) else (if a0 = 4 then (some 5) else (if a0 = 5 then (some 11) else (if a0 = 6 then (some 13) else (if a0 = 7 then (some 17) else (if a0 = 8 then (some 34) else (if a0 = 9 then (some 36) else (if a0 = 10 then (some 44) else (if a0 = 11 then (some 48) else (some 0)))))))))))) = some r := h
 clear h
 by_cases c2 : a0 = 1
 ·rw [if_pos c2] at H
  have c2b0 : (a0 == 1) = true := beq_iff_eq.mpr c2
  have c2b1 : (a0 != 1) = false := bne_eq_false_iff_eq.mpr c2
  clear c2
  obtain rfl := Option.some.inj H
  go_enter Try.func19, Try.ntmps19
  go_wp2
  go_ret
  exact ⟨by first | rfl | (simp; done) | (simp [*]; done), by repeat (first | exact Drawn0.refl _ | apply Drawn0.step)⟩
 ·rw [if_neg c2] at H
  have c2b0 : (a0 == 1) = false := beq_eq_false_iff_ne.mpr c2
  have c2b1 : (a0 != 1) = true := bne_iff_ne.mpr c2
  by_cases c3 : a0 = 2
  ·rw [if_pos c3] at H
   have c3b0 : (a0 == 2) = true := beq_iff_eq.mpr c3
   have c3b1 : (a0 != 2) = false := bne_eq_false_iff_eq.mpr c3
   clear c3
   obtain rfl := Option.some.inj H
   go_enter Try.func19, Try.ntmps19
   go_wp2
   go_ret
   exact ⟨by first | rfl | (simp; done) | (simp [*]; done), by repeat (first | exact Drawn0.refl _ | apply Drawn0.step)⟩
  ·rw [if_neg c3] at H
   have c3b0 : (a0 == 2) = false := beq_eq_false_iff_ne.mpr c3
   have c3b1 : (a0 != 2) = true := bne_iff_ne.mpr c3
   by_cases c4 : a0 = 3
   ·rw [if_pos c4] at H
    have c4b0 : (a0 == 3) = true := beq_iff_eq.mpr c4
    have c4b1 : (a0 != 3) = false := bne_eq_false_iff_eq.mpr c4
    clear c4
    obtain rfl := Option.some.inj H
    go_enter Try.func19, Try.ntmps19
    go_wp2
    go_ret
    exact ⟨by first | rfl | (simp; done) | (simp [*]; done), by repeat (first | exact Drawn0.refl _ | apply Drawn0.step)⟩
   ·rw [if_neg c4] at H
    have c4b0 : (a0 == 3) = false := beq_eq_false_iff_ne.mpr c4
    have c4b1 : (a0 != 3) = true := bne_iff_ne.mpr c4
    by_cases c5 : a0 = 4
    ·rw [if_pos c5] at H
     have c5b0 : (a0 == 4) = true := beq_iff_eq.mpr c5
     have c5b1 : (a0 != 4) = false := bne_eq_false_iff_eq.mpr c5
     clear c5
     obtain rfl := Option.some.inj H
     go_enter Try.func19, Try.ntmps19
     go_wp2
     go_ret
     exact ⟨by first | rfl | (simp; done) | (simp [*]; done), by repeat (first | exact Drawn0.refl _ | apply Drawn0.step)⟩
    ·rw [if_neg c5] at H
     have c5b0 : (a0 == 4) = false := beq_eq_false_iff_ne.mpr c5
     have c5b1 : (a0 != 4) = true := bne_iff_ne.mpr c5
     by_cases c6 : a0 = 5
     ·rw [if_pos c6] at H
      have c6b0 : (a0 == 5) = true := beq_iff_eq.mpr c6
      have c6b1 : (a0 != 5) = false := bne_eq_false_iff_eq.mpr c6
      clear c6
      obtain rfl := Option.some.inj H
      go_enter Try.func19, Try.ntmps19
      go_wp2
      go_ret
      exact ⟨by first | rfl | (simp; done) | (simp [*]; done), by repeat (first | exact Drawn0.refl _ | apply Drawn0.step)⟩
     ·rw [if_neg c6] at H
      have c6b0 : (a0 == 5) = false := beq_eq_false_iff_ne.mpr c6
      have c6b1 : (a0 != 5) = true := bne_iff_ne.mpr c6
      by_cases c7 : a0 = 6
      ·rw [if_pos c7] at H
       have c7b0 : (a0 == 6) = true := beq_iff_eq.mpr c7
       have c7b1 : (a0 != 6) = false := bne_eq_false_iff_eq.mpr c7
       clear c7
       obtain rfl := Option.some.inj H
       go_enter Try.func19, Try.ntmps19
       go_wp2
       go_ret
       exact ⟨by first | rfl | (simp; done) | (simp [*]; done), by repeat (first | exact Drawn0.refl _ | apply Drawn0.step)⟩
      ·rw [if_neg c7] at H
       have c7b0 : (a0 == 6) = false := beq_eq_false_iff_ne.mpr c7
       have c7b1 : (a0 != 6) = true := bne_iff_ne.mpr c7
       by_cases c8 : a0 = 7
       ·rw [if_pos c8] at H
        have c8b0 : (a0 == 7) = true := beq_iff_eq.mpr c8
        have c8b1 : (a0 != 7) = false := bne_eq_false_iff_eq.mpr c8
        clear c8
        obtain rfl := Option.some.inj H
        go_enter Try.func19, Try.ntmps19
        go_wp2
        go_ret
        exact ⟨by first | rfl | (simp; done) | (simp [*]; done), by repeat (first | exact Drawn0.refl _ | apply Drawn0.step)⟩
       ·rw [if_neg c8] at H
        have c8b0 : (a0 == 7) = false := beq_eq_false_iff_ne.mpr c8
        have c8b1 : (a0 != 7) = true := bne_iff_ne.mpr c8
        by_cases c9 : a0 = 8
        ·rw [if_pos c9] at H
         have c9b0 : (a0 == 8) = true := beq_iff_eq.mpr c9
         have c9b1 : (a0 != 8) = false := bne_eq_false_iff_eq.mpr c9
         clear c9
         obtain rfl := Option.some.inj H
         go_enter Try.func19, Try.ntmps19
         go_wp2
         go_ret
         exact ⟨by first | rfl | (simp; done) | (simp [*]; done), by repeat (first | exact Drawn0.refl _ | apply Drawn0.step)⟩
        ·rw [if_neg c9] at H
         have c9b0 : (a0 == 8) = false := beq_eq_false_iff_ne.mpr c9
         have c9b1 : (a0 != 8) = true := bne_iff_ne.mpr c9
         by_cases c10 : a0 = 9
         ·rw [if_pos c10] at H
          have c10b0 : (a0 == 9) = true := beq_iff_eq.mpr c10
          have c10b1 : (a0 != 9) = false := bne_eq_false_iff_eq.mpr c10
          clear c10
          obtain rfl := Option.some.inj H
          go_enter Try.func19, Try.ntmps19
          go_wp2
          go_ret
          exact ⟨by first | rfl | (simp; done) | (simp [*]; done), by repeat (first | exact Drawn0.refl _ | apply Drawn0.step)⟩
         ·rw [if_neg c10] at H
          have c10b0 : (a0 == 9) = false := beq_eq_false_iff_ne.mpr c10
          have c10b1 : (a0 != 9) = true := bne_iff_ne.mpr c10
          by_cases c11 : a0 = 10
          ·rw [if_pos c11] at H
           have c11b0 : (a0 == 10) = true := beq_iff_eq.mpr c11
           have c11b1 : (a0 != 10) = false := bne_eq_false_iff_eq.mpr c11
           clear c11
           obtain rfl := Option.some.inj H
           go_enter Try.func19, Try.ntmps19
           go_wp2
           go_ret
           exact ⟨by first | rfl | (simp; done) | (simp [*]; done), by repeat (first | exact Drawn0.refl _ | apply Drawn0.step)⟩
          ·rw [if_neg c11] at H
           have c11b0 : (a0 == 10) = false := beq_eq_false_iff_ne.mpr c11
           have c11b1 : (a0 != 10) = true := bne_iff_ne.mpr c11
           by_cases c12 : a0 = 11
           ·rw [if_pos c12] at H
            have c12b0 : (a0 == 11) = true := beq_iff_eq.mpr c12
            have c12b1 : (a0 != 11) = false := bne_eq_false_iff_eq.mpr c12
            clear c12
            obtain rfl := Option.some.inj H
            go_enter Try.func19, Try.ntmps19
            go_wp2
            go_ret
            exact ⟨by first | rfl | (simp; done) | (simp [*]; done), by repeat (first | exact Drawn0.refl _ | apply Drawn0.step)⟩
           ·rw [if_neg c12] at H
            have c12b0 : (a0 == 11) = false := beq_eq_false_iff_ne.mpr c12
            have c12b1 : (a0 != 11) = true := bne_iff_ne.mpr c12
            obtain rfl := Option.some.inj H
            go_enter Try.func19, Try.ntmps19
            go_wp2
            go_ret
            exact ⟨by first | rfl | (simp; done) | (simp [*]; done), by repeat (first | exact Drawn0.refl _ | apply Drawn0.step)⟩
end Go.Proofs.Ytfocaefnmfkojaa.Q
namespace Go.Proofs.Ytfocaefnmfkojaa.Q
end Go.Proofs.Ytfocaefnmfkojaa.Q
namespace Go.Proofs.Ytfocaefnmfkojaa.Q
end Go.Proofs.Ytfocaefnmfkojaa.Q
namespace Go.Proofs.Ytfocaefnmfkojaa.Q
open Go.RowKit Go.Proofs.YtfocaefnmfkojaaW.PrintWords Go.Proofs.YtfocaefnmfkojaaW.PrintLast Go.Proofs.YtfocaefnmfkojaaW.PrintMore
attribute [local go_sem] max2_int min2_int max_two min_two max_three min_three max_four min_four   -- for this text's walks alone
set_option linter.unusedVariables false
set_option linter.unusedSimpArgs false
def ref06_Count.l0 : Nat → List (S44) → Int → Int → Option (Int)
 | 0, _, _, _ => none
 | k + 1, x0, x3, x4 => if x4 < (x0.length : Int) then (if 0 ≤ x4 then (ref06_Count.l0 k x0 (wrap64 (x3 + (((rd_T44 x0 x4).f3).length : Int))) (wrap64 (x4 + 1))) else (none)) else (some x3)
def ref06_Count.f (k : Nat) (l0 : List (S44)) : Option (Int) := ref06_Count.l0 k l0 0 0
set_option maxHeartbeats 8000000 in
set_option maxRecDepth 100000 in
theorem ref06_Count.calls (k : Nat) (A0 : Option Addr) (c0 : Nat) (l0 : List (S44)) (r : Int) (w : World) (hr0 : Kd.C k44 w A0 l0.length l0) (hc0 : l0.length ≤ c0) (h : ref06_Count.f k l0 = some r) :
  Calls Try.prog 27 #[.slice A0 l0.length c0] w fun e w' => e = .returned (.int .i64 r) ∧ Drawn0 w w' := by
 have HR0 := Aside0.mk hr0
 have HC0 := Aside0.mk hc0
 clear hr0 hc0
 have H : (ref06_Count.l0 k l0 0 0) = some r := h
 clear h
 have H' := Aside0.mk H
 clear H
 go_enter Try.func27, Try.ntmps27
 go_wp2
 go_loopg [3, 4] k (fun kq v3 v4 w' => ∃ (x3_1 : Int) (x4_1 : Int), v3 = .int .i64 x3_1 ∧ v4 = .int .i64 x4_1 ∧ Aside0 (ref06_Count.l0 kq l0 x3_1 x4_1 = some r) ∧ Aside0 (kq ≤ k) ∧ Drawn0 w w')
 case atStart => exact ⟨(0), (0), (by first | rfl | (simp; done) | (simp [*]; done)), (by first | rfl | (simp; done) | (simp [*]; done)), H', ⟨Nat.le_refl _⟩, by repeat (first | exact Drawn0.refl _ | apply Drawn0.step)⟩
 case round =>
  clear H'
  obtain ⟨x3_1, x4_1, rfl, rfl, HA, HK1, ⟨m1, rfl⟩⟩ := hrel
  cases gk with
  | zero => exact absurd HA.out (by simp [ref06_Count.l0])
  | succ k1 =>
   have H := HA.out
   clear HA
   simp only [ref06_Count.l0] at H
   by_cases c2 : x4_1 < (l0.length : Int)
   ·rw [if_pos c2] at H
    have c2b0 : decide (x4_1 < (l0.length : Int)) = true := decide_eq_true c2
    clear c2
    by_cases c3 : 0 ≤ x4_1
    ·rw [if_pos c3] at H
     have c3b0 : decide (0 ≤ x4_1) = true := decide_eq_true c3
     clear c3
     have H' := Aside0.mk H
     clear H
     have p101 : 0 ≤ (x4_1 : Int) := of_decide_eq_true (by assumption)
     have q101 : x4_1 < (l0.length : Int) := of_decide_eq_true (by assumption)
     obtain ⟨ad101, A101_3, c101_3, e101, hx101_0, hx101_1, hx101_2, hx101_3, hl101_3, hi101_3⟩ := at_T44 HR0.out x4_1 p101 q101
     cases e101
     have HR101_3 := Aside0.mk hi101_3
     have HC101_3 := Aside0.mk hl101_3
     clear hi101_3 hl101_3
     replace p101 := eq_true p101
     replace q101 := eq_true q101
     go_wp2
     go_roundg k1
     case measure => have := HK1.out; omega
     case rel => exact ⟨(wrap64 (x3_1 + (((rd_T44 l0 x4_1).f3).length : Int))), (wrap64 (x4_1 + 1)), (by first | rfl | (simp; done) | (simp [*]; done)), (by first | rfl | (simp; done) | (simp [*]; done)), H', ⟨by have := HK1.out; omega⟩, by repeat (first | exact Drawn0.refl _ | apply Drawn0.step)⟩
    ·rw [if_neg c3] at H
     exact absurd H (by simp)
   ·rw [if_neg c2] at H
    have c2b0 : decide (x4_1 < (l0.length : Int)) = false := decide_eq_false c2
    clear c2
    obtain rfl := Option.some.inj H
    go_wp2
    go_ret
    exact ⟨by first | rfl | (simp; done) | (simp [*]; done), by repeat (first | exact Drawn0.refl _ | apply Drawn0.step)⟩
end Go.Proofs.Ytfocaefnmfkojaa.Q
namespace Go.Proofs.Ytfocaefnmfkojaa.Q
open Go.RowKit Go.Proofs.YtfocaefnmfkojaaW.PrintWords Go.Proofs.YtfocaefnmfkojaaW.PrintLast Go.Proofs.YtfocaefnmfkojaaW.PrintMore
attribute [local go_sem] max2_int min2_int max_two min_two max_three min_three max_four min_four   -- for this text's walks alone
set_option linter.unusedVariables false
set_option linter.unusedSimpArgs false
mutual
def ref06_Writer.l0 : Nat → List (S44) → Int → Int → Int → Option (Int)
 | 0, _, _, _, _ => none
 | k + 1, x0, x1, x2, x7 => if x7 < (x0.length : Int) then (ref06_Writer.l1 k x0 x1 x2 x7 0) else (some (-1))
def ref06_Writer.l1 : Nat → List (S44) → Int → Int → Int → Int → Option (Int)
 | 0, _, _, _, _, _ => none
 | k + 1, x0, x1, x2, x7, x8 => if 0 ≤ x7 then (if x7 < (x0.length : Int) then (if x8 < (((rd_T44 x0 x7).f3).length : Int) then (if 0 ≤ x8 then (if (rd_T46 ((rd_T44 x0 x7).f3) x8).f0 = true then (if ((rd_T46 ((rd_T44 x0 x7).f3) x8).f1) = x1 then (if ((rd_T46 ((rd_T44 x0 x7).f3) x8).f2) = x2 then (some x7) else (ref06_Writer.l1 k x0 x1 x2 x7 (wrap64 (x8 + 1)))) else (ref06_Writer.l1 k x0 x1 x2 x7 (wrap64 (x8 + 1)))) else (ref06_Writer.l1 k x0 x1 x2 x7 (wrap64 (x8 + 1)))) else (none)) else (ref06_Writer.l0 k x0 x1 x2 (wrap64 (x7 + 1)))) else (none)) else (none)
end
def ref06_Writer.f (k : Nat) (l0 : List (S44)) (a1 : Int) (a2 : Int) : Option (Int) := ref06_Writer.l0 k l0 a1 a2 0
set_option maxHeartbeats 8000000 in
set_option maxRecDepth 100000 in
theorem ref06_Writer.calls (k : Nat) (A0 : Option Addr) (c0 : Nat) (l0 : List (S44)) (a1 : Int) (a2 : Int) (r : Int) (w : World) (hr0 : Kd.C k44 w A0 l0.length l0) (hc0 : l0.length ≤ c0) (h : ref06_Writer.f k l0 a1 a2 = some r) :
  Calls Try.prog 78 #[.slice A0 l0.length c0, .int .i64 a1, .int .i64 a2] w fun e w' => e = .returned (.int .i64 r) ∧ Below w.heap.size w w' := by
 have hu46 := Try.underlying46
 have HR0 := Aside0.mk hr0
 have HC0 := Aside0.mk hc0
 clear hr0 hc0
 have HB := Aside0.mk (Below.refl w.heap.size w)
 have H : (ref06_Writer.l0 k l0 a1 a2 0) = some r := h
 clear h
 have H' := Aside0.mk H
 clear H
 go_enter Try.func78, Try.ntmps78
 go_wp2
 go_loopg [7] k (fun kq v7 w' => ∃ (x7_1 : Int), v7 = .int .i64 x7_1 ∧ Aside0 (ref06_Writer.l0 kq l0 a1 a2 x7_1 = some r) ∧ Aside0 (kq ≤ k) ∧ Aside0 (Below w.heap.size w w'))
 case atStart => exact ⟨(0), (by first | rfl | (simp; done) | (simp [*]; done)), H', ⟨Nat.le_refl _⟩, ⟨by repeat (first | (with_reducible first | exact HB.out | apply below_alloc | apply pw_below_drewN | apply below_drew1))⟩⟩
 case round =>
  clear H'
  try clear p2
  obtain ⟨x7_1, rfl, HA, HK1, HB⟩ := hrel
  cases gk with
  | zero => exact absurd HA.out (by simp [ref06_Writer.l0])
  | succ k1 =>
   have H := HA.out
   clear HA
   simp only [ref06_Writer.l0] at H
   by_cases c4 : x7_1 < (l0.length : Int)
   ·rw [if_pos c4] at H
    have c4b0 : decide (x7_1 < (l0.length : Int)) = true := decide_eq_true c4
    clear c4
    have H' := Aside0.mk H
    clear H
    go_wp2
    go_loopg [8] k1 (fun kq v8 w' => ∃ (x8_2 : Int), v8 = .int .i64 x8_2 ∧ Aside0 (ref06_Writer.l1 kq l0 a1 a2 x7_1 x8_2 = some r) ∧ Aside0 (kq ≤ k1) ∧ Aside0 (Below w.heap.size w w'))
    case atStart => exact ⟨(0), (by first | rfl | (simp; done) | (simp [*]; done)), H', ⟨Nat.le_refl _⟩, ⟨by repeat (first | (with_reducible first | exact HB.out | apply below_alloc | apply pw_below_drewN | apply below_drew1))⟩⟩
    case round =>
     clear H'
     try clear p2
     try clear c4
     try clear c4b0
     try clear p2
     obtain ⟨x8_2, rfl, HA, HK2, HB⟩ := hrel
     cases gk with
     | zero => exact absurd HA.out (by simp [ref06_Writer.l1])
     | succ k2 =>
      have H := HA.out
      clear HA
      simp only [ref06_Writer.l1] at H
      by_cases c5 : 0 ≤ x7_1
      ·rw [if_pos c5] at H
       have c5b0 : decide (0 ≤ x7_1) = true := decide_eq_true c5
       clear c5
       by_cases c6 : x7_1 < (l0.length : Int)
       ·rw [if_pos c6] at H
        have c6b0 : decide (x7_1 < (l0.length : Int)) = true := decide_eq_true c6
        clear c6
        by_cases c7 : x8_2 < (((rd_T44 l0 x7_1).f3).length : Int)
        ·rw [if_pos c7] at H
         have c7b0 : decide (x8_2 < (((rd_T44 l0 x7_1).f3).length : Int)) = true := decide_eq_true c7
         clear c7
         by_cases c8 : 0 ≤ x8_2
         ·rw [if_pos c8] at H
          have c8b0 : decide (0 ≤ x8_2) = true := decide_eq_true c8
          clear c8
          obtain ⟨bq9, hbq9⟩ : ∃ b_ : Bool, b_ = ((rd_T46 ((rd_T44 l0 x7_1).f3) x8_2).f0) := ⟨_, rfl⟩
          replace H : (if bq9 = true then (if ((rd_T46 ((rd_T44 l0 x7_1).f3) x8_2).f1) = a1 then (if ((rd_T46 ((rd_T44 l0 x7_1).f3) x8_2).f2) = a2 then (some x7_1) else (ref06_Writer.l1 k2 l0 a1 a2 x7_1 (wrap64 (x8_2 + 1)))) else (ref06_Writer.l1 k2 l0 a1 a2 x7_1 (wrap64 (x8_2 + 1)))) else (ref06_Writer.l1 k2 l0 a1 a2 x7_1 (wrap64 (x8_2 + 1)))) = some r := by rw [← hbq9] at H; exact H
          have Nbq9 := Aside0.mk hbq9
          clear hbq9
          by_cases c10 : bq9 = true
          ·subst c10
           have H1 : (if ((rd_T46 ((rd_T44 l0 x7_1).f3) x8_2).f1) = a1 then (if ((rd_T46 ((rd_T44 l0 x7_1).f3) x8_2).f2) = a2 then (some x7_1) else (ref06_Writer.l1 k2 l0 a1 a2 x7_1 (wrap64 (x8_2 + 1)))) else (ref06_Writer.l1 k2 l0 a1 a2 x7_1 (wrap64 (x8_2 + 1)))) = some r := by rw [if_pos rfl] at H; exact H
           clear H
           have H := H1
           clear H1
           by_cases c11 : ((rd_T46 ((rd_T44 l0 x7_1).f3) x8_2).f1) = a1
           ·rw [if_pos c11] at H
            have c11b0 : (((rd_T46 ((rd_T44 l0 x7_1).f3) x8_2).f1) == a1) = true := beq_iff_eq.mpr c11
            have c11b1 : (((rd_T46 ((rd_T44 l0 x7_1).f3) x8_2).f1) != a1) = false := bne_eq_false_iff_eq.mpr c11
            clear c11
            by_cases c12 : ((rd_T46 ((rd_T44 l0 x7_1).f3) x8_2).f2) = a2
            ·rw [if_pos c12] at H
             have c12b0 : (((rd_T46 ((rd_T44 l0 x7_1).f3) x8_2).f2) == a2) = true := beq_iff_eq.mpr c12
             have c12b1 : (((rd_T46 ((rd_T44 l0 x7_1).f3) x8_2).f2) != a2) = false := bne_eq_false_iff_eq.mpr c12
             clear c12
             obtain rfl := Option.some.inj H
             have p101 : 0 ≤ (x7_1 : Int) := of_decide_eq_true (by assumption)
             have q101 : x7_1 < (l0.length : Int) := of_decide_eq_true (by assumption)
             obtain ⟨ad101, A101_3, c101_3, e101, hx101_0, hx101_1, hx101_2, hx101_3, hl101_3, hi101_3⟩ := at_T44 HR0.out x7_1 p101 q101
             cases e101
             replace hx101_0 := (HB.out.cell (World.block_lt_of_cell? w _ hx101_0)).trans hx101_0
             replace hx101_1 := (HB.out.cell (World.block_lt_of_cell? w _ hx101_1)).trans hx101_1
             replace hx101_2 := (HB.out.cell (World.block_lt_of_cell? w _ hx101_2)).trans hx101_2
             replace hx101_3 := (HB.out.cell (World.block_lt_of_cell? w _ hx101_3)).trans hx101_3
             have HR101_3 := Aside0.mk hi101_3
             have HC101_3 := Aside0.mk hl101_3
             clear hi101_3 hl101_3
             replace p101 := eq_true p101
             replace q101 := eq_true q101
             have p102 : 0 ≤ (x7_1 : Int) := of_decide_eq_true (by assumption)
             have q102 : x7_1 < (l0.length : Int) := of_decide_eq_true (by assumption)
             obtain ⟨ad102, A102_3, c102_3, e102, hx102_0, hx102_1, hx102_2, hx102_3, hl102_3, hi102_3⟩ := at_T44 HR0.out x7_1 p102 q102
             obtain rfl : ad101 = ad102 := (by injection e102)
             replace hx102_0 := (HB.out.cell (World.block_lt_of_cell? w _ hx102_0)).trans hx102_0
             replace hx102_1 := (HB.out.cell (World.block_lt_of_cell? w _ hx102_1)).trans hx102_1
             replace hx102_2 := (HB.out.cell (World.block_lt_of_cell? w _ hx102_2)).trans hx102_2
             replace hx102_3 := (HB.out.cell (World.block_lt_of_cell? w _ hx102_3)).trans hx102_3
             have HR102_3 := Aside0.mk hi102_3
             have HC102_3 := Aside0.mk hl102_3
             clear hi102_3 hl102_3
             replace p102 := eq_true p102
             replace q102 := eq_true q102
             have ea_ := Option.some.inj (hx101_3.symm.trans hx102_3)
             injection ea_ with ea_ en_ ec_
             subst ea_
             subst ec_
             clear en_
             have p103 : 0 ≤ (x8_2 : Int) := of_decide_eq_true (by assumption)
             have q103 : x8_2 < (((rd_T44 l0 x7_1).f3).length : Int) := of_decide_eq_true (by assumption)
             obtain ⟨ad103, e103, hx103_0, hx103_1, hx103_2⟩ := at_T46 HR102_3.out x8_2 p103 q103
             (try rw [← Nbq9.out] at hx103_0)
             cases e103
             replace hx103_0 := (HB.out.cell (World.block_lt_of_cell? w _ hx103_0)).trans hx103_0
             replace hx103_1 := (HB.out.cell (World.block_lt_of_cell? w _ hx103_1)).trans hx103_1
             replace hx103_2 := (HB.out.cell (World.block_lt_of_cell? w _ hx103_2)).trans hx103_2
             replace p103 := eq_true p103
             replace q103 := eq_true q103
             go_wp2_with (first | ((with_reducible refine gate_dst (N := 9) rfl ?_); refine box_event ?hg (N := 9) ?hd (cs := #[.bool false, .int .i64 0, .int .i64 0]) (t := 46) ?hr ?_; (case hd => rfl); (case hg => rfl); (case hr => first | (go_simp; done) | (go_simp; rfl)); intro gb104 hg w13 hbox hb; have n0_ := Aside0.mk (below_step (by repeat (first | (with_reducible first | exact HB.out | apply below_alloc | apply pw_below_drewN | apply below_drew1))) hb); have n1_ := Aside0.mk (hbox); have n2_ := Aside0.mk ((by rw [hg]; exact (below_size (by repeat (first | (with_reducible first | exact HB.out | apply below_alloc | apply pw_below_drewN | apply below_drew1)))) : w.heap.size ≤ gb104)); have n3_ := Aside0.mk ((by rw [hg]; exact (below_size (by repeat (first | (with_reducible first | exact HB.out | apply below_alloc | apply pw_below_drewN | apply below_drew1)))) : w.heap.size ≤ gb104)); clear HB; have HB := n0_; have BK104 := n1_; have GW104 := n2_; have GE104 := n3_; clear n0_ n1_ n2_ n3_; clear hb hbox hg; have hcz14_0 : w13.cell? ⟨gb104, 0, none⟩ = some (.bool false) := (blk_cell BK104.out 0).trans rfl; have hcz14_1 : w13.cell? ⟨gb104, 1, none⟩ = some (.int .i64 0) := (blk_cell BK104.out 1).trans rfl; have hcz14_2 : w13.cell? ⟨gb104, 2, none⟩ = some (.int .i64 0) := (blk_cell BK104.out 2).trans rfl; have hfz14_0 := blk_frozen BK104.out 0; have hfz14_1 := blk_frozen BK104.out 1; have hfz14_2 := blk_frozen BK104.out 2))
             go_ret
             exact ⟨by first | rfl | (simp <;> rfl) | (simp [*] <;> rfl), by repeat (first | (with_reducible first | exact HB.out | apply below_alloc | apply pw_below_drewN | apply below_drew1 | refine below_set ?_ GE104.out))⟩
            ·rw [if_neg c12] at H
             have c12b0 : (((rd_T46 ((rd_T44 l0 x7_1).f3) x8_2).f2) == a2) = false := beq_eq_false_iff_ne.mpr c12
             have c12b1 : (((rd_T46 ((rd_T44 l0 x7_1).f3) x8_2).f2) != a2) = true := bne_iff_ne.mpr c12
             have H' := Aside0.mk H
             clear H
             have p101 : 0 ≤ (x7_1 : Int) := of_decide_eq_true (by assumption)
             have q101 : x7_1 < (l0.length : Int) := of_decide_eq_true (by assumption)
             obtain ⟨ad101, A101_3, c101_3, e101, hx101_0, hx101_1, hx101_2, hx101_3, hl101_3, hi101_3⟩ := at_T44 HR0.out x7_1 p101 q101
             cases e101
             replace hx101_0 := (HB.out.cell (World.block_lt_of_cell? w _ hx101_0)).trans hx101_0
             replace hx101_1 := (HB.out.cell (World.block_lt_of_cell? w _ hx101_1)).trans hx101_1
             replace hx101_2 := (HB.out.cell (World.block_lt_of_cell? w _ hx101_2)).trans hx101_2
             replace hx101_3 := (HB.out.cell (World.block_lt_of_cell? w _ hx101_3)).trans hx101_3
             have HR101_3 := Aside0.mk hi101_3
             have HC101_3 := Aside0.mk hl101_3
             clear hi101_3 hl101_3
             replace p101 := eq_true p101
             replace q101 := eq_true q101
             have p102 : 0 ≤ (x7_1 : Int) := of_decide_eq_true (by assumption)
             have q102 : x7_1 < (l0.length : Int) := of_decide_eq_true (by assumption)
             obtain ⟨ad102, A102_3, c102_3, e102, hx102_0, hx102_1, hx102_2, hx102_3, hl102_3, hi102_3⟩ := at_T44 HR0.out x7_1 p102 q102
             obtain rfl : ad101 = ad102 := (by injection e102)
             replace hx102_0 := (HB.out.cell (World.block_lt_of_cell? w _ hx102_0)).trans hx102_0
             replace hx102_1 := (HB.out.cell (World.block_lt_of_cell? w _ hx102_1)).trans hx102_1
             replace hx102_2 := (HB.out.cell (World.block_lt_of_cell? w _ hx102_2)).trans hx102_2
             replace hx102_3 := (HB.out.cell (World.block_lt_of_cell? w _ hx102_3)).trans hx102_3
             have HR102_3 := Aside0.mk hi102_3
             have HC102_3 := Aside0.mk hl102_3
             clear hi102_3 hl102_3
             replace p102 := eq_true p102
             replace q102 := eq_true q102
             have ea_ := Option.some.inj (hx101_3.symm.trans hx102_3)
             injection ea_ with ea_ en_ ec_
             subst ea_
             subst ec_
             clear en_
             have p103 : 0 ≤ (x8_2 : Int) := of_decide_eq_true (by assumption)
             have q103 : x8_2 < (((rd_T44 l0 x7_1).f3).length : Int) := of_decide_eq_true (by assumption)
             obtain ⟨ad103, e103, hx103_0, hx103_1, hx103_2⟩ := at_T46 HR102_3.out x8_2 p103 q103
             (try rw [← Nbq9.out] at hx103_0)
             cases e103
             replace hx103_0 := (HB.out.cell (World.block_lt_of_cell? w _ hx103_0)).trans hx103_0
             replace hx103_1 := (HB.out.cell (World.block_lt_of_cell? w _ hx103_1)).trans hx103_1
             replace hx103_2 := (HB.out.cell (World.block_lt_of_cell? w _ hx103_2)).trans hx103_2
             replace p103 := eq_true p103
             replace q103 := eq_true q103
             go_wp2_with (first | ((with_reducible refine gate_dst (N := 9) rfl ?_); refine box_event ?hg (N := 9) ?hd (cs := #[.bool false, .int .i64 0, .int .i64 0]) (t := 46) ?hr ?_; (case hd => rfl); (case hg => rfl); (case hr => first | (go_simp; done) | (go_simp; rfl)); intro gb104 hg w15 hbox hb; have n0_ := Aside0.mk (below_step (by repeat (first | (with_reducible first | exact HB.out | apply below_alloc | apply pw_below_drewN | apply below_drew1))) hb); have n1_ := Aside0.mk (hbox); have n2_ := Aside0.mk ((by rw [hg]; exact (below_size (by repeat (first | (with_reducible first | exact HB.out | apply below_alloc | apply pw_below_drewN | apply below_drew1)))) : w.heap.size ≤ gb104)); have n3_ := Aside0.mk ((by rw [hg]; exact (below_size (by repeat (first | (with_reducible first | exact HB.out | apply below_alloc | apply pw_below_drewN | apply below_drew1)))) : w.heap.size ≤ gb104)); clear HB; have HB := n0_; have BK104 := n1_; have GW104 := n2_; have GE104 := n3_; clear n0_ n1_ n2_ n3_; clear hb hbox hg; have hcz16_0 : w15.cell? ⟨gb104, 0, none⟩ = some (.bool false) := (blk_cell BK104.out 0).trans rfl; have hcz16_1 : w15.cell? ⟨gb104, 1, none⟩ = some (.int .i64 0) := (blk_cell BK104.out 1).trans rfl; have hcz16_2 : w15.cell? ⟨gb104, 2, none⟩ = some (.int .i64 0) := (blk_cell BK104.out 2).trans rfl; have hfz16_0 := blk_frozen BK104.out 0; have hfz16_1 := blk_frozen BK104.out 1; have hfz16_2 := blk_frozen BK104.out 2))
             go_roundg k2
             case measure => have := HK1.out; have := HK2.out; omega
             case rel => (try rw [← Nbq9.out]); exact ⟨(wrap64 (x8_2 + 1)), (by first | rfl | (simp; done) | (simp [*]; done)), H', ⟨by have := HK1.out; have := HK2.out; omega⟩, ⟨by repeat (first | (with_reducible first | exact HB.out | apply below_alloc | apply pw_below_drewN | apply below_drew1 | refine below_set ?_ GE104.out))⟩⟩
           ·rw [if_neg c11] at H
            have c11b0 : (((rd_T46 ((rd_T44 l0 x7_1).f3) x8_2).f1) == a1) = false := beq_eq_false_iff_ne.mpr c11
            have c11b1 : (((rd_T46 ((rd_T44 l0 x7_1).f3) x8_2).f1) != a1) = true := bne_iff_ne.mpr c11
            have H' := Aside0.mk H
            clear H
            have p101 : 0 ≤ (x7_1 : Int) := of_decide_eq_true (by assumption)
            have q101 : x7_1 < (l0.length : Int) := of_decide_eq_true (by assumption)
            obtain ⟨ad101, A101_3, c101_3, e101, hx101_0, hx101_1, hx101_2, hx101_3, hl101_3, hi101_3⟩ := at_T44 HR0.out x7_1 p101 q101
            cases e101
            replace hx101_0 := (HB.out.cell (World.block_lt_of_cell? w _ hx101_0)).trans hx101_0
            replace hx101_1 := (HB.out.cell (World.block_lt_of_cell? w _ hx101_1)).trans hx101_1
            replace hx101_2 := (HB.out.cell (World.block_lt_of_cell? w _ hx101_2)).trans hx101_2
            replace hx101_3 := (HB.out.cell (World.block_lt_of_cell? w _ hx101_3)).trans hx101_3
            have HR101_3 := Aside0.mk hi101_3
            have HC101_3 := Aside0.mk hl101_3
            clear hi101_3 hl101_3
            replace p101 := eq_true p101
            replace q101 := eq_true q101
            have p102 : 0 ≤ (x7_1 : Int) := of_decide_eq_true (by assumption)
            have q102 : x7_1 < (l0.length : Int) := of_decide_eq_true (by assumption)
            obtain ⟨ad102, A102_3, c102_3, e102, hx102_0, hx102_1, hx102_2, hx102_3, hl102_3, hi102_3⟩ := at_T44 HR0.out x7_1 p102 q102
            obtain rfl : ad101 = ad102 := (by injection e102)
            replace hx102_0 := (HB.out.cell (World.block_lt_of_cell? w _ hx102_0)).trans hx102_0
            replace hx102_1 := (HB.out.cell (World.block_lt_of_cell? w _ hx102_1)).trans hx102_1
            replace hx102_2 := (HB.out.cell (World.block_lt_of_cell? w _ hx102_2)).trans hx102_2
            replace hx102_3 := (HB.out.cell (World.block_lt_of_cell? w _ hx102_3)).trans hx102_3
            have HR102_3 := Aside0.mk hi102_3
            have HC102_3 := Aside0.mk hl102_3
            clear hi102_3 hl102_3
            replace p102 := eq_true p102
            replace q102 := eq_true q102
            have ea_ := Option.some.inj (hx101_3.symm.trans hx102_3)
            injection ea_ with ea_ en_ ec_
            subst ea_
            subst ec_
            clear en_
            have p103 : 0 ≤ (x8_2 : Int) := of_decide_eq_true (by assumption)
            have q103 : x8_2 < (((rd_T44 l0 x7_1).f3).length : Int) := of_decide_eq_true (by assumption)
            obtain ⟨ad103, e103, hx103_0, hx103_1, hx103_2⟩ := at_T46 HR102_3.out x8_2 p103 q103
            (try rw [← Nbq9.out] at hx103_0)
            cases e103
            replace hx103_0 := (HB.out.cell (World.block_lt_of_cell? w _ hx103_0)).trans hx103_0
            replace hx103_1 := (HB.out.cell (World.block_lt_of_cell? w _ hx103_1)).trans hx103_1
            replace hx103_2 := (HB.out.cell (World.block_lt_of_cell? w _ hx103_2)).trans hx103_2
            replace p103 := eq_true p103
            replace q103 := eq_true q103
            go_wp2_with (first | ((with_reducible refine gate_dst (N := 9) rfl ?_); refine box_event ?hg (N := 9) ?hd (cs := #[.bool false, .int .i64 0, .int .i64 0]) (t := 46) ?hr ?_; (case hd => rfl); (case hg => rfl); (case hr => first | (go_simp; done) | (go_simp; rfl)); intro gb104 hg w17 hbox hb; have n0_ := Aside0.mk (below_step (by repeat (first | (with_reducible first | exact HB.out | apply below_alloc | apply pw_below_drewN | apply below_drew1))) hb); have n1_ := Aside0.mk (hbox); have n2_ := Aside0.mk ((by rw [hg]; exact (below_size (by repeat (first | (with_reducible first | exact HB.out | apply below_alloc | apply pw_below_drewN | apply below_drew1)))) : w.heap.size ≤ gb104)); have n3_ := Aside0.mk ((by rw [hg]; exact (below_size (by repeat (first | (with_reducible first | exact HB.out | apply below_alloc | apply pw_below_drewN | apply below_drew1)))) : w.heap.size ≤ gb104)); clear HB; have HB := n0_; have BK104 := n1_; have GW104 := n2_; have GE104 := n3_; clear n0_ n1_ n2_ n3_; clear hb hbox hg; have hcz18_0 : w17.cell? ⟨gb104, 0, none⟩ = some (.bool false) := (blk_cell BK104.out 0).trans rfl; have hcz18_1 : w17.cell? ⟨gb104, 1, none⟩ = some (.int .i64 0) := (blk_cell BK104.out 1).trans rfl; have hcz18_2 : w17.cell? ⟨gb104, 2, none⟩ = some (.int .i64 0) := (blk_cell BK104.out 2).trans rfl; have hfz18_0 := blk_frozen BK104.out 0; have hfz18_1 := blk_frozen BK104.out 1; have hfz18_2 := blk_frozen BK104.out 2))
            go_roundg k2
            case measure => have := HK1.out; have := HK2.out; omega
            case rel => (try rw [← Nbq9.out]); exact ⟨(wrap64 (x8_2 + 1)), (by first | rfl | (simp; done) | (simp [*]; done)), H', ⟨by have := HK1.out; have := HK2.out; omega⟩, ⟨by repeat (first | (with_reducible first | exact HB.out | apply below_alloc | apply pw_below_drewN | apply below_drew1 | refine below_set ?_ GE104.out))⟩⟩
          ·replace c10 := Bool.eq_false_iff.mpr c10
           subst c10
           have H1 : (ref06_Writer.l1 k2 l0 a1 a2 x7_1 (wrap64 (x8_2 + 1))) = some r := by rw [if_neg (show ¬ (false = true) by decide)] at H; exact H
           clear H
           have H := H1
           clear H1
           have H' := Aside0.mk H
           clear H
           have p101 : 0 ≤ (x7_1 : Int) := of_decide_eq_true (by assumption)
           have q101 : x7_1 < (l0.length : Int) := of_decide_eq_true (by assumption)
           obtain ⟨ad101, A101_3, c101_3, e101, hx101_0, hx101_1, hx101_2, hx101_3, hl101_3, hi101_3⟩ := at_T44 HR0.out x7_1 p101 q101
           cases e101
           replace hx101_0 := (HB.out.cell (World.block_lt_of_cell? w _ hx101_0)).trans hx101_0
           replace hx101_1 := (HB.out.cell (World.block_lt_of_cell? w _ hx101_1)).trans hx101_1
           replace hx101_2 := (HB.out.cell (World.block_lt_of_cell? w _ hx101_2)).trans hx101_2
           replace hx101_3 := (HB.out.cell (World.block_lt_of_cell? w _ hx101_3)).trans hx101_3
           have HR101_3 := Aside0.mk hi101_3
           have HC101_3 := Aside0.mk hl101_3
           clear hi101_3 hl101_3
           replace p101 := eq_true p101
           replace q101 := eq_true q101
           have p102 : 0 ≤ (x7_1 : Int) := of_decide_eq_true (by assumption)
           have q102 : x7_1 < (l0.length : Int) := of_decide_eq_true (by assumption)
           obtain ⟨ad102, A102_3, c102_3, e102, hx102_0, hx102_1, hx102_2, hx102_3, hl102_3, hi102_3⟩ := at_T44 HR0.out x7_1 p102 q102
           obtain rfl : ad101 = ad102 := (by injection e102)
           replace hx102_0 := (HB.out.cell (World.block_lt_of_cell? w _ hx102_0)).trans hx102_0
           replace hx102_1 := (HB.out.cell (World.block_lt_of_cell? w _ hx102_1)).trans hx102_1
           replace hx102_2 := (HB.out.cell (World.block_lt_of_cell? w _ hx102_2)).trans hx102_2
           replace hx102_3 := (HB.out.cell (World.block_lt_of_cell? w _ hx102_3)).trans hx102_3
           have HR102_3 := Aside0.mk hi102_3
           have HC102_3 := Aside0.mk hl102_3
           clear hi102_3 hl102_3
           replace p102 := eq_true p102
           replace q102 := eq_true q102
           have ea_ := Option.some.inj (hx101_3.symm.trans hx102_3)
           injection ea_ with ea_ en_ ec_
           subst ea_
           subst ec_
           clear en_
           have p103 : 0 ≤ (x8_2 : Int) := of_decide_eq_true (by assumption)
           have q103 : x8_2 < (((rd_T44 l0 x7_1).f3).length : Int) := of_decide_eq_true (by assumption)
           obtain ⟨ad103, e103, hx103_0, hx103_1, hx103_2⟩ := at_T46 HR102_3.out x8_2 p103 q103
           (try rw [← Nbq9.out] at hx103_0)
           cases e103
           replace hx103_0 := (HB.out.cell (World.block_lt_of_cell? w _ hx103_0)).trans hx103_0
           replace hx103_1 := (HB.out.cell (World.block_lt_of_cell? w _ hx103_1)).trans hx103_1
           replace hx103_2 := (HB.out.cell (World.block_lt_of_cell? w _ hx103_2)).trans hx103_2
           replace p103 := eq_true p103
           replace q103 := eq_true q103
           go_wp2_with (first | ((with_reducible refine gate_dst (N := 9) rfl ?_); refine box_event ?hg (N := 9) ?hd (cs := #[.bool false, .int .i64 0, .int .i64 0]) (t := 46) ?hr ?_; (case hd => rfl); (case hg => rfl); (case hr => first | (go_simp; done) | (go_simp; rfl)); intro gb104 hg w19 hbox hb; have n0_ := Aside0.mk (below_step (by repeat (first | (with_reducible first | exact HB.out | apply below_alloc | apply pw_below_drewN | apply below_drew1))) hb); have n1_ := Aside0.mk (hbox); have n2_ := Aside0.mk ((by rw [hg]; exact (below_size (by repeat (first | (with_reducible first | exact HB.out | apply below_alloc | apply pw_below_drewN | apply below_drew1)))) : w.heap.size ≤ gb104)); have n3_ := Aside0.mk ((by rw [hg]; exact (below_size (by repeat (first | (with_reducible first | exact HB.out | apply below_alloc | apply pw_below_drewN | apply below_drew1)))) : w.heap.size ≤ gb104)); clear HB; have HB := n0_; have BK104 := n1_; have GW104 := n2_; have GE104 := n3_; clear n0_ n1_ n2_ n3_; clear hb hbox hg; have hcz20_0 : w19.cell? ⟨gb104, 0, none⟩ = some (.bool false) := (blk_cell BK104.out 0).trans rfl; have hcz20_1 : w19.cell? ⟨gb104, 1, none⟩ = some (.int .i64 0) := (blk_cell BK104.out 1).trans rfl; have hcz20_2 : w19.cell? ⟨gb104, 2, none⟩ = some (.int .i64 0) := (blk_cell BK104.out 2).trans rfl; have hfz20_0 := blk_frozen BK104.out 0; have hfz20_1 := blk_frozen BK104.out 1; have hfz20_2 := blk_frozen BK104.out 2))
           go_roundg k2
           case measure => have := HK1.out; have := HK2.out; omega
           case rel => (try rw [← Nbq9.out]); exact ⟨(wrap64 (x8_2 + 1)), (by first | rfl | (simp; done) | (simp [*]; done)), H', ⟨by have := HK1.out; have := HK2.out; omega⟩, ⟨by repeat (first | (with_reducible first | exact HB.out | apply below_alloc | apply pw_below_drewN | apply below_drew1 | refine below_set ?_ GE104.out))⟩⟩
         ·rw [if_neg c8] at H
          exact absurd H (by simp)
        ·rw [if_neg c7] at H
         have c7b0 : decide (x8_2 < (((rd_T44 l0 x7_1).f3).length : Int)) = false := decide_eq_false c7
         clear c7
         have H' := Aside0.mk H
         clear H
         have p101 : 0 ≤ (x7_1 : Int) := of_decide_eq_true (by assumption)
         have q101 : x7_1 < (l0.length : Int) := of_decide_eq_true (by assumption)
         obtain ⟨ad101, A101_3, c101_3, e101, hx101_0, hx101_1, hx101_2, hx101_3, hl101_3, hi101_3⟩ := at_T44 HR0.out x7_1 p101 q101
         cases e101
         replace hx101_0 := (HB.out.cell (World.block_lt_of_cell? w _ hx101_0)).trans hx101_0
         replace hx101_1 := (HB.out.cell (World.block_lt_of_cell? w _ hx101_1)).trans hx101_1
         replace hx101_2 := (HB.out.cell (World.block_lt_of_cell? w _ hx101_2)).trans hx101_2
         replace hx101_3 := (HB.out.cell (World.block_lt_of_cell? w _ hx101_3)).trans hx101_3
         have HR101_3 := Aside0.mk hi101_3
         have HC101_3 := Aside0.mk hl101_3
         clear hi101_3 hl101_3
         replace p101 := eq_true p101
         replace q101 := eq_true q101
         go_wp2
         go_roundg k2
         case measure => have := HK1.out; have := HK2.out; omega
         case rel => exact ⟨(wrap64 (x7_1 + 1)), (by first | rfl | (simp; done) | (simp [*]; done)), H', ⟨by have := HK1.out; have := HK2.out; omega⟩, ⟨by repeat (first | (with_reducible first | exact HB.out | apply below_alloc | apply pw_below_drewN | apply below_drew1))⟩⟩
       ·rw [if_neg c6] at H
        exact absurd H (by simp)
      ·rw [if_neg c5] at H
       exact absurd H (by simp)
   ·rw [if_neg c4] at H
    have c4b0 : decide (x7_1 < (l0.length : Int)) = false := decide_eq_false c4
    clear c4
    obtain rfl := Option.some.inj H
    go_wp2
    go_ret
    exact ⟨by first | rfl | (simp <;> rfl) | (simp [*] <;> rfl), by repeat (first | (with_reducible first | exact HB.out | apply below_alloc | apply pw_below_drewN | apply below_drew1))⟩
end Go.Proofs.Ytfocaefnmfkojaa.Q
