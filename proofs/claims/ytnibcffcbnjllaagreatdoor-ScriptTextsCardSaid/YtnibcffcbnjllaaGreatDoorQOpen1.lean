/- Arguments opened: slices of numbers, of names, of timed inputs, of schedules; scripts; what is taken back. -/
import Derived.ProofKit
import Derived.OpenShut
import Derived.SizedLaws
import Derived.Deep.Slices
import Derived.Deep.Fields
import Derived.Lib.SmallJoins
import Derived.Test.YtnibcffcbnjllaaGreatDoorQScr2
import Derived.Test.YtnibcffcbnjllaaGreatDoorQBoxes
namespace Go.Proofs.YtnibcffcbnjllaaGreatDoor
open Go.RowKit Go.ChangeShapes Go.WideShapes Go.Deep Go.Joins

theorem exists_list {α : Type} (p : Nat → α → Prop) : ∀ n, (∀ i, i < n → ∃ x, p i x) → ∃ l : List α, l.length = n ∧ ∀ i x, l[i]? = some x → p i x
  | 0, _ => ⟨[], rfl, fun i x h => by simp at h⟩
  | n + 1, h => by
    obtain ⟨l, hl, hp⟩ := exists_list p n (fun i hi => h i (by omega))
    obtain ⟨x, hx⟩ := h n (by omega)
    refine ⟨l ++ [x], by simp [hl], fun i y hy => ?_⟩
    rcases Nat.lt_or_ge i n with hi | hi
    · rw [List.getElem?_append_left (by omega)] at hy
      exact hp i y hy
    · rw [List.getElem?_append_right (by omega)] at hy
      have : i = n := by
        have := (List.getElem?_eq_some_iff.1 hy).1
        simp at this
        omega
      subst this
      rw [hl, Nat.sub_self] at hy
      simp at hy
      subst hy
      exact hx

theorem Row.of_add {w : World} {a : Addr} {n size : Nat} {xs : List Value} (hl : xs.length = n * size) (hs : 0 < size) (h : ∀ j u, xs[j]? = some u → w.cell? (a.add j) = some u) : Row w w.heap.size size (some a) n xs := by
  refine ⟨hl, fun hn => ?_⟩
  have hpos : 0 < xs.length := by rw [hl]; exact Nat.mul_pos hn hs
  obtain ⟨b, off, spot⟩ := a
  have h0 := h 0 xs[0] (List.getElem?_eq_getElem hpos)
  have hspot : spot = none := by simpa [Addr.add] using World.cell?_spot h0
  subst hspot
  refine ⟨b, off, rfl, ?_, fun j u hu => ?_⟩
  · have := World.block_lt_of_cell? _ _ h0
    simpa [Addr.add] using this
  · have := h j u hu
    rwa [Go.WideShapes.add_plain] at this

section
variable {H : Type} {enc : TypeId × Value → H} {w : World} {fuel : Nat} {cs : List Value} {x : DataW H × List MemPlace}
theorem op_int {t : TypeId} (ht : Tryz.prog.underlying t = some (.int .i64)) (h : DataW.trod enc Tryz.prog w 0 (fun _ => true) true fuel t cs = some x) : ∃ k : Int, cs = [.int .i64 k] ∧ I64 k := by
  obtain ⟨k, e, _, hw⟩ := DataW.trod_int ht h
  exact ⟨k, e, by
    unfold I64
    have := bounds_i64 hw
    exact this⟩
/-- A datum within the form's reach. -/
def Fits (t : TypeId) (d : DataW H) : Prop := ∀ k ∈ d.weights Tryz.prog t, k ≤ reachBytes
theorem weightsAll_mem {e : TypeId} {d : DataW H} : ∀ {l : List (DataW H)}, d ∈ l → ∀ k ∈ d.weights Tryz.prog e, k ∈ DataW.weightsAll Tryz.prog e l
  | a :: l, h, k, hk => by
    simp only [DataW.weightsAll, List.mem_append]
    rcases List.mem_cons.1 h with rfl | h
    · exact .inl hk
    · exact .inr (weightsAll_mem h k hk)
theorem Fits.slice {t e : TypeId} {elems spare : List (DataW H)} (hu : Tryz.prog.underlying t = some (.slice e)) (h : Fits t (.slice elems spare)) : (elems.length + spare.length) * Tryz.prog.bytesOf e ≤ reachBytes :=
  h _ (by simp [DataW.weights, hu])
theorem Fits.elem {t e : TypeId} {elems spare : List (DataW H)} (hu : Tryz.prog.underlying t = some (.slice e)) (h : Fits t (.slice elems spare)) {d : DataW H} (hd : d ∈ elems) : Fits e d :=
  fun k hk => h k (by
    simp only [DataW.weights, hu, List.mem_cons, List.mem_append]
    exact .inr (.inl (weightsAll_mem hd k hk)))
theorem Fits.field {t : TypeId} {fs : Array Field} {parts : List (DataW H)} {j : Nat} {f : Field} {d : DataW H} (hu : Tryz.prog.underlying t = some (.struct fs)) (h : Fits t (.agg parts)) (hf : fs[j]? = some f) (hd : parts[j]? = some d) : Fits f.type d :=
  fun k hk => h k (by
    simp only [DataW.weights, hu]
    exact DataW.weights_mem_each (t := f.type) (by rw [List.getElem?_map, Array.getElem?_toList, hf]; rfl) hd k hk)

theorem op_ints (hw : Fits 36 x.1) (h : DataW.trod enc Tryz.prog w 0 (fun _ => true) true fuel 36 cs = some x) :
    ∃ A n c, ∃ xs : List Int, cs = [.slice A n c] ∧ Row w w.heap.size 1 A n (xs.map encI) ∧ n ≤ 4611686018427387904 ∧ ∀ y ∈ xs, I64 y := by
  rcases open_ints Tryz.underlying36 Tryz.underlying3 (by kernel_rfl) h with ⟨hcs, _⟩ | ⟨a, len, cap, zs, hcs, _, hl, hm, hz, rfl, hcell, hwz⟩
  · exact ⟨none, 0, 0, [], hcs, Row.nil_, by omega, fun y hy => by simp at hy⟩
  · simp only [if_true] at hz
    have hreach := hw.slice Tryz.underlying36
    rw [show Tryz.prog.bytesOf 3 = 8 by kernel_rfl] at hreach
    simp only [lits, List.length_map, List.length_take, List.length_drop, reachBytes] at hreach
    refine ⟨some a, len, cap, zs.take len, hcs, Row.of_add (by simp; omega) (by omega) fun j u hu => ?_, by omega, fun y hy => ?_⟩
    · rw [List.getElem?_map] at hu
      obtain ⟨y, hy, rfl⟩ := Option.map_eq_some_iff.1 hu
      have hj := (List.getElem?_eq_some_iff.1 hy).1
      simp only [List.length_take] at hj
      rw [List.getElem?_take_of_lt (by omega)] at hy
      rw [hcell j (by omega), List.getD_eq_getElem?_getD, hy]
      rfl
    · unfold I64
      exact bounds_i64 (hwz y (List.mem_of_mem_take hy))
theorem op_names (hw : Fits 38 x.1) (h : DataW.trod enc Tryz.prog w 0 (fun _ => true) true fuel 38 cs = some x) :
    ∃ A n c, ∃ xs : List Nm, cs = [.slice A n c] ∧ Row w w.heap.size 1 A n (xs.map encN) ∧ n ≤ 4611686018427387904 := by
  rcases open_strings Tryz.underlying38 Tryz.underlying53 (by kernel_rfl) h with ⟨hcs, _⟩ | ⟨a, len, cap, ss, hcs, _, hl, hm, hz, rfl, hcell, _⟩
  · exact ⟨none, 0, 0, [], hcs, Row.nil_, by omega⟩
  · simp only [if_true] at hz
    have hreach := hw.slice Tryz.underlying38
    rw [show Tryz.prog.bytesOf 53 = 16 by kernel_rfl] at hreach
    simp only [strs, List.length_map, List.length_take, List.length_drop, reachBytes] at hreach
    refine ⟨some a, len, cap, (ss.take len).map (·.data.toList), hcs, Row.of_add (by simp; omega) (by omega) fun j u hu => ?_, by omega⟩
    rw [List.getElem?_map, List.getElem?_map] at hu
    obtain ⟨y, hy, rfl⟩ := Option.map_eq_some_iff.1 hu
    obtain ⟨s, hs, rfl⟩ := Option.map_eq_some_iff.1 hy
    have hj := (List.getElem?_eq_some_iff.1 hs).1
    simp only [List.length_take] at hj
    rw [List.getElem?_take_of_lt (by omega)] at hs
    rw [hcell j (by omega), List.getD_eq_getElem?_getD, hs]
    rfl

set_option maxRecDepth 100000 in
theorem op_inp (h : DataW.trod enc Tryz.prog w 0 (fun _ => true) true fuel 31 cs = some x) : ∃ i : Inp, cs = inpCells i := by
  obtain ⟨xs, n, _, _, hlen, hxl, hf⟩ := DataW.trod_struct Tryz.underlying31 h
  have hlen' : cs.length = 5 := hlen.trans (by kernel_rfl)
  match cs, hlen' with
  | [c0, c1, c2, c3, c4], _ =>
    have q : ∀ j, j < 5 → ∃ y, xs[j]? = some y := fun j hj => ⟨_, List.getElem?_eq_getElem (by rw [hxl]; exact hj)⟩
    obtain ⟨y0, e0⟩ := q 0 (by omega)
    obtain ⟨y1, e1⟩ := q 1 (by omega)
    obtain ⟨y2, e2⟩ := q 2 (by omega)
    obtain ⟨y3, e3⟩ := q 3 (by omega)
    obtain ⟨y4, e4⟩ := q 4 (by omega)
    have k3 : Tryz.prog.cellsOf 3 = 1 := by kernel_rfl
    have k9 : Tryz.prog.cellsOf 9 = 1 := by kernel_rfl
    have f0 : DataW.trod enc Tryz.prog w 0 (fun _ => true) true n 3 (([c0, c1, c2, c3, c4].drop 0).take (Tryz.prog.cellsOf 3)) = some y0 := (hf 0 _ rfl).trans e0
    have f1 : DataW.trod enc Tryz.prog w 0 (fun _ => true) true n 3 (([c0, c1, c2, c3, c4].drop 1).take (Tryz.prog.cellsOf 3)) = some y1 := (hf 1 _ rfl).trans e1
    have f2 : DataW.trod enc Tryz.prog w 0 (fun _ => true) true n 9 (([c0, c1, c2, c3, c4].drop 2).take (Tryz.prog.cellsOf 9)) = some y2 := (hf 2 _ rfl).trans e2
    have f3 : DataW.trod enc Tryz.prog w 0 (fun _ => true) true n 9 (([c0, c1, c2, c3, c4].drop 3).take (Tryz.prog.cellsOf 9)) = some y3 := (hf 3 _ rfl).trans e3
    have f4 : DataW.trod enc Tryz.prog w 0 (fun _ => true) true n 9 (([c0, c1, c2, c3, c4].drop 4).take (Tryz.prog.cellsOf 9)) = some y4 := (hf 4 _ rfl).trans e4
    rw [k3] at f0 f1
    rw [k9] at f2 f3 f4
    obtain ⟨a0, g0, _, _⟩ := DataW.trod_int Tryz.underlying3 f0
    obtain ⟨a1, g1, _, _⟩ := DataW.trod_int Tryz.underlying3 f1
    obtain ⟨s2, g2, _, _⟩ := DataW.trod_string Tryz.underlying9 f2
    obtain ⟨s3, g3, _, _⟩ := DataW.trod_string Tryz.underlying9 f3
    obtain ⟨s4, g4, _, _⟩ := DataW.trod_string Tryz.underlying9 f4
    simp at g0 g1 g2 g3 g4
    subst g0 g1 g2 g3 g4
    exact ⟨⟨a0, a1, s2.data.toList, s3.data.toList, s4.data.toList⟩, rfl⟩

set_option maxRecDepth 100000 in
theorem op_tmd (h : DataW.trod enc Tryz.prog w 0 (fun _ => true) true fuel 33 cs = some x) : ∃ t : Tmd, cs = tmdCells t := by
  obtain ⟨xs, n, _, _, hlen, hxl, hf⟩ := DataW.trod_struct Tryz.underlying33 h
  have hlen' : cs.length = 6 := hlen.trans (by kernel_rfl)
  match cs, hlen' with
  | [c0, c1, c2, c3, c4, c5], _ =>
    have q : ∀ j, j < 2 → ∃ y, xs[j]? = some y := fun j hj => ⟨_, List.getElem?_eq_getElem (by rw [hxl]; exact hj)⟩
    obtain ⟨y0, e0⟩ := q 0 (by omega)
    obtain ⟨y1, e1⟩ := q 1 (by omega)
    have k3 : Tryz.prog.cellsOf 3 = 1 := by kernel_rfl
    have k5 : Tryz.prog.cellsOf 31 = 5 := by kernel_rfl
    have f0 : DataW.trod enc Tryz.prog w 0 (fun _ => true) true n 3 (([c0, c1, c2, c3, c4, c5].drop 0).take (Tryz.prog.cellsOf 3)) = some y0 := (hf 0 _ rfl).trans e0
    have f1 : DataW.trod enc Tryz.prog w 0 (fun _ => true) true n 31 (([c0, c1, c2, c3, c4, c5].drop 1).take (Tryz.prog.cellsOf 31)) = some y1 := (hf 1 _ rfl).trans e1
    rw [k3] at f0
    rw [k5] at f1
    obtain ⟨a0, g0, _, _⟩ := DataW.trod_int Tryz.underlying3 f0
    obtain ⟨i, g1⟩ := op_inp f1
    simp at g0 g1
    subst g0
    exact ⟨⟨a0, i⟩, by unfold tmdCells; rw [← g1]⟩

theorem flat_len : ∀ l : List Tmd, (l.flatMap tmdCells).length = l.length * 6
  | [] => rfl
  | t :: l => by
    have h : (tmdCells t).length = 6 := rfl
    rw [List.flatMap_cons, List.length_append, flat_len l, List.length_cons, h]
    omega
theorem flat_cells {a : Addr} {l : List Tmd} (h : ∀ (k : Nat) (t : Tmd), l[k]? = some t → ∀ (r : Nat) (u : Value), (tmdCells t)[r]? = some u → w.cell? (a.add (k * 6 + r)) = some u) :
    ∀ j u, (l.flatMap tmdCells)[j]? = some u → w.cell? (a.add j) = some u := by
  intro j u hu
  have hlen := flat_len l
  have hj := (List.getElem?_eq_some_iff.1 hu).1
  rw [hlen] at hj
  have hk : j / 6 < l.length := by omega
  have hl := List.getElem?_eq_getElem hk
  have e : j = 6 * (j / 6) + j % 6 := by omega
  have hfa := flat_at l (j / 6) (j % 6) _ hl (by omega)
  rw [← e, hu] at hfa
  have := h _ _ hl _ _ hfa.symm
  rwa [show j / 6 * 6 + j % 6 = j by omega] at this

theorem op_tmds (hw : Fits 22 x.1) (h : DataW.trod enc Tryz.prog w 0 (fun _ => true) true fuel 22 cs = some x) :
    ∃ A n c, ∃ l : List Tmd, cs = [.slice A n c] ∧ Row w w.heap.size 6 A n (l.flatMap tmdCells) ∧ l.length = n ∧ n ≤ 4611686018427387904 := by
  rcases open_slice Tryz.underlying22 h with ⟨hcs, _⟩ | ⟨a, len, cap, m, n, D, Pl, hcs, _, hl, hm, hmm, rfl, hi⟩
  · exact ⟨none, 0, 0, [], hcs, Row.nil_, rfl, by omega⟩
  · replace hmm : m = cap := by simpa using hmm
    have k6 : Tryz.prog.cellsOf 33 = 6 := by kernel_rfl
    have hreach := hw.slice Tryz.underlying22
    rw [show Tryz.prog.bytesOf 33 = 72 by kernel_rfl] at hreach
    simp only [List.length_map, List.length_range, reachBytes] at hreach
    rw [k6] at hi
    obtain ⟨l, hll, hp⟩ := exists_list (fun i (t : Tmd) => ∀ (r : Nat) (u : Value), (tmdCells t)[r]? = some u → w.cell? (a.add (i * 6 + r)) = some u) len (fun i hi' => by
      obtain ⟨cs', hc, ht'⟩ := hi i (by omega)
      obtain ⟨t, rfl⟩ := op_tmd ht'
      obtain ⟨_, hcl, hat⟩ := World.cells?_some hc
      refine ⟨t, fun r u hu => ?_⟩
      have hr : r < 6 := (List.getElem?_eq_some_iff.1 hu).1
      rw [← Go.Deep.add_add, hat r hr, hu])
    have hlen : (l.flatMap tmdCells).length = len * 6 := by rw [flat_len, hll]
    exact ⟨some a, len, cap, l, hcs, Row.of_add hlen (by omega) (flat_cells fun k t hk => hp k t hk), hll, by omega⟩

theorem op_scheds (hw : Fits 23 x.1) (h : DataW.trod enc Tryz.prog w 0 (fun _ => true) true fuel 23 cs = some x) :
    ∃ A n c, ∃ l : List (List Nm), cs = [.slice A n c] ∧ Rows2 w w.heap.size A n l ∧ n ≤ 4611686018427387904 := by
  rcases open_slice Tryz.underlying23 h with ⟨hcs, _⟩ | ⟨a, len, cap, m, n, D, Pl, hcs, _, hl, hm, hmm, rfl, hi⟩
  · exact ⟨none, 0, 0, [], hcs, ⟨[], Row.nil_, rfl, fun k x h => by simp at h⟩, by omega⟩
  · replace hmm : m = cap := by simpa using hmm
    have k1 : Tryz.prog.cellsOf 38 = 1 := by kernel_rfl
    rw [k1] at hi
    have hreach := hw.slice Tryz.underlying23
    rw [show Tryz.prog.bytesOf 38 = 24 by kernel_rfl] at hreach
    simp only [List.length_map, List.length_range, reachBytes] at hreach
    obtain ⟨l, hll, hp⟩ := exists_list (fun i (q : Value × List Nm) => w.cell? (a.add i) = some q.1 ∧ ∃ A' c', q.1 = .slice A' q.2.length c' ∧ Row w w.heap.size 1 A' q.2.length (q.2.map encN) ∧ q.2.length ≤ 4611686018427387904) len (fun i hi' => by
      obtain ⟨cs', hc, ht'⟩ := hi i (by omega)
      obtain ⟨A', n', c', xs, rfl, hr, hn⟩ := op_names (hw.elem Tryz.underlying23 (List.mem_map.2 ⟨i, List.mem_range.2 hi', rfl⟩)) ht'
      obtain ⟨_, hcl, hat⟩ := World.cells?_some hc
      have h0 := hat 0 (by omega)
      have hx : xs.length = n' := by simpa using hr.1
      subst hx
      refine ⟨(.slice A' xs.length c', xs), ?_, A', c', rfl, hr, hn⟩
      rw [Nat.mul_one] at h0
      simpa [Addr.add] using h0)
    refine ⟨some a, len, cap, l.map (·.2), hcs, ⟨l.map (·.1), Row.of_add (by simp [hll]) (by omega) fun j u hu => ?_, by simp [hll], fun k x hx => ?_⟩, by omega⟩
    · rw [List.getElem?_map] at hu
      obtain ⟨q, hq, rfl⟩ := Option.map_eq_some_iff.1 hu
      exact (hp j q hq).1
    · rw [List.getElem?_map] at hx
      obtain ⟨q, hq, rfl⟩ := Option.map_eq_some_iff.1 hx
      obtain ⟨_, A', c', e, hr, hn⟩ := hp k q hq
      exact ⟨A', c', by rw [List.getElem?_map, hq]; simp [e], hr, hn⟩
end

end Go.Proofs.YtnibcffcbnjllaaGreatDoor
