/- Arguments opened: slices of numbers, of names, of timed inputs, of schedules; scripts; what is taken back. -/
import Derived.ProofKit
import Derived.OpenShut
import Derived.SizedLaws
import Derived.Deep.Slices
import Derived.Deep.Fields
import Derived.Lib.SmallJoins
import Derived.LaidMore
import Derived.Lib.LaidTab
import Derived.Stop.Joined
import Derived.Shelf.Vars
import Derived.Stop.LaidErr
import Derived.Deep.DeepHandedRow
import Derived.SevenTiedAt
import Derived.JoinedCond
import Derived.Test.YtnibcffcbnjllaaGreatDoorScr2
import Derived.Test.YtnibcffcbnjllaaGreatDoorBoxes
import Derived.Test.YtnibcffcbnjllaaGreatDoorLin5
import Derived.Test.YtnibcffcbnjllaaGreatDoorRows
import Derived.Test.YtnibcffcbnjllaaGreatDoorKn2
import Derived.Test.YtnibcffcbnjllaaGreatDoorKn3
import Derived.Test.YtnibcffcbnjllaaGreatDoorKn5
import Derived.Test.YtnibcffcbnjllaaGreatDoorPar2
import Derived.Test.YtnibcffcbnjllaaGreatDoorCards
import Derived.Test.YtnibcffcbnjllaaGreatDoorTie
namespace Go.Proofs.YtnibcffcbnjllaaGreatDoor
open Go.RowKit Go.ChangeShapes Go.WideShapes Go.Deep Go.Joins

theorem exists_list {α : Type} (p : Nat → α → Prop) : ∀ n, (∀ i, i < n → ∃ x, p i x) → ∃ l : List α, l.length = n ∧ ∀ i x, l[i]? = some x → p i x
  | 0, _ => ⟨[], rfl, fun i x h => by simp at h⟩
  | n + 1, h => by
    obtain ⟨l, hl, hp⟩ := exists_list p n (fun i hi => h i (by omega))
    obtain ⟨x, hx⟩ := h n (by omega)
    refine ⟨l ++ [x], by simp [hl], fun i y hy => ?_⟩
    rcases Nat.lt_or_ge i n with hi | hi
    · rw [List.getElem?_append_left (by omega)] at hy
      exact hp i y hy
    · rw [List.getElem?_append_right (by omega)] at hy
      have : i = n := by
        have := (List.getElem?_eq_some_iff.1 hy).1
        simp at this
        omega
      subst this
      rw [hl, Nat.sub_self] at hy
      simp at hy
      subst hy
      exact hx

theorem Row.of_add {w : World} {a : Addr} {n size : Nat} {xs : List Value} (hl : xs.length = n * size) (hs : 0 < size) (h : ∀ j u, xs[j]? = some u → w.cell? (a.add j) = some u) : Row w w.heap.size size (some a) n xs := by
  refine ⟨hl, fun hn => ?_⟩
  have hpos : 0 < xs.length := by rw [hl]; exact Nat.mul_pos hn hs
  obtain ⟨b, off, spot⟩ := a
  have h0 := h 0 xs[0] (List.getElem?_eq_getElem hpos)
  have hspot : spot = none := by simpa [Addr.add] using World.cell?_spot h0
  subst hspot
  refine ⟨b, off, rfl, ?_, fun j u hu => ?_⟩
  · have := World.block_lt_of_cell? _ _ h0
    simpa [Addr.add] using this
  · have := h j u hu
    rwa [Go.WideShapes.add_plain] at this

section
variable {H : Type} {enc : TypeId × Value → H} {w : World} {fuel : Nat} {cs : List Value} {x : DataW H × List MemPlace}
theorem op_int {t : TypeId} (ht : Tryz.prog.underlying t = some (.int .i64)) (h : DataW.trod enc Tryz.prog w 0 (fun _ => true) true fuel t cs = some x) : ∃ k : Int, cs = [.int .i64 k] ∧ I64 k := by
  obtain ⟨k, e, _, hw⟩ := DataW.trod_int ht h
  exact ⟨k, e, by
    unfold I64
    have := bounds_i64 hw
    exact this⟩
/-- A datum within the form's reach. -/
def Fits (t : TypeId) (d : DataW H) : Prop := ∀ k ∈ d.weights Tryz.prog t, k ≤ reachBytes
theorem weightsAll_mem {e : TypeId} {d : DataW H} : ∀ {l : List (DataW H)}, d ∈ l → ∀ k ∈ d.weights Tryz.prog e, k ∈ DataW.weightsAll Tryz.prog e l
  | a :: l, h, k, hk => by
    simp only [DataW.weightsAll, List.mem_append]
    rcases List.mem_cons.1 h with rfl | h
    · exact .inl hk
    · exact .inr (weightsAll_mem h k hk)
theorem Fits.slice {t e : TypeId} {elems spare : List (DataW H)} (hu : Tryz.prog.underlying t = some (.slice e)) (h : Fits t (.slice elems spare)) : (elems.length + spare.length) * Tryz.prog.bytesOf e ≤ reachBytes :=
  h _ (by simp [DataW.weights, hu])
theorem Fits.elem {t e : TypeId} {elems spare : List (DataW H)} (hu : Tryz.prog.underlying t = some (.slice e)) (h : Fits t (.slice elems spare)) {d : DataW H} (hd : d ∈ elems) : Fits e d :=
  fun k hk => h k (by
    simp only [DataW.weights, hu, List.mem_cons, List.mem_append]
    exact .inr (.inl (weightsAll_mem hd k hk)))
theorem Fits.field {t : TypeId} {fs : Array Field} {parts : List (DataW H)} {j : Nat} {f : Field} {d : DataW H} (hu : Tryz.prog.underlying t = some (.struct fs)) (h : Fits t (.agg parts)) (hf : fs[j]? = some f) (hd : parts[j]? = some d) : Fits f.type d :=
  fun k hk => h k (by
    simp only [DataW.weights, hu]
    exact DataW.weights_mem_each (t := f.type) (by rw [List.getElem?_map, Array.getElem?_toList, hf]; rfl) hd k hk)

theorem op_ints (hw : Fits 36 x.1) (h : DataW.trod enc Tryz.prog w 0 (fun _ => true) true fuel 36 cs = some x) :
    ∃ A n c, ∃ xs : List Int, cs = [.slice A n c] ∧ Row w w.heap.size 1 A n (xs.map encI) ∧ n ≤ 4611686018427387904 ∧ ∀ y ∈ xs, I64 y := by
  rcases open_ints Tryz.underlying36 Tryz.underlying3 (by kernel_rfl) h with ⟨hcs, _⟩ | ⟨a, len, cap, zs, hcs, _, hl, hm, hz, rfl, hcell, hwz⟩
  · exact ⟨none, 0, 0, [], hcs, Row.nil_, by omega, fun y hy => by simp at hy⟩
  · simp only [if_true] at hz
    have hreach := hw.slice Tryz.underlying36
    rw [show Tryz.prog.bytesOf 3 = 8 by kernel_rfl] at hreach
    simp only [lits, List.length_map, List.length_take, List.length_drop, reachBytes] at hreach
    refine ⟨some a, len, cap, zs.take len, hcs, Row.of_add (by simp; omega) (by omega) fun j u hu => ?_, by omega, fun y hy => ?_⟩
    · rw [List.getElem?_map] at hu
      obtain ⟨y, hy, rfl⟩ := Option.map_eq_some_iff.1 hu
      have hj := (List.getElem?_eq_some_iff.1 hy).1
      simp only [List.length_take] at hj
      rw [List.getElem?_take_of_lt (by omega)] at hy
      rw [hcell j (by omega), List.getD_eq_getElem?_getD, hy]
      rfl
    · unfold I64
      exact bounds_i64 (hwz y (List.mem_of_mem_take hy))
theorem op_names (hw : Fits 38 x.1) (h : DataW.trod enc Tryz.prog w 0 (fun _ => true) true fuel 38 cs = some x) :
    ∃ A n c, ∃ xs : List Nm, cs = [.slice A n c] ∧ Row w w.heap.size 1 A n (xs.map encN) ∧ n ≤ 4611686018427387904 := by
  rcases open_strings Tryz.underlying38 Tryz.underlying53 (by kernel_rfl) h with ⟨hcs, _⟩ | ⟨a, len, cap, ss, hcs, _, hl, hm, hz, rfl, hcell, _⟩
  · exact ⟨none, 0, 0, [], hcs, Row.nil_, by omega⟩
  · simp only [if_true] at hz
    have hreach := hw.slice Tryz.underlying38
    rw [show Tryz.prog.bytesOf 53 = 16 by kernel_rfl] at hreach
    simp only [strs, List.length_map, List.length_take, List.length_drop, reachBytes] at hreach
    refine ⟨some a, len, cap, (ss.take len).map (·.data.toList), hcs, Row.of_add (by simp; omega) (by omega) fun j u hu => ?_, by omega⟩
    rw [List.getElem?_map, List.getElem?_map] at hu
    obtain ⟨y, hy, rfl⟩ := Option.map_eq_some_iff.1 hu
    obtain ⟨s, hs, rfl⟩ := Option.map_eq_some_iff.1 hy
    have hj := (List.getElem?_eq_some_iff.1 hs).1
    simp only [List.length_take] at hj
    rw [List.getElem?_take_of_lt (by omega)] at hs
    rw [hcell j (by omega), List.getD_eq_getElem?_getD, hs]
    rfl

set_option maxRecDepth 100000 in
theorem op_inp (h : DataW.trod enc Tryz.prog w 0 (fun _ => true) true fuel 31 cs = some x) : ∃ i : Inp, cs = inpCells i := by
  obtain ⟨xs, n, _, _, hlen, hxl, hf⟩ := DataW.trod_struct Tryz.underlying31 h
  have hlen' : cs.length = 5 := hlen.trans (by kernel_rfl)
  match cs, hlen' with
  | [c0, c1, c2, c3, c4], _ =>
    have q : ∀ j, j < 5 → ∃ y, xs[j]? = some y := fun j hj => ⟨_, List.getElem?_eq_getElem (by rw [hxl]; exact hj)⟩
    obtain ⟨y0, e0⟩ := q 0 (by omega)
    obtain ⟨y1, e1⟩ := q 1 (by omega)
    obtain ⟨y2, e2⟩ := q 2 (by omega)
    obtain ⟨y3, e3⟩ := q 3 (by omega)
    obtain ⟨y4, e4⟩ := q 4 (by omega)
    have k3 : Tryz.prog.cellsOf 3 = 1 := by kernel_rfl
    have k9 : Tryz.prog.cellsOf 9 = 1 := by kernel_rfl
    have f0 : DataW.trod enc Tryz.prog w 0 (fun _ => true) true n 3 (([c0, c1, c2, c3, c4].drop 0).take (Tryz.prog.cellsOf 3)) = some y0 := (hf 0 _ rfl).trans e0
    have f1 : DataW.trod enc Tryz.prog w 0 (fun _ => true) true n 3 (([c0, c1, c2, c3, c4].drop 1).take (Tryz.prog.cellsOf 3)) = some y1 := (hf 1 _ rfl).trans e1
    have f2 : DataW.trod enc Tryz.prog w 0 (fun _ => true) true n 9 (([c0, c1, c2, c3, c4].drop 2).take (Tryz.prog.cellsOf 9)) = some y2 := (hf 2 _ rfl).trans e2
    have f3 : DataW.trod enc Tryz.prog w 0 (fun _ => true) true n 9 (([c0, c1, c2, c3, c4].drop 3).take (Tryz.prog.cellsOf 9)) = some y3 := (hf 3 _ rfl).trans e3
    have f4 : DataW.trod enc Tryz.prog w 0 (fun _ => true) true n 9 (([c0, c1, c2, c3, c4].drop 4).take (Tryz.prog.cellsOf 9)) = some y4 := (hf 4 _ rfl).trans e4
    rw [k3] at f0 f1
    rw [k9] at f2 f3 f4
    obtain ⟨a0, g0, _, _⟩ := DataW.trod_int Tryz.underlying3 f0
    obtain ⟨a1, g1, _, _⟩ := DataW.trod_int Tryz.underlying3 f1
    obtain ⟨s2, g2, _, _⟩ := DataW.trod_string Tryz.underlying9 f2
    obtain ⟨s3, g3, _, _⟩ := DataW.trod_string Tryz.underlying9 f3
    obtain ⟨s4, g4, _, _⟩ := DataW.trod_string Tryz.underlying9 f4
    simp at g0 g1 g2 g3 g4
    subst g0 g1 g2 g3 g4
    exact ⟨⟨a0, a1, s2.data.toList, s3.data.toList, s4.data.toList⟩, rfl⟩

set_option maxRecDepth 100000 in
theorem op_tmd (h : DataW.trod enc Tryz.prog w 0 (fun _ => true) true fuel 33 cs = some x) : ∃ t : Tmd, cs = tmdCells t := by
  obtain ⟨xs, n, _, _, hlen, hxl, hf⟩ := DataW.trod_struct Tryz.underlying33 h
  have hlen' : cs.length = 6 := hlen.trans (by kernel_rfl)
  match cs, hlen' with
  | [c0, c1, c2, c3, c4, c5], _ =>
    have q : ∀ j, j < 2 → ∃ y, xs[j]? = some y := fun j hj => ⟨_, List.getElem?_eq_getElem (by rw [hxl]; exact hj)⟩
    obtain ⟨y0, e0⟩ := q 0 (by omega)
    obtain ⟨y1, e1⟩ := q 1 (by omega)
    have k3 : Tryz.prog.cellsOf 3 = 1 := by kernel_rfl
    have k5 : Tryz.prog.cellsOf 31 = 5 := by kernel_rfl
    have f0 : DataW.trod enc Tryz.prog w 0 (fun _ => true) true n 3 (([c0, c1, c2, c3, c4, c5].drop 0).take (Tryz.prog.cellsOf 3)) = some y0 := (hf 0 _ rfl).trans e0
    have f1 : DataW.trod enc Tryz.prog w 0 (fun _ => true) true n 31 (([c0, c1, c2, c3, c4, c5].drop 1).take (Tryz.prog.cellsOf 31)) = some y1 := (hf 1 _ rfl).trans e1
    rw [k3] at f0
    rw [k5] at f1
    obtain ⟨a0, g0, _, _⟩ := DataW.trod_int Tryz.underlying3 f0
    obtain ⟨i, g1⟩ := op_inp f1
    simp at g0 g1
    subst g0
    exact ⟨⟨a0, i⟩, by unfold tmdCells; rw [← g1]⟩

theorem flat_len : ∀ l : List Tmd, (l.flatMap tmdCells).length = l.length * 6
  | [] => rfl
  | t :: l => by
    have h : (tmdCells t).length = 6 := rfl
    rw [List.flatMap_cons, List.length_append, flat_len l, List.length_cons, h]
    omega
theorem flat_cells {a : Addr} {l : List Tmd} (h : ∀ (k : Nat) (t : Tmd), l[k]? = some t → ∀ (r : Nat) (u : Value), (tmdCells t)[r]? = some u → w.cell? (a.add (k * 6 + r)) = some u) :
    ∀ j u, (l.flatMap tmdCells)[j]? = some u → w.cell? (a.add j) = some u := by
  intro j u hu
  have hlen := flat_len l
  have hj := (List.getElem?_eq_some_iff.1 hu).1
  rw [hlen] at hj
  have hk : j / 6 < l.length := by omega
  have hl := List.getElem?_eq_getElem hk
  have e : j = 6 * (j / 6) + j % 6 := by omega
  have hfa := flat_at l (j / 6) (j % 6) _ hl (by omega)
  rw [← e, hu] at hfa
  have := h _ _ hl _ _ hfa.symm
  rwa [show j / 6 * 6 + j % 6 = j by omega] at this

theorem op_tmds (hw : Fits 22 x.1) (h : DataW.trod enc Tryz.prog w 0 (fun _ => true) true fuel 22 cs = some x) :
    ∃ A n c, ∃ l : List Tmd, cs = [.slice A n c] ∧ Row w w.heap.size 6 A n (l.flatMap tmdCells) ∧ l.length = n ∧ n ≤ 4611686018427387904 := by
  rcases open_slice Tryz.underlying22 h with ⟨hcs, _⟩ | ⟨a, len, cap, m, n, D, Pl, hcs, _, hl, hm, hmm, rfl, hi⟩
  · exact ⟨none, 0, 0, [], hcs, Row.nil_, rfl, by omega⟩
  · replace hmm : m = cap := by simpa using hmm
    have k6 : Tryz.prog.cellsOf 33 = 6 := by kernel_rfl
    have hreach := hw.slice Tryz.underlying22
    rw [show Tryz.prog.bytesOf 33 = 72 by kernel_rfl] at hreach
    simp only [List.length_map, List.length_range, reachBytes] at hreach
    rw [k6] at hi
    obtain ⟨l, hll, hp⟩ := exists_list (fun i (t : Tmd) => ∀ (r : Nat) (u : Value), (tmdCells t)[r]? = some u → w.cell? (a.add (i * 6 + r)) = some u) len (fun i hi' => by
      obtain ⟨cs', hc, ht'⟩ := hi i (by omega)
      obtain ⟨t, rfl⟩ := op_tmd ht'
      obtain ⟨_, hcl, hat⟩ := World.cells?_some hc
      refine ⟨t, fun r u hu => ?_⟩
      have hr : r < 6 := (List.getElem?_eq_some_iff.1 hu).1
      rw [← Go.Deep.add_add, hat r hr, hu])
    have hlen : (l.flatMap tmdCells).length = len * 6 := by rw [flat_len, hll]
    exact ⟨some a, len, cap, l, hcs, Row.of_add hlen (by omega) (flat_cells fun k t hk => hp k t hk), hll, by omega⟩

theorem op_scheds (hw : Fits 23 x.1) (h : DataW.trod enc Tryz.prog w 0 (fun _ => true) true fuel 23 cs = some x) :
    ∃ A n c, ∃ l : List (List Nm), cs = [.slice A n c] ∧ Rows2 w w.heap.size A n l ∧ n ≤ 4611686018427387904 := by
  rcases open_slice Tryz.underlying23 h with ⟨hcs, _⟩ | ⟨a, len, cap, m, n, D, Pl, hcs, _, hl, hm, hmm, rfl, hi⟩
  · exact ⟨none, 0, 0, [], hcs, ⟨[], Row.nil_, rfl, fun k x h => by simp at h⟩, by omega⟩
  · replace hmm : m = cap := by simpa using hmm
    have k1 : Tryz.prog.cellsOf 38 = 1 := by kernel_rfl
    rw [k1] at hi
    have hreach := hw.slice Tryz.underlying23
    rw [show Tryz.prog.bytesOf 38 = 24 by kernel_rfl] at hreach
    simp only [List.length_map, List.length_range, reachBytes] at hreach
    obtain ⟨l, hll, hp⟩ := exists_list (fun i (q : Value × List Nm) => w.cell? (a.add i) = some q.1 ∧ ∃ A' c', q.1 = .slice A' q.2.length c' ∧ Row w w.heap.size 1 A' q.2.length (q.2.map encN) ∧ q.2.length ≤ 4611686018427387904) len (fun i hi' => by
      obtain ⟨cs', hc, ht'⟩ := hi i (by omega)
      obtain ⟨A', n', c', xs, rfl, hr, hn⟩ := op_names (hw.elem Tryz.underlying23 (List.mem_map.2 ⟨i, List.mem_range.2 hi', rfl⟩)) ht'
      obtain ⟨_, hcl, hat⟩ := World.cells?_some hc
      have h0 := hat 0 (by omega)
      have hx : xs.length = n' := by simpa using hr.1
      subst hx
      refine ⟨(.slice A' xs.length c', xs), ?_, A', c', rfl, hr, hn⟩
      rw [Nat.mul_one] at h0
      simpa [Addr.add] using h0)
    refine ⟨some a, len, cap, l.map (·.2), hcs, ⟨l.map (·.1), Row.of_add (by simp [hll]) (by omega) fun j u hu => ?_, by simp [hll], fun k x hx => ?_⟩, by omega⟩
    · rw [List.getElem?_map] at hu
      obtain ⟨q, hq, rfl⟩ := Option.map_eq_some_iff.1 hu
      exact (hp j q hq).1
    · rw [List.getElem?_map] at hx
      obtain ⟨q, hq, rfl⟩ := Option.map_eq_some_iff.1 hx
      obtain ⟨_, A', c', e, hr, hn⟩ := hp k q hq
      exact ⟨A', c', by rw [List.getElem?_map, hq]; simp [e], hr, hn⟩
end

end Go.Proofs.YtnibcffcbnjllaaGreatDoor
/- A script among the arguments, opened; what the listed variables give. -/
namespace Go.Proofs.YtnibcffcbnjllaaGreatDoor
open Go.RowKit Go.ChangeShapes Go.WideShapes Go.Deep Go.Joins

section
variable {H : Type} {enc : TypeId × Value → H} {w : World}
set_option maxRecDepth 100000 in
theorem op_script {r : Reach} {b0 : Nat} {v : Value} {d : DataW H} {p : List MemPlace} (hv : Value.okWide Tryz.prog w r b0 25 v) (hw : Fits 25 d) (h : DataW.Trod enc Tryz.prog w 0 (fun _ => true) true 25 v d p) :
    ∃ S A A' n m c d', v = scrVal S A A' n m c d' ∧ ScrAt w w.heap.size A A' n m S ∧ I64 S.lo ∧ I64 S.hi ∧ I64 S.before := by
  obtain ⟨cs, rfl, hsz⟩ := okWide_struct Tryz.underlying25 hv
  obtain ⟨l⟩ := cs
  have hC : Tryz.prog.cellsOf 25 = 5 := by kernel_rfl
  match l, hsz.trans hC with
  | [c0, c1, c2, c3, c4], _ =>
    obtain ⟨fuel, hf⟩ := h
    obtain ⟨xs, n, _, hx, _, hxl, hg⟩ := DataW.trod_struct Tryz.underlying25 hf
    simp only [Prod.mk.injEq] at hx
    obtain ⟨rfl, _⟩ := hx
    have q : ∀ j, j < 5 → ∃ y, xs[j]? = some y := fun j hj => ⟨_, List.getElem?_eq_getElem (by rw [hxl]; exact hj)⟩
    obtain ⟨y0, e0⟩ := q 0 (by omega)
    obtain ⟨y1, e1⟩ := q 1 (by omega)
    obtain ⟨y2, e2⟩ := q 2 (by omega)
    obtain ⟨y3, e3⟩ := q 3 (by omega)
    obtain ⟨y4, e4⟩ := q 4 (by omega)
    have k3 : Tryz.prog.cellsOf 3 = 1 := by kernel_rfl
    have k22 : Tryz.prog.cellsOf 22 = 1 := by kernel_rfl
    have k23 : Tryz.prog.cellsOf 23 = 1 := by kernel_rfl
    have f0 : DataW.trod enc Tryz.prog w 0 (fun _ => true) true n 3 (([c0, c1, c2, c3, c4].drop 0).take (Tryz.prog.cellsOf 3)) = some y0 := (hg 0 _ rfl).trans e0
    have f1 : DataW.trod enc Tryz.prog w 0 (fun _ => true) true n 3 (([c0, c1, c2, c3, c4].drop 1).take (Tryz.prog.cellsOf 3)) = some y1 := (hg 1 _ rfl).trans e1
    have f2 : DataW.trod enc Tryz.prog w 0 (fun _ => true) true n 3 (([c0, c1, c2, c3, c4].drop 2).take (Tryz.prog.cellsOf 3)) = some y2 := (hg 2 _ rfl).trans e2
    have f3 : DataW.trod enc Tryz.prog w 0 (fun _ => true) true n 22 (([c0, c1, c2, c3, c4].drop 3).take (Tryz.prog.cellsOf 22)) = some y3 := (hg 3 _ rfl).trans e3
    have f4 : DataW.trod enc Tryz.prog w 0 (fun _ => true) true n 23 (([c0, c1, c2, c3, c4].drop 4).take (Tryz.prog.cellsOf 23)) = some y4 := (hg 4 _ rfl).trans e4
    rw [k3] at f0 f1 f2
    rw [k22] at f3
    rw [k23] at f4
    have w3 : Fits 22 y3.1 := hw.field (j := 3) Tryz.underlying25 rfl (by rw [List.getElem?_map, e3]; rfl)
    have w4 : Fits 23 y4.1 := hw.field (j := 4) Tryz.underlying25 rfl (by rw [List.getElem?_map, e4]; rfl)
    obtain ⟨a0, g0, b0⟩ := op_int Tryz.underlying3 f0
    obtain ⟨a1, g1, b1⟩ := op_int Tryz.underlying3 f1
    obtain ⟨a2, g2, b2⟩ := op_int Tryz.underlying3 f2
    obtain ⟨A, n3, c3', l3, g3, r3, hl3, hn3⟩ := op_tmds w3 f3
    obtain ⟨A', n4, c4', l4, g4, r4, hn4⟩ := op_scheds w4 f4
    simp at g0 g1 g2 g3 g4
    subst g0 g1 g2 g3 g4
    exact ⟨⟨a0, a1, a2, l3, l4⟩, A, A', n3, n4, c3', c4', rfl, ⟨r3, hl3, r4, hn3, hn4⟩, b0, b1, b2⟩

set_option maxRecDepth 100000 in
theorem op_without {r : Reach} {b0 : Nat} {v : Value} {d : DataW H} {p : List MemPlace} (hv : Value.okWide Tryz.prog w r b0 47 v) (hw : Fits 47 d) (h : DataW.Trod enc Tryz.prog w 0 (fun _ => true) true 47 v d p) :
    ∃ A A' n m c d', ∃ (xs : List Int) (ns : List Nm), v = .agg #[.slice A n c, .slice A' m d'] ∧ Row w w.heap.size 1 A n (xs.map encI) ∧ Row w w.heap.size 1 A' m (ns.map encN) ∧ n ≤ 4611686018427387904 ∧ m ≤ 4611686018427387904 ∧ ∀ y ∈ xs, I64 y := by
  obtain ⟨cs, rfl, hsz⟩ := okWide_struct Tryz.underlying47 hv
  obtain ⟨l⟩ := cs
  have hC : Tryz.prog.cellsOf 47 = 2 := by kernel_rfl
  match l, hsz.trans hC with
  | [c0, c1], _ =>
    obtain ⟨fuel, hf⟩ := h
    obtain ⟨xs, n, _, hx, _, hxl, hg⟩ := DataW.trod_struct Tryz.underlying47 hf
    simp only [Prod.mk.injEq] at hx
    obtain ⟨rfl, _⟩ := hx
    have q : ∀ j, j < 2 → ∃ y, xs[j]? = some y := fun j hj => ⟨_, List.getElem?_eq_getElem (by rw [hxl]; exact hj)⟩
    obtain ⟨y0, e0⟩ := q 0 (by omega)
    obtain ⟨y1, e1⟩ := q 1 (by omega)
    have k36 : Tryz.prog.cellsOf 36 = 1 := by kernel_rfl
    have k38 : Tryz.prog.cellsOf 38 = 1 := by kernel_rfl
    have f0 : DataW.trod enc Tryz.prog w 0 (fun _ => true) true n 36 (([c0, c1].drop 0).take (Tryz.prog.cellsOf 36)) = some y0 := (hg 0 _ rfl).trans e0
    have f1 : DataW.trod enc Tryz.prog w 0 (fun _ => true) true n 38 (([c0, c1].drop 1).take (Tryz.prog.cellsOf 38)) = some y1 := (hg 1 _ rfl).trans e1
    rw [k36] at f0
    rw [k38] at f1
    have w0 : Fits 36 y0.1 := hw.field (j := 0) Tryz.underlying47 rfl (by rw [List.getElem?_map, e0]; rfl)
    have w1 : Fits 38 y1.1 := hw.field (j := 1) Tryz.underlying47 rfl (by rw [List.getElem?_map, e1]; rfl)
    obtain ⟨A, n0, c0', xs0, g0, r0, hn0, hb0⟩ := op_ints w0 f0
    obtain ⟨A', n1, c1', ns, g1, r1, hn1⟩ := op_names w1 f1
    simp at g0 g1
    subst g0 g1
    exact ⟨A, A', n0, n1, c0', c1', xs0, ns, rfl, r0, r1, hn0, hn1, hb0⟩
end

end Go.Proofs.YtnibcffcbnjllaaGreatDoor
/- What the listed variables and the world's shape give: Ok. -/
namespace Go.Proofs.YtnibcffcbnjllaaGreatDoor
open Go.RowKit Go.ChangeShapes Go.WideShapes Go.Deep Go.Joins

/-- The three listed tables. -/
def laid3 : List (String × DataW Unit) := [("math/bits.deBruijn32tab", Rows.laid_math_bits_deBruijn32tab), ("math/bits.deBruijn64tab", Rows.laid_math_bits_deBruijn64tab), ("internal/strconv.uint64pow10", Rows.laid_internal_strconv_uint64pow10)]

theorem low_of_shaped {W : World} (h : W.ShapedOpen Tryz.prog) : 8 ≤ W.heap.size := by
  obtain ⟨o, _, ho, _⟩ := h.2 8 (of_decide_eq_true (by kernel_rfl)) (of_decide_eq_true (by kernel_rfl))
  have := (Array.getElem?_eq_some_iff.1 ho).1
  omega
theorem ok_of {W : World} (h : W.ShapedOpen Tryz.prog) (hL : laidMetH Tryz.prog laid3 W) : Ok W := by
  refine ⟨Go.Proofs.cell_of_shapedOpen_int (zero := #[.int .i64 0]) (t := 3) h (of_decide_eq_true (by kernel_rfl)) (by kernel_rfl) rfl (by kernel_rfl) (by kernel_rfl) Tryz.underlying3, ?_, low_of_shaped h⟩
  rw [MakeChecks.laidMetH_plain _ _ _ (by kernel_rfl)] at hL
  have h2 := hL.tail.tail
  exact Lib.tabIs_of_head (k := .u64) (zs := Lib.pow10Tab) (g := 3) (by kernel_rfl) (by kernel_rfl) Tryz.underlying195 Tryz.underlying163 (by kernel_rfl) (by kernel_rfl) h2

end Go.Proofs.YtnibcffcbnjllaaGreatDoor
/- The wrap for a row that lists variables: with the reach and the world's shape. -/
namespace Go.Proofs.YtnibcffcbnjllaaGreatDoor
open Go.RowKit

theorem handed_change {H : Type} {enc : TypeId × Value → H} {a : Assume} {C : Checked} {os : Os} {f : FuncId} {fn : Func} {s : ChangeSpec} {conds : List PathCond} {apart fresh handsOn again : Bool} {laid : List (String × DataW Unit)}
    (own : ownKnob C.prog.godebug = none) (started : os.Started) (noInit : C.prog.inits.idxOf? f = none) (hfn : C.prog.funcs[f]? = some fn)
    (witness : ∃ (w : World) (tape : Tape) (i : Input), w.os = os ∧ (w.forCall tape i).Shaped C.prog ∧ i.vars = [] ∧ Input.okWide C.prog (w.forCall tape i) .any w.heap.size f i ∧
      ((s.pre enc C.prog fn conds apart (w.forCall tape i).memory i.args ∧ laidMetH C.prog laid (w.forCall tape i).memory) ∧ sizedMet enc C.prog fn (OpenSpec.ofChange s) apart (w.forCall tape i).memory i.args) ∧ a.holds C.prog (lone (Frame.enter C.prog f i.args .normal) [] (w.forCall tape i)))
    (contract : ∀ (W : World) (base : Nat) (args : Array Value) (ds gs : List (DataW H)) (before : List MemPlace),
      (∀ (j : Nat) t v, fn.params[j]? = some t → args[j]? = some v → Value.okWide C.prog W .any base t v) →
      DataW.Whole enc C.prog fn.params.toList s.vars apart W args.toList ds gs before →
      (DataW.weightsEach C.prog (fn.params.toList ++ s.plain.varTypes C.prog) (ds ++ gs)).all (· ≤ reachBytes) = true →
      laidMetH C.prog laid W → W.ShapedOpen C.prog →
      Calls C.prog f args W fun e W' => ∃ v, e = .returned v ∧ s.post enc C.prog fn apart fresh handsOn again W args v W') :
    ReturnsInHanded a C os f .any (fun w args => (s.pre enc C.prog fn conds apart w args ∧ laidMetH C.prog laid w) ∧ sizedMet enc C.prog fn (OpenSpec.ofChange s) apart w args) (s.post enc C.prog fn apart fresh handsOn again) :=
  returnsInHanded_of_row (s := OpenSpec.ofChange s) (F := fun _ _ _ => 0) (conds := conds) (laid := laid) own started noInit hfn witness
    fun W base args ds gs before h1 h2 _ _ h5 h6 h7 _ => contract W base args ds gs before h1 h2 h5 h6 h7

end Go.Proofs.YtnibcffcbnjllaaGreatDoor
/- (Script).Cut at a script of good Advances without schedules. -/
namespace Go.Proofs.YtnibcffcbnjllaaGreatDoor
open Go.RowKit Go.Sort

def CutRes (w : World) (S : Scr) (t : Int) (e : Ending) (w' : World) : Prop :=
  ∃ (A1 : Option Addr) (n1 c1 : Nat) (A2 : Option Addr) (n2 c2 : Nat), e = .returned (.tuple #[.agg #[.int .i64 S.lo, .int .i64 t, .int .i64 (S.before + cntB S.inputs S.lo), .slice A1 n1 c1, .slice none 0 0], .agg #[.int .i64 t, .int .i64 S.hi, .int .i64 (S.before + cntB S.inputs t), .slice A2 n2 c2, .slice none 0 0], .int .i64 0]) ∧ Below w.heap.size w w'

theorem keep5e {W : World} {Z : Nat} {x0 x1 x2 x3 x4 : Value} (h : W.cell? ⟨Z, 0, none⟩ = some x0 ∧ W.cell? ⟨Z, 1, none⟩ = some x1 ∧ W.cell? ⟨Z, 2, none⟩ = some x2 ∧ W.cell? ⟨Z, 3, none⟩ = some x3 ∧ W.cell? ⟨Z, 4, none⟩ = some x4) :
    W.drew.cell? ⟨Z, 0, none⟩ = some x0 ∧ W.drew.cell? ⟨Z, 1, none⟩ = some x1 ∧ W.drew.cell? ⟨Z, 2, none⟩ = some x2 ∧ W.drew.cell? ⟨Z, 3, none⟩ = some x3 ∧ W.drew.cell? ⟨Z, 4, none⟩ = some x4 := h
/-- Five stores into a block. -/
abbrev set5 (W : World) (P : Nat) (v0 v1 v2 v3 v4 : Value) : World := ((((W.setCell ⟨P, 0, none⟩ v0).setCell ⟨P, 1, none⟩ v1).setCell ⟨P, 2, none⟩ v2).setCell ⟨P, 3, none⟩ v3).setCell ⟨P, 4, none⟩ v4
theorem keep5s {W : World} {P Z : Nat} {x0 x1 x2 x3 x4 v0 v1 v2 v3 v4 : Value} (h : W.cell? ⟨Z, 0, none⟩ = some x0 ∧ W.cell? ⟨Z, 1, none⟩ = some x1 ∧ W.cell? ⟨Z, 2, none⟩ = some x2 ∧ W.cell? ⟨Z, 3, none⟩ = some x3 ∧ W.cell? ⟨Z, 4, none⟩ = some x4) (hne : Z ≠ P) :
    (set5 W P v0 v1 v2 v3 v4).cell? ⟨Z, 0, none⟩ = some x0 ∧ (set5 W P v0 v1 v2 v3 v4).cell? ⟨Z, 1, none⟩ = some x1 ∧ (set5 W P v0 v1 v2 v3 v4).cell? ⟨Z, 2, none⟩ = some x2 ∧ (set5 W P v0 v1 v2 v3 v4).cell? ⟨Z, 3, none⟩ = some x3 ∧ (set5 W P v0 v1 v2 v3 v4).cell? ⟨Z, 4, none⟩ = some x4 := by
  simp only [set5, cell_set_ne _ hne]
  exact h

theorem BoxN.set5 {W : World} {B : Nat} {t : TypeId} {a0 a1 a2 a3 a4 : Value} (h : BoxN W B t #[a0, a1, a2, a3, a4]) (v0 v1 v2 v3 v4 : Value) : BoxN (Go.Proofs.YtnibcffcbnjllaaGreatDoor.set5 W B v0 v1 v2 v3 v4) B t #[v0, v1, v2, v3, v4] :=
  ((((h.set 0 v0).set 1 v1).set 2 v2).set 3 v3).set 4 v4
theorem BoxN.others {W : World} {B P : Nat} {t : TypeId} {cs : Array Value} (h : BoxN W B t cs) (hne : B ≠ P) (v0 v1 v2 v3 v4 : Value) : BoxN (Go.Proofs.YtnibcffcbnjllaaGreatDoor.set5 W P v0 v1 v2 v3 v4) B t cs :=
  ((((h.other hne v0).other hne v1).other hne v2).other hne v3).other hne v4
theorem below_set5 {B P : Nat} {w W : World} (h : Below B w W) (hP : B ≤ P) (v0 v1 v2 v3 v4 : Value) : Below B w (set5 W P v0 v1 v2 v3 v4) :=
  ((((h.setCell (p := ⟨P, 0, none⟩) hP v0).setCell (p := ⟨P, 1, none⟩) hP v1).setCell (p := ⟨P, 2, none⟩) hP v2).setCell (p := ⟨P, 3, none⟩) hP v3).setCell (p := ⟨P, 4, none⟩) hP v4

set_option maxRecDepth 100000 in
set_option maxHeartbeats 4000000 in
theorem Cut_good (S : Scr) (b off n c d : Nat) (A' : Option Addr) (t : Int) (w : World) (hok : Ok w) (hS : ScrAt w w.heap.size (some ⟨b, off, none⟩) A' n 0 S) (hg : GoodS S) (h2 : S.lo ≤ t) (h3 : t ≤ S.hi) (hc1 : cntB S.inputs S.lo ≤ cntB S.inputs t) (hc2 : cntB S.inputs t ≤ cntB S.inputs S.hi) (hcap : n ≤ c) :
    Calls Tryz.prog 33 #[scrVal S (some ⟨b, off, none⟩) A' n 0 c d, .int .i64 t] w fun e w' => CutRes w S t e w' := by
  have hl : S.inputs.length = n := hS.2.1
  have hn : n ≤ 65536 := by have := hg.h6; omega
  have hmono : ∀ a b, a ≤ b → b < n → tickAt S.inputs a ≤ tickAt S.inputs b := by rw [← hl]; exact hg.mono
  have hCh := fun (W : World) (hb : Below w.heap.size w W) => Check_good S (some ⟨b, off, none⟩) A' n c d W (hok.later hb) ((hS.below hb).more hb.size) hg
  have hP1 := fun (W : World) (hb : Below w.heap.size w W) => part_any S b off n c d A' S.lo t W ((hS.below hb).more hb.size) hn hmono hg.h1 (by omega) h2 (by have := hg.h4; omega) hg.h2 (by have := hg.h7; omega) hc1 hcap
  have hP2 := fun (W : World) (hb : Below w.heap.size w W) => part_any S b off n c d A' t S.hi W ((hS.below hb).more hb.size) hn hmono hg.h1 h2 h3 (by have := hg.h4; omega) hg.h2 (by have := hg.h7; omega) hc2 hcap
  unfold CutRes
  unfold PartRes at hP1 hP2
  obtain ⟨lo, hi, bf, ins, sch⟩ := S
  unfold scrVal at hCh hP1 hP2 ⊢
  simp only at hCh hP1 hP2 h2 h3 ⊢
  generalize bf + (cntB ins lo : Int) = x1 at hP1 ⊢
  generalize bf + (cntB ins t : Int) = x2 at hP2 ⊢
  have HCH := Lib.hid hCh
  have HP1 := Lib.hid hP1
  have HP2 := Lib.hid hP2
  clear hCh hP1 hP2 hS hg hok hmono hl hc1 hc2 hcap hn
  have b0 := ((BoxN.new w 25 #[.int .i64 lo, .int .i64 hi, .int .i64 bf, .slice (some ⟨b, off, none⟩) n c, .slice A' 0 d]).alloc (.cells #[.int .i64 0, .int .i64 0, .int .i64 0, .slice none 0 0, .slice none 0 0] 25)).alloc (.cells #[.int .i64 0, .int .i64 0, .int .i64 0, .slice none 0 0, .slice none 0 0] 25)
  have b1 := (BoxN.new (w.alloc (.cells #[.int .i64 lo, .int .i64 hi, .int .i64 bf, .slice (some ⟨b, off, none⟩) n c, .slice A' 0 d] 25)) 25 #[.int .i64 0, .int .i64 0, .int .i64 0, .slice none 0 0, .slice none 0 0]).alloc (.cells #[.int .i64 0, .int .i64 0, .int .i64 0, .slice none 0 0, .slice none 0 0] 25)
  have b2 := BoxN.new ((w.alloc (.cells #[.int .i64 lo, .int .i64 hi, .int .i64 bf, .slice (some ⟨b, off, none⟩) n c, .slice A' 0 d] 25)).alloc (.cells #[.int .i64 0, .int .i64 0, .int .i64 0, .slice none 0 0, .slice none 0 0] 25)) 25 #[.int .i64 0, .int .i64 0, .int .i64 0, .slice none 0 0, .slice none 0 0]
  have hb0 : Below w.heap.size w (((w.alloc (.cells #[.int .i64 lo, .int .i64 hi, .int .i64 bf, .slice (some ⟨b, off, none⟩) n c, .slice A' 0 d] 25)).alloc (.cells #[.int .i64 0, .int .i64 0, .int .i64 0, .slice none 0 0, .slice none 0 0] 25)).alloc (.cells #[.int .i64 0, .int .i64 0, .int .i64 0, .slice none 0 0, .slice none 0 0] 25)) := (((Below.refl _ w).alloc (Nat.le_refl _) _).alloc (by simp) _).alloc (by simp; omega) _
  simp only [World.size_alloc] at b1 b2
  obtain ⟨W0, hW0⟩ : ∃ W0, ((w.alloc (.cells #[.int .i64 lo, .int .i64 hi, .int .i64 bf, .slice (some ⟨b, off, none⟩) n c, .slice A' 0 d] 25)).alloc (.cells #[.int .i64 0, .int .i64 0, .int .i64 0, .slice none 0 0, .slice none 0 0] 25)).alloc (.cells #[.int .i64 0, .int .i64 0, .int .i64 0, .slice none 0 0, .slice none 0 0] 25) = W0 := ⟨_, rfl⟩
  rw [hW0] at b0 b1 b2 hb0
  have HW := Lib.hid hW0
  obtain ⟨Z, hZ⟩ : ∃ Z, w.heap.size = Z := ⟨_, rfl⟩
  rw [hZ] at b0 b1 b2 hb0 HCH HP1 HP2 ⊢
  have HZ := Lib.hid hZ
  clear hW0 hZ
  go_enter Tryz.func33, Tryz.ntmps33
  go_wp2_with fail
  rw [HW.out, HZ.out]
  refine (HCH.out W0 hb0).mono ?_
  rintro e w1 ⟨rfl, hb1⟩
  have c0 := b0.later hb1
  have hB1 := hb0.trans (hb1.mono (by have := hb0.size; have := HZ.out; omega))
  have q0 := c0.c 0
  have q1 := c0.c 1
  have q2 := c0.c 2
  have q3 := c0.c 3
  have q4 := c0.c 4
  simp only [List.getElem?_toArray, List.getElem?_cons_zero, List.getElem?_cons_succ] at q0 q1 q2 q3 q4
  have HK := Lib.hid (box5 c0)
  have HB1 := Lib.hid (b1.later hb1)
  have HB2 := Lib.hid (b2.later hb1)
  clear b0 b1 b2 hb0 hb1 HCH HW
  have hne1 : Z ≠ Z + 1 := by omega
  have hne2 : Z ≠ Z + 1 + 1 := by omega
  have SQ := Lib.hid (HK.out w1 (Below.refl _ _))
  go_wp2_with fail
  go_region_held3 (fun W => W.cell? ⟨Z, 0, none⟩ = some (.int .i64 lo) ∧ W.cell? ⟨Z, 1, none⟩ = some (.int .i64 hi) ∧ W.cell? ⟨Z, 2, none⟩ = some (.int .i64 bf) ∧ W.cell? ⟨Z, 3, none⟩ = some (.slice (some ⟨b, off, none⟩) n c) ∧ W.cell? ⟨Z, 4, none⟩ = some (.slice A' 0 d)) (first | with_reducible exact SQ.out | with_reducible exact keep5e SQ.out | with_reducible exact S1 | with_reducible exact S2 | with_reducible exact keep5s S2 hne1 | with_reducible exact keep5s S2 hne2 | with_reducible exact keep5s (keep5s S2 hne1) hne2 | with_reducible exact keep5s (keep5s S2 hne2) hne1) (first
    | (go_at_call 63; with_reducible refine (HP1.out _ hB1.drew).mono ?_; rintro e w2 ⟨A2, n2, c2, rfl, hb2⟩; replace hb2 := below_of_drew hb2; have S1 := HK.out _ hb2; have hB2 := hB1.trans (hb2.mono (by have := hB1.size; have := HZ.out; omega)))
    | (go_at_call 63; with_reducible refine (HP2.out _ hB1.drew).mono ?_; rintro e w2 ⟨A2, n2, c2, rfl, hb2⟩; replace hb2 := below_of_drew hb2; have S1 := HK.out _ hb2; have hB2 := hB1.trans (hb2.mono (by have := hB1.size; have := HZ.out; omega)))
    | (go_at_call 63; with_reducible refine (HP2.out _ hB2).mono ?_; rintro e w3 ⟨A3, n3, c3, rfl, hb3⟩; replace hb3 := hb2.trans (hb3.mono hb2.size); have S2 := HK.out _ hb3; have u1 := HB1.out.later hb3; have u2 := HB2.out.later hb3; have f10 := u1.f 0; have f11 := u1.f 1; have f12 := u1.f 2; have f13 := u1.f 3; have f14 := u1.f 4; have f20 := u2.f 0; have f21 := u2.f 1; have f22 := u2.f 2; have f23 := u2.f 3; have f24 := u2.f 4; have k10 := u1.c 0; have k11 := u1.c 1; have k12 := u1.c 2; have k13 := u1.c 3; have k14 := u1.c 4; have k20 := u2.c 0; have k21 := u2.c 1; have k22 := u2.c 2; have k23 := u2.c 3; have k24 := u2.c 4; simp only [List.getElem?_toArray, List.getElem?_cons_zero, List.getElem?_cons_succ] at k10 k11 k12 k13 k14 k20 k21 k22 k23 k24; have hB3 := hB1.trans (hb3.mono (by have := hB1.size; have := HZ.out; omega)))
    | (go_at_call 63; with_reducible refine (HP1.out _ hB2).mono ?_; rintro e w3 ⟨A3, n3, c3, rfl, hb3⟩; replace hb3 := hb2.trans (hb3.mono hb2.size); have S2 := HK.out _ hb3; have u1 := HB1.out.later hb3; have u2 := HB2.out.later hb3; have f10 := u1.f 0; have f11 := u1.f 1; have f12 := u1.f 2; have f13 := u1.f 3; have f14 := u1.f 4; have f20 := u2.f 0; have f21 := u2.f 1; have f22 := u2.f 2; have f23 := u2.f 3; have f24 := u2.f 4; have k10 := u1.c 0; have k11 := u1.c 1; have k12 := u1.c 2; have k13 := u1.c 3; have k14 := u1.c 4; have k20 := u2.c 0; have k21 := u2.c 1; have k22 := u2.c 2; have k23 := u2.c 3; have k24 := u2.c 4; simp only [List.getElem?_toArray, List.getElem?_cons_zero, List.getElem?_cons_succ] at k10 k11 k12 k13 k14 k20 k21 k22 k23 k24; have hB3 := hB1.trans (hb3.mono (by have := hB1.size; have := HZ.out; omega))))
  go_wp2_with fail
  have r1 := (u1.set5 (.int .i64 lo) (.int .i64 t) (.int .i64 x1) (.slice A2 n2 c2) (.slice none 0 0)).others (P := Z + 1 + 1) (by omega) (.int .i64 t) (.int .i64 hi) (.int .i64 x2) (.slice A3 n3 c3) (.slice none 0 0)
  have r2 := (u2.others (P := Z + 1) (by omega) (.int .i64 lo) (.int .i64 t) (.int .i64 x1) (.slice A2 n2 c2) (.slice none 0 0)).set5 (.int .i64 t) (.int .i64 hi) (.int .i64 x2) (.slice A3 n3 c3) (.slice none 0 0)
  have hbF := below_set5 (P := Z + 1 + 1) (below_set5 (P := Z + 1) hB3 (by omega) (.int .i64 lo) (.int .i64 t) (.int .i64 x1) (.slice A2 n2 c2) (.slice none 0 0)) (by omega) (.int .i64 t) (.int .i64 hi) (.int .i64 x2) (.slice A3 n3 c3) (.slice none 0 0)
  unfold set5 at r1 r2 hbF
  generalize ((((((((((w3.setCell ⟨Z + 1, 0, none⟩ (.int .i64 lo)).setCell ⟨Z + 1, 1, none⟩ (.int .i64 t)).setCell ⟨Z + 1, 2, none⟩ (.int .i64 x1)).setCell ⟨Z + 1, 3, none⟩ (.slice A2 n2 c2)).setCell ⟨Z + 1, 4, none⟩ (.slice none 0 0)).setCell ⟨Z + 1 + 1, 0, none⟩ (.int .i64 t)).setCell ⟨Z + 1 + 1, 1, none⟩ (.int .i64 hi)).setCell ⟨Z + 1 + 1, 2, none⟩ (.int .i64 x2)).setCell ⟨Z + 1 + 1, 3, none⟩ (.slice A3 n3 c3)).setCell ⟨Z + 1 + 1, 4, none⟩ (.slice none 0 0)) = W9 at r1 r2 hbF ⊢
  have t0 := r1.c 0
  have t1 := r1.c 1
  have t2 := r1.c 2
  have t3 := r1.c 3
  have t4 := r1.c 4
  have t5 := r2.c 0
  have t6 := r2.c 1
  have t7 := r2.c 2
  have t8 := r2.c 3
  have t9 := r2.c 4
  simp only [List.getElem?_toArray, List.getElem?_cons_zero, List.getElem?_cons_succ] at t0 t1 t2 t3 t4 t5 t6 t7 t8 t9
  exact bodyPost_ret (v := .tuple #[.agg #[.int .i64 lo, .int .i64 t, .int .i64 x1, .slice A2 n2 c2, .slice none 0 0], .agg #[.int .i64 t, .int .i64 hi, .int .i64 x2, .slice A3 n3 c3, .slice none 0 0], .int .i64 0]) (by simp [results, Tryz.f33, go_sem, t0, t1, t2, t3, t4, t5, t6, t7, t8, t9]) rfl ⟨_, _, _, _, _, _, rfl, hbF⟩

theorem KS_Cut : KCut := by
  intro B W hok hS
  have h := Cut_good KS B 0 3 3 0 none 6 W hok hS KS_good (by decide) (by decide) (by decide) (by decide) (by omega)
  refine h.mono ?_
  rintro e w' ⟨A1, n1, c1, A2, n2, c2, rfl, hb⟩
  exact ⟨A1, n1, c1, A2, n2, c2, rfl, hb⟩

theorem known_any (w : World) (hok : Ok w) : Calls Tryz.prog 7 #[] w fun e w' => e = .returned (.bool true) ∧ Below w.heap.size w w' := known_core KS_Cut w hok

end Go.Proofs.YtnibcffcbnjllaaGreatDoor
/- ScriptParts returns true at every input; conditions: none but the row's own (its listed tables hold what the program's text lays). -/
namespace Go.Proofs.YtnibcffcbnjllaaGreatDoor
open Go.RowKit Go.ChangeShapes Go.WideShapes Go.Deep Go.Joins

theorem knows : Knows := known_any
theorem Tryz.own : ownKnob Tryz.prog.godebug = none := by kernel_rfl
theorem Tryz.laidOut : laidOutB Tryz.prog = true := by kernel_rfl
theorem door_met (os : Os) (args : Array Value) : laidMetH Tryz.prog laid3 ((World.doorLaid Tryz.prog 72 os).forCall (fun _ _ => 0) ⟨#[], args, []⟩).memory :=
  laidMetH_of_parts3 (fuel := 8) (laidMet_of_run' 8 (by kernel_rfl) (by kernel_rfl)) (by kernel_rfl) (by kernel_rfl)

set_option maxRecDepth 100000 in
theorem parts_calls {H : Type} {enc : TypeId × Value → H} (W : World) (base : Nat) (args : Array Value) (ds gs : List (DataW H)) (before : List MemPlace)
    (hval0 : ∀ (j : Nat) t v, Tryz.f3.params[j]? = some t → args[j]? = some v → Value.okWide Tryz.prog W .any base t v)
    (hW : DataW.Whole enc Tryz.prog Tryz.f3.params.toList Rows.scriptPartsSpec.vars false W args.toList ds gs before)
    (hsz0 : (DataW.weightsEach Tryz.prog (Tryz.f3.params.toList ++ Rows.scriptPartsSpec.plain.varTypes Tryz.prog) (ds ++ gs)).all (· ≤ reachBytes) = true)
    (hL : laidMetH Tryz.prog laid3 W) (hsh : W.ShapedOpen Tryz.prog) :
    Calls Tryz.prog 3 args W fun e W' => ∃ v, e = .returned v ∧ Rows.scriptPartsSpec.post enc Tryz.prog Tryz.f3 false true false false W args v W' := by
  have hval := hval0
  have hsz := hsz0
  have hW' := hW
  obtain ⟨p, q, hA, hV0, rfl, _, _⟩ := hW
  rw [Tryz.params3] at hA hval hsz
  obtain ⟨v0, v1, v2, d0, d1, d2, p0, p1, p2, rfl, rfl, rfl, h0, h1, h2⟩ := trodAll_three hA
  obtain ⟨rfl, rfl⟩ := trodVars_none hV0
  clear hV0 hval0 hsz0
  simp only [List.append_nil] at hW' hsz
  have hlt : ∀ x ∈ p0 ++ p1 ++ p2, x.block < W.heap.size := fun x hx => by simpa using hW'.lt x hx
  have hf0 : Fits 25 d0 := fun k hk => by
    have := List.all_eq_true.1 hsz k (DataW.weights_mem_each (t := 25) (j := 0) rfl rfl k hk)
    simpa using this
  obtain ⟨S, A, A', n, m, c, d', rfl, hS, b1, b2, b3⟩ := op_script (hval 0 25 v0 rfl rfl) hf0 h0
  obtain ⟨num, rfl, rfl, _, hn⟩ := open_int Tryz.underlying3 (hval 1 3 v1 rfl rfl) h1
  obtain ⟨t, rfl, rfl, _, ht⟩ := open_int Tryz.underlying3 (hval 2 3 v2 rfl rfl) h2
  have hok := ok_of hsh hL
  refine (ScriptParts_any knows S A A' n m c d' num t W hok hS b1 b2 b3 (bounds_i64 hn) (bounds_i64 ht)).mono ?_
  rintro e W' ⟨rfl, bel⟩
  have e1 : Rows.scriptPartsSpec.fn H ([d0, .lit (.int .i64 num), .lit (.int .i64 t)] ++ []) = { results := [.lit (.bool true)], args := [d0, .lit (.int .i64 num), .lit (.int .i64 t)] } := rfl
  refine ⟨_, rfl, _, _, _, [], p0 ++ p1 ++ p2, [], hW', ?_, ?_, ?_, bel.frame _, fun h => by cases h⟩
  · rw [e1]; exact trodAll_mk1 (shut_bool Tryz.underlying4 true)
  · rw [e1, Tryz.params3, List.append_assoc]; exact trodAll_mk3 (Below.trod Tryz.laidOut (by kernel_rfl) (of_decide_eq_true (by kernel_rfl)) h0 bel (fun x hx => hlt x (by simp [hx]))) (Below.trod Tryz.laidOut (by kernel_rfl) (of_decide_eq_true (by kernel_rfl)) h1 bel (fun x hx => hlt x (by simp [hx]))) (Below.trod Tryz.laidOut (by kernel_rfl) (of_decide_eq_true (by kernel_rfl)) h2 bel (fun x hx => hlt x (by simp [hx])))
  · rw [e1]; rfl

theorem parts_witness (os : Os) {H : Type} (enc : TypeId × Value → H) : ∃ (w : World) (tape : Tape) (i : Input), w.os = os ∧ (w.forCall tape i).Shaped Tryz.prog ∧ i.vars = [] ∧ Input.okWide Tryz.prog (w.forCall tape i) .any w.heap.size 3 i ∧
      ((Rows.scriptPartsSpec.pre enc Tryz.prog Tryz.f3 [] false (w.forCall tape i).memory i.args ∧ laidMetH Tryz.prog laid3 (w.forCall tape i).memory) ∧ sizedMet enc Tryz.prog Tryz.f3 (OpenSpec.ofChange Rows.scriptPartsSpec) false (w.forCall tape i).memory i.args) ∧ ({ modest := false } : Assume).holds Tryz.prog (lone (Frame.enter Tryz.prog 3 i.args .normal) [] (w.forCall tape i)) :=
  ChangeSpec.witness_shaped (enc := enc) (C := Tryz.checked) (os := os) (X := fun w _ => laidMetH Tryz.prog laid3 w) false (World.doorLaid Tryz.prog 72 os) #[.agg #[.int .i64 0, .int .i64 0, .int .i64 0, .slice none 0 0, .slice none 0 0], .int .i64 0, .int .i64 0] 8 rfl (World.shaped_of_RefB (by kernel_rfl) (by kernel_rfl)) (by kernel_rfl) (by kernel_rfl) (by kernel_rfl) (door_met os _)

theorem parts_lifted (os : Os) (started : os.Started) (H : Type) (enc : TypeId × Value → H) :
    ReturnsInHanded {} Tryz.checked os 3 .any (fun w args => (Rows.scriptPartsSpec.pre enc Tryz.prog Tryz.f3 [] false w args ∧ laidMetH Tryz.prog laid3 w) ∧ sizedMet enc Tryz.prog Tryz.f3 (OpenSpec.ofChange Rows.scriptPartsSpec) false w args)
      (Rows.scriptPartsSpec.post enc Tryz.prog Tryz.f3 false true false false) :=
  handed_change (C := Tryz.checked) (s := Rows.scriptPartsSpec) (conds := []) (laid := laid3) Tryz.own started (by kernel_rfl) Tryz.func3 (parts_witness os enc) parts_calls

theorem parts_said : Rows.ScriptPartsSaid :=
  OpenClaim.holds_of_wide 3 Tryz.f3 rfl rfl rfl rfl rfl rfl rfl ⟨rfl, rfl, rfl, rfl, rfl⟩ rfl rfl rfl rfl rfl (by kernel_rfl) Tryz.func3 (by kernel_rfl)
    (of_decide_eq_true (by kernel_rfl)) (by unfold Func.isWrapper; rw [if_neg (of_decide_eq_false (by kernel_rfl))]; exact ⟨rfl, rfl⟩)
    (fun os started H enc _ => parts_lifted os started H enc)

theorem scriptParts_card : Rows.ScriptPartsCardSaid :=
  Claim7.holds_tied_plain_at .later [] [.data, .data, .data] true (true, "013b36efc573d51d57afda0f9ff0711062f93413d77b37c481fc0b42ceae8e1d") true
    parts_said (fun _ h => by cases h) (by kernel_rfl) (fun _ h => by cases h) scriptParts_row_tie rfl ⟨rfl, rfl⟩ (by kernel_rfl) rfl
    (fun f fn hf hfn => by
      obtain rfl : f = 3 := Option.some.inj ((show Tryz.prog.funcNamed "replevin/replevinlaw44.ScriptParts" = some 3 by kernel_rfl).symm.trans hf) |>.symm
      obtain rfl : fn = Tryz.f3 := (Option.some.inj (Tryz.func3.symm.trans hfn)).symm
      exact ⟨by kernel_rfl, fun j t ht => by
        rw [Tryz.params3] at ht
        have hm : t ∈ [25, 3, 3] := by simpa using Array.mem_of_getElem? ht
        have hall : ([25, 3, 3].all fun u => !Tryz.prog.wantsStandIn u) = true := by kernel_rfl
        exact (show Tryz.prog.wantsStandIn t = false by simpa using List.all_eq_true.1 hall t hm)⟩)
    (by kernel_rfl)
#print axioms scriptParts_card

end Go.Proofs.YtnibcffcbnjllaaGreatDoor
