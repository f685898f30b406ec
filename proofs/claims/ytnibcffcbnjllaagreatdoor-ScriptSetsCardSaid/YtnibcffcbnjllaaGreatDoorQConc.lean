/- append of a slice that reads as a list; slices.Grow (nil), slices.Concat of two slices. -/
import Derived.Lib.AppendZeros
import Derived.Test.YtnibcffcbnjllaaGreatDoorCan4
namespace Go.Proofs.YtnibcffcbnjllaaGreatDoor
open Go.RowKit Go.Sort

section
variable {P : Program}
/-- An append of a row that may be nil onto a row of the call's own. -/
theorem run_append_row (w : World) (base : Nat) (t ty e : TypeId) (i : TypeInfo) (z : Value) (bytes : Nat) (ht : P.underlying t = some (.slice e)) (hi : P.info? e = some i) (hz : i.zero = some z)
    (hsize : i.size = 1) (hby : i.bytes = bytes) (hzs : z.cells.size = 1) (v : Value) (n : Nat) (xs : List Value) (hown : w.ownsRow base e 1 v n xs)
    (B : Nat) (A : Option Addr) (m c : Nat) (news : List Value) (hrow : Row w B 1 A m news) (h1 : ∀ u ∈ news, u.oneCell' = true)
    (h63 : n + m ≤ maxLen) (hbytes : (n + m) * bytes ≤ 140737488355328) (hbase : base ≤ w.heap.size) :
    ∃ v' w', (Builtin.append_ #[t, t] ty #[v, .slice A m c]).run P w = .ok v' w' ∧ w'.ownsRow base e 1 v' (n + m) (xs ++ news) ∧ w.grownBy w' v.ownBlock := by
  cases A with
  | none =>
    have hm : m = 0 := by
      refine Nat.eq_zero_of_not_pos fun hp => ?_
      obtain ⟨b, off, e, _⟩ := hrow.2 hp
      cases e
    subst hm
    have hn : news = [] := List.eq_nil_of_length_eq_zero (by simpa using hrow.1)
    subst hn
    refine ⟨v, w, ?_, by simpa using hown, World.grownBy.refl _ _⟩
    rcases hown.2 with ⟨rfl, rfl⟩ | ⟨g, cap, cur, rfl, _, _, hnc, _⟩
    · simp [Builtin.append_, run_underlying ht, sizeOf, typeInfo, hi, Builtin.lenOf, Builtin.firstCells]
    · simp [Builtin.append_, run_underlying ht, sizeOf, typeInfo, hi, Builtin.lenOf, Builtin.firstCells, hnc, storeCells]
  | some ad =>
    have hl : news.length = m * 1 := hrow.1
    have hnews : ∀ j u, news[j]? = some u → w.cell? (ad.add j) = some u := by
      intro j u hu
      have hjl := (List.getElem?_eq_some_iff.1 hu).1
      obtain ⟨b, off, e, _, hc⟩ := hrow.2 (by omega)
      injection e with e
      subst e
      have := hc j u hu
      unfold Addr.add
      split
      · next h0 => subst h0; simpa using this
      · simpa using this
    obtain ⟨v', w', hr, h2, h3, _⟩ := run_append_own (P := P) w base t ty e i z 1 bytes ht hi hz hsize hby hzs (by omega) v n xs hown ad m c news hl hnews h1 h63 hbytes hbase
    exact ⟨v', w', hr, h2, h3⟩
theorem wp_append_row (w : World) {o : Oper} {a : Act} {K : Act → World → Prop} {Q : Exit → Act → World → Prop} (s x : Operand) (t : TypeId)
    (ho : o.op = .call { callee := .builtin .append, args := #[s, x], argTypes := #[t, t] })
    (base : Nat) (e : TypeId) (i : TypeInfo) (z : Value) (bytes : Nat) (ht : P.underlying t = some (.slice e)) (hi : P.info? e = some i) (hz : i.zero = some z)
    (hsize : i.size = 1) (hby : i.bytes = bytes) (hzs : z.cells.size = 1) (v : Value) (n : Nat) (xs : List Value) (hs : a.eval s = v) (hown : w.ownsRow base e 1 v n xs)
    (B : Nat) (A : Option Addr) (m c : Nat) (news : List Value) (hx : a.eval x = .slice A m c) (hrow : Row w B 1 A m news) (h1 : ∀ u ∈ news, u.oneCell' = true)
    (h63 : n + m ≤ maxLen) (hbytes : (n + m) * bytes ≤ 140737488355328) (hbase : base ≤ w.heap.size)
    (h : ∀ v' w', w'.ownsRow base e 1 v' (n + m) (xs ++ news) → w.grownBy w' v.ownBlock → K (a.put o.dst v') w') : o.wp P a w K Q := by
  obtain ⟨v', w', hr, h2, h3⟩ := run_append_row (P := P) w base t o.type e i z bytes ht hi hz hsize hby hzs v n xs hown B A m c news hrow h1 h63 hbytes hbase
  unfold Oper.wp execOp
  simp only [ho, resolve, invoke, builtin, Sem.run_bind, Sem.run_pure, Result.andThen_ok, List.map_toArray, List.map_cons, List.map_nil, hs, hx, hr]
  exact h v' w' h2 h3
theorem wpList_append_row (w : World) {ops : Array Oper} {rest : List Oper} {o : Oper} {a : Act} {Q : Exit → Act → World → Prop} (hgd : o.guard = none) (s x : Operand) (t : TypeId)
    (ho : o.op = .call { callee := .builtin .append, args := #[s, x], argTypes := #[t, t] })
    (base : Nat) (e : TypeId) (i : TypeInfo) (z : Value) (bytes : Nat) (ht : P.underlying t = some (.slice e)) (hi : P.info? e = some i) (hz : i.zero = some z)
    (hsize : i.size = 1) (hby : i.bytes = bytes) (hzs : z.cells.size = 1) (v : Value) (n : Nat) (xs : List Value) (hs : a.eval s = v) (hown : w.ownsRow base e 1 v n xs)
    (B : Nat) (A : Option Addr) (m c : Nat) (news : List Value) (hx : a.eval x = .slice A m c) (hrow : Row w B 1 A m news) (h1 : ∀ u ∈ news, u.oneCell' = true)
    (h63 : n + m ≤ maxLen) (hbytes : (n + m) * bytes ≤ 140737488355328) (hbase : base ≤ w.heap.size)
    (h : ∀ v' w', w'.ownsRow base e 1 v' (n + m) (xs ++ news) → w.grownBy w' v.ownBlock → wpList P ops Q rest (a.put o.dst v') w') : wpList P ops Q (o :: rest) a w :=
  wpList_plain hgd fun _ hK => wp_append_row w s x t ho base e i z bytes ht hi hz hsize hby hzs v n xs hs hown B A m c news hx hrow h1 h63 hbytes hbase fun v' w' h2 h3 => hK _ _ (h v' w' h2 h3)
theorem step_append_row (w : World) {ops : Array Oper} {o : Oper} {a : Act} {K : Act → World → Prop} {Q : Exit → Act → World → Prop} {E : Prop} (hgd : o.guard = none) (s x : Operand) (t : TypeId)
    (ho : o.op = .call { callee := .builtin .append, args := #[s, x], argTypes := #[t, t] })
    (base : Nat) (e : TypeId) (i : TypeInfo) (z : Value) (bytes : Nat) (ht : P.underlying t = some (.slice e)) (hi : P.info? e = some i) (hz : i.zero = some z)
    (hsize : i.size = 1) (hby : i.bytes = bytes) (hzs : z.cells.size = 1) (v : Value) (n : Nat) (xs : List Value) (hs : a.eval s = v) (hown : w.ownsRow base e 1 v n xs)
    (B : Nat) (A : Option Addr) (m c : Nat) (news : List Value) (hx : a.eval x = .slice A m c) (hrow : Row w B 1 A m news) (h1 : ∀ u ∈ news, u.oneCell' = true)
    (h63 : n + m ≤ maxLen) (hbytes : (n + m) * bytes ≤ 140737488355328) (hbase : base ≤ w.heap.size)
    (h : ∀ v' w', w'.ownsRow base e 1 v' (n + m) (xs ++ news) → w.grownBy w' v.ownBlock → K (a.put o.dst v') w') :
    if Region.wanted o (yielded ops a.tmps) = true then Oper.wp P o a w K Q else E := by
  have hw : Region.wanted o (yielded ops a.tmps) = true := by simp [Region.wanted, hgd]
  rw [if_pos hw]
  exact wp_append_row w s x t ho base e i z bytes ht hi hz hsize hby hzs v n xs hs hown B A m c news hx hrow h1 h63 hbytes hbase h
end


set_option maxRecDepth 100000 in
set_option maxHeartbeats 2000000 in
theorem GrowI_nil (n : Nat) (w : World) (hn : n ≤ 100000) :
    Calls Tryz.prog 81 #[.slice none 0 0, .int .i64 (n : Int)] w fun e w' => ∃ v, e = .returned v ∧ w'.ownsRow w.heap.size 3 1 v 0 [] ∧ Below w.heap.size w w' := by
  obtain ⟨i0, hi, hz0, hz1, hz2⟩ := info_parts Tryz.infoInt
  have h0 : ¬ ((n : Int) < 0) := by omega
  by_cases h : n = 0
  · subst h
    go_enter Tryz.func81, Tryz.ntmps81
    go_wp2_with fail
    go_ret
    exact ⟨_, rfl, World.ownsRow_nil _ _ _ _, Below.refl _ _⟩
  · have hpos : (n : Int) > 0 := by omega
    have hrz : ∀ ty, (Builtin.append_ #[36, 3] ty #[.slice none 0 0, .int .i64 (n : Int)]).run Tryz.prog w =
        .ok (.slice (some ⟨w.heap.size, 0, none⟩) n (grownCap w n 0 3)) (w.drew.alloc (.cells (Builtin.zeroCells ((.int .i64 0) : Value).cells n ++ Builtin.zeroCells ((.int .i64 0) : Value).cells (grownCap w n 0 3 - n)) 3)) := fun ty =>
      Lib.run_append_nil_zeros w 36 3 ty 3 i0 (.int .i64 0) .i64 .i64 Tryz.underlying36 Tryz.underlying3 hi hz0 n (by omega) (by omega) (by omega) (by rw [hz2]; omega)
    have hG1 : n ≤ grownCap w n 0 3 := grownCap_ge w _ _ _
    have hG2 : grownCap w n 0 3 ≤ maxLen := grownCap_le_maxLen w n 0 3 (by unfold maxLen; omega)
    have hG3 : grownCap w n 0 3 ≤ 9223372036854775807 := by unfold maxLen at hG2; omega
    obtain ⟨G, hG⟩ : ∃ G, grownCap w n 0 3 = G := ⟨_, rfl⟩
    rw [hG] at hrz hG1 hG2 hG3
    have hsz : (Builtin.zeroCells ((.int .i64 0) : Value).cells n ++ Builtin.zeroCells ((.int .i64 0) : Value).cells (G - n)).size = G * 1 := by
      rw [Array.size_append, size_zeroCells, size_zeroCells]
      have : ((.int .i64 0) : Value).cells.size = 1 := rfl
      rw [this]
      omega
    generalize Builtin.zeroCells ((.int .i64 0) : Value).cells n ++ Builtin.zeroCells ((.int .i64 0) : Value).cells (G - n) = zs at hrz hsz
    have HSZ := Lib.hid hsz
    have HG2 := Lib.hid hG2
    clear hG hsz hG2
    go_enter Tryz.func81, Tryz.ntmps81
    go_wp2_with (at_builtin; refine Lib.wpList_append_run _ rfl _ _ _ _ rfl _ _ rfl rfl _ _ (hrz _) ?_)
    go_ret
    refine ⟨_, rfl, ⟨by simp, .inr ⟨w.heap.size, G, zs, rfl, Nat.le_refl _, World.alloc_heap_new _ _, Nat.zero_le _, HG2.out, HSZ.out, by simp⟩⟩, (below_drewN (Below.refl _ w) 1).alloc (Nat.le_refl _) _⟩
set_option maxRecDepth 100000 in
set_option maxHeartbeats 2000000 in
theorem GrowN_nil (n : Nat) (w : World) (hn : n ≤ 100000) :
    Calls Tryz.prog 82 #[.slice none 0 0, .int .i64 (n : Int)] w fun e w' => ∃ v, e = .returned v ∧ w'.ownsRow w.heap.size 53 1 v 0 [] ∧ Below w.heap.size w w' := by
  obtain ⟨i0, hi, hz0, hz1, hz2⟩ := info_parts Tryz.infoName
  have h0 : ¬ ((n : Int) < 0) := by omega
  by_cases h : n = 0
  · subst h
    go_enter Tryz.func82, Tryz.ntmps82
    go_wp2_with fail
    go_ret
    exact ⟨_, rfl, World.ownsRow_nil _ _ _ _, Below.refl _ _⟩
  · have hpos : (n : Int) > 0 := by omega
    have hrz : ∀ ty, (Builtin.append_ #[38, 3] ty #[.slice none 0 0, .int .i64 (n : Int)]).run Tryz.prog w =
        .ok (.slice (some ⟨w.heap.size, 0, none⟩) n (grownCap w n 0 53)) (w.drew.alloc (.cells (Builtin.zeroCells ((.string ⟨#[]⟩) : Value).cells n ++ Builtin.zeroCells ((.string ⟨#[]⟩) : Value).cells (grownCap w n 0 53 - n)) 53)) := fun ty =>
      Lib.run_append_nil_zeros w 38 3 ty 53 i0 (.string ⟨#[]⟩) .i64 .i64 Tryz.underlying38 Tryz.underlying3 hi hz0 n (by omega) (by omega) (by omega) (by rw [hz2]; omega)
    have hG1 : n ≤ grownCap w n 0 53 := grownCap_ge w _ _ _
    have hG2 : grownCap w n 0 53 ≤ maxLen := grownCap_le_maxLen w n 0 53 (by unfold maxLen; omega)
    have hG3 : grownCap w n 0 53 ≤ 9223372036854775807 := by unfold maxLen at hG2; omega
    obtain ⟨G, hG⟩ : ∃ G, grownCap w n 0 53 = G := ⟨_, rfl⟩
    rw [hG] at hrz hG1 hG2 hG3
    have hsz : (Builtin.zeroCells ((.string ⟨#[]⟩) : Value).cells n ++ Builtin.zeroCells ((.string ⟨#[]⟩) : Value).cells (G - n)).size = G * 1 := by
      rw [Array.size_append, size_zeroCells, size_zeroCells]
      have : ((.string ⟨#[]⟩) : Value).cells.size = 1 := rfl
      rw [this]
      omega
    generalize Builtin.zeroCells ((.string ⟨#[]⟩) : Value).cells n ++ Builtin.zeroCells ((.string ⟨#[]⟩) : Value).cells (G - n) = zs at hrz hsz
    have HSZ := Lib.hid hsz
    have HG2 := Lib.hid hG2
    clear hG hsz hG2
    go_enter Tryz.func82, Tryz.ntmps82
    go_wp2_with (at_builtin; refine Lib.wpList_append_run _ rfl _ _ _ _ rfl _ _ rfl rfl _ _ (hrz _) ?_)
    go_ret
    refine ⟨_, rfl, ⟨by simp, .inr ⟨w.heap.size, G, zs, rfl, Nat.le_refl _, World.alloc_heap_new _ _, Nat.zero_le _, HG2.out, HSZ.out, by simp⟩⟩, (below_drewN (Below.refl _ w) 1).alloc (Nat.le_refl _) _⟩


def ConcatIR1 (n1 n2 : Nat) (w : World) (s i : Value) (wr : World) : Prop := ∃ k, k ≤ 2 ∧ i = .int .i64 ((k : Nat) : Int) ∧ s = .int .i64 (((if k = 0 then 0 else if k = 1 then n1 else n1 + n2 : Nat)) : Int) ∧ w = wr
def ConcatIR2 (w : World) (n1 n2 : Nat) (xs ys : List Int) (v i : Value) (wr : World) : Prop := ∃ k : Nat, k ≤ 2 ∧ i = .int .i64 ((k : Nat) : Int) ∧ Below w.heap.size w wr ∧
  wr.ownsRow w.heap.size 3 1 v (if k = 0 then 0 else if k = 1 then n1 else n1 + n2) ((if k = 0 then [] else if k = 1 then xs else xs ++ ys).map encI)
set_option maxRecDepth 100000 in
set_option maxHeartbeats 4000000 in
theorem ConcatI_any (X : Nat) (A1 A2 : Option Addr) (n1 c1 n2 c2 : Nat) (xs ys : List Int) (w : World) (hX : X < w.heap.size) (c0 : w.cell? ⟨X, 0, none⟩ = some (.slice A1 n1 c1)) (c1' : w.cell? ⟨X, 1, none⟩ = some (.slice A2 n2 c2))
    (r1 : Row w w.heap.size 1 A1 n1 (xs.map encI)) (r2 : Row w w.heap.size 1 A2 n2 (ys.map encI)) (h1 : n1 ≤ 10000) (h2 : n2 ≤ 10000) :
    Calls Tryz.prog 51 #[.slice (some ⟨X, 0, none⟩) 2 2] w fun e w' => ∃ v, e = .returned v ∧ w'.ownsRow w.heap.size 3 1 v (n1 + n2) ((xs ++ ys).map encI) ∧ Below w.heap.size w w' := by
  obtain ⟨i0, hi, hz0, hz1, hz2⟩ := info_parts Tryz.infoInt
  have R1 := Lib.hid r1
  have R2 := Lib.hid r2
  have one : ∀ l : List Int, ∀ u ∈ l.map encI, u.oneCell' = true := fun l u hu => by
    obtain ⟨x, _, rfl⟩ := List.mem_map.1 hu
    rfl
  have ONE := Lib.hid one
  have e1 : wrap64 (0 + (n1 : Int)) = (n1 : Int) := by unfold wrap64; omega
  clear r1 r2 one
  go_enter Tryz.func51, Tryz.ntmps51
  go_wp2_with fail
  go_loopw [3, 11] (ConcatIR1 n1 n2 w) (fun _ i _ => 2 - (intOf i).toNat)
  case atStart => exact ⟨0, by omega, rfl, rfl, rfl⟩
  case round =>
    obtain ⟨k, hk, rfl, rfl, rfl⟩ := hrel
    obtain rfl | rfl | rfl : k = 0 ∨ k = 1 ∨ k = 2 := by omega
    · have hz1' : ¬ ((n1 : Int) < 0) := by omega
      simp only [if_true]
      go_wp2_with fail
      go_roundw
      case rel => exact ⟨1, by omega, rfl, by simp, rfl⟩
      case measure => simp [intOf]
    · have hz1' : ¬ ((n1 : Int) + (n2 : Int) < 0) := by omega
      have e2 : wrap64 ((n1 : Int) + (n2 : Int)) = (n1 : Int) + (n2 : Int) := by unfold wrap64; omega
      simp only [if_true, Nat.one_ne_zero, if_false]
      go_wp2_with fail
      go_roundw
      case rel => exact ⟨2, by omega, rfl, by simp, rfl⟩
      case measure => simp [intOf]
    · have hs : (if (2 : Nat) = 0 then 0 else if (2 : Nat) = 1 then n1 else n1 + n2) = n1 + n2 := rfl
      rw [hs]
      have HGr := Lib.hid (GrowI_nil (n1 + n2) w (by omega))
      go_wp2_with fail
      refine HGr.out.mono ?_
      rintro e w1 ⟨v1, rfl, ho1, hb1⟩
      have d0 := (hb1.cell (p := ⟨X, 0, none⟩) hX).trans c0
      go_wp2_with fail
      go_loopw [6, 27] (ConcatIR2 w n1 n2 xs ys) (fun _ i _ => 2 - (intOf i).toNat)
      case atStart => exact ⟨0, by omega, rfl, hb1, by simpa using ho1⟩
      case round =>
        obtain ⟨k, hk, rfl, hb2, ho2⟩ := hrel
        have d1 := (hb2.cell (p := ⟨X, 0, none⟩) hX).trans c0
        have d2 := (hb2.cell (p := ⟨X, 1, none⟩) hX).trans c1'
        have hsz := hb2.size
        obtain rfl | rfl | rfl : k = 0 ∨ k = 1 ∨ k = 2 := by omega
        · simp only [if_true, List.map_nil] at ho2
          go_wp2_with (at_builtin; refine wpList_append_row _ rfl _ _ 36 rfl w.heap.size 3 i0 (.int .i64 0) 8 Tryz.underlying36 hi hz0 hz1 hz2 rfl _ _ _ rfl ho2 w.heap.size A1 n1 c1 (xs.map encI) rfl (R1.out.below hb2) (ONE.out xs) (by unfold maxLen; omega) (by omega) hsz ?_; intro v3 w3 ho3 hg3)
          go_roundw
          case rel => exact ⟨1, by omega, rfl, hb2.grown hg3 hsz (own_block_le ho2), by simpa using ho3⟩
          case measure => simp [intOf]
        · simp only [Nat.one_ne_zero, if_true, if_false] at ho2
          go_wp2_with (at_builtin; refine wpList_append_row _ rfl _ _ 36 rfl w.heap.size 3 i0 (.int .i64 0) 8 Tryz.underlying36 hi hz0 hz1 hz2 rfl _ _ _ rfl ho2 w.heap.size A2 n2 c2 (ys.map encI) rfl (R2.out.below hb2) (ONE.out ys) (by unfold maxLen; omega) (by omega) hsz ?_; intro v3 w3 ho3 hg3)
          go_roundw
          case rel => exact ⟨2, by omega, rfl, hb2.grown hg3 hsz (own_block_le ho2), by rw [← List.map_append] at ho3; exact ho3⟩
          case measure => simp [intOf]
        · go_wp2_with fail
          go_ret
          exact ⟨_, rfl, ho2, hb2⟩
def ConcatNR1 (n1 n2 : Nat) (w : World) (s i : Value) (wr : World) : Prop := ∃ k, k ≤ 2 ∧ i = .int .i64 ((k : Nat) : Int) ∧ s = .int .i64 (((if k = 0 then 0 else if k = 1 then n1 else n1 + n2 : Nat)) : Int) ∧ w = wr
def ConcatNR2 (w : World) (n1 n2 : Nat) (xs ys : List Nm) (v i : Value) (wr : World) : Prop := ∃ k : Nat, k ≤ 2 ∧ i = .int .i64 ((k : Nat) : Int) ∧ Below w.heap.size w wr ∧
  wr.ownsRow w.heap.size 53 1 v (if k = 0 then 0 else if k = 1 then n1 else n1 + n2) ((if k = 0 then [] else if k = 1 then xs else xs ++ ys).map encN)
set_option maxRecDepth 100000 in
set_option maxHeartbeats 4000000 in
theorem ConcatN_any (X : Nat) (A1 A2 : Option Addr) (n1 c1 n2 c2 : Nat) (xs ys : List Nm) (w : World) (hX : X < w.heap.size) (c0 : w.cell? ⟨X, 0, none⟩ = some (.slice A1 n1 c1)) (c1' : w.cell? ⟨X, 1, none⟩ = some (.slice A2 n2 c2))
    (r1 : Row w w.heap.size 1 A1 n1 (xs.map encN)) (r2 : Row w w.heap.size 1 A2 n2 (ys.map encN)) (h1 : n1 ≤ 10000) (h2 : n2 ≤ 10000) :
    Calls Tryz.prog 52 #[.slice (some ⟨X, 0, none⟩) 2 2] w fun e w' => ∃ v, e = .returned v ∧ w'.ownsRow w.heap.size 53 1 v (n1 + n2) ((xs ++ ys).map encN) ∧ Below w.heap.size w w' := by
  obtain ⟨i0, hi, hz0, hz1, hz2⟩ := info_parts Tryz.infoName
  have R1 := Lib.hid r1
  have R2 := Lib.hid r2
  have one : ∀ l : List Nm, ∀ u ∈ l.map encN, u.oneCell' = true := fun l u hu => by
    obtain ⟨x, _, rfl⟩ := List.mem_map.1 hu
    rfl
  have ONE := Lib.hid one
  have e1 : wrap64 (0 + (n1 : Int)) = (n1 : Int) := by unfold wrap64; omega
  clear r1 r2 one
  go_enter Tryz.func52, Tryz.ntmps52
  go_wp2_with fail
  go_loopw [3, 11] (ConcatNR1 n1 n2 w) (fun _ i _ => 2 - (intOf i).toNat)
  case atStart => exact ⟨0, by omega, rfl, rfl, rfl⟩
  case round =>
    obtain ⟨k, hk, rfl, rfl, rfl⟩ := hrel
    obtain rfl | rfl | rfl : k = 0 ∨ k = 1 ∨ k = 2 := by omega
    · have hz1' : ¬ ((n1 : Int) < 0) := by omega
      simp only [if_true]
      go_wp2_with fail
      go_roundw
      case rel => exact ⟨1, by omega, rfl, by simp, rfl⟩
      case measure => simp [intOf]
    · have hz1' : ¬ ((n1 : Int) + (n2 : Int) < 0) := by omega
      have e2 : wrap64 ((n1 : Int) + (n2 : Int)) = (n1 : Int) + (n2 : Int) := by unfold wrap64; omega
      simp only [if_true, Nat.one_ne_zero, if_false]
      go_wp2_with fail
      go_roundw
      case rel => exact ⟨2, by omega, rfl, by simp, rfl⟩
      case measure => simp [intOf]
    · have hs : (if (2 : Nat) = 0 then 0 else if (2 : Nat) = 1 then n1 else n1 + n2) = n1 + n2 := rfl
      rw [hs]
      have HGr := Lib.hid (GrowN_nil (n1 + n2) w (by omega))
      go_wp2_with fail
      refine HGr.out.mono ?_
      rintro e w1 ⟨v1, rfl, ho1, hb1⟩
      have d0 := (hb1.cell (p := ⟨X, 0, none⟩) hX).trans c0
      go_wp2_with fail
      go_loopw [6, 27] (ConcatNR2 w n1 n2 xs ys) (fun _ i _ => 2 - (intOf i).toNat)
      case atStart => exact ⟨0, by omega, rfl, hb1, by simpa using ho1⟩
      case round =>
        obtain ⟨k, hk, rfl, hb2, ho2⟩ := hrel
        have d1 := (hb2.cell (p := ⟨X, 0, none⟩) hX).trans c0
        have d2 := (hb2.cell (p := ⟨X, 1, none⟩) hX).trans c1'
        have hsz := hb2.size
        obtain rfl | rfl | rfl : k = 0 ∨ k = 1 ∨ k = 2 := by omega
        · simp only [if_true, List.map_nil] at ho2
          go_wp2_with (at_builtin; refine wpList_append_row _ rfl _ _ 38 rfl w.heap.size 53 i0 (.string ⟨#[]⟩) 16 Tryz.underlying38 hi hz0 hz1 hz2 rfl _ _ _ rfl ho2 w.heap.size A1 n1 c1 (xs.map encN) rfl (R1.out.below hb2) (ONE.out xs) (by unfold maxLen; omega) (by omega) hsz ?_; intro v3 w3 ho3 hg3)
          go_roundw
          case rel => exact ⟨1, by omega, rfl, hb2.grown hg3 hsz (own_block_le ho2), by simpa using ho3⟩
          case measure => simp [intOf]
        · simp only [Nat.one_ne_zero, if_true, if_false] at ho2
          go_wp2_with (at_builtin; refine wpList_append_row _ rfl _ _ 38 rfl w.heap.size 53 i0 (.string ⟨#[]⟩) 16 Tryz.underlying38 hi hz0 hz1 hz2 rfl _ _ _ rfl ho2 w.heap.size A2 n2 c2 (ys.map encN) rfl (R2.out.below hb2) (ONE.out ys) (by unfold maxLen; omega) (by omega) hsz ?_; intro v3 w3 ho3 hg3)
          go_roundw
          case rel => exact ⟨2, by omega, rfl, hb2.grown hg3 hsz (own_block_le ho2), by rw [← List.map_append] at ho3; exact ho3⟩
          case measure => simp [intOf]
        · go_wp2_with fail
          go_ret
          exact ⟨_, rfl, ho2, hb2⟩

end Go.Proofs.YtnibcffcbnjllaaGreatDoor
/- script.without: the elements of a list that are not in another one. -/
namespace Go.Proofs.YtnibcffcbnjllaaGreatDoor
open Go.RowKit Go.Sort Go.Maps

theorem intKeyed : Keyed Tryz.prog 3 := int_keyed Tryz.underlying3
theorem wf_i64 {x : Int} (h : I64 x) : (Lit.int .i64 x).wf = true := by
  have e1 : IntKind.i64.min = -9223372036854775808 := by decide
  have e2 : IntKind.i64.max = 9223372036854775807 := by decide
  unfold I64 at h
  simp [Lit.wf, e1, e2]
  omega
theorem intKey (x : Int) (h : I64 x) : keyOf Tryz.prog 3 (.int .i64 x) = some (Lit.int .i64 x) := keyOf_int_mk Tryz.underlying3 (wf_i64 h)


def WoutIR1 (W1 : World) (M : Nat) (ys : List Int) (i : Value) (wr : World) : Prop :=
  ∃ k, k ≤ ys.length ∧ i = .int .i64 (k : Int) ∧ IsSet (Lit.int .i64) wr 3 M k (ys.take k).reverse ∧ W1.grownBy wr (some M)
def WoutIR2 (W5 : World) (n : Nat) (xs ys : List Int) (v i : Value) (wr : World) : Prop :=
  ∃ k ts, k ≤ n ∧ i = .int .i64 (k : Int) ∧ ts = (xs.take k).filter (fun x => !decide (x ∈ ys)) ∧ wr.ownsRow W5.heap.size 3 1 v ts.length (ts.map encI) ∧ Below W5.heap.size W5 wr
set_option maxRecDepth 100000 in
set_option maxHeartbeats 4000000 in
theorem WoutI_any (A A' : Option Addr) (n c m d : Nat) (xs ys : List Int) (w : World) (hn : n ≤ 1000) (hm : m ≤ 1000) (hx : ∀ x ∈ xs, I64 x) (hy : ∀ x ∈ ys, I64 x) (r1 : Row w w.heap.size 1 A n (xs.map encI)) (r2 : Row w w.heap.size 1 A' m (ys.map encI)) :
    Calls Tryz.prog 53 #[.slice A n c, .slice A' m d] w fun e w' => ∃ v, e = .returned v ∧ w'.ownsRow w.heap.size 3 1 v (xs.filter fun x => !decide (x ∈ ys)).length ((xs.filter fun x => !decide (x ∈ ys)).map encI) ∧ Below w.heap.size w w' := by
  obtain ⟨i0, hi, hz0, hz1, hz2⟩ := info_parts Tryz.infoInt
  have hlx : xs.length = n := by simpa using r1.1
  have hly : ys.length = m := by simpa using r2.1
  have R1 := Lib.hid r1
  have R2 := Lib.hid r2
  have HX := Lib.hid hx
  have HY := Lib.hid hy
  have hmk : ∀ w, (Instr.makeMap 115 none).run Tryz.prog w = .ok (.map (some w.heap.size)) (w.alloc (.map #[] 0)) := fun w => by kernel_rfl
  have hset0 := IsSet.made (Lit.int .i64) w 3
  have hb0 := (Below.refl w.heap.size w).alloc (Nat.le_refl _) (.map #[] 0)
  obtain ⟨W1, hW1⟩ : ∃ W1, w.alloc (.map #[] 0) = W1 := ⟨_, rfl⟩
  have hM1 : w.heap.size < W1.heap.size := by rw [← hW1]; simp
  rw [hW1] at hset0 hb0
  have HW := Lib.hid hW1
  obtain ⟨M, hM⟩ : ∃ M, w.heap.size = M := ⟨_, rfl⟩
  rw [hM] at hset0 hb0 R1 R2 hM1 ⊢
  have HM := Lib.hid hM
  clear r1 r2 hx hy hW1 hM
  go_enter Tryz.func53, Tryz.ntmps53
  go_wp2_with fail
  rw [HW.out, HM.out]
  go_loopw [14] (WoutIR1 W1 M ys) (fun i _ => m - (intOf i).toNat)
  case atStart => exact ⟨0, by omega, rfl, by simpa using hset0, World.grownBy.refl _ _⟩
  case round =>
    obtain ⟨k, hk, rfl, hset, hg⟩ := hrel
    have hbr := hb0.grown hg (Nat.le_of_lt hM1) (fun k hk => by injection hk with hk; omega)
    by_cases hlt : k < m
    · obtain ⟨bx, ox, u, rfl, hbx, hx0, cx⟩ := R2.out.at1 hlt
      rw [List.getElem?_map] at hx0
      obtain ⟨x, hx, rfl⟩ := Option.map_eq_some_iff.1 hx0
      clear hx0
      have cxr := (hbr.cell (p := ⟨bx, ox + k, none⟩) hbx).trans cx
      unfold encI at cxr
      have hxo := HY.out x (List.mem_of_getElem? hx)
      have hkey := intKey x hxo
      have htk : (ys.take (k + 1)).reverse = x :: (ys.take k).reverse := by rw [List.take_add_one, hx]; simp
      have HTK := Lib.hid htk
      clear htk hx hxo cx
      go_wp2_with (at_mapUpdate; refine wpList_set_add _ rfl _ _ _ 115 rfl 3 intKeyed (fun a b h => by injection h) Tryz.underlying115 M k _ rfl hset (by unfold maxLen; omega) _ x rfl rfl hkey trivial ?_; intro w5 hset5 hg5)
      go_roundw
      case rel => exact ⟨k + 1, by omega, by go_num, by rw [HTK.out]; exact hset5, hg.trans hg5⟩
      case measure => simp [intOf]; omega
    · obtain rfl : k = m := by omega
      have hall : ys.take k = ys := by rw [← hly, List.take_length]
      rw [hall] at hset
      obtain ⟨W5, hW5⟩ : ∃ W5, W5 = wr := ⟨_, rfl⟩
      subst hW5
      have hsz5 : M ≤ W5.heap.size := Nat.le_of_lt (hset.lt)
      clear hall hg hset0 hlt
      go_wp2_with fail
      go_loopw [8, 23] (WoutIR2 W5 n xs ys) (fun _ i _ => n - (intOf i).toNat)
      case atStart => exact ⟨0, [], by omega, rfl, by simp, World.ownsRow_nil _ _ _ _, Below.refl _ _⟩
      case round =>
        obtain ⟨k2, ts, hk2, rfl, hts, hown, hb5⟩ := hrel
        have htl : ts.length ≤ k2 := by rw [hts]; exact filter_take_len _ _ _
        have HTS := Lib.hid hts
        have hsz := hb5.size
        have hB := hbr.trans (hb5.mono hsz5)
        have hset2 := hset.later hb5
        clear hts
        by_cases hlt : k2 < n
        · obtain ⟨bx, ox, u, rfl, hbx, hx0, cx⟩ := R1.out.at1 hlt
          rw [List.getElem?_map] at hx0
          obtain ⟨x, hx, rfl⟩ := Option.map_eq_some_iff.1 hx0
          clear hx0
          have cxr := (hB.cell (p := ⟨bx, ox + k2, none⟩) hbx).trans cx
          unfold encI at cxr
          have hxo := HX.out x (List.mem_of_getElem? hx)
          have hkey := intKey x hxo
          have hlook := hset2.look intKeyed Tryz.underlying115 hkey
          have hstep := filter_take_succ (fun x => !decide (x ∈ ys)) xs k2 x hx
          by_cases hin : x ∈ ys
          · simp only [List.mem_reverse, hin, decide_true] at hlook
            rw [if_neg (by simp [hin]), ← HTS.out, List.append_nil] at hstep
            have HST := Lib.hid hstep
            clear hstep hin hx hxo cx
            go_wp2_with fail
            go_roundw
            case rel => exact ⟨k2 + 1, ts, by omega, by go_num, HST.out.symm, hown, hb5⟩
            case measure => simp [intOf]; omega
          · simp only [List.mem_reverse, hin, decide_false] at hlook
            rw [if_pos (by simp [hin]), ← HTS.out] at hstep
            have HST := Lib.hid hstep
            clear hstep hin hx hxo cx
            go_wp2_with (at_builtin; refine wpList_append_own _ rfl _ _ 36 rfl W5.heap.size 3 i0 (.int .i64 0) 1 8 Tryz.underlying36 hi hz0 hz1 hz2 rfl (by decide) _ _ _ rfl (hown.alloc _) ⟨wr.heap.size, 0, none⟩ 1 1 [.int .i64 x] rfl rfl (cell_one_new _ _ _) (by simp [Value.oneCell']) (by unfold maxLen; omega) (by omega) (by simp; omega) ?_; intro v' w8 hown' hgrow _; have R := Lib.hid (own_step hown hb5 hgrow); clear hgrow)
            go_roundw
            case rel => exact ⟨k2 + 1, ts ++ [x], by omega, by go_num, HST.out.symm, by rw [List.map_append, List.length_append]; exact hown', R.out⟩
            case measure => simp [intOf]; omega
        · obtain rfl : k2 = n := by omega
          have hte : ts = xs.filter (fun x => !decide (x ∈ ys)) := by rw [HTS.out, ← hlx, List.take_length]
          have HTE := Lib.hid hte
          clear hte
          go_wp2_with fail
          go_ret
          rw [← HTE.out]
          exact ⟨_, rfl, own_base hown hsz5, hB⟩
def WoutNR1 (W1 : World) (M : Nat) (ys : List Nm) (i : Value) (wr : World) : Prop :=
  ∃ k, k ≤ ys.length ∧ i = .int .i64 (k : Int) ∧ IsSet Lit.string wr 53 M k (ys.take k).reverse ∧ W1.grownBy wr (some M)
def WoutNR2 (W5 : World) (n : Nat) (xs ys : List Nm) (v i : Value) (wr : World) : Prop :=
  ∃ k ts, k ≤ n ∧ i = .int .i64 (k : Int) ∧ ts = (xs.take k).filter (fun x => !decide (x ∈ ys)) ∧ wr.ownsRow W5.heap.size 53 1 v ts.length (ts.map encN) ∧ Below W5.heap.size W5 wr
set_option maxRecDepth 100000 in
set_option maxHeartbeats 4000000 in
theorem WoutN_any (A A' : Option Addr) (n c m d : Nat) (xs ys : List Nm) (w : World) (hn : n ≤ 1000) (hm : m ≤ 1000) (hx : ∀ x ∈ xs, x.length ≤ 1000) (hy : ∀ x ∈ ys, x.length ≤ 1000) (r1 : Row w w.heap.size 1 A n (xs.map encN)) (r2 : Row w w.heap.size 1 A' m (ys.map encN)) :
    Calls Tryz.prog 54 #[.slice A n c, .slice A' m d] w fun e w' => ∃ v, e = .returned v ∧ w'.ownsRow w.heap.size 53 1 v (xs.filter fun x => !decide (x ∈ ys)).length ((xs.filter fun x => !decide (x ∈ ys)).map encN) ∧ Below w.heap.size w w' := by
  obtain ⟨i0, hi, hz0, hz1, hz2⟩ := info_parts Tryz.infoName
  have hlx : xs.length = n := by simpa using r1.1
  have hly : ys.length = m := by simpa using r2.1
  have R1 := Lib.hid r1
  have R2 := Lib.hid r2
  have HX := Lib.hid hx
  have HY := Lib.hid hy
  have hmk : ∀ w, (Instr.makeMap 103 none).run Tryz.prog w = .ok (.map (some w.heap.size)) (w.alloc (.map #[] 0)) := fun w => by kernel_rfl
  have hset0 := IsSet.made Lit.string w 53
  have hb0 := (Below.refl w.heap.size w).alloc (Nat.le_refl _) (.map #[] 0)
  obtain ⟨W1, hW1⟩ : ∃ W1, w.alloc (.map #[] 0) = W1 := ⟨_, rfl⟩
  have hM1 : w.heap.size < W1.heap.size := by rw [← hW1]; simp
  rw [hW1] at hset0 hb0
  have HW := Lib.hid hW1
  obtain ⟨M, hM⟩ : ∃ M, w.heap.size = M := ⟨_, rfl⟩
  rw [hM] at hset0 hb0 R1 R2 hM1 ⊢
  have HM := Lib.hid hM
  clear r1 r2 hx hy hW1 hM
  go_enter Tryz.func54, Tryz.ntmps54
  go_wp2_with fail
  rw [HW.out, HM.out]
  go_loopw [14] (WoutNR1 W1 M ys) (fun i _ => m - (intOf i).toNat)
  case atStart => exact ⟨0, by omega, rfl, by simpa using hset0, World.grownBy.refl _ _⟩
  case round =>
    obtain ⟨k, hk, rfl, hset, hg⟩ := hrel
    have hbr := hb0.grown hg (Nat.le_of_lt hM1) (fun k hk => by injection hk with hk; omega)
    by_cases hlt : k < m
    · obtain ⟨bx, ox, u, rfl, hbx, hx0, cx⟩ := R2.out.at1 hlt
      rw [List.getElem?_map] at hx0
      obtain ⟨x, hx, rfl⟩ := Option.map_eq_some_iff.1 hx0
      clear hx0
      have cxr := (hbr.cell (p := ⟨bx, ox + k, none⟩) hbx).trans cx
      unfold encN at cxr
      have hxo := HY.out x (List.mem_of_getElem? hx)
      have hkey := nameKey x (by omega)
      have htk : (ys.take (k + 1)).reverse = x :: (ys.take k).reverse := by rw [List.take_add_one, hx]; simp
      have HTK := Lib.hid htk
      clear htk hx hxo cx
      go_wp2_with (at_mapUpdate; refine wpList_set_add _ rfl _ _ _ 103 rfl 53 nameKeyed (fun a b h => by injection h) Tryz.underlying103 M k _ rfl hset (by unfold maxLen; omega) _ x rfl rfl hkey trivial ?_; intro w5 hset5 hg5)
      go_roundw
      case rel => exact ⟨k + 1, by omega, by go_num, by rw [HTK.out]; exact hset5, hg.trans hg5⟩
      case measure => simp [intOf]; omega
    · obtain rfl : k = m := by omega
      have hall : ys.take k = ys := by rw [← hly, List.take_length]
      rw [hall] at hset
      obtain ⟨W5, hW5⟩ : ∃ W5, W5 = wr := ⟨_, rfl⟩
      subst hW5
      have hsz5 : M ≤ W5.heap.size := Nat.le_of_lt (hset.lt)
      clear hall hg hset0 hlt
      go_wp2_with fail
      go_loopw [8, 23] (WoutNR2 W5 n xs ys) (fun _ i _ => n - (intOf i).toNat)
      case atStart => exact ⟨0, [], by omega, rfl, by simp, World.ownsRow_nil _ _ _ _, Below.refl _ _⟩
      case round =>
        obtain ⟨k2, ts, hk2, rfl, hts, hown, hb5⟩ := hrel
        have htl : ts.length ≤ k2 := by rw [hts]; exact filter_take_len _ _ _
        have HTS := Lib.hid hts
        have hsz := hb5.size
        have hB := hbr.trans (hb5.mono hsz5)
        have hset2 := hset.later hb5
        clear hts
        by_cases hlt : k2 < n
        · obtain ⟨bx, ox, u, rfl, hbx, hx0, cx⟩ := R1.out.at1 hlt
          rw [List.getElem?_map] at hx0
          obtain ⟨x, hx, rfl⟩ := Option.map_eq_some_iff.1 hx0
          clear hx0
          have cxr := (hB.cell (p := ⟨bx, ox + k2, none⟩) hbx).trans cx
          unfold encN at cxr
          have hxo := HX.out x (List.mem_of_getElem? hx)
          have hkey := nameKey x (by omega)
          have hlook := hset2.look nameKeyed Tryz.underlying103 hkey
          have hstep := filter_take_succ (fun x => !decide (x ∈ ys)) xs k2 x hx
          by_cases hin : x ∈ ys
          · simp only [List.mem_reverse, hin, decide_true] at hlook
            rw [if_neg (by simp [hin]), ← HTS.out, List.append_nil] at hstep
            have HST := Lib.hid hstep
            clear hstep hin hx hxo cx
            go_wp2_with fail
            go_roundw
            case rel => exact ⟨k2 + 1, ts, by omega, by go_num, HST.out.symm, hown, hb5⟩
            case measure => simp [intOf]; omega
          · simp only [List.mem_reverse, hin, decide_false] at hlook
            rw [if_pos (by simp [hin]), ← HTS.out] at hstep
            have HST := Lib.hid hstep
            clear hstep hin hx hxo cx
            go_wp2_with (at_builtin; refine wpList_append_own _ rfl _ _ 38 rfl W5.heap.size 53 i0 (.string ⟨#[]⟩) 1 16 Tryz.underlying38 hi hz0 hz1 hz2 rfl (by decide) _ _ _ rfl (hown.alloc _) ⟨wr.heap.size, 0, none⟩ 1 1 [.string ⟨x.toArray⟩] rfl rfl (cell_one_new _ _ _) (by simp [Value.oneCell']) (by unfold maxLen; omega) (by omega) (by simp; omega) ?_; intro v' w8 hown' hgrow _; have R := Lib.hid (own_step hown hb5 hgrow); clear hgrow)
            go_roundw
            case rel => exact ⟨k2 + 1, ts ++ [x], by omega, by go_num, HST.out.symm, by rw [List.map_append, List.length_append]; exact hown', R.out⟩
            case measure => simp [intOf]; omega
        · obtain rfl : k2 = n := by omega
          have hte : ts = xs.filter (fun x => !decide (x ∈ ys)) := by rw [HTS.out, ← hlx, List.take_length]
          have HTE := Lib.hid hte
          clear hte
          go_wp2_with fail
          go_ret
          rw [← HTE.out]
          exact ⟨_, rfl, own_base hown hsz5, hB⟩

end Go.Proofs.YtnibcffcbnjllaaGreatDoor
