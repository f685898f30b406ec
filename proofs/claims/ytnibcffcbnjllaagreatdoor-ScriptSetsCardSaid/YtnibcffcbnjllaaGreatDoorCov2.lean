/- (Without).Covers, (Without).Empty. -/
import Derived.Test.YtnibcffcbnjllaaGreatDoorCov1
import Derived.Deep.RegionHeld3
import Derived.Deep.RegionWith
namespace Go.Proofs.YtnibcffcbnjllaaGreatDoor
open Go.RowKit

theorem below_of_drew {W w1 : World} (h : Below W.drew.heap.size W.drew w1) : Below W.heap.size W w1 := ⟨h.os, h.tape, h.output, h.size, h.block⟩
def scrCoversB (xs : List Int) (ns : List Nm) (s : Nm) : Bool := hasInB xs (lastOf (rootOf s) : Int) || ns.any (scrCovB s)

set_option maxRecDepth 100000 in
set_option maxHeartbeats 4000000 in
theorem ScrCovers_any (A A' : Option Addr) (n c m d : Nat) (xs : List Int) (ns : List Nm) (s : ByteArray) (w : World) (hok : Ok w) (hn : n ≤ 1000) (hm : m ≤ 1000) (hns : ∀ x ∈ ns, x.length ≤ 1000) (hs : s.size ≤ 4294967280) (hr : Row w w.heap.size 1 A n (xs.map encI)) (hr2 : Row w w.heap.size 1 A' m (ns.map encN)) :
    Calls Tryz.prog 22 #[.agg #[.slice A n c, .slice A' m d], .string s] w fun e w' => e = .returned (.bool (scrCoversB xs ns s.data.toList)) ∧ Below w.heap.size w w' := by
  obtain ⟨r, hr0⟩ : ∃ r, scrCoversB xs ns s.data.toList = r := ⟨_, rfl⟩
  rw [hr0]
  obtain ⟨B, hB⟩ : ∃ B, w.heap.size = B := ⟨_, rfl⟩
  have b0 := (Box2.new w 47 (.slice A n c) (.slice A' m d)).alloc (.cells #[.string s] 53)
  have b1 := Boxed.new (w.alloc (.cells #[.slice A n c, .slice A' m d] 47)) 53 (.string s)
  have hB0 : Below w.heap.size w ((w.alloc (.cells #[.slice A n c, .slice A' m d] 47)).alloc (.cells #[.string s] 53)) :=
    ((Below.refl _ w).alloc (Nat.le_refl _) _).alloc (by simp) _
  simp only [World.size_alloc] at b1
  obtain ⟨W0, hW0⟩ : ∃ W0, (w.alloc (.cells #[.slice A n c, .slice A' m d] 47)).alloc (.cells #[.string s] 53) = W0 := ⟨_, rfl⟩
  rw [hW0] at b0 b1 hB0
  have hR := fun W (hb : Below w.heap.size w W) => Root44_any s W (hok.later hb) hs
  have hrl := rootOf_len s.data.toList
  have hsz := size_nm s
  have hLst := fun W => Last_any ⟨(rootOf s.data.toList).toArray⟩ W (by show (rootOf s.data.toList).toArray.size ≤ _; simp; omega)
  have hHI := fun W (hb : Below w.heap.size w W) => HasInput_any A A' n c m d xs (lastOf (rootOf s.data.toList) : Int) W (by omega) ((hr.below hb).more hb.size)
  have hCF := fun W (hb : Below w.heap.size w W) (hc : Boxed W (w.heap.size + 1) 53 (.string s)) => ContainsFunc_any 47 #[.pointer (some ⟨w.heap.size + 1, 0, none⟩)] (enters_of Tryz.func47 (by kernel_rfl) rfl) (scrCovB s.data.toList) A' m d ns W (by omega) ((hr2.below hb).more hb.size) (by
    intro W' a hb' ha
    have hl := hns _ ha
    have hz := size_nm a
    refine ScrCov1 a s (w.heap.size + 1) W' (by omega) hs ?_
    exact (hb'.cell (p := ⟨w.heap.size + 1, 0, none⟩) hc.lt).trans hc.cell)
  rw [hB] at b0 b1 hB0 hHI hCF hR ⊢
  have HR := Lib.hid hR
  have HL : Hid (∀ W, Calls Tryz.prog 45 #[encN (rootOf s.data.toList)] W fun e w' => e = .returned (.int .i64 (lastOf (rootOf s.data.toList) : Int)) ∧ Below W.heap.size W w') := hLst
  have HHI := Lib.hid hHI
  have HCF := Lib.hid hCF
  have HW := Lib.hid hW0
  have HB := Lib.hid hB
  have hor : r = (hasInB xs (lastOf (rootOf s.data.toList) : Int) || ns.any (scrCovB s.data.toList)) := hr0.symm
  have HOR := Lib.hid hor
  clear hR hLst hHI hCF hW0 hB hr0 hor hrl hsz hns
  generalize hasInB xs (lastOf (rootOf s.data.toList) : Int) = q1 at HHI HOR
  generalize ns.any (scrCovB s.data.toList) = q2 at HCF HOR
  generalize (lastOf (rootOf s.data.toList) : Int) = lst at HL HHI
  generalize encN (rootOf s.data.toList) = rt at HR HL
  have c0 := b0.c0
  have c1 := b0.c1
  have c2 := b1.cell
  cases q1 with
  | true =>
    obtain rfl : r = true := HOR.out
    go_enter Tryz.func22, Tryz.ntmps22
    go_wp2_with fail
    rw [HW.out, HB.out]
    first
    | go_region_with (first
      | (go_at_call 44; refine (HR.out _ hB0.drew).mono ?_; rintro e w1 ⟨rfl, hb1⟩; replace hb1 := below_of_drew hb1; have x1 := b0.later hb1; have p0 := x1.c0; have p1 := x1.c1)
      | (go_at_call 45; refine (HL.out _).mono ?_; rintro e w2 ⟨rfl, hb2⟩; replace hb2 := hb1.trans (hb2.mono hb1.size); have x2 := b0.later hb2; have p02 := x2.c0; have p12 := x2.c1; have hB2 := hB0.trans (hb2.mono (by have := hB0.size; have := HB.out; omega)))
      | (go_at_call 20; refine (HHI.out _ hB2).mono ?_; rintro e w3 ⟨rfl, hb3⟩; replace hb3 := hb2.trans (hb3.mono hb2.size); have hB3 := hB0.trans (hb3.mono (by have := hB0.size; have := HB.out; omega))))
    | fail "no"
    all_goals
      go_wp2_with fail
      go_ret
      exact ⟨rfl, hB3⟩
  | false =>
    obtain rfl : r = q2 := HOR.out
    go_enter Tryz.func22, Tryz.ntmps22
    go_wp2_with fail
    rw [HW.out, HB.out]
    first
    | go_region_held3 (fun W => W.cell? ⟨B, 0, none⟩ = some (.slice A n c) ∧ W.cell? ⟨B, 1, none⟩ = some (.slice A' m d) ∧ W.cell? ⟨B + 1, 0, none⟩ = some (.string s)) (first | exact ⟨c0, c1, c2⟩ | exact S1 | exact S2 | exact S3 | exact S4) (first
      | (go_at_call 44; refine (HR.out _ hB0.drew).mono ?_; rintro e w1 ⟨rfl, hb1⟩; replace hb1 := below_of_drew hb1; have S1 := And.intro (b0.later hb1).c0 (And.intro (b0.later hb1).c1 (b1.kept (below_grown0 hb1) (by simp)).cell))
      | (go_at_call 45; refine (HL.out _).mono ?_; rintro e w2 ⟨rfl, hb2⟩; replace hb2 := hb1.trans (hb2.mono hb1.size); have S2 := And.intro (b0.later hb2).c0 (And.intro (b0.later hb2).c1 (b1.kept (below_grown0 hb2) (by simp)).cell); have hB2 := hB0.trans (hb2.mono (by have := hB0.size; have := HB.out; omega)))
      | (go_at_call 20; refine (HHI.out _ hB2).mono ?_; rintro e w3 ⟨rfl, hb3⟩; replace hb3 := hb2.trans (hb3.mono hb2.size); have r3 := b1.kept (below_grown0 hb3) (by simp); have S3 := And.intro (b0.later hb3).c0 (And.intro (b0.later hb3).c1 r3.cell); have hB3 := hB0.trans (hb3.mono (by have := hB0.size; have := HB.out; omega)))
      | (go_at_call 46; refine (HCF.out _ hB3 r3).mono ?_; rintro e w4 ⟨rfl, hb4⟩; have hB4 := hB3.trans (hb4.mono (by have := hB3.size; have := HB.out; omega)); replace hb4 := hb3.trans (hb4.mono hb3.size); have S4 := And.intro (b0.later hb4).c0 (And.intro (b0.later hb4).c1 (b1.kept (below_grown0 hb4) (by simp)).cell)))
    | fail "no"
    all_goals
      go_wp2_with fail
      go_ret
      exact ⟨rfl, hB4⟩

set_option maxHeartbeats 1000000 in
theorem Empty_any (A A' : Option Addr) (n c m d : Nat) (xs : List Int) (ns : List Nm) (w : World) (hok : Ok w) (hn : n ≤ 1000) (hm : m ≤ 1000) (hns : ∀ x ∈ ns, x.length ≤ 1000) (hr : Row w w.heap.size 1 A n (xs.map encI)) (hr2 : Row w w.heap.size 1 A' m (ns.map encN)) :
    Calls Tryz.prog 19 #[.agg #[.slice A n c, .slice A' m d]] w fun e w' => e = .returned (.bool (decide (canI xs = []) && decide (canL (canI xs) ns = []))) ∧ Below w.heap.size w w' := by
  have hC := fun o => canonical_any A A' n c m d xs ns (w.alloc o) (hok.later ((Below.refl _ w).alloc (Nat.le_refl _) o)) hn hm hns (hr.later ((Below.refl _ w).alloc (Nat.le_refl _) o)) (hr2.later ((Below.refl _ w).alloc (Nat.le_refl _) o))
  have hl1 : (canI xs).length ≤ 1000 := by
    have h1 := sortI_len (xs.filter fun x => decide (1 ≤ x))
    have h2 := List.length_filter_le (fun x => decide (1 ≤ x)) xs
    have h3 : xs.length = n := by simpa using hr.1
    unfold canI
    omega
  have hl2 : (canL (canI xs) ns).length ≤ 1000 := by
    have h1 := List.length_filter_le (fun x => !decide (rootOf x ∈ rootsN (canI xs))) (topsN (ns.filter okN))
    have h2 := topsN_len (ns.filter okN)
    have h3 := List.length_filter_le okN ns
    have h4 : ns.length = m := by simpa using hr2.1
    unfold canL
    omega
  have he1 : decide (canI xs = []) = (((canI xs).length : Int) == 0) := by
    rw [Bool.eq_iff_iff]; simp
  have he2 : decide (canL (canI xs) ns = []) = (((canL (canI xs) ns).length : Int) == 0) := by
    rw [Bool.eq_iff_iff]; simp
  rw [he1, he2]
  generalize canL (canI xs) ns = cl at hC hl2
  generalize canI xs = cx at hC hl1
  have HC := Lib.hid hC
  clear hC he1 he2
  have fin : ∀ (o o' : Obj) (w1 : World), Below (w.alloc o).heap.size (w.alloc o) w1 → Below w.heap.size w (w1.alloc o') := fun o o' w1 hb => (((Below.refl _ w).alloc (Nat.le_refl _) o).trans (hb.mono (by simp))).alloc (by have := hb.size; simp at this; omega) o'
  have FIN := Lib.hid fin
  clear fin
  cases h0 : ((cx.length : Int) == 0) with
  | false =>
    go_enter Tryz.func19, Tryz.ntmps19
    go_wp2_with fail
    refine (HC.out _).mono ?_
    rintro e w1 ⟨v1, v2, rfl, ho1, ho2, hb1⟩
    obtain ⟨A1, c1, rfl, _⟩ := own_form ho1
    obtain ⟨A2, c2, rfl, _⟩ := own_form ho2
    go_wp2_with fail
    go_ret
    exact ⟨rfl, FIN.out _ _ _ hb1⟩
  | true =>
    go_enter Tryz.func19, Tryz.ntmps19
    go_wp2_with fail
    refine (HC.out _).mono ?_
    rintro e w1 ⟨v1, v2, rfl, ho1, ho2, hb1⟩
    obtain ⟨A1, c1, rfl, _⟩ := own_form ho1
    obtain ⟨A2, c2, rfl, _⟩ := own_form ho2
    go_wp2_with fail
    go_ret
    exact ⟨rfl, FIN.out _ _ _ hb1⟩

end Go.Proofs.YtnibcffcbnjllaaGreatDoor
