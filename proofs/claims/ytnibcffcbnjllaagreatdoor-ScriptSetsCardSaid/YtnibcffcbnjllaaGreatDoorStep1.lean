/- step.Root: the name of the root process of an input (lineage.Make at one ordinal). -/
import Derived.Test.YtnibcffcbnjllaaGreatDoorLin5
import Derived.Lib.ItoaLen
namespace Go.Proofs.YtnibcffcbnjllaaGreatDoor
open Go.RowKit Go.Sort

theorem below_grow {w : World} (q : Nat) (os : Array Obj) : Below w.heap.size w (grow (w.drewN q) os) := below_grown w q os

theorem Tryz.infoStr : (Tryz.prog.info? 9).map (fun i => (i.zero, i.size, i.bytes)) = some (some (.string ⟨#[]⟩), 1, 16) := by kernel_rfl

def MakeRel (w W1 : World) (x : Int) (v i : Value) (wr : World) : Prop :=
  ((i = .int .i64 0 ∧ v = .slice (some ⟨w.heap.size, 0, none⟩) 0 1 ∧ wr = W1) ∨ (i = .int .i64 1 ∧ wr.ownsRow w.heap.size 9 1 v 1 [encN (Lib.itoa x)])) ∧ Below w.heap.size w wr

set_option maxRecDepth 100000 in
set_option maxHeartbeats 1000000 in
theorem Make1_any (b off c : Nat) (x : Int) (w : World) (hok : Ok w) (hx1 : 1 ≤ x) (hx2 : x ≤ 999999) (hb : b < w.heap.size) (hc : w.cell? ⟨b, off, none⟩ = some (.int .i64 x)) :
    Calls Tryz.prog 80 #[.slice (some ⟨b, off, none⟩) 1 c] w fun e w' => e = .returned (.tuple #[encN (Lib.itoa x), .int .i64 0]) ∧ Below w.heap.size w w' := by
  obtain ⟨i0, hi, hz0, hz1, hz2⟩ := info_parts Tryz.infoStr
  have hmk : ∀ w, (Instr.makeSlice 82 (.int .i64 0) (.int .i64 1)).run Tryz.prog w = .ok (.slice (some ⟨w.heap.size, 0, none⟩) 0 1) (w.alloc (.cells #[.string ⟨#[]⟩] 9)) := fun _ => by kernel_rfl
  have hord : ordB x = true := by simp [ordB, hx1, hx2]
  have hlen : (Lib.itoa x).length ≤ 21 := Lib.itoa_length_le x (by omega) (by omega)
  have HN := Lib.hid hlen
  clear hlen
  obtain ⟨W1, hW1⟩ : ∃ W1, w.alloc (.cells #[.string ⟨#[]⟩] 9) = W1 := ⟨_, rfl⟩
  have hz : W1.heap.size = w.heap.size + 1 := by rw [← hW1]; simp
  have hb0 : Below w.heap.size w W1 := by rw [← hW1]; exact (Below.refl _ w).alloc (Nat.le_refl _) _
  have hm0 : W1.ownsRow w.heap.size 9 1 (.slice (some ⟨w.heap.size, 0, none⟩) 0 1) 0 [] := by
    rw [← hW1]; exact World.ownsRow_made w #[.string ⟨#[]⟩] 1 (Nat.le_refl _) (by simp [maxLen]) rfl
  have HW := Lib.hid hW1
  have HZ := Lib.hid hz
  clear hW1 hz
  go_enter Tryz.func80, Tryz.ntmps80
  go_wp2
  rw [HW.out]
  clear hmk
  go_loopw [4, 15] (MakeRel w W1 x) (fun _ i _ => 1 - (intOf i).toNat)
  case atStart => exact ⟨.inl ⟨rfl, rfl, rfl⟩, hb0⟩
  case round =>
    obtain ⟨hrel, hbr⟩ := hrel
    have hcr := (hbr.cell (p := ⟨b, off, none⟩) hb).trans hc
    rcases hrel with ⟨rfl, rfl, rfl⟩ | ⟨rfl, hown⟩
    · go_wp2_with fail
      refine (isOrdinal_any _ _).mono ?_
      rintro e w' ⟨rfl, rfl⟩
      go_wp2_with fail
      refine (Tryz.strconv_Itoa x (by omega) (by omega) _ (hok.later hb0).pow10).mono ?_
      rintro e w' ⟨rfl, q, os, rfl⟩
      have hbi : Below wr.heap.size wr (grow (wr.drewN q) os) := below_grow q os
      have hm1 := hm0.kept (below_grown0 hbi) (.inr (by simp [Value.ownBlock]))
      generalize grow (wr.drewN q) os = W2 at hbi hm1 ⊢
      have hsz := hbi.size
      have hsz0 : w.heap.size ≤ W2.heap.size := by have := HZ.out; omega
      go_wp2_with (at_builtin; refine wpList_append_own _ rfl _ _ 82 rfl w.heap.size 9 i0 (.string ⟨#[]⟩) 1 16 Tryz.underlying82 hi hz0 hz1 hz2 rfl (by decide) _ _ _ rfl (hm1.alloc _) ⟨W2.heap.size, 0, none⟩ 1 1 [.string ⟨(Lib.itoa x).toArray⟩] rfl rfl (cell_one_new _ _ _) (by simp [Value.oneCell']) (by unfold maxLen; omega) (by omega) (by simp; omega) ?_; intro v' w1 hown' hgrow _; have R := Lib.hid (own_step hm1 (hb0.trans (hbi.mono (by have := HZ.out; omega))) hgrow); clear hgrow)
      go_roundw
      case rel => exact ⟨.inr ⟨rfl, hown'⟩, R.out⟩
      case measure => simp [intOf]
    · obtain ⟨g, cap, rfl⟩ := ownsRow_succ hown
      have hlt := (hown.lt g (by simp [Value.ownBlock])).2
      have hcap : 1 ≤ cap := by
        rcases hown.2 with ⟨h, _⟩ | ⟨g', cap', cur, h, _, _, h2, _⟩
        · cases h
        · injection h with _ _ h; omega
      have hcell : wr.cell? ⟨g, 0, none⟩ = some (encN (Lib.itoa x)) := hown.cellAt 0 (by simp)
      have hj : Lib.join ([(⟨(Lib.itoa x).toArray⟩ : ByteArray)].map (·.data.toList)) (⟨#[46]⟩ : ByteArray).data.toList = Lib.itoa x := by simp [Lib.join]
      have HJ := Lib.hid hj
      have HC := Lib.hid hcell
      clear hj hcell hown hm0
      go_wp2_with fail
      refine (Tryz.strings_Join g 0 cap [⟨(Lib.itoa x).toArray⟩] ⟨#[46]⟩ _ ?_ hlt (by simp) hcap ?_).mono ?_
      · intro j y hy
        match j, hy with
        | 0, hy => simp at hy; subst hy; exact HC.out
        | j + 1, hy => simp at hy
      · rw [HJ.out]; have := HN.out; omega
      rw [HJ.out]
      rintro e w3 ⟨rfl, hb3⟩
      go_wp2_with fail
      go_ret2
      exact ⟨rfl, hbr.trans (hb3.mono hbr.size)⟩

/-- The name and the error that step.Root returns. -/
def rootNm (n : Int) : Nm := if 1 ≤ n ∧ n ≤ 999999 then Lib.itoa n else []
def rootErr (n : Int) : Int := if 1 ≤ n ∧ n ≤ 999999 then 0 else 2

set_option maxHeartbeats 1000000 in
theorem stepRoot_any (x : Int) (w : World) (hok : Ok w) :
    Calls Tryz.prog 49 #[.int .i64 x] w fun e w' => e = .returned (.tuple #[encN (rootNm x), .int .i64 (rootErr x)]) ∧ Below w.heap.size w w' := by
  by_cases h1 : 1 ≤ x
  · by_cases h2 : x ≤ 999999
    · have e : rootNm x = Lib.itoa x := by unfold rootNm; rw [if_pos ⟨h1, h2⟩]
      have e2 : rootErr x = 0 := by unfold rootErr; rw [if_pos ⟨h1, h2⟩]
      have HE := Lib.hid e
      have HE2 := Lib.hid e2
      have hok1 := fun o => hok.later ((Below.refl _ w).alloc (Nat.le_refl _) o)
      have HO := Lib.hid hok1
      clear e e2 hok1
      go_enter Tryz.func49, Tryz.ntmps49
      go_wp2_with fail
      refine (Make1_any w.heap.size 0 1 x _ (HO.out _) h1 h2 (by simp) (by simp)).mono ?_
      rintro e w1 ⟨rfl, hb1⟩
      go_wp2_with fail
      go_ret2
      exact ⟨by rw [HE.out, HE2.out]; rfl, ((Below.refl _ w).alloc (Nat.le_refl _) _).trans (hb1.mono (by simp))⟩
    · have e : rootNm x = [] := by unfold rootNm; rw [if_neg (fun h => h2 h.2)]
      have e2 : rootErr x = 2 := by unfold rootErr; rw [if_neg (fun h => h2 h.2)]
      have HE := Lib.hid e
      have HE2 := Lib.hid e2
      clear e e2
      go_enter Tryz.func49, Tryz.ntmps49
      go_wp2_with fail
      go_ret2
      exact ⟨by rw [HE.out, HE2.out]; rfl, Below.refl _ _⟩
  · have e : rootNm x = [] := by unfold rootNm; rw [if_neg (fun h => h1 h.1)]
    have e2 : rootErr x = 2 := by unfold rootErr; rw [if_neg (fun h => h1 h.1)]
    have HE := Lib.hid e
    have HE2 := Lib.hid e2
    clear e e2
    go_enter Tryz.func49, Tryz.ntmps49
    go_wp2_with fail
    go_ret2
    exact ⟨by rw [HE.out, HE2.out]; rfl, Below.refl _ _⟩

end Go.Proofs.YtnibcffcbnjllaaGreatDoor
