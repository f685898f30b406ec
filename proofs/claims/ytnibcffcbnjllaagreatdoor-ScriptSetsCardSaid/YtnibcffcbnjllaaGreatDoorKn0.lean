/- The script of the chapter's example, and what the definitions say of it. -/
import Derived.Test.YtnibcffcbnjllaaGreatDoorAt
import Derived.Test.YtnibcffcbnjllaaGreatDoorKn3
namespace Go.Proofs.YtnibcffcbnjllaaGreatDoor
open Go.RowKit Go.Sort

def KI : Inp := ⟨4, 1, [], [], []⟩
def KS : Scr := ⟨5, 7, 3, [⟨5, KI⟩, ⟨5, KI⟩, ⟨6, KI⟩], []⟩
theorem KS_good : GoodS KS where
  h1 := by decide
  h2 := by decide
  h3 := by decide
  h4 := by decide
  h5 := by decide
  h6 := by decide
  h7 := by decide
  sched := rfl
  good := by
    intro t ht
    simp only [KS, List.mem_cons, List.not_mem_nil, or_false] at ht
    rcases ht with rfl | rfl | rfl <;> decide
  mono := by
    intro a b hab hb
    have hb' : b < 3 := hb
    have : b = 0 ∨ b = 1 ∨ b = 2 := by omega
    have : a = 0 ∨ a = 1 ∨ a = 2 := by omega
    rcases ‹b = 0 ∨ b = 1 ∨ b = 2› with rfl | rfl | rfl <;> rcases ‹a = 0 ∨ a = 1 ∨ a = 2› with rfl | rfl | rfl <;> first | omega | decide
theorem KS_places : placesOf KS 5 = [0, 1] := by decide
theorem KS_nums : (placesOf KS 5).map (fun i => encI (numAt KS i)) = [encI 4, encI 5] := by rw [KS_places]; rfl
theorem KS_cnt5 : cntB KS.inputs 5 = 0 := by decide
theorem KS_cnt6 : cntB KS.inputs 6 = 2 := by decide
theorem KS_cnt7 : cntB KS.inputs 7 = 3 := by decide
def KN : List Nm := [[55, 46, 49], [52, 46, 50], [55]]
theorem KS_take : [9, 4, 4].filter (inS KS) = [4, 4] := by decide
theorem single {l : List Int} {a : Int} (h1 : l.Pairwise (· < ·)) (h2 : ∀ x, x ∈ l ↔ x = a) : l = [a] := by
  cases l with
  | nil => have := (h2 a).2 rfl; simp at this
  | cons b r =>
    obtain rfl := (h2 b).1 (by simp)
    cases r with
    | nil => rfl
    | cons c r =>
      obtain rfl := (h2 c).1 (by simp)
      have := (List.pairwise_cons.1 h1).1 c (by simp)
      omega
theorem KS_canI : canI [4, 4] = [4] := by
  obtain ⟨h1, h2⟩ := canI_spec [4, 4]
  exact single h1 fun x => by rw [h2]; simp; omega
theorem KS_canL : canL [4] KN = [[55]] := by decide +kernel
theorem KS_canI1 : canI [4] = [4] := by
  obtain ⟨h1, h2⟩ := canI_spec [4]
  exact single h1 fun x => by rw [h2]; simp; omega
theorem KS_canL1 : canL [4] [[55]] = [[55]] := by decide +kernel
theorem KS_text : textN [4] [[55]] = [35, 52, 32, 55] := by decide +kernel
theorem KS_cov : scrCoversB [4] [[55]] [52, 46, 50] = true := by decide +kernel
theorem KS_has : hasInB [4] 4 = true := by decide

end Go.Proofs.YtnibcffcbnjllaaGreatDoor
