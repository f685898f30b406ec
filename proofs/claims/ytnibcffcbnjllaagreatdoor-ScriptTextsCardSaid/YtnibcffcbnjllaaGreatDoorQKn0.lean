/- The script of the chapter's example, and what the definitions say of it. -/
import Derived.Test.YtnibcffcbnjllaaGreatDoorQTake
import Derived.Test.YtnibcffcbnjllaaGreatDoorQKn1
namespace Go.Proofs.YtnibcffcbnjllaaGreatDoor
open Go.RowKit Go.Sort

def KI : Inp := ⟨4, 1, [], [], []⟩
def KS : Scr := ⟨5, 7, 3, [⟨5, KI⟩, ⟨5, KI⟩, ⟨6, KI⟩], []⟩
theorem KS_good : GoodS KS where
  h1 := by decide
  h2 := by decide
  h3 := by decide
  h4 := by decide
  h5 := by decide
  h6 := by decide
  h7 := by decide
  sched := rfl
  good := by
    intro t ht
    simp only [KS, List.mem_cons, List.not_mem_nil, or_false] at ht
    rcases ht with rfl | rfl | rfl <;> decide
  mono := by
    intro a b hab hb
    have hb' : b < 3 := hb
    have : b = 0 ∨ b = 1 ∨ b = 2 := by omega
    have : a = 0 ∨ a = 1 ∨ a = 2 := by omega
    rcases ‹b = 0 ∨ b = 1 ∨ b = 2› with rfl | rfl | rfl <;> rcases ‹a = 0 ∨ a = 1 ∨ a = 2› with rfl | rfl | rfl <;> first | omega | decide
theorem KS_places : placesOf KS 5 = [0, 1] := by decide
theorem KS_nums : (placesOf KS 5).map (fun i => encI (numAt KS i)) = [encI 4, encI 5] := by rw [KS_places]; rfl
theorem KS_cnt5 : cntB KS.inputs 5 = 0 := by decide
theorem KS_cnt6 : cntB KS.inputs 6 = 2 := by decide
theorem KS_cnt7 : cntB KS.inputs 7 = 3 := by decide
def KN : List Nm := [[55, 46, 49], [52, 46, 50], [55]]
theorem KS_take : [9, 4, 4].filter (inS KS) = [4, 4] := by decide
theorem single {l : List Int} {a : Int} (h1 : l.Pairwise (· < ·)) (h2 : ∀ x, x ∈ l ↔ x = a) : l = [a] := by
  cases l with
  | nil => have := (h2 a).2 rfl; simp at this
  | cons b r =>
    obtain rfl := (h2 b).1 (by simp)
    cases r with
    | nil => rfl
    | cons c r =>
      obtain rfl := (h2 c).1 (by simp)
      have := (List.pairwise_cons.1 h1).1 c (by simp)
      omega
theorem KS_canI : canI [4, 4] = [4] := by
  obtain ⟨h1, h2⟩ := canI_spec [4, 4]
  exact single h1 fun x => by rw [h2]; simp; omega
theorem KS_canL : canL [4] KN = [[55]] := by decide +kernel
theorem KS_canI1 : canI [4] = [4] := by
  obtain ⟨h1, h2⟩ := canI_spec [4]
  exact single h1 fun x => by rw [h2]; simp; omega
theorem KS_canL1 : canL [4] [[55]] = [[55]] := by decide +kernel
theorem KS_text : textN [4] [[55]] = [35, 52, 32, 55] := by decide +kernel
theorem KS_cov : scrCoversB [4] [[55]] [52, 46, 50] = true := by decide +kernel
theorem KS_has : hasInB [4] 4 = true := by decide

end Go.Proofs.YtnibcffcbnjllaaGreatDoor
/- known. -/
namespace Go.Proofs.YtnibcffcbnjllaaGreatDoor
open Go.RowKit Go.Sort

theorem KS_at {W : World} {B : Nat} (b : BoxN W B 33 #[.int .i64 5, .int .i64 4, .int .i64 1, .string ⟨#[]⟩, .string ⟨#[]⟩, .string ⟨#[]⟩, .int .i64 5, .int .i64 4, .int .i64 1, .string ⟨#[]⟩, .string ⟨#[]⟩, .string ⟨#[]⟩, .int .i64 6, .int .i64 4, .int .i64 1, .string ⟨#[]⟩, .string ⟨#[]⟩, .string ⟨#[]⟩]) :
    ScrAt W W.heap.size (some ⟨B, 0, none⟩) none 3 0 KS := by
  refine ⟨⟨rfl, fun _ => ⟨B, 0, rfl, b.lt, fun j u hu => ?_⟩⟩, rfl, ⟨[], Row.nil_, rfl, fun k x h => by simp [KS] at h⟩, by omega, by omega⟩
  rw [Nat.zero_add, b.c j]
  exact (List.getElem?_toArray ..).trans hu
theorem ints_row {W : World} {B : Nat} {t : TypeId} {xs : List Int} (b : BoxN W B t (xs.map encI).toArray) : Row W W.heap.size 1 (some ⟨B, 0, none⟩) xs.length (xs.map encI) := by
  refine ⟨by simp, fun _ => ⟨B, 0, rfl, b.lt, fun j u hu => ?_⟩⟩
  rw [Nat.zero_add, b.c j]
  exact (List.getElem?_toArray ..).trans hu
theorem names_row {W : World} {B : Nat} {t : TypeId} {xs : List Nm} (b : BoxN W B t (xs.map encN).toArray) : Row W W.heap.size 1 (some ⟨B, 0, none⟩) xs.length (xs.map encN) := by
  refine ⟨by simp, fun _ => ⟨B, 0, rfl, b.lt, fun j u hu => ?_⟩⟩
  rw [Nat.zero_add, b.c j]
  exact (List.getElem?_toArray ..).trans hu

/-- What At says of the example. -/
theorem KS_At (B : Nat) (W : World) (hS : ScrAt W W.heap.size (some ⟨B, 0, none⟩) none 3 0 KS) :
    Calls Tryz.prog 11 #[.agg #[.int .i64 5, .int .i64 7, .int .i64 3, .slice (some ⟨B, 0, none⟩) 3 3, .slice none 0 0], .int .i64 5] W fun e w' => ∃ A1 c1 A2 n2 c2 A3 n3 c3, e = .returned (.tuple #[.slice A1 2 c1, .slice A2 n2 c2, .slice A3 n3 c3]) ∧ Row w' w'.heap.size 1 A1 2 ([4, 5].map encI) ∧ Below W.heap.size W w' := by
  have h := At_any KS (some ⟨B, 0, none⟩) none 3 0 3 0 5 W hS (by unfold I64; omega) (by unfold I64; decide) (by decide) (by decide) (by omega) (by decide)
  refine h.mono ?_
  rintro e w' ⟨v1, v2, v3, rfl, h1, h2, h3, hb⟩
  rw [KS_nums, KS_places] at h1
  obtain ⟨A1, c1, rfl, hr1⟩ := own_form h1
  obtain ⟨A2, c2, rfl, _⟩ := own_form h2
  obtain ⟨A3, c3, rfl, _⟩ := own_form h3
  exact ⟨A1, c1, A2, _, c2, A3, _, c3, rfl, hr1, hb⟩

/-- What Cut must say of the example. -/
def KCut : Prop := ∀ (B : Nat) (W : World), Ok W → ScrAt W W.heap.size (some ⟨B, 0, none⟩) none 3 0 KS →
    Calls Tryz.prog 33 #[.agg #[.int .i64 5, .int .i64 7, .int .i64 3, .slice (some ⟨B, 0, none⟩) 3 3, .slice none 0 0], .int .i64 6] W fun e w' => ∃ (A1 : Option Addr) (n1 c1 : Nat) (A2 : Option Addr) (n2 c2 : Nat), e = .returned (.tuple #[.agg #[.int .i64 5, .int .i64 6, .int .i64 3, .slice A1 n1 c1, .slice none 0 0], .agg #[.int .i64 6, .int .i64 7, .int .i64 5, .slice A2 n2 c2, .slice none 0 0], .int .i64 0]) ∧ Below W.heap.size W w'

theorem KS_Check (B : Nat) (W : World) (hok : Ok W) (hS : ScrAt W W.heap.size (some ⟨B, 0, none⟩) none 3 0 KS) :
    Calls Tryz.prog 34 #[.agg #[.int .i64 5, .int .i64 7, .int .i64 3, .slice (some ⟨B, 0, none⟩) 3 3, .slice none 0 0]] W fun e w' => e = .returned (.int .i64 0) ∧ Below W.heap.size W w' :=
  Check_good KS (some ⟨B, 0, none⟩) none 3 3 0 W hok hS KS_good

theorem KS_Take (B B1 B2 : Nat) (t1 t2 : TypeId) (W : World) (hok : Ok W) (hS : ScrAt W W.heap.size (some ⟨B, 0, none⟩) none 3 0 KS)
    (b1 : BoxN W B1 t1 #[.int .i64 9, .int .i64 4, .int .i64 4]) (b2 : BoxN W B2 t2 #[.string ⟨#[55, 46, 49]⟩, .string ⟨#[52, 46, 50]⟩, .string ⟨#[55]⟩]) :
    Calls Tryz.prog 17 #[.agg #[.int .i64 5, .int .i64 7, .int .i64 3, .slice (some ⟨B, 0, none⟩) 3 3, .slice none 0 0], .slice (some ⟨B1, 0, none⟩) 3 3, .slice (some ⟨B2, 0, none⟩) 3 3] W fun e w' => ∃ A1 c1 A2 c2, e = .returned (.agg #[.slice A1 1 c1, .slice A2 1 c2]) ∧ Row w' w'.heap.size 1 A1 1 ([4].map encI) ∧ Row w' w'.heap.size 1 A2 1 ([[55]].map encN) ∧ Below W.heap.size W w' := by
  have h := Take_any KS (some ⟨B, 0, none⟩) none 3 0 3 0 (some ⟨B1, 0, none⟩) (some ⟨B2, 0, none⟩) 3 3 3 3 [9, 4, 4] KN W hok hS (by unfold I64; decide) (by unfold I64; decide) (by omega) (by omega) (by decide) (ints_row (xs := [9, 4, 4]) b1) (names_row (xs := KN) b2)
  refine h.mono ?_
  rintro e w' ⟨v1, v2, rfl, h1, h2, hb⟩
  rw [KS_take, KS_canI] at h1 h2
  rw [KS_canL] at h2
  obtain ⟨A1, c1, rfl, hr1⟩ := own_form h1
  obtain ⟨A2, c2, rfl, hr2⟩ := own_form h2
  exact ⟨A1, c1, A2, c2, rfl, hr1, hr2, hb⟩

theorem KS_Text (A1 A2 : Option Addr) (c1 c2 : Nat) (W : World) (hok : Ok W) (h1 : Row W W.heap.size 1 A1 1 ([4].map encI)) (h2 : Row W W.heap.size 1 A2 1 ([[55]].map encN)) :
    Calls Tryz.prog 30 #[.agg #[.slice A1 1 c1, .slice A2 1 c2]] W fun e w' => e = .returned (.string ⟨#[35, 52, 32, 55]⟩) ∧ Below W.heap.size W w' := by
  have h := Text_any A1 A2 1 c1 1 c2 [4] [[55]] W hok (by unfold I64; decide) (by omega) (by omega) (by decide) h1 h2
  rw [KS_canI1, KS_canL1, KS_text] at h
  exact h
theorem KS_Covers (A1 A2 : Option Addr) (c1 c2 : Nat) (W : World) (hok : Ok W) (h1 : Row W W.heap.size 1 A1 1 ([4].map encI)) (h2 : Row W W.heap.size 1 A2 1 ([[55]].map encN)) :
    Calls Tryz.prog 22 #[.agg #[.slice A1 1 c1, .slice A2 1 c2], .string ⟨#[52, 46, 50]⟩] W fun e w' => e = .returned (.bool true) ∧ Below W.heap.size W w' := by
  have h := ScrCovers_any A1 A2 1 c1 1 c2 [4] [[55]] ⟨#[52, 46, 50]⟩ W hok (by omega) (by omega) (by decide) (by decide) h1 h2
  rw [show scrCoversB [4] [[55]] (⟨#[52, 46, 50]⟩ : ByteArray).data.toList = true from KS_cov] at h
  exact h
theorem KS_Has (A1 A2 : Option Addr) (c1 c2 : Nat) (W : World) (h1 : Row W W.heap.size 1 A1 1 ([4].map encI)) :
    Calls Tryz.prog 20 #[.agg #[.slice A1 1 c1, .slice A2 1 c2], .int .i64 4] W fun e w' => e = .returned (.bool true) ∧ Below W.heap.size W w' := by
  have h := HasInput_any A1 A2 1 c1 1 c2 [4] 4 W (by omega) h1
  rw [KS_has] at h
  exact h

set_option maxRecDepth 100000 in
set_option maxHeartbeats 4000000 in
theorem known_core (hcut : KCut) (w : World) (hok : Ok w) : Calls Tryz.prog 7 #[] w fun e w' => e = .returned (.bool true) ∧ Below w.heap.size w w' := by
  have bT := (BoxN.new (w.alloc (.cells #[.int .i64 4, .int .i64 1, .string ⟨#[]⟩, .string ⟨#[]⟩, .string ⟨#[]⟩] 31)) 33 #[.int .i64 5, .int .i64 4, .int .i64 1, .string ⟨#[]⟩, .string ⟨#[]⟩, .string ⟨#[]⟩, .int .i64 5, .int .i64 4, .int .i64 1, .string ⟨#[]⟩, .string ⟨#[]⟩, .string ⟨#[]⟩, .int .i64 6, .int .i64 4, .int .i64 1, .string ⟨#[]⟩, .string ⟨#[]⟩, .string ⟨#[]⟩]).alloc (.cells #[.int .i64 5, .int .i64 7, .int .i64 3, .slice (some ⟨w.heap.size + 1, 0, none⟩) 3 3, .slice none 0 0] 25)
  have bS := BoxN.new ((w.alloc (.cells #[.int .i64 4, .int .i64 1, .string ⟨#[]⟩, .string ⟨#[]⟩, .string ⟨#[]⟩] 31)).alloc (.cells #[.int .i64 5, .int .i64 4, .int .i64 1, .string ⟨#[]⟩, .string ⟨#[]⟩, .string ⟨#[]⟩, .int .i64 5, .int .i64 4, .int .i64 1, .string ⟨#[]⟩, .string ⟨#[]⟩, .string ⟨#[]⟩, .int .i64 6, .int .i64 4, .int .i64 1, .string ⟨#[]⟩, .string ⟨#[]⟩, .string ⟨#[]⟩] 33)) 25 #[.int .i64 5, .int .i64 7, .int .i64 3, .slice (some ⟨w.heap.size + 1, 0, none⟩) 3 3, .slice none 0 0]
  have hb1 : Below w.heap.size w (((w.alloc (.cells #[.int .i64 4, .int .i64 1, .string ⟨#[]⟩, .string ⟨#[]⟩, .string ⟨#[]⟩] 31)).alloc (.cells #[.int .i64 5, .int .i64 4, .int .i64 1, .string ⟨#[]⟩, .string ⟨#[]⟩, .string ⟨#[]⟩, .int .i64 5, .int .i64 4, .int .i64 1, .string ⟨#[]⟩, .string ⟨#[]⟩, .string ⟨#[]⟩, .int .i64 6, .int .i64 4, .int .i64 1, .string ⟨#[]⟩, .string ⟨#[]⟩, .string ⟨#[]⟩] 33)).alloc (.cells #[.int .i64 5, .int .i64 7, .int .i64 3, .slice (some ⟨w.heap.size + 1, 0, none⟩) 3 3, .slice none 0 0] 25)) :=
    (((Below.refl _ w).alloc (Nat.le_refl _) _).alloc (by simp) _).alloc (by simp; omega) _
  simp only [World.size_alloc] at bT bS
  obtain ⟨W1, hW1⟩ : ∃ W1, (((w.alloc (.cells #[.int .i64 4, .int .i64 1, .string ⟨#[]⟩, .string ⟨#[]⟩, .string ⟨#[]⟩] 31)).alloc (.cells #[.int .i64 5, .int .i64 4, .int .i64 1, .string ⟨#[]⟩, .string ⟨#[]⟩, .string ⟨#[]⟩, .int .i64 5, .int .i64 4, .int .i64 1, .string ⟨#[]⟩, .string ⟨#[]⟩, .string ⟨#[]⟩, .int .i64 6, .int .i64 4, .int .i64 1, .string ⟨#[]⟩, .string ⟨#[]⟩, .string ⟨#[]⟩] 33)).alloc (.cells #[.int .i64 5, .int .i64 7, .int .i64 3, .slice (some ⟨w.heap.size + 1, 0, none⟩) 3 3, .slice none 0 0] 25)) = W1 := ⟨_, rfl⟩
  rw [hW1] at bT bS hb1
  have HW := Lib.hid hW1
  obtain ⟨Z, hZ⟩ : ∃ Z, w.heap.size = Z := ⟨_, rfl⟩
  rw [hZ] at bT bS hb1 ⊢
  have HZ := Lib.hid hZ
  have HS := Lib.hid (KS_at bT)
  have HOK := Lib.hid (fun (W : World) (hb : Below Z w W) => hok.later (by rw [hZ]; exact hb))
  clear hW1 hZ bT hok
  have HCUT : Hid KCut := hcut
  clear hcut
  have hz1 : Z ≤ W1.heap.size := by have := bS.lt; omega
  go_enter Tryz.func7, Tryz.ntmps7
  go_wp2_with fail
  rw [HW.out, HZ.out]
  obtain ⟨ZS, hZS⟩ : ∃ ZS, Z + 1 + 1 = ZS := ⟨_, rfl⟩
  rw [hZS] at bS ⊢
  have hzs : Z ≤ ZS := by omega
  clear hZS
  refine (KS_At _ _ HS.out).mono ?_
  rintro e w2 ⟨A1, c1, A2, n2, c2, A3, n3, c3, rfl, hr1, hb2⟩
  have s2 := bS.later hb2
  have q0 := s2.c 0
  have q1 := s2.c 1
  have q2 := s2.c 2
  have q3 := s2.c 3
  have q4 := s2.c 4
  simp only [List.getElem?_toArray, List.getElem?_cons_zero, List.getElem?_cons_succ] at q0 q1 q2 q3 q4
  have hB2 := hb1.trans (hb2.mono hz1)
  clear HW hb1 HZ
  go_wp2_with fail
  refine (HCUT.out _ _ (HOK.out _ hB2) (HS.out.later hb2)).mono ?_
  rintro e w3 ⟨A4, n4, c4, A5, n5, c5, rfl, hb3⟩
  have s3 := s2.later hb3
  have zlt := s3.lt
  clear q0 q1 q2 q3 q4
  have q0 := s3.c 0
  have q1 := s3.c 1
  have q2 := s3.c 2
  have q3 := s3.c 3
  have q4 := s3.c 4
  simp only [List.getElem?_toArray, List.getElem?_cons_zero, List.getElem?_cons_succ] at q0 q1 q2 q3 q4
  have hb4 : Below w3.heap.size w3 ((((w3.alloc (.cells #[.int .i64 5, .int .i64 6, .int .i64 3, .slice A4 n4 c4, .slice none 0 0] 25)).alloc (.cells #[.int .i64 6, .int .i64 7, .int .i64 5, .slice A5 n5 c5, .slice none 0 0] 25)).alloc (.cells #[.int .i64 9, .int .i64 4, .int .i64 4] 3)).alloc (.cells #[.string ⟨#[55, 46, 49]⟩, .string ⟨#[52, 46, 50]⟩, .string ⟨#[55]⟩] 53)) := ((((Below.refl _ w3).alloc (Nat.le_refl _) _).alloc (by simp) _).alloc (by simp; omega) _).alloc (by simp; omega) _
  have b6 := (((BoxN.new w3 25 #[.int .i64 5, .int .i64 6, .int .i64 3, .slice A4 n4 c4, .slice none 0 0]).alloc (.cells #[.int .i64 6, .int .i64 7, .int .i64 5, .slice A5 n5 c5, .slice none 0 0] 25)).alloc (.cells #[.int .i64 9, .int .i64 4, .int .i64 4] 3)).alloc (.cells #[.string ⟨#[55, 46, 49]⟩, .string ⟨#[52, 46, 50]⟩, .string ⟨#[55]⟩] 53)
  have b7 := ((BoxN.new (w3.alloc (.cells #[.int .i64 5, .int .i64 6, .int .i64 3, .slice A4 n4 c4, .slice none 0 0] 25)) 25 #[.int .i64 6, .int .i64 7, .int .i64 5, .slice A5 n5 c5, .slice none 0 0]).alloc (.cells #[.int .i64 9, .int .i64 4, .int .i64 4] 3)).alloc (.cells #[.string ⟨#[55, 46, 49]⟩, .string ⟨#[52, 46, 50]⟩, .string ⟨#[55]⟩] 53)
  have b8 := (BoxN.new ((w3.alloc (.cells #[.int .i64 5, .int .i64 6, .int .i64 3, .slice A4 n4 c4, .slice none 0 0] 25)).alloc (.cells #[.int .i64 6, .int .i64 7, .int .i64 5, .slice A5 n5 c5, .slice none 0 0] 25)) 3 #[.int .i64 9, .int .i64 4, .int .i64 4]).alloc (.cells #[.string ⟨#[55, 46, 49]⟩, .string ⟨#[52, 46, 50]⟩, .string ⟨#[55]⟩] 53)
  have b9 := BoxN.new (((w3.alloc (.cells #[.int .i64 5, .int .i64 6, .int .i64 3, .slice A4 n4 c4, .slice none 0 0] 25)).alloc (.cells #[.int .i64 6, .int .i64 7, .int .i64 5, .slice A5 n5 c5, .slice none 0 0] 25)).alloc (.cells #[.int .i64 9, .int .i64 4, .int .i64 4] 3)) 53 #[.string ⟨#[55, 46, 49]⟩, .string ⟨#[52, 46, 50]⟩, .string ⟨#[55]⟩]
  simp only [World.size_alloc] at b7 b8 b9
  obtain ⟨W4, hW4⟩ : ∃ W4, (((w3.alloc (.cells #[.int .i64 5, .int .i64 6, .int .i64 3, .slice A4 n4 c4, .slice none 0 0] 25)).alloc (.cells #[.int .i64 6, .int .i64 7, .int .i64 5, .slice A5 n5 c5, .slice none 0 0] 25)).alloc (.cells #[.int .i64 9, .int .i64 4, .int .i64 4] 3)).alloc (.cells #[.string ⟨#[55, 46, 49]⟩, .string ⟨#[52, 46, 50]⟩, .string ⟨#[55]⟩] 53) = W4 := ⟨_, rfl⟩
  rw [hW4] at hb4 b6 b7 b8 b9
  have HW4 := Lib.hid hW4
  clear hW4
  go_wp2_with fail
  rw [HW4.out]
  have hb23 := hb2.trans (hb3.mono hb2.size)
  have hb24 := hb23.trans (hb4.mono hb23.size)
  have hB4 := hB2.trans ((hb3.trans (hb4.mono hb3.size)).mono (by have := s2.lt; omega))
  refine (KS_Take _ _ _ _ _ _ (HOK.out _ hB4) (HS.out.later hb24) b8 b9).mono ?_
  rintro e w5 ⟨A7, c7, A8, c8, rfl, hr7, hr8, hb5⟩
  have hw : Below w2.heap.size w2 W4 := hb3.trans (hb4.mono hb3.size)
  have s5 := (s3.later hb4).later hb5
  have b65 := b6.later hb5
  have b75 := b7.later hb5
  have hr15 := (hr1.later hw).later hb5
  have hB5 := hB4.trans (hb5.mono (by have := b9.lt; omega))
  have hb25 := hb24.trans (hb5.mono hb24.size)
  have HS5 := Lib.hid (HS.out.later hb25)
  clear q0 q1 q2 q3 q4 s2 s3 b6 b7 b8 b9 hb4 HW4 hw hb24 hb23 hb3 hb2 hB4 hr1 hB2 bS HS
  obtain ⟨Y, hY⟩ : ∃ Y, w3.heap.size = Y := ⟨_, rfl⟩
  rw [hY] at b65 b75 ⊢
  have hzy : ZS < w5.heap.size := s5.lt
  have hy1 : Y + 1 < w5.heap.size := b75.lt
  have hZ5 : Z ≤ w5.heap.size := by omega
  clear hY zlt hb5 hb25 hz1
  have HR1 := Lib.hid (hr15.alloc (.cells #[.slice A7 1 c7, .slice A8 1 c8] 47))
  have HR7 := Lib.hid (hr7.alloc (.cells #[.slice A7 1 c7, .slice A8 1 c8] 47))
  have HR8 := Lib.hid (hr8.alloc (.cells #[.slice A7 1 c7, .slice A8 1 c8] 47))
  have b10 := Box2.new w5 47 (.slice A7 1 c7) (.slice A8 1 c8)
  have S6 := s5.alloc (.cells #[.slice A7 1 c7, .slice A8 1 c8] 47)
  have B6 := b65.alloc (.cells #[.slice A7 1 c7, .slice A8 1 c8] 47)
  have B7 := b75.alloc (.cells #[.slice A7 1 c7, .slice A8 1 c8] 47)
  have hB6 := hB5.alloc hZ5 (.cells #[.slice A7 1 c7, .slice A8 1 c8] 47)
  have hb56 : Below w5.heap.size w5 (w5.alloc (.cells #[.slice A7 1 c7, .slice A8 1 c8] 47)) := (Below.refl _ w5).alloc (Nat.le_refl _) _
  have HS6 := Lib.hid (HS5.out.later hb56)
  obtain ⟨W6, hW6⟩ : ∃ W6, w5.alloc (.cells #[.slice A7 1 c7, .slice A8 1 c8] 47) = W6 := ⟨_, rfl⟩
  rw [hW6] at HR1 HR7 HR8 b10 S6 B6 B7 hB6 HS6
  have HW6 := Lib.hid hW6
  have p0 := s5.c 0
  have p1 := s5.c 1
  have p2 := s5.c 2
  have p3 := s5.c 3
  have p4 := s5.c 4
  simp only [List.getElem?_toArray, List.getElem?_cons_zero, List.getElem?_cons_succ] at p0 p1 p2 p3 p4
  clear hW6 s5 b65 b75 hr15 hr7 hr8 hB5 hb56 HS5
  go_wp2_with fail
  rw [HW6.out]
  refine (KS_Check _ _ (HOK.out _ hB6) HS6.out).mono ?_
  rintro e w7 ⟨rfl, hb7⟩
  go_wp2_with fail
  have hb8 : Below w7.heap.size w7 (w7.alloc (.cells #[.int .i64 4, .int .i64 5] 3)) := (Below.refl _ w7).alloc (Nat.le_refl _) _
  have bn := BoxN.new w7 3 #[.int .i64 4, .int .i64 5]
  have hb68 := hb7.trans (hb8.mono hb7.size)
  refine (sameNumbers_any A1 (some ⟨w7.heap.size, 0, none⟩) 2 2 c1 2 [4, 5] [4, 5] _ (by omega) (by omega) (HR1.out.later hb68) (ints_row (xs := [4, 5]) bn)).mono ?_
  rintro e w9 ⟨rfl, q, rfl⟩
  rw [show decide (([4, 5] : List Int) = [4, 5]) = true from rfl]
  have hb69 : Below W6.heap.size W6 ((w7.alloc (.cells #[.int .i64 4, .int .i64 5] 3)).drewN q) := below_drewN hb68 q
  generalize (w7.alloc (.cells #[.int .i64 4, .int .i64 5] 3)).drewN q = W9 at hb69 ⊢
  have hB9 := hB6.trans (hb69.mono (by have := S6.lt; omega))
  have y6 := (B6.later hb69).c 2
  have y7 := (B7.later hb69).c 2
  have b19 := b10.later hb69
  have t0 := b19.c0
  have t1 := b19.c1
  simp only [List.getElem?_toArray, List.getElem?_cons_zero, List.getElem?_cons_succ] at y6 y7
  clear hb8 bn hb68 hb7 p0 p1 p2 p3 p4 HW6 HS6 hZ5 hy1 hzy
  go_wp2_with fail
  refine (KS_Text _ _ _ _ _ (HOK.out _ hB9) (HR7.out.later hb69) (HR8.out.later hb69)).mono ?_
  rintro e w10 ⟨rfl, hb10⟩
  have hb610 := hb69.trans (hb10.mono hb69.size)
  have hB10 := hB6.trans (hb610.mono (by have := S6.lt; omega))
  have b20 := b10.later hb610
  clear t0 t1
  have t0 := b20.c0
  have t1 := b20.c1
  go_wp2_with fail
  refine (KS_Covers _ _ _ _ _ (HOK.out _ hB10) (HR7.out.later hb610) (HR8.out.later hb610)).mono ?_
  rintro e w11 ⟨rfl, hb11⟩
  have hb611 := hb610.trans (hb11.mono hb610.size)
  have hB11 := hB6.trans (hb611.mono (by have := S6.lt; omega))
  have b21 := b10.later hb611
  clear t0 t1
  have t0 := b21.c0
  have t1 := b21.c1
  go_wp2_with fail
  refine (KS_Has _ _ _ _ _ (HR7.out.later hb611)).mono ?_
  rintro e w12 ⟨rfl, hb12⟩
  go_wp2_with fail
  go_ret
  exact ⟨rfl, hB11.trans (hb12.mono (by have := b21.lt; have := S6.lt; have := hb611.size; omega))⟩

end Go.Proofs.YtnibcffcbnjllaaGreatDoor
/- ScriptParts: the plain facts, and rows of inputs. -/
namespace Go.Proofs.YtnibcffcbnjllaaGreatDoor
open Go.RowKit Go.Sort

theorem inputs_places (l : List Tmd) (t : Int) : ∀ k, k ≤ l.length → inputsN l t k = (placesN l t k).map fun i => ((l[i]?).map (·.inp)).getD tmdZero.inp
  | 0, _ => rfl
  | k + 1, hk => by
    have hx : l[k]? = some l[k] := List.getElem?_eq_getElem (by omega)
    have ih := inputs_places l t k (by omega)
    by_cases ht : l[k].tick = t
    · rw [inputsN_yes hx ht, placesN_yes hx ht, List.map_append, ih]
      simp [hx]
    · rw [inputsN_no hx ht, placesN_no hx ht, ih]
theorem inputsOf_places (S : Scr) (t : Int) : inputsOf S t = (placesOf S t).map fun i => ((S.inputs[i]?).map (·.inp)).getD tmdZero.inp := by
  unfold inputsOf placesOf
  split
  · exact inputs_places S.inputs t _ (Nat.le_refl _)
  · rfl
theorem inputsOf_len (S : Scr) (t : Int) : (inputsOf S t).length = (placesOf S t).length := by rw [inputsOf_places, List.length_map]
/-- The k-th input of a tick, and its place. -/
theorem inputsOf_at (S : Scr) (t : Int) (k : Nat) (hk : k < (placesOf S t).length) : ∃ i x, (placesOf S t)[k]? = some i ∧ i < S.inputs.length ∧ S.inputs[i]? = some x ∧ (inputsOf S t)[k]? = some x.inp := by
  have hi : (placesOf S t)[k]? = some (placesOf S t)[k] := List.getElem?_eq_getElem hk
  have hlt : (placesOf S t)[k] < S.inputs.length := by
    have hm : (placesOf S t)[k] ∈ placesOf S t := List.getElem_mem hk
    generalize (placesOf S t)[k] = i at hm
    unfold placesOf at hm
    split at hm
    · exact placesN_lt hm
    · simp at hm
  refine ⟨_, S.inputs[(placesOf S t)[k]], hi, hlt, List.getElem?_eq_getElem hlt, ?_⟩
  rw [inputsOf_places, List.getElem?_map, hi]
  simp [List.getElem?_eq_getElem hlt]
theorem placesOf_len (S : Scr) (t : Int) : (placesOf S t).length ≤ S.inputs.length := by
  unfold placesOf
  split
  · exact placesN_len _ _ _
  · simp

theorem flat_at5 (l : List Inp) : ∀ (k j : Nat) (t : Inp), l[k]? = some t → j < 5 → (l.flatMap inpCells)[5 * k + j]? = (inpCells t)[j]? := by
  induction l with
  | nil => intro k j t h; simp at h
  | cons a l ih =>
    intro k j t h hj
    rw [List.flatMap_cons]
    have hlen : (inpCells a).length = 5 := rfl
    cases k with
    | zero =>
      simp at h
      subst h
      rw [List.getElem?_append_left (by omega)]
      simp
    | succ k =>
      rw [List.getElem?_append_right (by omega), hlen]
      have e : 5 * (k + 1) + j - 5 = 5 * k + j := by omega
      rw [e]
      exact ih k j t (by simpa using h) hj

/-- The k-th input of a slice of inputs, cell by cell. -/
theorem Row.in5 {w : World} {B n k : Nat} {A : Option Addr} {l : List Inp} {t : Inp} (h : Row w B 5 A n (l.flatMap inpCells)) (hk : k < n) (ht : l[k]? = some t) :
    ∃ (b off : Nat), A = some ⟨b, off, none⟩ ∧ b < B ∧ w.cell? ⟨b, off + k * 5, none⟩ = some (.int .i64 t.kind) ∧ w.cell? ⟨b, off + k * 5 + 1, none⟩ = some (.int .i64 t.number) ∧
      w.cell? ⟨b, off + k * 5 + 2, none⟩ = some (encN t.frm) ∧ w.cell? ⟨b, off + k * 5 + 3, none⟩ = some (encN t.dst) ∧ w.cell? ⟨b, off + k * 5 + 4, none⟩ = some (encN t.txt) := by
  obtain ⟨b, off, e, hb, hc⟩ := h.2 (by omega)
  have e5 : ∀ j, off + (5 * k + j) = off + k * 5 + j := fun j => by omega
  have q : ∀ j u, (inpCells t)[j]? = some u → w.cell? ⟨b, off + (5 * k + j), none⟩ = some u := fun j u hu => hc _ u (by
    have hj : j < 5 := (List.getElem?_eq_some_iff.1 hu).1
    rw [flat_at5 l k j t ht hj, hu])
  refine ⟨b, off, e, hb, ?_, ?_, ?_, ?_, ?_⟩
  · have := q 0 _ rfl; rwa [e5] at this
  · have := q 1 _ rfl; rwa [e5] at this
  · have := q 2 _ rfl; rwa [e5] at this
  · have := q 3 _ rfl; rwa [e5] at this
  · have := q 4 _ rfl; rwa [e5] at this

theorem inS_iff (S : Scr) (num : Int) : inS S num = (decide (S.before < num) && decide (num ≤ S.before + S.inputs.length)) := by
  unfold inS
  rw [Bool.eq_iff_iff]
  simp only [Bool.and_eq_true, decide_eq_true_eq]
  omega

end Go.Proofs.YtnibcffcbnjllaaGreatDoor
/- ScriptParts. -/
namespace Go.Proofs.YtnibcffcbnjllaaGreatDoor
open Go.RowKit Go.Sort

/-- What is known of known. -/
def Knows : Prop := ∀ W, Ok W → Calls Tryz.prog 7 #[] W fun e w' => e = .returned (.bool true) ∧ Below W.heap.size W w'
def RetTrue (w : World) (e : Ending) (w' : World) : Prop := e = .returned (.bool true) ∧ Below w.heap.size w w'


def ParR (W1 : World) (n : Nat) (i : Value) (wr : World) : Prop := ∃ k, k ≤ n ∧ i = .int .i64 (k : Int) ∧ Below W1.heap.size W1 wr

theorem map_num (S : Scr) (l : List Nat) : (l.map fun i => encI (numAt S i)) = (l.map (numAt S)).map encI := by rw [List.map_map]; rfl

set_option maxRecDepth 100000 in
set_option maxHeartbeats 4000000 in
theorem ScriptParts_any (hK : Knows) (S : Scr) (A A' : Option Addr) (n m c d : Nat) (num t : Int) (w : World) (hok : Ok w) (hS : ScrAt w w.heap.size A A' n m S) (h1 : I64 S.lo) (h2 : I64 S.hi) (h3 : I64 S.before) (h4 : I64 num) (h5 : I64 t) :
    Calls Tryz.prog 3 #[scrVal S A A' n m c d, .int .i64 num, .int .i64 t] w fun e w' => RetTrue w e w' := by
  have HSm := Lib.hid (fun (W : World) (hb : Below w.heap.size w W) => small_any S A A' n m c d W ((hS.below hb).more hb.size) h1 h2)
  have HCh := Lib.hid (fun (W : World) (hb : Below w.heap.size w W) (hs : SmallS S) => check_any S A A' n m c d W (hok.later hb) ((hS.below hb).more hb.size) h1 h2 h3 hs)
  have HIn := Lib.hid (fun (W : World) (hb : Below w.heap.size w W) => Input_any S A A' n m c d num W ((hS.below hb).more hb.size) h4 h3)
  have HAt := Lib.hid (fun (W : World) (hb : Below w.heap.size w W) => At_any S A A' n m c d t W ((hS.below hb).more hb.size) h5 h1)
  have HNu := Lib.hid (fun (W : World) (hb : Below w.heap.size w W) => numbers_any S A A' n m c d t W ((hS.below hb).more hb.size))
  have HSc := Lib.hid (fun (W : World) (hb : Below w.heap.size w W) => schedule15_any S A A' n m c d t W ((hS.below hb).more hb.size))
  have HK := Lib.hid (fun (W : World) (hb : Below w.heap.size w W) => hK W (hok.later hb))
  have hl : S.inputs.length = n := hS.2.1
  have HROW := Lib.hid hS.1
  have b0 := BoxN.new w 25 #[.int .i64 S.lo, .int .i64 S.hi, .int .i64 S.before, .slice A n c, .slice A' m d]
  have hb0 : Below w.heap.size w (w.alloc (.cells #[.int .i64 S.lo, .int .i64 S.hi, .int .i64 S.before, .slice A n c, .slice A' m d] 25)) := (Below.refl _ w).alloc (Nat.le_refl _) _
  obtain ⟨W0, hW0⟩ : ∃ W0, w.alloc (.cells #[.int .i64 S.lo, .int .i64 S.hi, .int .i64 S.before, .slice A n c, .slice A' m d] 25) = W0 := ⟨_, rfl⟩
  rw [hW0] at b0 hb0
  have HW := Lib.hid hW0
  unfold RetTrue
  unfold scrVal at HSm HCh HIn HAt ⊢
  obtain ⟨Z, hZ⟩ : ∃ Z, w.heap.size = Z := ⟨_, rfl⟩
  rw [hZ] at b0 hb0 HSm HCh HIn HAt HNu HSc HK HROW ⊢
  have HZ := Lib.hid hZ
  have hz0 : Z ≤ W0.heap.size := by have := b0.lt; omega
  clear hW0 hZ hK hok hS
  unfold I64 at h1 h2 h3 h4 h5
  go_enter Tryz.func3, Tryz.ntmps3
  go_wp2_with fail
  rw [HW.out, HZ.out]
  refine (HK.out W0 hb0).mono ?_
  rintro e w1 ⟨rfl, hb1⟩
  have hB1 := hb0.trans (hb1.mono hz0)
  have x1 := b0.later hb1
  have q0 := x1.c 0
  have q1 := x1.c 1
  have q2 := x1.c 2
  have q3 := x1.c 3
  have q4 := x1.c 4
  simp only [List.getElem?_toArray, List.getElem?_cons_zero, List.getElem?_cons_succ] at q0 q1 q2 q3 q4
  go_wp2_with fail
  refine (HSm.out w1 hB1).mono ?_
  rintro e w2 ⟨r2, rfl, hb2, hsm⟩
  have hb2' := hb1.trans (hb2.mono hb1.size)
  have hB2 := hb0.trans (hb2'.mono hz0)
  have HSM := Lib.hid hsm
  clear hsm q0 q1 q2 q3 q4 x1
  have x2 := b0.later hb2'
  have q0 := x2.c 0
  have q1 := x2.c 1
  have q2 := x2.c 2
  have q3 := x2.c 3
  have q4 := x2.c 4
  simp only [List.getElem?_toArray, List.getElem?_cons_zero, List.getElem?_cons_succ] at q0 q1 q2 q3 q4
  cases r2 with
  | false =>
    go_wp2_with fail
    refine (HK.out w2 hB2).mono ?_
    rintro e w3 ⟨rfl, hb3⟩
    go_wp2_with fail
    go_ret
    exact ⟨rfl, hB2.trans (hb3.mono (by have := x2.lt; omega))⟩
  | true =>
    have hsm := HSM.out rfl
    have HS := Lib.hid hsm
    clear hsm HSM
    go_wp2_with fail
    refine (HCh.out w2 hB2 HS.out).mono ?_
    rintro e w3 ⟨r3, rfl, hb3, hch⟩
    have hb3' := hb2'.trans (hb3.mono hb2'.size)
    have hB3 := hb0.trans (hb3'.mono hz0)
    have HCHK := Lib.hid hch
    clear hch q0 q1 q2 q3 q4 x2
    have x3 := b0.later hb3'
    by_cases hr3 : r3 = 0
    · have hr3' : (r3 != 0) = false := by simp [hr3]
      obtain ⟨k1, k2, k3, k4, k5, k6, k7, k8⟩ := HCHK.out hr3
      obtain ⟨s1, s2, s3, s4⟩ := HS.out
      clear hr3 HCHK HS s3
      have HS4 := Lib.hid s4
      have hln : n ≤ 10 := by omega
      have q0 := x3.c 0
      have q1 := x3.c 1
      have q2 := x3.c 2
      have q3 := x3.c 3
      have q4 := x3.c 4
      simp only [List.getElem?_toArray, List.getElem?_cons_zero, List.getElem?_cons_succ] at q0 q1 q2 q3 q4
      clear s4
      have hsl : (schedOf S t).length ≤ 70 := by
        unfold schedOf
        split
        · cases hx : S.sched[(t - S.lo).toNat]? with
          | none => simp
          | some x => exact (HS4.out x (List.mem_of_getElem? hx)).1
        · simp
      have HAT := Lib.hid (fun W hb => HAt.out W hb k2 (by omega) (by omega) (by omega))
      have HNU := Lib.hid (fun W hb => HNu.out W hb k2 (by omega) (by omega))
      have HSC := Lib.hid (fun W hb => HSc.out W hb k1 k4)
      clear HAt HNu HSc HCh HSm HS4 HK
      cases hin : inS S num with
      | true =>
        have hI := HIn.out w3 hB3
        have hin2 := inS_iff S num
        rw [hin, hl] at hin2
        simp only [Bool.true_eq, Bool.and_eq_true, decide_eq_true_eq] at hin2
        obtain ⟨hlt, hle⟩ := hin2
        obtain ⟨i, hti⟩ : ∃ i, (num - S.before - 1).toNat = i := ⟨_, rfl⟩
        have hin' : i < n := by omega
        obtain ⟨b, off, tick, kind, number, fs, ds, ts, rfl, hb, ht, c0, c1, c2, c3, c4, c5⟩ := HROW.out.tm hl hin'
        have hio : inputOf S num = ⟨tick, ⟨kind, number, fs.data.toList, ds.data.toList, ts.data.toList⟩⟩ := by
          unfold inputOf
          rw [if_pos hin, hti, ht]
          rfl
        rw [hin, hio] at hI
        have HI : Hid (Calls Tryz.prog 10 _ w3 fun e w' => e = .returned (.tuple #[.agg #[.int .i64 tick, .int .i64 kind, .int .i64 number, .string fs, .string ds, .string ts], .bool true]) ∧ Below w3.heap.size w3 w') := hI
        clear hI hin hio ht
        go_wp2_with fail
        refine HI.out.mono ?_
        rintro e w4 ⟨rfl, hb4⟩
        have hb4' := hb3'.trans (hb4.mono hb3'.size)
        have hB4 := hb0.trans (hb4'.mono hz0)
        clear q0 q1 q2 q3 q4
        have x4 := b0.later hb4'
        have zlt := x4.lt
        have q0 := x4.c 0
        have q1 := x4.c 1
        have q2 := x4.c 2
        have q3 := x4.c 3
        have q4 := x4.c 4
        simp only [List.getElem?_toArray, List.getElem?_cons_zero, List.getElem?_cons_succ] at q0 q1 q2 q3 q4
        have g0 := (hB4.cell (p := ⟨b, off + i * 6, none⟩) hb).trans c0
        have g1 := (hB4.cell (p := ⟨b, off + i * 6 + 1, none⟩) hb).trans c1
        have g2 := (hB4.cell (p := ⟨b, off + i * 6 + 2, none⟩) hb).trans c2
        have g3 := (hB4.cell (p := ⟨b, off + i * 6 + 3, none⟩) hb).trans c3
        have g4 := (hB4.cell (p := ⟨b, off + i * 6 + 4, none⟩) hb).trans c4
        have g5 := (hB4.cell (p := ⟨b, off + i * 6 + 5, none⟩) hb).trans c5
        clear c0 c1 c2 c3 c4 c5
        have hblt : b < w4.heap.size := by omega
        have hb45 : Below w4.heap.size w4 (w4.alloc (.cells #[.int .i64 tick, .int .i64 kind, .int .i64 number, .string fs, .string ds, .string ts] 33)) := (Below.refl _ w4).alloc (Nat.le_refl _) _
        go_wp2_with fail
        go_quiet (fail)
        have hb46 := below_drewN hb45 nq
        generalize (w4.alloc (.cells #[.int .i64 tick, .int .i64 kind, .int .i64 number, .string fs, .string ds, .string ts] 33)).drewN nq = W6 at hb46 ⊢
        clear g0 g1 g2 g3 g4 g5 hb45
        have hb06 := hb4'.trans (hb46.mono hb4'.size)
        have hB6 := hb0.trans (hb06.mono hz0)
        clear q0 q1 q2 q3 q4
        have x6 := b0.later hb06
        have q0 := x6.c 0
        have q1 := x6.c 1
        have q2 := x6.c 2
        have q3 := x6.c 3
        have q4 := x6.c 4
        simp only [List.getElem?_toArray, List.getElem?_cons_zero, List.getElem?_cons_succ] at q0 q1 q2 q3 q4
        have hz6 : Z ≤ W6.heap.size := by have := x6.lt; omega
        go_wp2_with fail
        refine (HAT.out W6 hB6).mono ?_
        rintro e w7 ⟨v1, v2, v3, rfl, ho1, ho2, ho3, hb7⟩
        obtain ⟨A1, c1, rfl, hr1⟩ := own_form ho1
        obtain ⟨A2, c2, rfl, hr2⟩ := own_form ho2
        obtain ⟨A3, c3, rfl, hr3⟩ := own_form ho3
        have hb07 := hb06.trans (hb7.mono hb06.size)
        have hB7 := hb0.trans (hb07.mono hz0)
        clear q0 q1 q2 q3 q4
        have x7 := b0.later hb07
        have q0 := x7.c 0
        have q1 := x7.c 1
        have q2 := x7.c 2
        have q3 := x7.c 3
        have q4 := x7.c 4
        simp only [List.getElem?_toArray, List.getElem?_cons_zero, List.getElem?_cons_succ] at q0 q1 q2 q3 q4
        have hz7 : Z ≤ w7.heap.size := by have := x7.lt; omega
        clear ho1 ho2 ho3
        go_wp2_with fail
        refine (HNU.out w7 hB7).mono ?_
        rintro e w8 ⟨v4, rfl, ho4, hb8⟩
        obtain ⟨A4, c4, rfl, hr4⟩ := own_form ho4
        have hb08 := hb07.trans (hb8.mono hb07.size)
        have hB8 := hb0.trans (hb08.mono hz0)
        have hr18 := hr1.later hb8
        have hr28 := hr2.later hb8
        have hr38 := hr3.later hb8
        clear q0 q1 q2 q3 q4 ho4 hr1 hr2 hr3
        rw [map_num] at hr18 hr4
        have hpl : (placesOf S t).length ≤ 10 := by have := placesOf_len S t; omega
        have hil : (inputsOf S t).length = (placesOf S t).length := inputsOf_len S t
        rw [hil] at hr28 ⊢
        have HIL := Lib.hid hil
        have HPA := Lib.hid (inputsOf_at S t)
        clear hil
        obtain ⟨np, hnp⟩ : ∃ np, (placesOf S t).length = np := ⟨_, rfl⟩
        rw [hnp] at hr18 hr28 hr4 hpl HIL HPA ⊢
        have HNP := Lib.hid hnp
        clear hnp
        have hsN := sameNumbers_any A1 A4 np np c1 c4 _ _ w8 (by omega) (by omega) hr18 hr4
        rw [decide_eq_true rfl] at hsN
        have HSN := Lib.hid hsN
        have HR4 := Lib.hid hr4
        have HR2 := Lib.hid hr28
        have HR3 := Lib.hid hr38
        clear hsN hr18 hr4 hr28 hr38 x7 x6 x4 hB7 hB6 hb7 hb8 hb07 hb06 hb46 hz7 hz6 HAT HNU HIn HI
        go_wp2_with fail
        refine HSN.out.mono ?_
        rintro e w9 ⟨rfl, q, rfl⟩
        have hb89 : Below w8.heap.size w8 (w8.drewN q) := below_drewN (Below.refl _ _) q
        generalize w8.drewN q = W9 at hb89 ⊢
        have hb09 := hb08.trans (hb89.mono hb08.size)
        have hB9 := hb0.trans (hb09.mono hz0)
        have x9 := b0.later hb09
        have q0 := x9.c 0
        have q1 := x9.c 1
        have q2 := x9.c 2
        have q3 := x9.c 3
        have q4 := x9.c 4
        simp only [List.getElem?_toArray, List.getElem?_cons_zero, List.getElem?_cons_succ] at q0 q1 q2 q3 q4
        have hz9 : Z ≤ W9.heap.size := by have := x9.lt; omega
        clear HSN
        go_wp2_with fail
        refine (HSC.out W9 hB9).mono ?_
        rintro e w10 ⟨⟨A5, c5, rfl, hr5, hl5⟩, hb10⟩
        have hb89' := hb89.trans (hb10.mono hb89.size)
        have hsS := sameNames_any A3 A5 (schedOf S t).length (schedOf S t).length c3 c5 (schedOf S t) (schedOf S t) w10 (by omega) (by omega) (HR3.out.later hb89') (hr5.later hb10)
        rw [decide_eq_true rfl] at hsS
        have HSS := Lib.hid hsS
        clear hsS hr5 hl5
        go_wp2_with fail
        refine HSS.out.mono ?_
        rintro e w11 ⟨rfl, q, rfl⟩
        have hb1011 : Below w10.heap.size w10 (w10.drewN q) := below_drewN (Below.refl _ _) q
        generalize w10.drewN q = W11 at hb1011 ⊢
        have hb811 := hb89'.trans (hb1011.mono hb89'.size)
        have hb011 := hb08.trans (hb811.mono hb08.size)
        have hr4' := HR4.out.later hb811
        have hr2' := HR2.out.later hb811
        clear q0 q1 q2 q3 q4 HSS HSC x9 hB9 hb09 hb89 hb10 hb89' hb1011 HR3 HR4 HR2 hz9
        go_wp2_with fail
        go_loopw [14] (ParR W11 np) (fun i _ => np - (intOf i).toNat)
        case atStart => exact ⟨0, by omega, rfl, Below.refl _ _⟩
        case round =>
          obtain ⟨k, hk, rfl, hbr⟩ := hrel
          have hb0r := hb011.trans (hbr.mono hb011.size)
          have hBr := hb0.trans (hb0r.mono hz0)
          have xr := b0.later hb0r
          have q0 := xr.c 0
          have q1 := xr.c 1
          have q2 := xr.c 2
          have q3 := xr.c 3
          have q4 := xr.c 4
          simp only [List.getElem?_toArray, List.getElem?_cons_zero, List.getElem?_cons_succ] at q0 q1 q2 q3 q4
          by_cases hlt : k < np
          · obtain ⟨i, x, hpi, hil, hxi, hip⟩ := HPA.out k hlt
            rw [hl] at hil
            obtain ⟨b5, o5, rfl, hb5, d0, d1, d2, d3, d4⟩ := hr2'.in5 hlt hip
            obtain ⟨b4, o4, u4, rfl, hb4x, hu4, e4⟩ := hr4'.at1 hlt
            rw [List.getElem?_map, List.getElem?_map, hpi] at hu4
            simp only [Option.map_some, Option.some.injEq] at hu4
            subst hu4
            obtain ⟨b6, o6, tick6, kind6, number6, fs6, ds6, ts6, hA6, hb6, ht6, c60, c61, c62, c63, c64, c65⟩ := HROW.out.tm hl hil
            rw [hxi] at ht6
            injection ht6 with ht6
            subst ht6
            simp only at d0 d1 d2 d3 d4
            have j0 := (hbr.cell (p := ⟨b5, o5 + k * 5, none⟩) hb5).trans d0
            have j1 := (hbr.cell (p := ⟨b5, o5 + k * 5 + 1, none⟩) hb5).trans d1
            have j2 := (hbr.cell (p := ⟨b5, o5 + k * 5 + 2, none⟩) hb5).trans d2
            have j3 := (hbr.cell (p := ⟨b5, o5 + k * 5 + 3, none⟩) hb5).trans d3
            have j4 := (hbr.cell (p := ⟨b5, o5 + k * 5 + 4, none⟩) hb5).trans d4
            have n4 := (hbr.cell (p := ⟨b4, o4 + k, none⟩) hb4x).trans e4
            have g1 := (hBr.cell (p := ⟨b6, o6 + i * 6 + 1, none⟩) hb6).trans c61
            have g2 := (hBr.cell (p := ⟨b6, o6 + i * 6 + 2, none⟩) hb6).trans c62
            have g3 := (hBr.cell (p := ⟨b6, o6 + i * 6 + 3, none⟩) hb6).trans c63
            have g4 := (hBr.cell (p := ⟨b6, o6 + i * 6 + 4, none⟩) hb6).trans c64
            have g5 := (hBr.cell (p := ⟨b6, o6 + i * 6 + 5, none⟩) hb6).trans c65
            rw [encN_eq] at j2 j3 j4
            unfold encI numAt at n4
            rw [hA6] at q3
            obtain ⟨y, hy⟩ : ∃ y, S.before + (i : Int) + 1 = y := ⟨_, rfl⟩
            rw [hy] at n4
            have hy1 : (y - S.before - 1).toNat = i := by omega
            have hy2 : 0 ≤ y - S.before - 1 := by omega
            have hy3 : y - S.before - 1 < n := by omega
            have hy4 : 0 ≤ y ∧ y ≤ 2000000 := by omega
            have hlt' : (k : Int) < (np : Int) := by omega
            clear hy d0 d1 d2 d3 d4 e4 c60 c61 c62 c63 c64 c65 hpi hip hxi
            go_wp2_with fail
            go_quiet (fail)
            have hbq := below_drewN hbr nq
            go_wp2_with fail
            go_roundw
            case rel => exact ⟨k + 1, by omega, by go_num, hbq⟩
            case measure => simp [intOf]; omega
          · obtain rfl : k = np := by omega
            go_wp2_with fail
            go_ret
            exact ⟨rfl, hBr⟩
      | false =>
        have hI := HIn.out w3 hB3
        have hin2 := inS_iff S num
        rw [hin, hl] at hin2
        have hio : inputOf S num = tmdZero := by
          unfold inputOf
          rw [if_neg (by rw [hin]; simp)]
        rw [hin, hio] at hI
        have HI : Hid (Calls Tryz.prog 10 _ w3 fun e w' => e = .returned (.tuple #[.agg #[.int .i64 0, .int .i64 0, .int .i64 0, .string ⟨#[]⟩, .string ⟨#[]⟩, .string ⟨#[]⟩], .bool false]) ∧ Below w3.heap.size w3 w') := hI
        have hor : ¬ S.before < num ∨ ¬ num ≤ S.before + (n : Int) := by
          by_cases h : S.before < num
          · right
            intro h'
            simp [h, h'] at hin2
          · exact .inl h
        clear hI hin hio hin2
        go_wp2_with fail
        refine HI.out.mono ?_
        rintro e w4 ⟨rfl, hb4⟩
        have hb4' := hb3'.trans (hb4.mono hb3'.size)
        have hB4 := hb0.trans (hb4'.mono hz0)
        clear q0 q1 q2 q3 q4
        have x4 := b0.later hb4'
        have zlt := x4.lt
        have q0 := x4.c 0
        have q1 := x4.c 1
        have q2 := x4.c 2
        have q3 := x4.c 3
        have q4 := x4.c 4
        simp only [List.getElem?_toArray, List.getElem?_cons_zero, List.getElem?_cons_succ] at q0 q1 q2 q3 q4
        have hb45 : Below w4.heap.size w4 (w4.alloc (.cells #[.int .i64 0, .int .i64 0, .int .i64 0, .string ⟨#[]⟩, .string ⟨#[]⟩, .string ⟨#[]⟩] 33)) := (Below.refl _ w4).alloc (Nat.le_refl _) _
        rcases hor with hor | hor
        · have hd : decide (S.before < num) = false := decide_eq_false (by omega)
          go_wp2_with fail
          go_quiet (fail)
          have hb46 := below_drewN hb45 nq
          generalize (w4.alloc (.cells #[.int .i64 0, .int .i64 0, .int .i64 0, .string ⟨#[]⟩, .string ⟨#[]⟩, .string ⟨#[]⟩] 33)).drewN nq = W6 at hb46 ⊢
          clear hb45
          have hb06 := hb4'.trans (hb46.mono hb4'.size)
          have hB6 := hb0.trans (hb06.mono hz0)
          clear q0 q1 q2 q3 q4
          have x6 := b0.later hb06
          have q0 := x6.c 0
          have q1 := x6.c 1
          have q2 := x6.c 2
          have q3 := x6.c 3
          have q4 := x6.c 4
          simp only [List.getElem?_toArray, List.getElem?_cons_zero, List.getElem?_cons_succ] at q0 q1 q2 q3 q4
          have hz6 : Z ≤ W6.heap.size := by have := x6.lt; omega
          go_wp2_with fail
          refine (HAT.out W6 hB6).mono ?_
          rintro e w7 ⟨v1, v2, v3, rfl, ho1, ho2, ho3, hb7⟩
          obtain ⟨A1, c1, rfl, hr1⟩ := own_form ho1
          obtain ⟨A2, c2, rfl, hr2⟩ := own_form ho2
          obtain ⟨A3, c3, rfl, hr3⟩ := own_form ho3
          have hb07 := hb06.trans (hb7.mono hb06.size)
          have hB7 := hb0.trans (hb07.mono hz0)
          clear q0 q1 q2 q3 q4
          have x7 := b0.later hb07
          have q0 := x7.c 0
          have q1 := x7.c 1
          have q2 := x7.c 2
          have q3 := x7.c 3
          have q4 := x7.c 4
          simp only [List.getElem?_toArray, List.getElem?_cons_zero, List.getElem?_cons_succ] at q0 q1 q2 q3 q4
          have hz7 : Z ≤ w7.heap.size := by have := x7.lt; omega
          clear ho1 ho2 ho3
          go_wp2_with fail
          refine (HNU.out w7 hB7).mono ?_
          rintro e w8 ⟨v4, rfl, ho4, hb8⟩
          obtain ⟨A4, c4, rfl, hr4⟩ := own_form ho4
          have hb08 := hb07.trans (hb8.mono hb07.size)
          have hB8 := hb0.trans (hb08.mono hz0)
          have hr18 := hr1.later hb8
          have hr28 := hr2.later hb8
          have hr38 := hr3.later hb8
          clear q0 q1 q2 q3 q4 ho4 hr1 hr2 hr3
          rw [map_num] at hr18 hr4
          have hpl : (placesOf S t).length ≤ 10 := by have := placesOf_len S t; omega
          have hil : (inputsOf S t).length = (placesOf S t).length := inputsOf_len S t
          rw [hil] at hr28 ⊢
          have HIL := Lib.hid hil
          have HPA := Lib.hid (inputsOf_at S t)
          clear hil
          obtain ⟨np, hnp⟩ : ∃ np, (placesOf S t).length = np := ⟨_, rfl⟩
          rw [hnp] at hr18 hr28 hr4 hpl HIL HPA ⊢
          have HNP := Lib.hid hnp
          clear hnp
          have hsN := sameNumbers_any A1 A4 np np c1 c4 _ _ w8 (by omega) (by omega) hr18 hr4
          rw [decide_eq_true rfl] at hsN
          have HSN := Lib.hid hsN
          have HR4 := Lib.hid hr4
          have HR2 := Lib.hid hr28
          have HR3 := Lib.hid hr38
          clear hsN hr18 hr4 hr28 hr38 x7 x6 x4 hB7 hB6 hb7 hb8 hb07 hb06 hb46 hz7 hz6 HAT HNU HIn HI
          go_wp2_with fail
          refine HSN.out.mono ?_
          rintro e w9 ⟨rfl, q, rfl⟩
          have hb89 : Below w8.heap.size w8 (w8.drewN q) := below_drewN (Below.refl _ _) q
          generalize w8.drewN q = W9 at hb89 ⊢
          have hb09 := hb08.trans (hb89.mono hb08.size)
          have hB9 := hb0.trans (hb09.mono hz0)
          have x9 := b0.later hb09
          have q0 := x9.c 0
          have q1 := x9.c 1
          have q2 := x9.c 2
          have q3 := x9.c 3
          have q4 := x9.c 4
          simp only [List.getElem?_toArray, List.getElem?_cons_zero, List.getElem?_cons_succ] at q0 q1 q2 q3 q4
          have hz9 : Z ≤ W9.heap.size := by have := x9.lt; omega
          clear HSN
          go_wp2_with fail
          refine (HSC.out W9 hB9).mono ?_
          rintro e w10 ⟨⟨A5, c5, rfl, hr5, hl5⟩, hb10⟩
          have hb89' := hb89.trans (hb10.mono hb89.size)
          have hsS := sameNames_any A3 A5 (schedOf S t).length (schedOf S t).length c3 c5 (schedOf S t) (schedOf S t) w10 (by omega) (by omega) (HR3.out.later hb89') (hr5.later hb10)
          rw [decide_eq_true rfl] at hsS
          have HSS := Lib.hid hsS
          clear hsS hr5 hl5
          go_wp2_with fail
          refine HSS.out.mono ?_
          rintro e w11 ⟨rfl, q, rfl⟩
          have hb1011 : Below w10.heap.size w10 (w10.drewN q) := below_drewN (Below.refl _ _) q
          generalize w10.drewN q = W11 at hb1011 ⊢
          have hb811 := hb89'.trans (hb1011.mono hb89'.size)
          have hb011 := hb08.trans (hb811.mono hb08.size)
          have hr4' := HR4.out.later hb811
          have hr2' := HR2.out.later hb811
          clear q0 q1 q2 q3 q4 HSS HSC x9 hB9 hb09 hb89 hb10 hb89' hb1011 HR3 HR4 HR2 hz9
          go_wp2_with fail
          go_loopw [14] (ParR W11 np) (fun i _ => np - (intOf i).toNat)
          case atStart => exact ⟨0, by omega, rfl, Below.refl _ _⟩
          case round =>
            obtain ⟨k, hk, rfl, hbr⟩ := hrel
            have hb0r := hb011.trans (hbr.mono hb011.size)
            have hBr := hb0.trans (hb0r.mono hz0)
            have xr := b0.later hb0r
            have q0 := xr.c 0
            have q1 := xr.c 1
            have q2 := xr.c 2
            have q3 := xr.c 3
            have q4 := xr.c 4
            simp only [List.getElem?_toArray, List.getElem?_cons_zero, List.getElem?_cons_succ] at q0 q1 q2 q3 q4
            by_cases hlt : k < np
            · obtain ⟨i, x, hpi, hil, hxi, hip⟩ := HPA.out k hlt
              rw [hl] at hil
              obtain ⟨b5, o5, rfl, hb5, d0, d1, d2, d3, d4⟩ := hr2'.in5 hlt hip
              obtain ⟨b4, o4, u4, rfl, hb4x, hu4, e4⟩ := hr4'.at1 hlt
              rw [List.getElem?_map, List.getElem?_map, hpi] at hu4
              simp only [Option.map_some, Option.some.injEq] at hu4
              subst hu4
              obtain ⟨b6, o6, tick6, kind6, number6, fs6, ds6, ts6, hA6, hb6, ht6, c60, c61, c62, c63, c64, c65⟩ := HROW.out.tm hl hil
              rw [hxi] at ht6
              injection ht6 with ht6
              subst ht6
              simp only at d0 d1 d2 d3 d4
              have j0 := (hbr.cell (p := ⟨b5, o5 + k * 5, none⟩) hb5).trans d0
              have j1 := (hbr.cell (p := ⟨b5, o5 + k * 5 + 1, none⟩) hb5).trans d1
              have j2 := (hbr.cell (p := ⟨b5, o5 + k * 5 + 2, none⟩) hb5).trans d2
              have j3 := (hbr.cell (p := ⟨b5, o5 + k * 5 + 3, none⟩) hb5).trans d3
              have j4 := (hbr.cell (p := ⟨b5, o5 + k * 5 + 4, none⟩) hb5).trans d4
              have n4 := (hbr.cell (p := ⟨b4, o4 + k, none⟩) hb4x).trans e4
              have g1 := (hBr.cell (p := ⟨b6, o6 + i * 6 + 1, none⟩) hb6).trans c61
              have g2 := (hBr.cell (p := ⟨b6, o6 + i * 6 + 2, none⟩) hb6).trans c62
              have g3 := (hBr.cell (p := ⟨b6, o6 + i * 6 + 3, none⟩) hb6).trans c63
              have g4 := (hBr.cell (p := ⟨b6, o6 + i * 6 + 4, none⟩) hb6).trans c64
              have g5 := (hBr.cell (p := ⟨b6, o6 + i * 6 + 5, none⟩) hb6).trans c65
              rw [encN_eq] at j2 j3 j4
              unfold encI numAt at n4
              rw [hA6] at q3
              obtain ⟨y, hy⟩ : ∃ y, S.before + (i : Int) + 1 = y := ⟨_, rfl⟩
              rw [hy] at n4
              have hy1 : (y - S.before - 1).toNat = i := by omega
              have hy2 : 0 ≤ y - S.before - 1 := by omega
              have hy3 : y - S.before - 1 < n := by omega
              have hy4 : 0 ≤ y ∧ y ≤ 2000000 := by omega
              have hlt' : (k : Int) < (np : Int) := by omega
              clear hy d0 d1 d2 d3 d4 e4 c60 c61 c62 c63 c64 c65 hpi hip hxi
              go_wp2_with fail
              go_quiet (fail)
              have hbq := below_drewN hbr nq
              go_wp2_with fail
              go_roundw
              case rel => exact ⟨k + 1, by omega, by go_num, hbq⟩
              case measure => simp [intOf]; omega
            · obtain rfl : k = np := by omega
              go_wp2_with fail
              go_ret
              exact ⟨rfl, hBr⟩
        · have hd : decide (num ≤ S.before + (n : Int)) = false := decide_eq_false (by omega)
          have hor2 : S.before < num := by omega
          have hd2 : decide (S.before < num) = true := decide_eq_true hor2
          go_wp2_with fail
          go_quiet (fail)
          have hb46 := below_drewN hb45 nq
          generalize (w4.alloc (.cells #[.int .i64 0, .int .i64 0, .int .i64 0, .string ⟨#[]⟩, .string ⟨#[]⟩, .string ⟨#[]⟩] 33)).drewN nq = W6 at hb46 ⊢
          clear hb45
          have hb06 := hb4'.trans (hb46.mono hb4'.size)
          have hB6 := hb0.trans (hb06.mono hz0)
          clear q0 q1 q2 q3 q4
          have x6 := b0.later hb06
          have q0 := x6.c 0
          have q1 := x6.c 1
          have q2 := x6.c 2
          have q3 := x6.c 3
          have q4 := x6.c 4
          simp only [List.getElem?_toArray, List.getElem?_cons_zero, List.getElem?_cons_succ] at q0 q1 q2 q3 q4
          have hz6 : Z ≤ W6.heap.size := by have := x6.lt; omega
          go_wp2_with fail
          refine (HAT.out W6 hB6).mono ?_
          rintro e w7 ⟨v1, v2, v3, rfl, ho1, ho2, ho3, hb7⟩
          obtain ⟨A1, c1, rfl, hr1⟩ := own_form ho1
          obtain ⟨A2, c2, rfl, hr2⟩ := own_form ho2
          obtain ⟨A3, c3, rfl, hr3⟩ := own_form ho3
          have hb07 := hb06.trans (hb7.mono hb06.size)
          have hB7 := hb0.trans (hb07.mono hz0)
          clear q0 q1 q2 q3 q4
          have x7 := b0.later hb07
          have q0 := x7.c 0
          have q1 := x7.c 1
          have q2 := x7.c 2
          have q3 := x7.c 3
          have q4 := x7.c 4
          simp only [List.getElem?_toArray, List.getElem?_cons_zero, List.getElem?_cons_succ] at q0 q1 q2 q3 q4
          have hz7 : Z ≤ w7.heap.size := by have := x7.lt; omega
          clear ho1 ho2 ho3
          go_wp2_with fail
          refine (HNU.out w7 hB7).mono ?_
          rintro e w8 ⟨v4, rfl, ho4, hb8⟩
          obtain ⟨A4, c4, rfl, hr4⟩ := own_form ho4
          have hb08 := hb07.trans (hb8.mono hb07.size)
          have hB8 := hb0.trans (hb08.mono hz0)
          have hr18 := hr1.later hb8
          have hr28 := hr2.later hb8
          have hr38 := hr3.later hb8
          clear q0 q1 q2 q3 q4 ho4 hr1 hr2 hr3
          rw [map_num] at hr18 hr4
          have hpl : (placesOf S t).length ≤ 10 := by have := placesOf_len S t; omega
          have hil : (inputsOf S t).length = (placesOf S t).length := inputsOf_len S t
          rw [hil] at hr28 ⊢
          have HIL := Lib.hid hil
          have HPA := Lib.hid (inputsOf_at S t)
          clear hil
          obtain ⟨np, hnp⟩ : ∃ np, (placesOf S t).length = np := ⟨_, rfl⟩
          rw [hnp] at hr18 hr28 hr4 hpl HIL HPA ⊢
          have HNP := Lib.hid hnp
          clear hnp
          have hsN := sameNumbers_any A1 A4 np np c1 c4 _ _ w8 (by omega) (by omega) hr18 hr4
          rw [decide_eq_true rfl] at hsN
          have HSN := Lib.hid hsN
          have HR4 := Lib.hid hr4
          have HR2 := Lib.hid hr28
          have HR3 := Lib.hid hr38
          clear hsN hr18 hr4 hr28 hr38 x7 x6 x4 hB7 hB6 hb7 hb8 hb07 hb06 hb46 hz7 hz6 HAT HNU HIn HI
          go_wp2_with fail
          refine HSN.out.mono ?_
          rintro e w9 ⟨rfl, q, rfl⟩
          have hb89 : Below w8.heap.size w8 (w8.drewN q) := below_drewN (Below.refl _ _) q
          generalize w8.drewN q = W9 at hb89 ⊢
          have hb09 := hb08.trans (hb89.mono hb08.size)
          have hB9 := hb0.trans (hb09.mono hz0)
          have x9 := b0.later hb09
          have q0 := x9.c 0
          have q1 := x9.c 1
          have q2 := x9.c 2
          have q3 := x9.c 3
          have q4 := x9.c 4
          simp only [List.getElem?_toArray, List.getElem?_cons_zero, List.getElem?_cons_succ] at q0 q1 q2 q3 q4
          have hz9 : Z ≤ W9.heap.size := by have := x9.lt; omega
          clear HSN
          go_wp2_with fail
          refine (HSC.out W9 hB9).mono ?_
          rintro e w10 ⟨⟨A5, c5, rfl, hr5, hl5⟩, hb10⟩
          have hb89' := hb89.trans (hb10.mono hb89.size)
          have hsS := sameNames_any A3 A5 (schedOf S t).length (schedOf S t).length c3 c5 (schedOf S t) (schedOf S t) w10 (by omega) (by omega) (HR3.out.later hb89') (hr5.later hb10)
          rw [decide_eq_true rfl] at hsS
          have HSS := Lib.hid hsS
          clear hsS hr5 hl5
          go_wp2_with fail
          refine HSS.out.mono ?_
          rintro e w11 ⟨rfl, q, rfl⟩
          have hb1011 : Below w10.heap.size w10 (w10.drewN q) := below_drewN (Below.refl _ _) q
          generalize w10.drewN q = W11 at hb1011 ⊢
          have hb811 := hb89'.trans (hb1011.mono hb89'.size)
          have hb011 := hb08.trans (hb811.mono hb08.size)
          have hr4' := HR4.out.later hb811
          have hr2' := HR2.out.later hb811
          clear q0 q1 q2 q3 q4 HSS HSC x9 hB9 hb09 hb89 hb10 hb89' hb1011 HR3 HR4 HR2 hz9
          go_wp2_with fail
          go_loopw [14] (ParR W11 np) (fun i _ => np - (intOf i).toNat)
          case atStart => exact ⟨0, by omega, rfl, Below.refl _ _⟩
          case round =>
            obtain ⟨k, hk, rfl, hbr⟩ := hrel
            have hb0r := hb011.trans (hbr.mono hb011.size)
            have hBr := hb0.trans (hb0r.mono hz0)
            have xr := b0.later hb0r
            have q0 := xr.c 0
            have q1 := xr.c 1
            have q2 := xr.c 2
            have q3 := xr.c 3
            have q4 := xr.c 4
            simp only [List.getElem?_toArray, List.getElem?_cons_zero, List.getElem?_cons_succ] at q0 q1 q2 q3 q4
            by_cases hlt : k < np
            · obtain ⟨i, x, hpi, hil, hxi, hip⟩ := HPA.out k hlt
              rw [hl] at hil
              obtain ⟨b5, o5, rfl, hb5, d0, d1, d2, d3, d4⟩ := hr2'.in5 hlt hip
              obtain ⟨b4, o4, u4, rfl, hb4x, hu4, e4⟩ := hr4'.at1 hlt
              rw [List.getElem?_map, List.getElem?_map, hpi] at hu4
              simp only [Option.map_some, Option.some.injEq] at hu4
              subst hu4
              obtain ⟨b6, o6, tick6, kind6, number6, fs6, ds6, ts6, hA6, hb6, ht6, c60, c61, c62, c63, c64, c65⟩ := HROW.out.tm hl hil
              rw [hxi] at ht6
              injection ht6 with ht6
              subst ht6
              simp only at d0 d1 d2 d3 d4
              have j0 := (hbr.cell (p := ⟨b5, o5 + k * 5, none⟩) hb5).trans d0
              have j1 := (hbr.cell (p := ⟨b5, o5 + k * 5 + 1, none⟩) hb5).trans d1
              have j2 := (hbr.cell (p := ⟨b5, o5 + k * 5 + 2, none⟩) hb5).trans d2
              have j3 := (hbr.cell (p := ⟨b5, o5 + k * 5 + 3, none⟩) hb5).trans d3
              have j4 := (hbr.cell (p := ⟨b5, o5 + k * 5 + 4, none⟩) hb5).trans d4
              have n4 := (hbr.cell (p := ⟨b4, o4 + k, none⟩) hb4x).trans e4
              have g1 := (hBr.cell (p := ⟨b6, o6 + i * 6 + 1, none⟩) hb6).trans c61
              have g2 := (hBr.cell (p := ⟨b6, o6 + i * 6 + 2, none⟩) hb6).trans c62
              have g3 := (hBr.cell (p := ⟨b6, o6 + i * 6 + 3, none⟩) hb6).trans c63
              have g4 := (hBr.cell (p := ⟨b6, o6 + i * 6 + 4, none⟩) hb6).trans c64
              have g5 := (hBr.cell (p := ⟨b6, o6 + i * 6 + 5, none⟩) hb6).trans c65
              rw [encN_eq] at j2 j3 j4
              unfold encI numAt at n4
              rw [hA6] at q3
              obtain ⟨y, hy⟩ : ∃ y, S.before + (i : Int) + 1 = y := ⟨_, rfl⟩
              rw [hy] at n4
              have hy1 : (y - S.before - 1).toNat = i := by omega
              have hy2 : 0 ≤ y - S.before - 1 := by omega
              have hy3 : y - S.before - 1 < n := by omega
              have hy4 : 0 ≤ y ∧ y ≤ 2000000 := by omega
              have hlt' : (k : Int) < (np : Int) := by omega
              clear hy d0 d1 d2 d3 d4 e4 c60 c61 c62 c63 c64 c65 hpi hip hxi
              go_wp2_with fail
              go_quiet (fail)
              have hbq := below_drewN hbr nq
              go_wp2_with fail
              go_roundw
              case rel => exact ⟨k + 1, by omega, by go_num, hbq⟩
              case measure => simp [intOf]; omega
            · obtain rfl : k = np := by omega
              go_wp2_with fail
              go_ret
              exact ⟨rfl, hBr⟩
    · have hr3' : (r3 != 0) = true := by simp [hr3]
      clear hr3 HCHK
      go_wp2_with fail
      refine (HK.out w3 hB3).mono ?_
      rintro e w4 ⟨rfl, hb4⟩
      go_wp2_with fail
      go_ret
      exact ⟨rfl, hB3.trans (hb4.mono (by have := x3.lt; omega))⟩

end Go.Proofs.YtnibcffcbnjllaaGreatDoor
