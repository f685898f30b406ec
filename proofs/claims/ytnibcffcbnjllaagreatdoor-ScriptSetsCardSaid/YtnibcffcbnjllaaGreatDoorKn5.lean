/- known. -/
import Derived.Test.YtnibcffcbnjllaaGreatDoorKn0
namespace Go.Proofs.YtnibcffcbnjllaaGreatDoor
open Go.RowKit Go.Sort

theorem KS_at {W : World} {B : Nat} (b : BoxN W B 33 #[.int .i64 5, .int .i64 4, .int .i64 1, .string ⟨#[]⟩, .string ⟨#[]⟩, .string ⟨#[]⟩, .int .i64 5, .int .i64 4, .int .i64 1, .string ⟨#[]⟩, .string ⟨#[]⟩, .string ⟨#[]⟩, .int .i64 6, .int .i64 4, .int .i64 1, .string ⟨#[]⟩, .string ⟨#[]⟩, .string ⟨#[]⟩]) :
    ScrAt W W.heap.size (some ⟨B, 0, none⟩) none 3 0 KS := by
  refine ⟨⟨rfl, fun _ => ⟨B, 0, rfl, b.lt, fun j u hu => ?_⟩⟩, rfl, ⟨[], Row.nil_, rfl, fun k x h => by simp [KS] at h⟩, by omega, by omega⟩
  rw [Nat.zero_add, b.c j]
  exact (List.getElem?_toArray ..).trans hu
theorem ints_row {W : World} {B : Nat} {t : TypeId} {xs : List Int} (b : BoxN W B t (xs.map encI).toArray) : Row W W.heap.size 1 (some ⟨B, 0, none⟩) xs.length (xs.map encI) := by
  refine ⟨by simp, fun _ => ⟨B, 0, rfl, b.lt, fun j u hu => ?_⟩⟩
  rw [Nat.zero_add, b.c j]
  exact (List.getElem?_toArray ..).trans hu
theorem names_row {W : World} {B : Nat} {t : TypeId} {xs : List Nm} (b : BoxN W B t (xs.map encN).toArray) : Row W W.heap.size 1 (some ⟨B, 0, none⟩) xs.length (xs.map encN) := by
  refine ⟨by simp, fun _ => ⟨B, 0, rfl, b.lt, fun j u hu => ?_⟩⟩
  rw [Nat.zero_add, b.c j]
  exact (List.getElem?_toArray ..).trans hu

/-- What At says of the example. -/
theorem KS_At (B : Nat) (W : World) (hS : ScrAt W W.heap.size (some ⟨B, 0, none⟩) none 3 0 KS) :
    Calls Tryz.prog 11 #[.agg #[.int .i64 5, .int .i64 7, .int .i64 3, .slice (some ⟨B, 0, none⟩) 3 3, .slice none 0 0], .int .i64 5] W fun e w' => ∃ A1 c1 A2 n2 c2 A3 n3 c3, e = .returned (.tuple #[.slice A1 2 c1, .slice A2 n2 c2, .slice A3 n3 c3]) ∧ Row w' w'.heap.size 1 A1 2 ([4, 5].map encI) ∧ Below W.heap.size W w' := by
  have h := At_any KS (some ⟨B, 0, none⟩) none 3 0 3 0 5 W hS (by unfold I64; omega) (by unfold I64; decide) (by decide) (by decide) (by omega) (by decide)
  refine h.mono ?_
  rintro e w' ⟨v1, v2, v3, rfl, h1, h2, h3, hb⟩
  rw [KS_nums, KS_places] at h1
  obtain ⟨A1, c1, rfl, hr1⟩ := own_form h1
  obtain ⟨A2, c2, rfl, _⟩ := own_form h2
  obtain ⟨A3, c3, rfl, _⟩ := own_form h3
  exact ⟨A1, c1, A2, _, c2, A3, _, c3, rfl, hr1, hb⟩

/-- What Cut must say of the example. -/
def KCut : Prop := ∀ (B : Nat) (W : World), Ok W → ScrAt W W.heap.size (some ⟨B, 0, none⟩) none 3 0 KS →
    Calls Tryz.prog 33 #[.agg #[.int .i64 5, .int .i64 7, .int .i64 3, .slice (some ⟨B, 0, none⟩) 3 3, .slice none 0 0], .int .i64 6] W fun e w' => ∃ (A1 : Option Addr) (n1 c1 : Nat) (A2 : Option Addr) (n2 c2 : Nat), e = .returned (.tuple #[.agg #[.int .i64 5, .int .i64 6, .int .i64 3, .slice A1 n1 c1, .slice none 0 0], .agg #[.int .i64 6, .int .i64 7, .int .i64 5, .slice A2 n2 c2, .slice none 0 0], .int .i64 0]) ∧ Below W.heap.size W w'

theorem KS_Check (B : Nat) (W : World) (hok : Ok W) (hS : ScrAt W W.heap.size (some ⟨B, 0, none⟩) none 3 0 KS) :
    Calls Tryz.prog 34 #[.agg #[.int .i64 5, .int .i64 7, .int .i64 3, .slice (some ⟨B, 0, none⟩) 3 3, .slice none 0 0]] W fun e w' => e = .returned (.int .i64 0) ∧ Below W.heap.size W w' :=
  Check_good KS (some ⟨B, 0, none⟩) none 3 3 0 W hok hS KS_good

theorem KS_Take (B B1 B2 : Nat) (t1 t2 : TypeId) (W : World) (hok : Ok W) (hS : ScrAt W W.heap.size (some ⟨B, 0, none⟩) none 3 0 KS)
    (b1 : BoxN W B1 t1 #[.int .i64 9, .int .i64 4, .int .i64 4]) (b2 : BoxN W B2 t2 #[.string ⟨#[55, 46, 49]⟩, .string ⟨#[52, 46, 50]⟩, .string ⟨#[55]⟩]) :
    Calls Tryz.prog 17 #[.agg #[.int .i64 5, .int .i64 7, .int .i64 3, .slice (some ⟨B, 0, none⟩) 3 3, .slice none 0 0], .slice (some ⟨B1, 0, none⟩) 3 3, .slice (some ⟨B2, 0, none⟩) 3 3] W fun e w' => ∃ A1 c1 A2 c2, e = .returned (.agg #[.slice A1 1 c1, .slice A2 1 c2]) ∧ Row w' w'.heap.size 1 A1 1 ([4].map encI) ∧ Row w' w'.heap.size 1 A2 1 ([[55]].map encN) ∧ Below W.heap.size W w' := by
  have h := Take_any KS (some ⟨B, 0, none⟩) none 3 0 3 0 (some ⟨B1, 0, none⟩) (some ⟨B2, 0, none⟩) 3 3 3 3 [9, 4, 4] KN W hok hS (by unfold I64; decide) (by unfold I64; decide) (by omega) (by omega) (by decide) (ints_row (xs := [9, 4, 4]) b1) (names_row (xs := KN) b2)
  refine h.mono ?_
  rintro e w' ⟨v1, v2, rfl, h1, h2, hb⟩
  rw [KS_take, KS_canI] at h1 h2
  rw [KS_canL] at h2
  obtain ⟨A1, c1, rfl, hr1⟩ := own_form h1
  obtain ⟨A2, c2, rfl, hr2⟩ := own_form h2
  exact ⟨A1, c1, A2, c2, rfl, hr1, hr2, hb⟩

theorem KS_Text (A1 A2 : Option Addr) (c1 c2 : Nat) (W : World) (hok : Ok W) (h1 : Row W W.heap.size 1 A1 1 ([4].map encI)) (h2 : Row W W.heap.size 1 A2 1 ([[55]].map encN)) :
    Calls Tryz.prog 30 #[.agg #[.slice A1 1 c1, .slice A2 1 c2]] W fun e w' => e = .returned (.string ⟨#[35, 52, 32, 55]⟩) ∧ Below W.heap.size W w' := by
  have h := Text_any A1 A2 1 c1 1 c2 [4] [[55]] W hok (by unfold I64; decide) (by omega) (by omega) (by decide) h1 h2
  rw [KS_canI1, KS_canL1, KS_text] at h
  exact h
theorem KS_Covers (A1 A2 : Option Addr) (c1 c2 : Nat) (W : World) (hok : Ok W) (h1 : Row W W.heap.size 1 A1 1 ([4].map encI)) (h2 : Row W W.heap.size 1 A2 1 ([[55]].map encN)) :
    Calls Tryz.prog 22 #[.agg #[.slice A1 1 c1, .slice A2 1 c2], .string ⟨#[52, 46, 50]⟩] W fun e w' => e = .returned (.bool true) ∧ Below W.heap.size W w' := by
  have h := ScrCovers_any A1 A2 1 c1 1 c2 [4] [[55]] ⟨#[52, 46, 50]⟩ W hok (by omega) (by omega) (by decide) (by decide) h1 h2
  rw [show scrCoversB [4] [[55]] (⟨#[52, 46, 50]⟩ : ByteArray).data.toList = true from KS_cov] at h
  exact h
theorem KS_Has (A1 A2 : Option Addr) (c1 c2 : Nat) (W : World) (h1 : Row W W.heap.size 1 A1 1 ([4].map encI)) :
    Calls Tryz.prog 20 #[.agg #[.slice A1 1 c1, .slice A2 1 c2], .int .i64 4] W fun e w' => e = .returned (.bool true) ∧ Below W.heap.size W w' := by
  have h := HasInput_any A1 A2 1 c1 1 c2 [4] 4 W (by omega) h1
  rw [KS_has] at h
  exact h

set_option maxRecDepth 100000 in
set_option maxHeartbeats 4000000 in
theorem known_core (hcut : KCut) (w : World) (hok : Ok w) : Calls Tryz.prog 7 #[] w fun e w' => e = .returned (.bool true) ∧ Below w.heap.size w w' := by
  have bT := (BoxN.new (w.alloc (.cells #[.int .i64 4, .int .i64 1, .string ⟨#[]⟩, .string ⟨#[]⟩, .string ⟨#[]⟩] 31)) 33 #[.int .i64 5, .int .i64 4, .int .i64 1, .string ⟨#[]⟩, .string ⟨#[]⟩, .string ⟨#[]⟩, .int .i64 5, .int .i64 4, .int .i64 1, .string ⟨#[]⟩, .string ⟨#[]⟩, .string ⟨#[]⟩, .int .i64 6, .int .i64 4, .int .i64 1, .string ⟨#[]⟩, .string ⟨#[]⟩, .string ⟨#[]⟩]).alloc (.cells #[.int .i64 5, .int .i64 7, .int .i64 3, .slice (some ⟨w.heap.size + 1, 0, none⟩) 3 3, .slice none 0 0] 25)
  have bS := BoxN.new ((w.alloc (.cells #[.int .i64 4, .int .i64 1, .string ⟨#[]⟩, .string ⟨#[]⟩, .string ⟨#[]⟩] 31)).alloc (.cells #[.int .i64 5, .int .i64 4, .int .i64 1, .string ⟨#[]⟩, .string ⟨#[]⟩, .string ⟨#[]⟩, .int .i64 5, .int .i64 4, .int .i64 1, .string ⟨#[]⟩, .string ⟨#[]⟩, .string ⟨#[]⟩, .int .i64 6, .int .i64 4, .int .i64 1, .string ⟨#[]⟩, .string ⟨#[]⟩, .string ⟨#[]⟩] 33)) 25 #[.int .i64 5, .int .i64 7, .int .i64 3, .slice (some ⟨w.heap.size + 1, 0, none⟩) 3 3, .slice none 0 0]
  have hb1 : Below w.heap.size w (((w.alloc (.cells #[.int .i64 4, .int .i64 1, .string ⟨#[]⟩, .string ⟨#[]⟩, .string ⟨#[]⟩] 31)).alloc (.cells #[.int .i64 5, .int .i64 4, .int .i64 1, .string ⟨#[]⟩, .string ⟨#[]⟩, .string ⟨#[]⟩, .int .i64 5, .int .i64 4, .int .i64 1, .string ⟨#[]⟩, .string ⟨#[]⟩, .string ⟨#[]⟩, .int .i64 6, .int .i64 4, .int .i64 1, .string ⟨#[]⟩, .string ⟨#[]⟩, .string ⟨#[]⟩] 33)).alloc (.cells #[.int .i64 5, .int .i64 7, .int .i64 3, .slice (some ⟨w.heap.size + 1, 0, none⟩) 3 3, .slice none 0 0] 25)) :=
    (((Below.refl _ w).alloc (Nat.le_refl _) _).alloc (by simp) _).alloc (by simp; omega) _
  simp only [World.size_alloc] at bT bS
  obtain ⟨W1, hW1⟩ : ∃ W1, (((w.alloc (.cells #[.int .i64 4, .int .i64 1, .string ⟨#[]⟩, .string ⟨#[]⟩, .string ⟨#[]⟩] 31)).alloc (.cells #[.int .i64 5, .int .i64 4, .int .i64 1, .string ⟨#[]⟩, .string ⟨#[]⟩, .string ⟨#[]⟩, .int .i64 5, .int .i64 4, .int .i64 1, .string ⟨#[]⟩, .string ⟨#[]⟩, .string ⟨#[]⟩, .int .i64 6, .int .i64 4, .int .i64 1, .string ⟨#[]⟩, .string ⟨#[]⟩, .string ⟨#[]⟩] 33)).alloc (.cells #[.int .i64 5, .int .i64 7, .int .i64 3, .slice (some ⟨w.heap.size + 1, 0, none⟩) 3 3, .slice none 0 0] 25)) = W1 := ⟨_, rfl⟩
  rw [hW1] at bT bS hb1
  have HW := Lib.hid hW1
  obtain ⟨Z, hZ⟩ : ∃ Z, w.heap.size = Z := ⟨_, rfl⟩
  rw [hZ] at bT bS hb1 ⊢
  have HZ := Lib.hid hZ
  have HS := Lib.hid (KS_at bT)
  have HOK := Lib.hid (fun (W : World) (hb : Below Z w W) => hok.later (by rw [hZ]; exact hb))
  clear hW1 hZ bT hok
  have HCUT : Hid KCut := hcut
  clear hcut
  have hz1 : Z ≤ W1.heap.size := by have := bS.lt; omega
  go_enter Tryz.func7, Tryz.ntmps7
  go_wp2_with fail
  rw [HW.out, HZ.out]
  obtain ⟨ZS, hZS⟩ : ∃ ZS, Z + 1 + 1 = ZS := ⟨_, rfl⟩
  rw [hZS] at bS ⊢
  have hzs : Z ≤ ZS := by omega
  clear hZS
  refine (KS_At _ _ HS.out).mono ?_
  rintro e w2 ⟨A1, c1, A2, n2, c2, A3, n3, c3, rfl, hr1, hb2⟩
  have s2 := bS.later hb2
  have q0 := s2.c 0
  have q1 := s2.c 1
  have q2 := s2.c 2
  have q3 := s2.c 3
  have q4 := s2.c 4
  simp only [List.getElem?_toArray, List.getElem?_cons_zero, List.getElem?_cons_succ] at q0 q1 q2 q3 q4
  have hB2 := hb1.trans (hb2.mono hz1)
  clear HW hb1 HZ
  go_wp2_with fail
  refine (HCUT.out _ _ (HOK.out _ hB2) (HS.out.later hb2)).mono ?_
  rintro e w3 ⟨A4, n4, c4, A5, n5, c5, rfl, hb3⟩
  have s3 := s2.later hb3
  have zlt := s3.lt
  clear q0 q1 q2 q3 q4
  have q0 := s3.c 0
  have q1 := s3.c 1
  have q2 := s3.c 2
  have q3 := s3.c 3
  have q4 := s3.c 4
  simp only [List.getElem?_toArray, List.getElem?_cons_zero, List.getElem?_cons_succ] at q0 q1 q2 q3 q4
  have hb4 : Below w3.heap.size w3 ((((w3.alloc (.cells #[.int .i64 5, .int .i64 6, .int .i64 3, .slice A4 n4 c4, .slice none 0 0] 25)).alloc (.cells #[.int .i64 6, .int .i64 7, .int .i64 5, .slice A5 n5 c5, .slice none 0 0] 25)).alloc (.cells #[.int .i64 9, .int .i64 4, .int .i64 4] 3)).alloc (.cells #[.string ⟨#[55, 46, 49]⟩, .string ⟨#[52, 46, 50]⟩, .string ⟨#[55]⟩] 53)) := ((((Below.refl _ w3).alloc (Nat.le_refl _) _).alloc (by simp) _).alloc (by simp; omega) _).alloc (by simp; omega) _
  have b6 := (((BoxN.new w3 25 #[.int .i64 5, .int .i64 6, .int .i64 3, .slice A4 n4 c4, .slice none 0 0]).alloc (.cells #[.int .i64 6, .int .i64 7, .int .i64 5, .slice A5 n5 c5, .slice none 0 0] 25)).alloc (.cells #[.int .i64 9, .int .i64 4, .int .i64 4] 3)).alloc (.cells #[.string ⟨#[55, 46, 49]⟩, .string ⟨#[52, 46, 50]⟩, .string ⟨#[55]⟩] 53)
  have b7 := ((BoxN.new (w3.alloc (.cells #[.int .i64 5, .int .i64 6, .int .i64 3, .slice A4 n4 c4, .slice none 0 0] 25)) 25 #[.int .i64 6, .int .i64 7, .int .i64 5, .slice A5 n5 c5, .slice none 0 0]).alloc (.cells #[.int .i64 9, .int .i64 4, .int .i64 4] 3)).alloc (.cells #[.string ⟨#[55, 46, 49]⟩, .string ⟨#[52, 46, 50]⟩, .string ⟨#[55]⟩] 53)
  have b8 := (BoxN.new ((w3.alloc (.cells #[.int .i64 5, .int .i64 6, .int .i64 3, .slice A4 n4 c4, .slice none 0 0] 25)).alloc (.cells #[.int .i64 6, .int .i64 7, .int .i64 5, .slice A5 n5 c5, .slice none 0 0] 25)) 3 #[.int .i64 9, .int .i64 4, .int .i64 4]).alloc (.cells #[.string ⟨#[55, 46, 49]⟩, .string ⟨#[52, 46, 50]⟩, .string ⟨#[55]⟩] 53)
  have b9 := BoxN.new (((w3.alloc (.cells #[.int .i64 5, .int .i64 6, .int .i64 3, .slice A4 n4 c4, .slice none 0 0] 25)).alloc (.cells #[.int .i64 6, .int .i64 7, .int .i64 5, .slice A5 n5 c5, .slice none 0 0] 25)).alloc (.cells #[.int .i64 9, .int .i64 4, .int .i64 4] 3)) 53 #[.string ⟨#[55, 46, 49]⟩, .string ⟨#[52, 46, 50]⟩, .string ⟨#[55]⟩]
  simp only [World.size_alloc] at b7 b8 b9
  obtain ⟨W4, hW4⟩ : ∃ W4, (((w3.alloc (.cells #[.int .i64 5, .int .i64 6, .int .i64 3, .slice A4 n4 c4, .slice none 0 0] 25)).alloc (.cells #[.int .i64 6, .int .i64 7, .int .i64 5, .slice A5 n5 c5, .slice none 0 0] 25)).alloc (.cells #[.int .i64 9, .int .i64 4, .int .i64 4] 3)).alloc (.cells #[.string ⟨#[55, 46, 49]⟩, .string ⟨#[52, 46, 50]⟩, .string ⟨#[55]⟩] 53) = W4 := ⟨_, rfl⟩
  rw [hW4] at hb4 b6 b7 b8 b9
  have HW4 := Lib.hid hW4
  clear hW4
  go_wp2_with fail
  rw [HW4.out]
  have hb23 := hb2.trans (hb3.mono hb2.size)
  have hb24 := hb23.trans (hb4.mono hb23.size)
  have hB4 := hB2.trans ((hb3.trans (hb4.mono hb3.size)).mono (by have := s2.lt; omega))
  refine (KS_Take _ _ _ _ _ _ (HOK.out _ hB4) (HS.out.later hb24) b8 b9).mono ?_
  rintro e w5 ⟨A7, c7, A8, c8, rfl, hr7, hr8, hb5⟩
  have hw : Below w2.heap.size w2 W4 := hb3.trans (hb4.mono hb3.size)
  have s5 := (s3.later hb4).later hb5
  have b65 := b6.later hb5
  have b75 := b7.later hb5
  have hr15 := (hr1.later hw).later hb5
  have hB5 := hB4.trans (hb5.mono (by have := b9.lt; omega))
  have hb25 := hb24.trans (hb5.mono hb24.size)
  have HS5 := Lib.hid (HS.out.later hb25)
  clear q0 q1 q2 q3 q4 s2 s3 b6 b7 b8 b9 hb4 HW4 hw hb24 hb23 hb3 hb2 hB4 hr1 hB2 bS HS
  obtain ⟨Y, hY⟩ : ∃ Y, w3.heap.size = Y := ⟨_, rfl⟩
  rw [hY] at b65 b75 ⊢
  have hzy : ZS < w5.heap.size := s5.lt
  have hy1 : Y + 1 < w5.heap.size := b75.lt
  have hZ5 : Z ≤ w5.heap.size := by omega
  clear hY zlt hb5 hb25 hz1
  have HR1 := Lib.hid (hr15.alloc (.cells #[.slice A7 1 c7, .slice A8 1 c8] 47))
  have HR7 := Lib.hid (hr7.alloc (.cells #[.slice A7 1 c7, .slice A8 1 c8] 47))
  have HR8 := Lib.hid (hr8.alloc (.cells #[.slice A7 1 c7, .slice A8 1 c8] 47))
  have b10 := Box2.new w5 47 (.slice A7 1 c7) (.slice A8 1 c8)
  have S6 := s5.alloc (.cells #[.slice A7 1 c7, .slice A8 1 c8] 47)
  have B6 := b65.alloc (.cells #[.slice A7 1 c7, .slice A8 1 c8] 47)
  have B7 := b75.alloc (.cells #[.slice A7 1 c7, .slice A8 1 c8] 47)
  have hB6 := hB5.alloc hZ5 (.cells #[.slice A7 1 c7, .slice A8 1 c8] 47)
  have hb56 : Below w5.heap.size w5 (w5.alloc (.cells #[.slice A7 1 c7, .slice A8 1 c8] 47)) := (Below.refl _ w5).alloc (Nat.le_refl _) _
  have HS6 := Lib.hid (HS5.out.later hb56)
  obtain ⟨W6, hW6⟩ : ∃ W6, w5.alloc (.cells #[.slice A7 1 c7, .slice A8 1 c8] 47) = W6 := ⟨_, rfl⟩
  rw [hW6] at HR1 HR7 HR8 b10 S6 B6 B7 hB6 HS6
  have HW6 := Lib.hid hW6
  have p0 := s5.c 0
  have p1 := s5.c 1
  have p2 := s5.c 2
  have p3 := s5.c 3
  have p4 := s5.c 4
  simp only [List.getElem?_toArray, List.getElem?_cons_zero, List.getElem?_cons_succ] at p0 p1 p2 p3 p4
  clear hW6 s5 b65 b75 hr15 hr7 hr8 hB5 hb56 HS5
  go_wp2_with fail
  rw [HW6.out]
  refine (KS_Check _ _ (HOK.out _ hB6) HS6.out).mono ?_
  rintro e w7 ⟨rfl, hb7⟩
  go_wp2_with fail
  have hb8 : Below w7.heap.size w7 (w7.alloc (.cells #[.int .i64 4, .int .i64 5] 3)) := (Below.refl _ w7).alloc (Nat.le_refl _) _
  have bn := BoxN.new w7 3 #[.int .i64 4, .int .i64 5]
  have hb68 := hb7.trans (hb8.mono hb7.size)
  refine (sameNumbers_any A1 (some ⟨w7.heap.size, 0, none⟩) 2 2 c1 2 [4, 5] [4, 5] _ (by omega) (by omega) (HR1.out.later hb68) (ints_row (xs := [4, 5]) bn)).mono ?_
  rintro e w9 ⟨rfl, q, rfl⟩
  rw [show decide (([4, 5] : List Int) = [4, 5]) = true from rfl]
  have hb69 : Below W6.heap.size W6 ((w7.alloc (.cells #[.int .i64 4, .int .i64 5] 3)).drewN q) := below_drewN hb68 q
  generalize (w7.alloc (.cells #[.int .i64 4, .int .i64 5] 3)).drewN q = W9 at hb69 ⊢
  have hB9 := hB6.trans (hb69.mono (by have := S6.lt; omega))
  have y6 := (B6.later hb69).c 2
  have y7 := (B7.later hb69).c 2
  have b19 := b10.later hb69
  have t0 := b19.c0
  have t1 := b19.c1
  simp only [List.getElem?_toArray, List.getElem?_cons_zero, List.getElem?_cons_succ] at y6 y7
  clear hb8 bn hb68 hb7 p0 p1 p2 p3 p4 HW6 HS6 hZ5 hy1 hzy
  go_wp2_with fail
  refine (KS_Text _ _ _ _ _ (HOK.out _ hB9) (HR7.out.later hb69) (HR8.out.later hb69)).mono ?_
  rintro e w10 ⟨rfl, hb10⟩
  have hb610 := hb69.trans (hb10.mono hb69.size)
  have hB10 := hB6.trans (hb610.mono (by have := S6.lt; omega))
  have b20 := b10.later hb610
  clear t0 t1
  have t0 := b20.c0
  have t1 := b20.c1
  go_wp2_with fail
  refine (KS_Covers _ _ _ _ _ (HOK.out _ hB10) (HR7.out.later hb610) (HR8.out.later hb610)).mono ?_
  rintro e w11 ⟨rfl, hb11⟩
  have hb611 := hb610.trans (hb11.mono hb610.size)
  have hB11 := hB6.trans (hb611.mono (by have := S6.lt; omega))
  have b21 := b10.later hb611
  clear t0 t1
  have t0 := b21.c0
  have t1 := b21.c1
  go_wp2_with fail
  refine (KS_Has _ _ _ _ _ (HR7.out.later hb611)).mono ?_
  rintro e w12 ⟨rfl, hb12⟩
  go_wp2_with fail
  go_ret
  exact ⟨rfl, hB11.trans (hb12.mono (by have := b21.lt; have := S6.lt; have := hb611.size; omega))⟩

end Go.Proofs.YtnibcffcbnjllaaGreatDoor
