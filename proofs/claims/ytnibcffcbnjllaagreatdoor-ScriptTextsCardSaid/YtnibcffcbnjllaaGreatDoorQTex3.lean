/- text of the law. -/
import Derived.Test.YtnibcffcbnjllaaGreatDoorQTex2
import Derived.Test.YtnibcffcbnjllaaGreatDoorQDig
import Derived.Test.YtnibcffcbnjllaaGreatDoorQSet1
namespace Go.Proofs.YtnibcffcbnjllaaGreatDoor
open Go.RowKit Go.Sort

/-- Each word behind a space. -/
def outN (l : List Nm) : Nm := l.flatMap fun x => 32 :: x
theorem outN_snoc (l : List Nm) (x : Nm) : outN (l ++ [x]) = outN l ++ 32 :: x := by simp [outN]
theorem outN_join : ∀ (l : List Nm), l ≠ [] → outN l = 32 :: Lib.join l [32]
  | [], h => absurd rfl h
  | [x], _ => by simp [outN, Lib.join]
  | x :: y :: r, _ => by
    have ih := outN_join (y :: r) (by simp)
    have e : outN (x :: y :: r) = 32 :: x ++ outN (y :: r) := by simp [outN]
    rw [e, ih, join_cons2]
    simp
theorem outN_len (k : Nat) : ∀ (l : List Nm), (∀ x ∈ l, x.length ≤ k) → (outN l).length ≤ l.length * (k + 1)
  | [], _ => by simp [outN]
  | x :: r, h => by
    have ih := outN_len k r (fun y hy => h y (by simp [hy]))
    have hx := h x (by simp)
    have e : outN (x :: r) = 32 :: x ++ outN r := by simp [outN]
    rw [e, List.length_append, List.length_cons, List.length_cons, Nat.succ_mul]
    omega
theorem cat_hash (o d : Nm) : Value.string ((⟨o.toArray⟩ : ByteArray) ++ ⟨#[32, 35]⟩ ++ ⟨d.toArray⟩) = .string ⟨(o ++ 32 :: 35 :: d).toArray⟩ := by
  congr 1
  apply ByteArray.ext
  simp
theorem cat_sp (o d : Nm) : Value.string ((⟨o.toArray⟩ : ByteArray) ++ ⟨#[32]⟩ ++ ⟨d.toArray⟩) = .string ⟨(o ++ 32 :: d).toArray⟩ := by
  congr 1
  apply ByteArray.ext
  simp

theorem ext_tail (j : Nm) : Ending.returned (Value.string ((⟨(32 :: j).toArray⟩ : ByteArray).extract 1 (j.length + 1))) = .returned (encN j) := by
  have h := ext_list (⟨(32 :: j).toArray⟩ : ByteArray) 1 (j.length + 1)
  unfold encN
  congr 2
  apply ByteArray.ext
  apply Array.ext'
  rw [h]
  simp

def LtR1 (W1 : World) (n : Nat) (l : List Int) (v i : Value) (wr : World) : Prop :=
  ∃ k, k ≤ n ∧ i = .int .i64 (k : Int) ∧ v = encN (outN ((l.take k).map hashN)) ∧ Below W1.heap.size W1 wr
def LtR2 (W1 : World) (p : List Nm) (n : Nat) (l : List Nm) (v i : Value) (wr : World) : Prop :=
  ∃ k, k ≤ n ∧ i = .int .i64 (k : Int) ∧ v = encN (outN (p ++ l.take k)) ∧ Below W1.heap.size W1 wr

set_option maxRecDepth 100000 in
set_option maxHeartbeats 4000000 in
theorem text_any (a : Wo) (A A' : Option Addr) (c d : Nat) (w : World) (hok : Ok w) (sa : Sm a) (hx9 : ∀ x ∈ a.1, x < 1000000000) (ha : WoAt w A A' a) :
    Calls Tryz.prog 32 #[.agg #[.slice A a.1.length c, .slice A' a.2.length d]] w fun e w' => e = .returned (encN (textN (can a).1 (can a).2)) ∧ Below w.heap.size w w' := by
  have b0 := Box2.new w 47 (.slice A a.1.length c) (.slice A' a.2.length d)
  have hb0 := al_self w (.cells #[.slice A a.1.length c, .slice A' a.2.length d] 47)
  have hC := canL_any44 A A' c d (w.alloc (.cells #[.slice A a.1.length c, .slice A' a.2.length d] 47)) (hok.later hb0) sa (ha.later hb0)
  have sc := sa.can
  have hd : ∀ x ∈ (can a).1, ∀ W : World, Calls Tryz.prog 62 #[.int .i64 x] W fun e w' => e = .returned (.string ⟨(Lib.itoa x).toArray⟩) ∧ Below W.heap.size W w' := fun x hx W => by
    have h1 := can_mem1 hx
    have h2 := hx9 x (can_subI hx)
    obtain ⟨n, rfl⟩ := Int.eq_ofNat_of_zero_le (show 0 ≤ x by omega)
    have e : Lib.itoa (n : Int) = Lib.decDigits n := by unfold Lib.itoa; rw [if_neg (by omega)]; rfl
    rw [e]
    exact digits_any 9 n W (by omega) (by omega)
  have hi : ∀ x ∈ (can a).1, (Lib.itoa x).length ≤ 21 := fun x hx => Lib.itoa_length_le x (sc.ii x hx).1 (sc.ii x hx).2
  have htx : textN (can a).1 (can a).2 = Lib.join ((can a).1.map hashN ++ (can a).2) [32] := rfl
  generalize can a = ca at *
  have n1 := sc.n1
  have n2 := sc.n2
  have HD := Lib.hid hd
  have HI := Lib.hid hi
  have HNM := Lib.hid sc.nm
  have HTX := Lib.hid htx
  have HII := Lib.hid sc.ii
  obtain ⟨W0, hW0⟩ : ∃ W0, w.alloc (.cells #[.slice A a.1.length c, .slice A' a.2.length d] 47) = W0 := ⟨_, rfl⟩
  rw [hW0] at b0 hb0 hC
  obtain ⟨Z, hZ⟩ : ∃ Z, w.heap.size = Z := ⟨_, rfl⟩
  rw [hZ] at b0 hb0 ⊢
  have HC := Lib.hid hC
  have HW := Lib.hid hW0
  have HZ := Lib.hid hZ
  have x0 := b0.c0
  have x1 := b0.c1
  have hz0 : Z ≤ W0.heap.size := by have := b0.lt; omega
  clear hC hd hi htx sc hW0 hZ hok sa ha hx9
  go_enter Tryz.func32, Tryz.ntmps32
  go_wp2_with fail
  rw [HW.out, HZ.out]
  refine HC.out.mono ?_
  rintro e w1 ⟨A1, c1, A2, c2, rfl, o1, hb1⟩
  have b1 := b0.later hb1
  have f0 := b1.f0
  have f1 := b1.f1
  have y0 := b1.c0
  have y1 := b1.c1
  have b2 := (b1.set0 (.slice A1 ca.1.length c1)).set1 (.slice A2 ca.2.length c2)
  have o2 := (o1.set (o := 0) b1 (.slice A1 ca.1.length c1)).set (o := 1) (b1.set0 _) (.slice A2 ca.2.length c2)
  have bl2 := below_set (o := 1) (.slice A2 ca.2.length c2) (Nat.le_refl Z) (below_set (o := 0) (.slice A1 ca.1.length c1) (Nat.le_refl Z) (hb0.trans (hb1.mono hz0)))
  clear x0 x1
  go_wp2_with fail
  obtain ⟨W2, hW2⟩ : ∃ W2, (w1.setCell ⟨Z, 0, none⟩ (.slice A1 ca.1.length c1)).setCell ⟨Z, 1, none⟩ (.slice A2 ca.2.length c2) = W2 := ⟨_, rfl⟩
  rw [hW2] at b2 o2 bl2 ⊢
  have r2 := o2.at
  clear f0 f1 y0 y1 b1 o1 hW2 b0 hb0 o2
  have hz2 : Z ≤ W2.heap.size := by have := b2.lt; omega
  go_loopw [3, 4] (LtR1 W2 ca.1.length ca.1) (fun _ i _ => ca.1.length - (intOf i).toNat)
  case atStart => exact ⟨0, by omega, rfl, rfl, Below.refl _ _⟩
  case round =>
    obtain ⟨k, hk, rfl, rfl, hbr⟩ := hrel
    have p0 := (b2.later hbr).c0
    by_cases hlt : k < ca.1.length
    · obtain ⟨bx, ox, x, rfl, hbx, hx, cx⟩ := r2.1.int hlt
      have cxr := (hbr.cell (p := ⟨bx, ox + k, none⟩) hbx).trans cx
      have hDx := HD.out x (List.mem_of_getElem? hx) wr
      have hix := HI.out x (List.mem_of_getElem? hx)
      have hst : outN ((ca.1.take (k + 1)).map hashN) = outN ((ca.1.take k).map hashN) ++ 32 :: 35 :: Lib.itoa x := by
        rw [List.take_add_one, hx]; simp [outN_snoc, hashN]
      have hol : (outN ((ca.1.take k).map hashN)).length ≤ ((ca.1.take k).map hashN).length * (1000 + 1) := outN_len 1000 _ (fun y hy => by
        obtain ⟨z, hz, rfl⟩ := List.mem_map.1 hy
        exact Nat.le_trans (hashN_len z (HII.out z (List.mem_of_mem_take hz))) (by omega))
      simp only [List.length_map, List.length_take] at hol
      have hol2 : (outN ((ca.1.take k).map hashN)).length ≤ 1000000 := by have : min k ca.1.length ≤ 300 := by omega
                                                                          omega
      have HST := Lib.hid hst
      generalize outN ((ca.1.take k).map hashN) = o at HST hol2 ⊢
      have HDX := Lib.hid hDx
      unfold encN
      generalize Lib.itoa x = dx at HST HDX hix
      clear hst hol hDx hx cx
      go_wp2_with fail
      refine HDX.out.mono ?_
      rintro e w3 ⟨rfl, hb3⟩
      go_wp2_with fail
      go_roundw
      case rel => exact ⟨k + 1, by omega, by go_num, by rw [HST.out]; exact cat_hash o dx, hbr.trans (hb3.mono hbr.size)⟩
      case measure => simp [intOf]; omega
    · obtain rfl : k = ca.1.length := by omega
      rw [List.take_length]
      have hpl : (ca.1.map hashN).length = ca.1.length := by simp
      have hpm : ∀ y ∈ ca.1.map hashN, y.length ≤ 1000 := fun y hy => by
        obtain ⟨z, hz, rfl⟩ := List.mem_map.1 hy
        exact Nat.le_trans (hashN_len z (HII.out z hz)) (by omega)
      have htx := HTX.out
      generalize ca.1.map hashN = p at hpl hpm htx ⊢
      have HPM := Lib.hid hpm
      have HTX2 := Lib.hid htx
      have p1 := (b2.later hbr).c1
      clear hpm htx HTX HD HI
      go_wp2_with fail
      go_loopw [3, 5] (LtR2 W2 p ca.2.length ca.2) (fun _ i _ => ca.2.length - (intOf i).toNat)
      case atStart => exact ⟨0, by omega, rfl, by simp, hbr⟩
      case round =>
        obtain ⟨k2, hk2, rfl, rfl, hbs⟩ := hrel
        have q1 := (b2.later hbs).c1
        have hol : (outN (p ++ ca.2.take k2)).length ≤ (p ++ ca.2.take k2).length * (1000 + 1) := outN_len 1000 _ (fun y hy => by
          rcases List.mem_append.1 hy with h | h
          · exact HPM.out y h
          · exact HNM.out y (List.mem_of_mem_take h))
        rw [List.length_append, List.length_take] at hol
        have hol2 : (outN (p ++ ca.2.take k2)).length ≤ 1000000 := by
          have : p.length + min k2 ca.2.length ≤ 600 := by omega
          omega
        by_cases hlt2 : k2 < ca.2.length
        · obtain ⟨bx, ox, u, rfl, hbx, hx0, cx⟩ := r2.2.at1 hlt2
          rw [List.getElem?_map] at hx0
          obtain ⟨x, hx, rfl⟩ := Option.map_eq_some_iff.1 hx0
          have cxr := (hbs.cell (p := ⟨bx, ox + k2, none⟩) hbx).trans cx
          have hsl := HNM.out _ (List.mem_of_getElem? hx)
          have hst : outN (p ++ ca.2.take (k2 + 1)) = outN (p ++ ca.2.take k2) ++ 32 :: x := by
            rw [List.take_add_one, hx, Option.toList_some, ← List.append_assoc, outN_snoc]
          have HST := Lib.hid hst
          generalize outN (p ++ ca.2.take k2) = o at HST hol2 ⊢
          unfold encN at cxr ⊢
          clear hst hol hx cx hx0
          go_wp2_with fail
          go_roundw
          case rel => exact ⟨k2 + 1, by omega, by go_num, by rw [HST.out]; exact cat_sp o x, hbs⟩
          case measure => simp [intOf]; omega
        · obtain rfl : k2 = ca.2.length := by omega
          rw [List.take_length] at hol2 ⊢
          have hBl := bl2.trans (hbs.mono hz2)
          by_cases hem : p ++ ca.2 = []
          · have ho : outN (p ++ ca.2) = [] := by rw [hem]; rfl
            have hj : textN ca.1 ca.2 = [] := by rw [HTX2.out, hem]; rfl
            have HJ := Lib.hid hj
            rw [ho]
            unfold encN
            clear hj hol2
            go_wp2_with fail
            go_ret
            exact ⟨by rw [HJ.out]; rfl, hBl⟩
          · have hoj := outN_join _ hem
            rw [← HTX2.out] at hoj
            rw [hoj] at hol2 ⊢
            have hjj : ∃ j, textN ca.1 ca.2 = j := ⟨_, rfl⟩
            obtain ⟨j, hj⟩ := hjj
            rw [hj] at hol2 ⊢
            have HJ := Lib.hid hj
            unfold encN
            clear hj hoj
            simp at hol2
            go_wp2_with fail
            go_ret
            exact ⟨by rw [HJ.out]; exact ext_tail j, hBl⟩

end Go.Proofs.YtnibcffcbnjllaaGreatDoor
/- ScriptTexts. -/
namespace Go.Proofs.YtnibcffcbnjllaaGreatDoor
open Go.RowKit Go.Sort

def TxR (W2 : World) (n : Nat) (l : List Int) (i : Value) (wr : World) : Prop :=
  ∃ k, k ≤ n ∧ i = .int .i64 (k : Int) ∧ (∀ x ∈ l.take k, x < 1000000000) ∧ Below W2.heap.size W2 wr
/-- ParseWithout of a text of what is taken back. -/
theorem Parse_text (a : Wo) (sa : Sm a) (h9 : ∀ x ∈ a.1, x < 1000000000) (tb : ByteArray) (ht : tb.data.toList = textN (can a).1 (can a).2) (w : World) (hok : Ok2 w) :
    Calls Tryz.prog 31 #[.string tb] w fun e w' => ∃ A c A' d, e = .returned (.tuple #[.agg #[.slice A (can a).1.length c, .slice A' (can a).2.length d], .int .i64 0]) ∧ OwnW w' w.heap.size A A' c d (can a) ∧ Below w.heap.size w w' := by
  obtain ⟨h1, h2⟩ := text_len a sa.ii ⟨sa.n1, sa.n2⟩ sa.nm
  have hl : (textN (can a).1 (can a).2).length ≤ 1000000 := by
    have hc := can_len a
    have := sa.n1
    have := sa.n2
    have hj := join_len [32] ((can a).1.map hashN ++ (can a).2) 1000 (fun x hx => by
      rcases List.mem_append.1 hx with h | h
      · obtain ⟨n, hn, rfl⟩ := List.mem_map.1 h
        exact Nat.le_trans (hashN_len n (sa.ii n (can_subI hn))) (by omega)
      · exact sa.nm x (can_sub h))
    rw [List.length_append, List.length_map] at hj
    have hm : ((can a).1.length + (can a).2.length) * (1000 + [(32 : UInt8)].length) ≤ 600 * 1001 := Nat.mul_le_mul (by omega) (by simp)
    unfold textN
    omega
  rw [← ht] at h1 h2 hl
  rw [len_of_byte] at hl
  refine (ParseWithout_any tb w hok hl h1 h2).mono ?_
  obtain ⟨u, hu1, hu2⟩ := parse_text a h9
  rw [← ht] at hu1
  rintro e w' ⟨⟨u', A, c, A', d, k1, k2, rfl, o⟩ | ⟨k1, _⟩, hb⟩
  · have : u' = u := by rw [hu1] at k1; injection k1 with k1; exact k1.symm
    subst this
    rw [hu2] at o ⊢
    exact ⟨A, c, A', d, rfl, o, hb⟩
  · exact absurd (by rw [hu2, ht]) (k1 u hu1)
theorem outN_ge : ∀ (l : List Nm), (∀ x ∈ l, x ≠ []) → 2 * l.length ≤ (outN l).length
  | [], _ => by simp
  | x :: r, h => by
    have ih := outN_ge r (fun y hy => h y (by simp [hy]))
    have hx := List.length_pos_iff.2 (h x (by simp))
    have e : outN (x :: r) = 32 :: x ++ outN r := by simp [outN]
    rw [e, List.length_append, List.length_cons, List.length_cons]
    omega
theorem text_short (u : Wo) (h : (textN (can u).1 (can u).2).length ≤ 300) : (can u).1.length + (can u).2.length ≤ 300 := by
  have hg := outN_ge ((can u).1.map hashN ++ (can u).2) (fun x hx => by
    rcases List.mem_append.1 hx with h | h
    · obtain ⟨n, _, rfl⟩ := List.mem_map.1 h
      simp [hashN]
    · exact (okN_iff.1 (can_mem2 h)).1)
  by_cases he : (can u).1.map hashN ++ (can u).2 = []
  · have := congrArg List.length he
    simp at this
    simp [this]
  · rw [outN_join _ he, List.length_append, List.length_map] at hg
    unfold textN at h
    simp at hg
    omega
/-- ParseWithout of any short text. -/
theorem Parse_short (t : ByteArray) (ht : t.size ≤ 300) (w : World) (hok : Ok2 w) :
    Calls Tryz.prog 31 #[.string t] w fun e w' => ((∃ u A c A' d, Sm u ∧ can u = u ∧ textN u.1 u.2 = t.data.toList ∧ e = .returned (.tuple #[.agg #[.slice A u.1.length c, .slice A' u.2.length d], .int .i64 0]) ∧ OwnW w' w.heap.size A A' c d u) ∨
      e = .returned (.tuple #[.agg #[.slice none 0 0, .slice none 0 0], .int .i64 3])) ∧ Below w.heap.size w w' := by
  have h1 := splitS_len t.data.toList
  rw [len_of_byte] at h1
  have h2 : ∀ x ∈ splitS t.data.toList, x.length ≤ 300 := fun x hx => by
    have := splitS_mem t.data.toList hx
    rw [len_of_byte] at this
    omega
  refine (ParseWithout_any t w hok (by omega) (by omega) (fun x hx => Nat.le_trans (h2 x hx) (by omega))).mono ?_
  rintro e w' ⟨⟨u', A, c, A', d, k1, k2, rfl, o⟩ | ⟨k1, rfl⟩, hb⟩
  · have hp := parsed_of k1
    have hc := can_len u'
    have := hp.len
    refine ⟨.inl ⟨can u', A, c, A', d, ⟨?_, ?_, fun x hx => Nat.le_trans (h2 x (hp.nm x (can_sub hx))) (by omega), fun x hx => hp.ii x (can_subI hx)⟩, can_idem u', k2, rfl, o⟩, hb⟩
    · have := text_short u' (by rw [k2, len_of_byte]; exact ht)
      omega
    · have := text_short u' (by rw [k2, len_of_byte]; exact ht)
      omega
  · exact ⟨.inr rfl, hb⟩


set_option maxRecDepth 100000 in
set_option maxHeartbeats 4000000 in
theorem ScriptTexts_any (hK : Knows) (a : Wo) (A A' : Option Addr) (ca da : Nat) (t : ByteArray) (w : World) (hok : Ok2 w) (ha : WoAt w A A' a) (ia : ∀ x ∈ a.1, I64 x)
    (la : a.1.length ≤ 4611686018427387904) (la' : a.2.length ≤ 4611686018427387904) :
    Calls Tryz.prog 6 #[.agg #[.slice A a.1.length ca, .slice A' a.2.length da], .string t] w fun e w' => RetTrue w e w' := by
  have HF := Lib.hid (fun (W : World) (h : Below w.heap.size w W) => few_any A A' a.1.length a.2.length ca da a.1 a.2 W la la' (ha.later h).1 (ha.later h).2)
  have HK := Lib.hid (fun (W : World) (h : Below w.heap.size w W) => hK W (hok.later h).ok)
  have HOK := Lib.hid (fun (W : World) (h : Below w.heap.size w W) => hok.later h)
  have HRA := Lib.hid (fun (W : World) (h : Below w.heap.size w W) => ha.later h)
  have HIA := Lib.hid ia
  have b0 := Box2.new w 47 (.slice A a.1.length ca) (.slice A' a.2.length da)
  have hb0 := al_self w (.cells #[.slice A a.1.length ca, .slice A' a.2.length da] 47)
  obtain ⟨W0, hW0⟩ : ∃ W0, w.alloc (.cells #[.slice A a.1.length ca, .slice A' a.2.length da] 47) = W0 := ⟨_, rfl⟩
  rw [hW0] at b0 hb0
  have HW := Lib.hid hW0
  unfold RetTrue
  obtain ⟨Z, hZ⟩ : ∃ Z, w.heap.size = Z := ⟨_, rfl⟩
  rw [hZ] at b0 hb0 HF HK HOK HRA ⊢
  have HZ := Lib.hid hZ
  have hz0 : Z ≤ W0.heap.size := by have := b0.lt; omega
  clear hW0 hZ hK hok ha ia
  go_enter Tryz.func6, Tryz.ntmps6
  go_wp2_with fail
  rw [HW.out, HZ.out]
  refine (HK.out W0 hb0).mono ?_
  rintro e w1 ⟨rfl, hb1⟩
  have hB1 := hb0.trans (hb1.mono hz0)
  have x0 := (b0.later hb1).c0
  have x1 := (b0.later hb1).c1
  go_wp2_with fail
  refine (HF.out w1 hB1).mono ?_
  rintro e w2 ⟨rfl, hb2⟩
  replace hb2 := below_later hb1 hb2
  have hB2 := hb0.trans (hb2.mono hz0)
  clear x0 x1
  cases hf1 : fewB a.1 a.2 with
  | false =>
    go_wp2_with fail
    refine (HK.out w2 hB2).mono ?_
    rintro e w99 ⟨rfl, hb99⟩
    go_wp2_with fail
    go_ret
    exact ⟨rfl, hB2.trans (hb99.mono (by have := hB2.size; have := HZ.out; omega))⟩
  | true =>
    have SA := Lib.hid (Sm.of_few hf1 HIA.out)
    clear hf1
    by_cases h300 : (t.size : Int) > 300
    · go_wp2_with fail
      refine (HK.out w2 hB2).mono ?_
      rintro e w99 ⟨rfl, hb99⟩
      go_wp2_with fail
      go_ret
      exact ⟨rfl, hB2.trans (hb99.mono (by have := hB2.size; have := HZ.out; omega))⟩
    · have ht3 : t.size ≤ 300 := by omega
      have b2 := b0.later hb2
      have hz2 : Z ≤ w2.heap.size := by have := b2.lt; omega
      clear hb0 b0 hb1 hb2 hB1 hz0 HW HF HK
      go_wp2_with fail
      go_loopw [5] (TxR w2 a.1.length a.1) (fun i _ => a.1.length - (intOf i).toNat)
      case atStart => exact ⟨0, by omega, rfl, by simp, Below.refl _ _⟩
      case round =>
        obtain ⟨k, hk, rfl, hall, hbr⟩ := hrel
        have hBr := hB2.trans (hbr.mono hz2)
        have p0 := (b2.later hbr).c0
        by_cases hlt : k < a.1.length
        · obtain ⟨bx, ox, x, rfl, hbx, hx, cx⟩ := (HRA.out w2 hB2).1.int hlt
          have cxr := (hbr.cell (p := ⟨bx, ox + k, none⟩) hbx).trans cx
          have HX := Lib.hid hx
          have HAL := Lib.hid hall
          clear hx cx hall
          by_cases hge : x ≥ 1000000000
          · go_wp2_with fail
            go_ret
            exact ⟨rfl, hBr⟩
          · go_wp2_with fail
            go_roundw
            case rel => exact ⟨k + 1, by omega, by go_num, (fun y hy => by
              rw [List.take_add_one, HX.out] at hy
              rcases List.mem_append.1 hy with h | h
              · exact HAL.out y h
              · simp at h; omega), hbr⟩
            case measure => simp [intOf]; omega
        · obtain rfl : k = a.1.length := by omega
          rw [List.take_length] at hall
          obtain ⟨tb, htb⟩ : ∃ tb : ByteArray, tb.data.toList = textN (can a).1 (can a).2 := ⟨⟨(textN (can a).1 (can a).2).toArray⟩, rfl⟩
          have sa : Sm a := SA.out
          have n1 := sa.n1
          have n2 := sa.n2
          have HT1 := Lib.hid (fun (W : World) (h : Below Z w W) => by
            have q := Text_any A A' a.1.length ca a.2.length da a.1 a.2 W (HOK.out W h).ok sa.ii (by omega) (by omega) sa.nm (HRA.out W h).1 (HRA.out W h).2
            rw [show textN (canI a.1) (canL (canI a.1) a.2) = tb.data.toList from htb.symm, encN_eq] at q
            exact q)
          have HTL := Lib.hid (fun (W : World) (h : Below Z w W) => by
            have q := text_any a A A' ca da W (HOK.out W h).ok sa hall (HRA.out W h)
            rw [← htb, encN_eq] at q
            exact q)
          have HP1 := Lib.hid (fun (W : World) (h : Below Z w W) => Parse_text a sa hall tb htb W (HOK.out W h))
          have HP2 := Lib.hid (fun (W : World) (h : Below Z w W) => Parse_short t ht3 W (HOK.out W h))
          have HIC := Lib.hid (fun (W : World) (h : Below Z w W) (A3 A4 : Option Addr) (c3 c4 : Nat) (r : WoAt W A3 A4 (can a)) => isCanonical_any (can a) A3 A4 c3 c4 W (HOK.out W h).ok sa.can r (can_idem a))
          have HEQ := Lib.hid (fun (W : World) (h : Below Z w W) (A3 A4 : Option Addr) (c3 c4 : Nat) (r : WoAt W A3 A4 (can a)) => by
            have q := EqualW_any (can a) a A3 A4 A A' c3 c4 ca da W (HOK.out W h).ok sa.can sa r (HRA.out W h)
            rw [can_idem, decide_eq_true rfl] at q
            exact q)
          have HC2 := Lib.hid (fun (W : World) (h : Below Z w W) (u : Wo) (hs : Sm u) (hc : can u = u) (A3 A4 : Option Addr) (c3 c4 : Nat) (r : WoAt W A3 A4 u) => isCanonical_any u A3 A4 c3 c4 W (HOK.out W h).ok hs r hc)
          have HT2 := Lib.hid (fun (W : World) (h : Below Z w W) (u : Wo) (hs : Sm u) (hc : can u = u) (ht : textN u.1 u.2 = t.data.toList) (A3 A4 : Option Addr) (c3 c4 : Nat) (r : WoAt W A3 A4 u) => by
            have q := Text_any A3 A4 u.1.length c3 u.2.length c4 u.1 u.2 W (HOK.out W h).ok hs.ii (Nat.le_trans hs.n1 (by omega)) (Nat.le_trans hs.n2 (by omega)) hs.nm r.1 r.2
            rw [show textN (canI u.1) (canL (canI u.1) u.2) = t.data.toList by show textN (can u).1 (can u).2 = _; rw [hc]; exact ht, encN_eq] at q
            exact q)
          have q0 := (b2.later hbr).c1
          have b3 := b2.later hbr
          clear htb sa hall HOK SA n1 n2
          generalize can a = cn at *
          go_wp2_with fail
          refine (HT1.out wr hBr).mono ?_
          rintro e w3 ⟨rfl, hb3⟩
          have hzr : Z ≤ wr.heap.size := by have := b3.lt; omega
          have hB3 := hBr.trans (hb3.mono hzr)
          go_wp2_with fail
          refine (HP1.out w3 hB3).mono ?_
          rintro e w4 ⟨A3, c3, A4, c4, rfl, o4, hb4⟩
          have hz3 : Z ≤ w3.heap.size := Nat.le_trans hzr hb3.size
          have hB4 := hB3.trans (hb4.mono hz3)
          have hz4 : Z ≤ w4.heap.size := Nat.le_trans hz3 hb4.size
          have b5 := ((b3.later hb3).later hb4).alloc (.cells #[.slice A3 cn.1.length c3, .slice A4 cn.2.length c4] 47)
          have bX := Box2.new w4 47 (.slice A3 cn.1.length c3) (.slice A4 cn.2.length c4)
          have r5 := (o4.alloc (.cells #[.slice A3 cn.1.length c3, .slice A4 cn.2.length c4] 47)).at
          have hB5 := hB4.alloc hz4 (.cells #[.slice A3 cn.1.length c3, .slice A4 cn.2.length c4] 47)
          have y0 := b5.c0
          have y1 := b5.c1
          have lz4 : Z < w4.heap.size := by have := ((b3.later hb3).later hb4).lt; omega
          clear p0 q0
          go_wp2_with fail
          obtain ⟨W5, hW5⟩ : ∃ W5, w4.alloc (.cells #[.slice A3 cn.1.length c3, .slice A4 cn.2.length c4] 47) = W5 := ⟨_, rfl⟩
          obtain ⟨X, hX⟩ : ∃ X, w4.heap.size = X := ⟨_, rfl⟩
          rw [hW5] at b5 bX r5 hB5 ⊢
          rw [hX] at bX ⊢
          have hz5 : Z ≤ W5.heap.size := by have := b5.lt; omega
          clear y0 y1 hW5 hX b3 o4
          refine (HTL.out W5 hB5).mono ?_
          rintro e w6 ⟨rfl, hb6⟩
          have hB6 := hB5.trans (hb6.mono hz5)
          have y0 := (bX.later hb6).c0
          have y1 := (bX.later hb6).c1
          have hz6 : Z ≤ w6.heap.size := Nat.le_trans hz5 hb6.size
          go_wp2_with fail
          refine (HIC.out w6 hB6 A3 A4 c3 c4 (r5.later hb6)).mono ?_
          rintro e w7 ⟨rfl, hb7⟩
          have hb57 := below_later hb6 hb7
          have hB7 := hB5.trans (hb57.mono hz5)
          have z0 := (bX.later hb57).c0
          have z1 := (bX.later hb57).c1
          have z2 := (b5.later hb57).c0
          have z3 := (b5.later hb57).c1
          clear y0 y1
          go_wp2_with fail
          refine (HEQ.out w7 hB7 A3 A4 c3 c4 (r5.later hb57)).mono ?_
          rintro e w8 ⟨rfl, hb8⟩
          have hb58 := below_later hb57 hb8
          have hB8 := hB5.trans (hb58.mono hz5)
          have hz8 : Z ≤ w8.heap.size := Nat.le_trans hz5 hb58.size
          clear z0 z1 z2 z3
          go_wp2_with fail
          refine (HP2.out w8 hB8).mono ?_
          rintro e w9 ⟨⟨u, A5, c5, A6, c6, hs, hc, htx, rfl, o9⟩ | rfl, hb9⟩
          · have hB9 := hB8.trans (hb9.mono hz8)
            have hz9 : Z ≤ w9.heap.size := Nat.le_trans hz8 hb9.size
            have bY := Box2.new w9 47 (.slice A5 u.1.length c5) (.slice A6 u.2.length c6)
            have rY := (o9.alloc (.cells #[.slice A5 u.1.length c5, .slice A6 u.2.length c6] 47)).at
            have hBY := hB9.alloc hz9 (.cells #[.slice A5 u.1.length c5, .slice A6 u.2.length c6] 47)
            have v0 := bY.c0
            have v1 := bY.c1
            go_wp2_with fail
            refine (HC2.out _ hBY u hs hc A5 A6 c5 c6 rY).mono ?_
            rintro e w10 ⟨rfl, hb10⟩
            have hzY : Z ≤ (w9.alloc (.cells #[.slice A5 u.1.length c5, .slice A6 u.2.length c6] 47)).heap.size := by simp; omega
            have hB10 := hBY.trans (hb10.mono hzY)
            have v2 := (bY.later hb10).c0
            have v3 := (bY.later hb10).c1
            go_wp2_with fail
            refine (HT2.out w10 hB10 u hs hc htx A5 A6 c5 c6 (rY.later hb10)).mono ?_
            rintro e w11 ⟨rfl, hb11⟩
            go_wp2_with fail
            go_ret
            exact ⟨by simp, hB10.trans (hb11.mono (Nat.le_trans hzY hb10.size))⟩
          · have hB9 := hB8.trans (hb9.mono hz8)
            have hz9 : Z ≤ w9.heap.size := Nat.le_trans hz8 hb9.size
            have bY := Box2.new w9 47 (.slice none 0 0) (.slice none 0 0)
            have hBY := hB9.alloc hz9 (.cells #[.slice none 0 0, .slice none 0 0] 47)
            have v0 := bY.c0
            have v1 := bY.c1
            go_wp2_with fail
            go_ret
            exact ⟨by simp, hBY⟩

end Go.Proofs.YtnibcffcbnjllaaGreatDoor
