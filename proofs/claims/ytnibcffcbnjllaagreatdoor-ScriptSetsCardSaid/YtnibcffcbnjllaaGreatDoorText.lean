/- (Without).Text. -/
import Derived.Test.YtnibcffcbnjllaaGreatDoorTake
namespace Go.Proofs.YtnibcffcbnjllaaGreatDoor
open Go.RowKit Go.Sort

theorem join_len (sep : Nm) : ∀ (ts : List Nm) (k : Nat), (∀ x ∈ ts, x.length ≤ k) → (Lib.join ts sep).length ≤ ts.length * (k + sep.length)
  | [], k, _ => by simp [Lib.join]
  | [x], k, h => by
    have := h x (by simp)
    simp [Lib.join]
    omega
  | x :: y :: r, k, h => by
    have h1 := h x (by simp)
    have h2 := join_len sep (y :: r) k (fun z hz => h z (by simp [hz]))
    have e : Lib.join (x :: y :: r) sep = x ++ sep ++ Lib.join (y :: r) sep := by simp [Lib.join]
    rw [e, List.length_append, List.length_append, List.length_cons, Nat.succ_mul]
    omega

theorem Join_own (v : Value) (base : Nat) (ts : List Nm) (sep : ByteArray) (w : World) (hn : ts.length ≤ 100000) (hl : ∀ x ∈ ts, x.length ≤ 100000) (hsep : sep.size ≤ 100) (ho : w.ownsRow base 9 1 v ts.length (ts.map encN)) :
    Calls Tryz.prog 58 #[v, .string sep] w fun e w' => e = .returned (encN (Lib.join ts sep.data.toList)) ∧ Below w.heap.size w w' := by
  obtain ⟨A, c, rfl, hr⟩ := own_form ho
  rcases Nat.eq_zero_or_pos ts.length with h0 | hpos
  · obtain rfl : ts = [] := List.length_eq_zero_iff.1 h0
    refine (Tryz.strings_Join_none A c sep w).mono ?_
    rintro e w' ⟨rfl, rfl⟩
    exact ⟨rfl, Below.refl _ _⟩
  · rcases own_shape ho with ⟨_, h0, _⟩ | ⟨g, rfl, hcap, hg⟩
    · omega
    · have hm : (ts.map fun x => (⟨x.toArray⟩ : ByteArray)).map (·.data.toList) = ts := by
        rw [List.map_map]; simp [Function.comp_def]
      have hjl := join_len sep.data.toList ts 100000 hl
      have hsz := size_nm sep
      have hJ := Tryz.strings_Join g 0 c (ts.map fun x => ⟨x.toArray⟩) sep w (by
        intro j x hx
        rw [List.getElem?_map] at hx
        obtain ⟨y, hy, rfl⟩ := Option.map_eq_some_iff.1 hx
        obtain ⟨b, off, e, _, hc⟩ := hr.2 hpos
        injection e with e
        injection e with e1 e2
        subst e1 e2
        exact hc j (encN y) (by rw [List.getElem?_map, hy]; rfl)) hg (by simp; omega) (by simpa using hcap) (by
        rw [hm]
        have h2 : ts.length * (100000 + sep.data.toList.length) ≤ 100000 * (100000 + 100) := Nat.mul_le_mul hn (by omega)
        omega)
      rw [hm, List.length_map] at hJ
      exact hJ

/-- The words of a text. -/
def hashN (n : Int) : Nm := 35 :: Lib.itoa n
def textN (c : List Int) (l : List Nm) : Nm := Lib.join (c.map hashN ++ l) [32]
theorem hash_bytes (l : Nm) : Value.string ((⟨#[35]⟩ : ByteArray) ++ ⟨l.toArray⟩) = encN (35 :: l) := by
  unfold encN
  congr 1
theorem hashN_len (n : Int) (h : I64 n) : (hashN n).length ≤ 22 := by
  have := Lib.itoa_length_le n h.1 h.2
  simp [hashN]
  omega

def TextR1 (W1 : World) (n : Nat) (l : List Int) (v i : Value) (wr : World) : Prop :=
  ∃ k, k ≤ n ∧ i = .int .i64 (k : Int) ∧ wr.ownsRow W1.heap.size 9 1 v k ((l.take k).map fun x => encN (hashN x)) ∧ Below W1.heap.size W1 wr
def TextR2 (W1 : World) (p : List Nm) (n : Nat) (l : List Nm) (v i : Value) (wr : World) : Prop :=
  ∃ k, k ≤ n ∧ i = .int .i64 (k : Int) ∧ wr.ownsRow W1.heap.size 9 1 v (p.length + k) ((p ++ l.take k).map encN) ∧ Below W1.heap.size W1 wr

set_option maxRecDepth 100000 in
set_option maxHeartbeats 4000000 in
theorem Text_any (A A' : Option Addr) (n c m d : Nat) (xs : List Int) (ns : List Nm) (w : World) (hok : Ok w) (hxs : ∀ x ∈ xs, I64 x) (hn : n ≤ 1000) (hm : m ≤ 1000) (hns : ∀ x ∈ ns, x.length ≤ 1000) (hr : Row w w.heap.size 1 A n (xs.map encI)) (hr2 : Row w w.heap.size 1 A' m (ns.map encN)) :
    Calls Tryz.prog 30 #[.agg #[.slice A n c, .slice A' m d]] w fun e w' => e = .returned (encN (textN (canI xs) (canL (canI xs) ns))) ∧ Below w.heap.size w w' := by
  obtain ⟨i0, hi, hz0, hz1, hz2⟩ := info_parts Tryz.infoStr
  have hcs : ∀ x ∈ canI xs, I64 x := fun x hx => hxs x (((canI_spec xs).2 x).1 hx).1
  have hlen : xs.length = n := by simpa using hr.1
  have hlen2 : ns.length = m := by simpa using hr2.1
  have hl1 : (canI xs).length ≤ 1000 := by
    have h1 := sortI_len (xs.filter fun x => decide (1 ≤ x))
    have h2 := List.length_filter_le (fun x => decide (1 ≤ x)) xs
    unfold canI
    omega
  have hl2 : (canL (canI xs) ns).length ≤ 1000 := by
    have h1 := List.length_filter_le (fun x => !decide (rootOf x ∈ rootsN (canI xs))) (topsN (ns.filter okN))
    have h2 := topsN_len (ns.filter okN)
    have h3 := List.length_filter_le okN ns
    unfold canL
    omega
  have hl3 : ∀ x ∈ canL (canI xs) ns, x.length ≤ 1000 := by
    intro x hx
    have h1 := (List.mem_filter.1 hx).1
    have h2 := ((topsN_spec (l := ns.filter okN) (fun y hy => (okN_iff.1 (List.mem_filter.1 hy).2).2)).2 x).1 h1
    exact hns x (List.mem_filter.1 h2.1).1
  have HC := Lib.hid (fun o => canonical_any A A' n c m d xs ns (w.alloc o) (hok.later ((Below.refl _ w).alloc (Nat.le_refl _) o)) hn hm hns (hr.later ((Below.refl _ w).alloc (Nat.le_refl _) o)) (hr2.later ((Below.refl _ w).alloc (Nat.le_refl _) o)))
  generalize canL (canI xs) ns = cl at HC hl2 hl3 ⊢
  generalize canI xs = cx at HC hl1 hcs ⊢
  have HOK := Lib.hid hok
  have HCS := Lib.hid hcs
  have HL3 := Lib.hid hl3
  clear hok hcs hl3 hr hr2 hxs hns
  go_enter Tryz.func30, Tryz.ntmps30
  go_wp2_with fail
  refine (HC.out _).mono ?_
  rintro e w1 ⟨v1, v2, rfl, ho1, ho2, hb1⟩
  obtain ⟨A1, c1, rfl, hr1⟩ := own_form ho1
  obtain ⟨A2, c2, rfl, hr2⟩ := own_form ho2
  have bx := Box2.new w1 47 (.slice A1 cx.length c1) (.slice A2 cl.length c2)
  replace hr1 := hr1.alloc (.cells #[.slice A1 cx.length c1, .slice A2 cl.length c2] 47)
  replace hr2 := hr2.alloc (.cells #[.slice A1 cx.length c1, .slice A2 cl.length c2] 47)
  have hbW : Below w.heap.size w (w1.alloc (.cells #[.slice A1 cx.length c1, .slice A2 cl.length c2] 47)) :=
    (((Below.refl _ w).alloc (Nat.le_refl _) _).trans (hb1.mono (by simp))).alloc (by have := hb1.size; simp at this; omega) _
  obtain ⟨Z, hZ⟩ : ∃ Z, w1.heap.size = Z := ⟨_, rfl⟩
  rw [hZ] at bx
  obtain ⟨W1, hW1⟩ : ∃ W1, w1.alloc (.cells #[.slice A1 cx.length c1, .slice A2 cl.length c2] 47) = W1 := ⟨_, rfl⟩
  rw [hW1] at bx hr1 hr2 hbW
  have HW := Lib.hid hW1
  have HZ := Lib.hid hZ
  clear hW1 hZ ho1 ho2 hb1 HC
  go_wp2_with fail
  rw [HW.out, HZ.out]
  clear HW HZ
  go_loopw [4, 14] (TextR1 W1 cx.length cx) (fun _ i _ => cx.length - (intOf i).toNat)
  case atStart => exact ⟨0, by omega, rfl, World.ownsRow_nil _ _ _ _, Below.refl _ _⟩
  case round =>
    obtain ⟨k, hk, rfl, hown, hbr⟩ := hrel
    have hsz := hbr.size
    have hb2 := hbW.trans (hbr.mono hbW.size)
    by_cases hlt : k < cx.length
    · obtain ⟨b1, o1, u, rfl, hb1', hx0, cx0⟩ := hr1.at1 hlt
      rw [List.getElem?_map] at hx0
      obtain ⟨x, hx, rfl⟩ := Option.map_eq_some_iff.1 hx0
      clear hx0
      have cxr := (hbr.cell (p := ⟨b1, o1 + k, none⟩) hb1').trans cx0
      unfold encI at cxr
      have hx64 := HCS.out x (List.mem_of_getElem? hx)
      have hI := Tryz.strconv_Itoa x hx64.1 hx64.2 wr (HOK.out.later hb2).pow10
      have hil : (Lib.itoa x).length ≤ 21 := Lib.itoa_length_le x hx64.1 hx64.2
      have hmap : (cx.take (k + 1)).map (fun x => encN (hashN x)) = (cx.take k).map (fun x => encN (hashN x)) ++ [encN (hashN x)] := by rw [List.take_add_one, List.map_append, hx]; rfl
      have HM := Lib.hid hmap
      have HI := Lib.hid hI
      clear hmap hI hx cx0 hx64
      go_wp2_with fail
      refine HI.out.mono ?_
      rintro e w2 ⟨rfl, q, os, rfl⟩
      have hbi : Below wr.heap.size wr (grow (wr.drewN q) os) := below_grow q os
      generalize grow (wr.drewN q) os = W2 at hbi ⊢
      have hown2 := own_later hown hbi
      have hb4 := hbr.trans (hbi.mono hsz)
      have hsz4 := hb4.size
      go_wp2_with (at_builtin; rw [hash_bytes]; refine wpList_append_own _ rfl _ _ 82 rfl W1.heap.size 9 i0 (.string ⟨#[]⟩) 1 16 Tryz.underlying82 hi hz0 hz1 hz2 rfl (by decide) _ _ _ rfl (hown2.alloc _) ⟨W2.heap.size, 0, none⟩ 1 1 [encN (hashN x)] rfl rfl (cell_one_new _ _ _) (by simp [Value.oneCell', encN]) (by unfold maxLen; omega) (by omega) (by simp; omega) ?_; intro v' w3 hown' hgrow _; have R := Lib.hid (own_step hown2 hb4 hgrow); clear hgrow)
      go_roundw
      case rel => exact ⟨k + 1, by omega, by go_num, by rw [HM.out]; exact hown', R.out⟩
      case measure => simp [intOf]; omega
    · obtain rfl : k = cx.length := by omega
      rw [List.take_length] at hown
      have hpl : (cx.map hashN).length = cx.length := by simp
      have hpm : (cx.map fun x => encN (hashN x)) = (cx.map hashN).map encN := by rw [List.map_map]; rfl
      have hpv : ∀ x ∈ cx.map hashN, x.length ≤ 100000 := by
        intro x hx
        obtain ⟨y, hy, rfl⟩ := List.mem_map.1 hx
        have := hashN_len y (HCS.out y hy)
        omega
      have htx : textN cx cl = Lib.join (cx.map hashN ++ cl) [32] := rfl
      rw [hpm, ← hpl] at hown
      generalize cx.map hashN = p at hown hpl hpv htx
      have HPL := Lib.hid hpl
      have HPV := Lib.hid hpv
      have HTX := Lib.hid htx
      have bx2 := bx.later hbr
      have z1 := bx2.c1
      clear hpl hpm hpv htx hr1 hlt hk
      go_wp2_with fail
      go_loopw [4, 28] (TextR2 W1 p cl.length cl) (fun _ i _ => cl.length - (intOf i).toNat)
      case atStart => exact ⟨0, by omega, rfl, by simpa using hown, hbr⟩
      case round =>
        obtain ⟨k2, hk2, rfl, hown3, hbr3⟩ := hrel
        have hsz3 := hbr3.size
        have hb3 := hbW.trans (hbr3.mono hbW.size)
        have hpl3 : p.length ≤ 1000 := by rw [HPL.out]; exact hl1
        by_cases hlt2 : k2 < cl.length
        · obtain ⟨b1, o1, u, rfl, hb1', hx0, cx0⟩ := hr2.at1 hlt2
          rw [List.getElem?_map] at hx0
          obtain ⟨x, hx, rfl⟩ := Option.map_eq_some_iff.1 hx0
          clear hx0
          have cxr := (hbr3.cell (p := ⟨b1, o1 + k2, none⟩) hb1').trans cx0
          have hmap : (p ++ cl.take (k2 + 1)).map encN = (p ++ cl.take k2).map encN ++ [encN x] := by rw [List.take_add_one, hx]; simp
          have HM := Lib.hid hmap
          unfold encN at cxr
          clear hmap hx cx0
          go_wp2_with (at_builtin; refine wpList_append_own _ rfl _ _ 82 rfl W1.heap.size 9 i0 (.string ⟨#[]⟩) 1 16 Tryz.underlying82 hi hz0 hz1 hz2 rfl (by decide) _ _ _ rfl (hown3.alloc _) ⟨wr.heap.size, 0, none⟩ 1 1 [.string ⟨x.toArray⟩] rfl rfl (cell_one_new _ _ _) (by simp [Value.oneCell']) (by unfold maxLen; omega) (by omega) (by simp; omega) ?_; intro v' w3 hown' hgrow _; have R := Lib.hid (own_step hown3 hbr3 hgrow); clear hgrow)
          go_roundw
          case rel => exact ⟨k2 + 1, by omega, by go_num, by rw [HM.out]; exact hown', R.out⟩
          case measure => simp [intOf]; omega
        · obtain rfl : k2 = cl.length := by omega
          rw [List.take_length] at hown3
          obtain ⟨A5, c5, rfl, _⟩ := own_form hown3
          have hJ := Join_own (.slice A5 (p.length + cl.length) c5) _ (p ++ cl) ⟨#[32]⟩ wr (by simp; omega) (by
            intro x hx
            rcases List.mem_append.1 hx with h | h
            · exact HPV.out x h
            · have := HL3.out x h; omega) (by decide) (by rw [List.length_append]; exact hown3)
          rw [show Lib.join (p ++ cl) (⟨#[32]⟩ : ByteArray).data.toList = textN cx cl from HTX.out.symm] at hJ
          have HJ := Lib.hid hJ
          clear hJ
          unfold encN at HJ
          go_wp2_with fail
          refine HJ.out.mono ?_
          rintro e w9 ⟨rfl, hb9⟩
          go_wp2_with fail
          go_ret
          exact ⟨rfl, hb3.trans (hb9.mono hb3.size)⟩

end Go.Proofs.YtnibcffcbnjllaaGreatDoor
