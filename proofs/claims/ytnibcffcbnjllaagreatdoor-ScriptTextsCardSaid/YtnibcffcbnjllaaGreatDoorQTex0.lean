/- ScriptTexts: plain facts on texts: words between spaces, and what they spell. -/
import Derived.Lib.AtoiAllCases
import Derived.Test.YtnibcffcbnjllaaGreatDoorQTak0
import Derived.Test.YtnibcffcbnjllaaGreatDoorQTake
import Derived.Test.YtnibcffcbnjllaaGreatDoorQSpl
namespace Go.Proofs.YtnibcffcbnjllaaGreatDoor
open Go.RowKit Go.Sort

theorem parseU_digits : ∀ (l : Nm) (acc k : Nat), (∀ c ∈ l, isD c = true) → acc < 10 ^ k → l.length + k ≤ 18 →
    Lib.parseUint10 acc l = .ok (l.foldl (fun v c => v * 10 + (c.toNat - 48)) acc)
  | [], acc, k, _, _, _ => rfl
  | c :: r, acc, k, h, ha, hl => by
    have hc := isD_bounds (h c (by simp))
    have hk : k ≤ 17 := by simp at hl; omega
    have h17 : (10 : Nat) ^ k ≤ 10 ^ 17 := Nat.pow_le_pow_right (by omega) hk
    have hb : acc < 100000000000000000 := Nat.lt_of_lt_of_le ha h17
    rw [Lib.parseUint10, if_pos hc, if_neg (by omega), if_neg (by omega), List.foldl_cons]
    exact parseU_digits r _ (k + 1) (fun x hx => h x (by simp [hx])) (by rw [Nat.pow_succ]; omega) (by simp at hl; omega)
theorem atoi_itoa {n : Int} (h1 : 1 ≤ n) (h2 : n < 1000000000) : Lib.atoiAll (Lib.itoa n) = .ok n := by
  have e : Lib.itoa n = Lib.decDigits n.toNat := by unfold Lib.itoa; rw [if_neg (by omega)]
  rw [e]
  obtain ⟨a, b, c, d⟩ := decDigits_good n.toNat n.toNat (Nat.le_refl _)
  have hl : (Lib.decDigits n.toNat).length ≤ 9 := by
    rw [Lib.decDigits_length]
    exact nDigits_le 8 _ (by omega)
  cases hd : Lib.decDigits n.toNat with
  | nil => exact absurd hd c
  | cons x r =>
    rw [hd] at a b hl
    have hx := isD_bounds (a x (by simp))
    rw [Lib.atoiAll_plain x r (by omega) (by omega)]
    have hm : Lib.parseMag (x :: r) = .ok n.toNat := by
      unfold Lib.parseMag
      rw [if_neg (by simp), parseU_digits (x :: r) 0 0 a (by simp) (by omega)]
      have : (x :: r).foldl (fun v c => v * 10 + (c.toNat - 48)) 0 = n.toNat := b
      rw [this]
    rw [hm]
    show (if 9223372036854775808 ≤ n.toNat then Lib.NumEnd.range else Lib.NumEnd.ok ((n.toNat : Nat) : Int)) = _
    rw [if_neg (by omega)]
    congr 1
    omega

/-- What a word adds: behind '#' a number, else a name. -/
def parseItem (w : Wo) (x : Nm) : Option Wo :=
  if Lib.hasPrefix x [35] then (match Lib.atoiAll (x.drop 1) with | .ok v => some (w.1 ++ [v], w.2) | _ => none) else some (w.1, w.2 ++ [x])
def parseItems (w : Wo) (l : List Nm) : Option Wo := l.foldl (fun o x => o.bind fun u => parseItem u x) (some w)
theorem parseItems_snoc (w : Wo) (l : List Nm) (x : Nm) : parseItems w (l ++ [x]) = (parseItems w l).bind fun u => parseItem u x := by simp [parseItems]
theorem parse_none : ∀ l : List Nm, l.foldl (fun (o : Option Wo) x => o.bind fun u => parseItem u x) none = none
  | [] => rfl
  | _ :: l => parse_none l
theorem parseItems_prefix {w : Wo} {l m : List Nm} (h : l <+: m) (hl : parseItems w l = none) : parseItems w m = none := by
  obtain ⟨r, rfl⟩ := h
  unfold parseItems at *
  rw [List.foldl_append, hl]
  exact parse_none r
theorem parse_hash {w : Wo} {n : Int} (h1 : 1 ≤ n) (h2 : n < 1000000000) : parseItem w (hashN n) = some (w.1 ++ [n], w.2) := by
  unfold parseItem hashN
  rw [if_pos (by simp [Lib.hasPrefix])]
  simp [atoi_itoa h1 h2]
theorem parse_hashes : ∀ (l : List Int) (w : Wo), (∀ n ∈ l, 1 ≤ n ∧ n < 1000000000) → parseItems w (l.map hashN) = some (w.1 ++ l, w.2)
  | [], w, _ => by simp [parseItems]
  | n :: l, w, h => by
    have := parse_hashes l (w.1 ++ [n], w.2) (fun x hx => h x (by simp [hx]))
    unfold parseItems at *
    rw [List.map_cons, List.foldl_cons, Option.bind_some, parse_hash (h n (by simp)).1 (h n (by simp)).2, this]
    simp
theorem parse_names : ∀ (l : List Nm) (w : Wo), (∀ x ∈ l, Lib.hasPrefix x [35] = false) → parseItems w l = some (w.1, w.2 ++ l)
  | [], w, _ => by simp [parseItems]
  | x :: l, w, h => by
    have := parse_names l (w.1, w.2 ++ [x]) (fun y hy => h y (by simp [hy]))
    unfold parseItems at *
    rw [List.foldl_cons, Option.bind_some, show parseItem w x = some (w.1, w.2 ++ [x]) by unfold parseItem; rw [if_neg (by rw [h x (by simp)]; simp)], this]
    simp
theorem parseItems_append (w : Wo) (l m : List Nm) {u : Wo} (h : parseItems w l = some u) : parseItems w (l ++ m) = parseItems u m := by
  unfold parseItems at *
  rw [List.foldl_append, h]
theorem dots_bytes : ∀ (ds : List Nm), (∀ d ∈ ds, Good d) → ∀ c ∈ dots ds, isD c = true ∨ c = 46
  | [], _, c, h => by simp [dots] at h
  | [d], hg, c, h => .inl ((hg d (by simp)).2.1 c h)
  | d :: e :: r, hg, c, h => by
    rw [dots] at h
    rcases List.mem_append.1 h with h | h
    · exact .inl ((hg d (by simp)).2.1 c h)
    · rcases List.mem_cons.1 h with h | h
      · exact .inr h
      · exact dots_bytes (e :: r) (fun x hx => hg x (by simp [hx])) c h
theorem okN_bytes {x : Nm} (h : okN x = true) : ∀ c ∈ x, isD c = true ∨ c = 46 := by
  obtain ⟨ds, _, hg, e, _⟩ := valid_dots (okN_iff.1 h).2 (okN_iff.1 h).1
  rw [e]
  exact dots_bytes ds hg
theorem okN_no_sp {x : Nm} (h : okN x = true) : (32 : UInt8) ∉ x := fun hc => by
  rcases okN_bytes h _ hc with h | h
  · exact absurd h (by decide)
  · exact absurd h (by decide)
theorem okN_no_hash {x : Nm} (h : okN x = true) : Lib.hasPrefix x [35] = false := by
  cases x with
  | nil => rfl
  | cons c r =>
    rcases okN_bytes h c (by simp) with h | h
    · have := isD_bounds h
      simp only [Lib.hasPrefix, List.isPrefixOf, Bool.and_true, beq_eq_false_iff_ne, ne_eq]
      rintro rfl
      simp at this
    · rw [h]; rfl
theorem itoa_no_sp {n : Int} (h1 : 1 ≤ n) : (32 : UInt8) ∉ hashN n := by
  have e : Lib.itoa n = Lib.decDigits n.toNat := by unfold Lib.itoa; rw [if_neg (by omega)]
  obtain ⟨a, _⟩ := decDigits_good n.toNat n.toNat (Nat.le_refl _)
  intro hc
  unfold hashN at hc
  rw [e] at hc
  rcases List.mem_cons.1 hc with h | h
  · exact absurd h (by decide)
  · exact absurd (a _ h) (by decide)
theorem can_mem1 {a : Wo} {x : Int} (h : x ∈ (can a).1) : 1 ≤ x := (mem_canI.1 h).2
theorem can_mem2 {a : Wo} {x : Nm} (h : x ∈ (can a).2) : okN x = true := (canL_mem.1 h).2.1
theorem text_items (w : Wo) : ∀ x ∈ (can w).1.map hashN ++ (can w).2, (32 : UInt8) ∉ x := by
  intro x hx
  rcases List.mem_append.1 hx with h | h
  · obtain ⟨n, hn, rfl⟩ := List.mem_map.1 h
    exact itoa_no_sp (can_mem1 hn)
  · exact okN_no_sp (can_mem2 h)
theorem split_text (w : Wo) : splitS (textN (can w).1 (can w).2) = (can w).1.map hashN ++ (can w).2 ∨ (can w = ([], []) ∧ splitS (textN (can w).1 (can w).2) = [[]]) := by
  by_cases h : (can w).1.map hashN ++ (can w).2 = []
  · right
    have h1 : (can w).1 = [] := by simpa using (List.append_eq_nil_iff.1 h).1
    have h2 := (List.append_eq_nil_iff.1 h).2
    refine ⟨Prod.ext h1 h2, ?_⟩
    rw [h1, h2]
    rfl
  · exact .inl (splitS_join _ h (text_items w))
/-- The text of what is taken back spells its canonical form. -/
theorem parse_text (w : Wo) (h : ∀ x ∈ w.1, x < 1000000000) : ∃ u, parseItems ([], []) (splitS (textN (can w).1 (can w).2)) = some u ∧ can u = can w := by
  rcases split_text w with e | ⟨e, e2⟩
  · refine ⟨can w, ?_, can_idem w⟩
    rw [e, parseItems_append _ _ _ (parse_hashes _ _ fun n hn => ⟨can_mem1 hn, h n (can_subI hn)⟩), parse_names _ _ fun x hx => okN_no_hash (can_mem2 hx)]
    simp
  · refine ⟨([], [[]]), ?_, ?_⟩
    · rw [e2]; rfl
    · rw [e]
      refine Prod.ext (by show canI [] = []; exact congrArg Prod.fst can_nil) ?_
      show canL (canI []) [[]] = []
      refine List.eq_nil_iff_forall_not_mem.2 fun x hx => ?_
      have := canL_mem.1 hx
      rw [List.mem_singleton.1 this.1] at this
      exact absurd this.2.1 (by decide)
theorem text_len (w : Wo) (h : ∀ x ∈ w.1, I64 x) (hn : w.1.length ≤ 300 ∧ w.2.length ≤ 300) (hl : ∀ x ∈ w.2, x.length ≤ 1000) :
    (splitS (textN (can w).1 (can w).2)).length ≤ 1000 ∧ ∀ x ∈ splitS (textN (can w).1 (can w).2), x.length ≤ 1000 := by
  have hc := can_len w
  rcases split_text w with e | ⟨_, e⟩
  · rw [e]
    refine ⟨by simp; omega, fun x hx => ?_⟩
    rcases List.mem_append.1 hx with h' | h'
    · obtain ⟨n, hn, rfl⟩ := List.mem_map.1 h'
      exact Nat.le_trans (hashN_len n (h n (can_subI hn))) (by omega)
    · exact hl x (can_sub h')
  · rw [e]
    exact ⟨by simp, fun x hx => by rw [List.mem_singleton.1 hx]; simp⟩

/-- What was parsed: no more items than words, numbers of 64 bits, names among the words. -/
structure Parsed (l : List Nm) (u : Wo) : Prop where
  len : u.1.length + u.2.length ≤ l.length
  ii : ∀ x ∈ u.1, I64 x
  nm : ∀ x ∈ u.2, x ∈ l
theorem parsed_step {l : List Nm} {u v : Wo} {x : Nm} (h : Parsed l u) (hv : parseItem u x = some v) : Parsed (l ++ [x]) v := by
  unfold parseItem at hv
  split at hv
  · split at hv
    · next n hn =>
      injection hv with hv
      subst hv
      refine ⟨by have := h.len; simp; omega, fun y hy => ?_, fun y hy => List.mem_append_left _ (h.nm y hy)⟩
      rcases List.mem_append.1 hy with hy | hy
      · exact h.ii y hy
      · rw [List.mem_singleton.1 hy]; exact Lib.atoiAll_bounds hn
    · cases hv
  · injection hv with hv
    subst hv
    refine ⟨by have := h.len; simp; omega, h.ii, fun y hy => ?_⟩
    rcases List.mem_append.1 hy with hy | hy
    · exact List.mem_append_left _ (h.nm y hy)
    · exact List.mem_append_right _ hy
theorem parsed_fold : ∀ (l p : List Nm) (u v : Wo), Parsed p u → parseItems u l = some v → Parsed (p ++ l) v
  | [], p, u, v, hp, h => by
    injection h with h
    subst h
    simpa using hp
  | x :: l, p, u, v, hp, h => by
    have e : parseItems u (x :: l) = l.foldl (fun o x => o.bind fun u => parseItem u x) (parseItem u x) := rfl
    rw [e] at h
    cases hx : parseItem u x with
    | none => rw [hx, parse_none] at h; cases h
    | some u' =>
      rw [hx] at h
      have := parsed_fold l (p ++ [x]) u' v (parsed_step hp hx) h
      simpa using this
theorem parsed_of {l : List Nm} {u : Wo} (h : parseItems ([], []) l = some u) : Parsed l u := by
  have := parsed_fold l [] ([], []) u ⟨by simp, by simp, by simp⟩ h
  simpa using this

end Go.Proofs.YtnibcffcbnjllaaGreatDoor
