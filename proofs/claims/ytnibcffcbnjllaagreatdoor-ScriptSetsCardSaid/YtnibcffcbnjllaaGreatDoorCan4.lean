/- canonical of the law. -/
import Derived.Test.YtnibcffcbnjllaaGreatDoorCan3
import Derived.Test.YtnibcffcbnjllaaGreatDoorScr2
import Derived.Laws.AppendOwnNone
namespace Go.Proofs.YtnibcffcbnjllaaGreatDoor
open Go.RowKit Go.Sort Go.Maps

/-- A number put into a row in order. -/
def lowI (x : Int) (l : List Int) : Nat := (l.takeWhile fun y => decide (y < x)).length
def stepI (l : List Int) (x : Int) : List Int := if x < 1 ∨ l[lowI x l]? = some x then l else l.take (lowI x l) ++ [x] ++ l.drop (lowI x l)
theorem lowI_le (x : Int) (l : List Int) : lowI x l ≤ l.length := (List.takeWhile_prefix _).length_le
theorem stepI_len (l : List Int) (x : Int) : (stepI l x).length ≤ l.length + 1 := by
  unfold stepI
  split
  · omega
  · have := lowI_le x l
    simp
    omega
theorem stepI_foldl_len : ∀ (l ts : List Int), (l.foldl stepI ts).length ≤ ts.length + l.length
  | [], ts => by simp
  | x :: l, ts => by
    rw [List.foldl_cons, List.length_cons]
    have := stepI_foldl_len l (stepI ts x)
    have := stepI_len ts x
    omega
theorem low_of {x : Int} {l : List Int} {a : Nat} (h : ∀ j y, j < a → l[j]? = some y → y < x) (ha : a ≤ l.length) (hx : ∀ y, l[a]? = some y → ¬ y < x) : lowI x l = a := by
  unfold lowI
  induction l generalizing a with
  | nil => simp at ha; subst ha; rfl
  | cons y l ih =>
    cases a with
    | zero =>
      have := hx y (by simp)
      rw [List.takeWhile_cons_of_neg (by simpa using this)]
      rfl
    | succ a =>
      have := h 0 y (by omega) (by simp)
      rw [List.takeWhile_cons_of_pos (by simpa using this), List.length_cons]
      rw [ih (a := a) (fun j z hj hz => h (j + 1) z (by omega) (by simpa using hz)) (by simpa using ha) (fun z hz => hx z (by simpa using hz))]

/-- A part of a row, as a source. -/
theorem Row.part {w : World} {B n b off : Nat} {xs : List Value} (h : Row w B 1 (some ⟨b, off, none⟩) n xs) (lo hi : Nat) : ∀ j u, ((xs.drop lo).take hi)[j]? = some u → w.cell? ((⟨b, off + lo, none⟩ : Addr).add j) = some u := by
  intro j u hj
  have hl := (List.getElem?_eq_some_iff.1 hj).1
  rw [List.length_take, List.length_drop] at hl
  have h1 := h.1
  rw [List.getElem?_take_of_lt (by omega), List.getElem?_drop] at hj
  obtain ⟨b', off', e, _, hc⟩ := h.2 (by omega)
  injection e with e
  injection e with e1 e2
  subst e1 e2
  rw [Addr.add_lit, Nat.add_assoc]
  exact hc _ u hj
theorem part_empty (w : World) (ad : Addr) (ts : List Int) (a : Nat) (h : ts.length ≤ a) : ∀ j u, (((ts.map encI).drop a).take (ts.length - a))[j]? = some u → w.cell? (ad.add j) = some u := by
  intro j u hj
  rw [List.drop_eq_nil_of_le (by simpa using h)] at hj
  simp at hj
theorem own_shape {w : World} {base : Nat} {e : TypeId} {size n cs : Nat} {As : Option Addr} {xs : List Value} (h : w.ownsRow base e size (.slice As n cs) n xs) : (As = none ∧ n = 0 ∧ cs = 0) ∨ (∃ g, As = some ⟨g, 0, none⟩ ∧ n ≤ cs ∧ g < w.heap.size) := by
  have h0 := h
  rcases h.2 with ⟨h1, h2⟩ | ⟨g', cap', cur, h1, _, hh, h2, _⟩
  · injection h1 with h1 h3 h4; exact .inl ⟨h1, h2, h4⟩
  · injection h1 with h1 h3 h4; exact .inr ⟨g', h1, by omega, (Array.getElem?_eq_some_iff.1 hh).1⟩

theorem Row.alloc {w : World} {size n : Nat} {A : Option Addr} {xs : List Value} (h : Row w w.heap.size size A n xs) (o : Obj) : Row (w.alloc o) (w.alloc o).heap.size size A n xs := h.later ((Below.refl _ w).alloc (Nat.le_refl _) _)
def LawR1 (w : World) (B : Nat) (sA sL : Value) (n : Nat) (l : List Int) (i : Value) (wr : World) : Prop :=
  ∃ k v ts, k ≤ n ∧ i = .int .i64 (k : Int) ∧ ts = (l.take k).foldl stepI [] ∧ Box2 wr B 47 sA sL ∧ Box2 wr (B + 1) 47 (.slice none 0 0) (.slice none 0 0) ∧ Box2 wr (B + 1 + 1) 47 v (.slice none 0 0) ∧
    wr.ownsRow B 3 1 v ts.length (ts.map encI) ∧ Below B w wr
def LawR3 (W5 : World) (m : Nat) (ns : List Nm) (c : List Int) (v i : Value) (wr : World) : Prop :=
  ∃ k ts, k ≤ m ∧ i = .int .i64 (k : Int) ∧ ts = (ns.take k).filter (fun x => okN x && !rootedB c x) ∧ wr.ownsRow W5.heap.size 53 1 v ts.length (ts.map encN) ∧ Below W5.heap.size W5 wr
def LawR2 (x : Int) (ts : List Int) (i : Value) : Prop := ∃ a : Nat, a ≤ ts.length ∧ i = .int .i64 (a : Int) ∧ ∀ j y, j < a → ts[j]? = some y → y < x

set_option maxRecDepth 100000 in
set_option maxHeartbeats 4000000 in
theorem canonical44_any (A A' : Option Addr) (n c m d : Nat) (xs : List Int) (ns : List Nm) (w : World) (hok : Ok w) (hn : n ≤ 1000) (hm : m ≤ 1000) (hns : ∀ x ∈ ns, x.length ≤ 1000) (hr : Row w w.heap.size 1 A n (xs.map encI)) (hr2 : Row w w.heap.size 1 A' m (ns.map encN)) (cx : List Int) (hcx : xs.foldl stepI [] = cx) (cl : List Nm) (hcl : topsN (ns.filter fun x => okN x && !rootedB cx x) = cl) :
    Calls Tryz.prog 18 #[.agg #[.slice A n c, .slice A' m d]] w fun e w' => ∃ v1 v2, e = .returned (.agg #[v1, v2]) ∧
      w'.ownsRow w.heap.size 3 1 v1 cx.length (cx.map encI) ∧ w'.ownsRow w.heap.size 53 1 v2 cl.length (cl.map encN) ∧ Below w.heap.size w w' := by
  obtain ⟨i0, hi, hz0, hz1, hz2⟩ := info_parts Tryz.infoInt
  obtain ⟨i1, hi1, hy0, hy1, hy2⟩ := info_parts Tryz.infoName
  have hlen : xs.length = n := by simpa using hr.1
  have hlen2 : ns.length = m := by simpa using hr2.1
  have HCX := Lib.hid hcx
  have HCL := Lib.hid hcl
  clear hcx hcl
  have HOK := Lib.hid hok
  have HNS := Lib.hid hns
  clear hok hns
  obtain ⟨B, hB⟩ : ∃ B, w.heap.size = B := ⟨_, rfl⟩
  have b0 := ((Box2.new w 47 (.slice A n c) (.slice A' m d)).alloc (.cells #[.slice none 0 0, .slice none 0 0] 47)).alloc (.cells #[.slice none 0 0, .slice none 0 0] 47)
  have b1 := (Box2.new (w.alloc (.cells #[.slice A n c, .slice A' m d] 47)) 47 (.slice none 0 0) (.slice none 0 0)).alloc (.cells #[.slice none 0 0, .slice none 0 0] 47)
  have b2 := Box2.new ((w.alloc (.cells #[.slice A n c, .slice A' m d] 47)).alloc (.cells #[.slice none 0 0, .slice none 0 0] 47)) 47 (.slice none 0 0) (.slice none 0 0)
  have hB0 : Below w.heap.size w (((w.alloc (.cells #[.slice A n c, .slice A' m d] 47)).alloc (.cells #[.slice none 0 0, .slice none 0 0] 47)).alloc (.cells #[.slice none 0 0, .slice none 0 0] 47)) :=
    (((Below.refl _ w).alloc (Nat.le_refl _) _).alloc (by simp) _).alloc (by simp; omega) _
  simp only [World.size_alloc] at b1 b2
  obtain ⟨W0, hW0⟩ : ∃ W0, ((w.alloc (.cells #[.slice A n c, .slice A' m d] 47)).alloc (.cells #[.slice none 0 0, .slice none 0 0] 47)).alloc (.cells #[.slice none 0 0, .slice none 0 0] 47) = W0 := ⟨_, rfl⟩
  rw [hW0] at b0 b1 b2 hB0
  rw [hB] at b0 b1 b2 hB0 hr hr2 ⊢
  have HW := Lib.hid hW0
  have HB := Lib.hid hB
  clear hW0 hB
  go_enter Tryz.func18, Tryz.ntmps18
  go_wp2_with fail
  rw [HW.out, HB.out]
  go_loopw [4] (LawR1 w B (.slice A n c) (.slice A' m d) n xs) (fun i _ => n - (intOf i).toNat)
  case atStart => exact ⟨0, _, [], by omega, rfl, by simp, b0, b1, b2, World.ownsRow_nil _ _ _ _, hB0⟩
  case round =>
    obtain ⟨k, v, ts, hk, rfl, hts, b0, b1, b2, hown, hbr⟩ := hrel
    have htl : ts.length ≤ k := by
      have := stepI_foldl_len (xs.take k) []
      rw [← hts, List.length_take] at this
      simp at this
      omega
    have HTS := Lib.hid hts
    have hsz : B ≤ wr.heap.size := by have := hbr.size; have := HB.out; omega
    have p0 := b0.c0
    clear hts
    by_cases hlt : k < n
    · obtain ⟨bx, ox, u, rfl, hb1', hx0, cx0⟩ := hr.at1 hlt
      rw [List.getElem?_map] at hx0
      obtain ⟨x, hx, rfl⟩ := Option.map_eq_some_iff.1 hx0
      clear hx0
      have cxr := (hbr.cell (p := ⟨bx, ox + k, none⟩) hb1').trans cx0
      unfold encI at cxr
      have hstep : stepI ts x = (xs.take (k + 1)).foldl stepI [] := by
        rw [List.take_add_one, List.foldl_append, ← HTS.out, hx]
        rfl
      have HST := Lib.hid hstep
      have d2 := b2.c0
      obtain ⟨As, cs, rfl, hrv⟩ := own_form hown
      have hshape := own_shape hown
      clear hstep hx cx0
      go_wp2_with fail
      go_loop [6] (LawR2 x ts) (fun i => ts.length - (intOf i).toNat)
      case atStart => exact ⟨0, by omega, rfl, fun j y hj => absurd hj (by omega)⟩
      case round =>
        obtain ⟨a, ha, rfl, hall⟩ := hrel
        have HALL := Lib.hid hall
        clear hall
        by_cases halt : a < ts.length
        · obtain ⟨by', oy, u, rfl, _, hy0', cy⟩ := hrv.at1 halt
          rw [List.getElem?_map] at hy0'
          obtain ⟨y, hy, rfl⟩ := Option.map_eq_some_iff.1 hy0'
          clear hy0'
          unfold encI at cy
          have HY := Lib.hid hy
          clear hy
          by_cases hyx : y < x
          · go_wp2_with fail
            go_round
            case rel => exact ⟨a + 1, by omega, by go_num, fun j z hj hz => by
              rcases Nat.lt_or_ge j a with h | h
              · exact HALL.out j z h hz
              · obtain rfl : j = a := by omega
                rw [HY.out] at hz
                injection hz with hz
                omega⟩
            case measure => simp [intOf]; omega
          · have hlow : lowI x ts = a := low_of HALL.out ha (fun z hz => by rw [HY.out] at hz; injection hz with hz; omega)
            have hcap : ts.length ≤ cs ∧ by' < wr.heap.size := by
              rcases hshape with ⟨h, _⟩ | ⟨g, h, h2, h3⟩
              · cases h
              · injection h with h; injection h with h; exact ⟨h2, by omega⟩
            by_cases hx1 : x < 1
            · have hse : stepI ts x = ts := by unfold stepI; rw [if_pos (.inl hx1)]
              have HSE := Lib.hid hse
              clear hlow hse
              go_wp2_with fail
              go_roundw
              case rel => exact ⟨k + 1, _, ts, by omega, by go_num, by rw [← HST.out, HSE.out], b0, b1, b2, hown, hbr⟩
              case measure => simp [intOf]; omega
            · by_cases hxy : y = x
              · have hse : stepI ts x = ts := by unfold stepI; rw [hlow, HY.out, hxy, if_pos (.inr rfl)]
                have HSE := Lib.hid hse
                clear hlow hse
                subst hxy
                go_wp2_with fail
                go_roundw
                case rel => exact ⟨k + 1, _, ts, by omega, by go_num, by rw [← HST.out, HSE.out], b0, b1, b2, hown, hbr⟩
                case measure => simp [intOf]; omega
              · have hse : stepI ts x = ts.take a ++ [x] ++ ts.drop a := by
                  unfold stepI
                  rw [hlow, HY.out, if_neg]
                  intro h
                  rcases h with h | h
                  · exact hx1 h
                  · injection h with h; exact hxy h
                have HSE := Lib.hid hse
                have d2a := (b2.alloc (.cells #[] 3)).c0
                have src1 := (hrv.alloc (.cells #[] 3)).part 0 a
                rw [List.drop_zero, Nat.add_zero] at src1
                have S1 := Lib.hid src1
                have hl1 : (((ts.map encI)).take a).length = a * 1 := by simp; omega
                have one1 : ∀ u ∈ (ts.map encI).take a, u.oneCell' = true := fun u hu => by
                  obtain ⟨z, _, rfl⟩ := List.mem_map.1 (List.mem_of_mem_take hu)
                  rfl
                have hl3 : (((ts.map encI).drop a).take (ts.length - a)).length = (ts.length - a) * 1 := by (simp; try omega)
                have one3 : ∀ u ∈ ((ts.map encI).drop a).take (ts.length - a), u.oneCell' = true := fun u hu => by
                  obtain ⟨z, _, rfl⟩ := List.mem_map.1 (List.mem_of_mem_drop (List.mem_of_mem_take hu))
                  rfl
                have HL1 := Lib.hid hl1
                have ONE1 := Lib.hid one1
                have HL3 := Lib.hid hl3
                have ONE3 := Lib.hid one3
                have hm0 := World.ownsRow_made (e := 3) (size := 1) wr #[] 0 (Nat.le_refl _) (Nat.zero_le _) (by simp)
                have hbw := hbr.mono (Nat.le_refl B)
                clear hlow hse src1 hl1 one1 hl3 one3
                go_wp2_with (first
                  | (at_builtin; refine wpList_append_own _ rfl _ _ 36 rfl wr.heap.size 3 i0 (.int .i64 0) 1 8 Tryz.underlying36 hi hz0 hz1 hz2 rfl (by decide) _ _ _ rfl hm0 ⟨by', oy, none⟩ a _ ((ts.map encI).take a) rfl HL1.out S1.out ONE1.out (by unfold maxLen; omega) (by omega) (by simp) ?_; intro v1 w1 hown1 hgrow1 _; rw [Nat.zero_add, List.nil_append] at hown1; have B1 := Lib.hid (((Below.refl _ wr).alloc (Nat.le_refl _) _).grown hgrow1 (by simp) (own_block_le hm0)); clear hgrow1; have z1 := B1.out.size)
                  | (at_builtin; refine wpList_append_own _ rfl _ _ 36 rfl wr.heap.size 3 i0 (.int .i64 0) 1 8 Tryz.underlying36 hi hz0 hz1 hz2 rfl (by decide) _ _ _ rfl (hown1.alloc _) ⟨w1.heap.size, 0, none⟩ 1 1 [.int .i64 x] rfl rfl (cell_one_new _ _ _) (by simp [Value.oneCell']) (by unfold maxLen; omega) (by omega) (by simp; omega) ?_; intro v2 w2 hown2 hgrow2 _; have B2 := Lib.hid (own_step hown1 B1.out hgrow2); clear hgrow2; have d22 := (b2.later B2.out).c0; have S3 := Lib.hid ((hrv.later B2.out).part a (ts.length - a)); have z2 := B2.out.size)
                  | (at_builtin; refine wpList_append_own _ rfl _ _ 36 rfl wr.heap.size 3 i0 (.int .i64 0) 1 8 Tryz.underlying36 hi hz0 hz1 hz2 rfl (by decide) _ _ _ rfl hown2 ⟨by', oy + a, none⟩ (ts.length - a) _ (((ts.map encI).drop a).take (ts.length - a)) rfl HL3.out S3.out ONE3.out (by unfold maxLen; omega) (by omega) (by omega) ?_; intro v3 w3 hown3 hgrow3 _; have B3 := Lib.hid (B2.out.grown hgrow3 z2 (own_block_le hown2)); clear hgrow3; have b23 := b2.later B3.out; have d33 := b23.c0; have f33 := b23.f0; obtain ⟨A3, c3, rfl, _⟩ := own_form hown3))
                have hts' : (ts.take a ++ [x] ++ ts.drop a).length = a + 1 + (ts.length - a) := by simp; omega
                have hmap : (ts.take a ++ [x] ++ ts.drop a).map encI = (ts.map encI).take a ++ [.int .i64 x] ++ ((ts.map encI).drop a).take (ts.length - a) := by
                  rw [List.take_of_length_le (l := (ts.map encI).drop a) (by simp)]
                  simp [List.map_take, List.map_drop, encI]
                go_roundw
                case rel => exact ⟨k + 1, _, ts.take a ++ [x] ++ ts.drop a, by omega, by go_num, by rw [← HST.out, HSE.out], (b0.later B3.out).other (by omega) _, (b1.later B3.out).other (by omega) _, b23.set0 _, by rw [hts', hmap]; exact own_base (own_set hown3 b23 (by decide) _) hsz, (hbr.trans (B3.out.mono hsz)).setCell (p := ⟨B + 1 + 1, 0, none⟩) (by show B ≤ B + 1 + 1; omega) _⟩
                case measure => simp [intOf]; omega
        · have hlow : lowI x ts = a := low_of HALL.out ha (fun z hz => by rw [List.getElem?_eq_none (by omega)] at hz; cases hz)
          by_cases hx1 : x < 1
          · have hse : stepI ts x = ts := by unfold stepI; rw [if_pos (.inl hx1)]
            have HSE := Lib.hid hse
            clear hlow hse
            go_wp2_with fail
            go_roundw
            case rel => exact ⟨k + 1, _, ts, by omega, by go_num, by rw [← HST.out, HSE.out], b0, b1, b2, hown, hbr⟩
            case measure => simp [intOf]; omega
          · have hse : stepI ts x = ts.take a ++ [x] ++ ts.drop a := by
              unfold stepI
              rw [hlow, List.getElem?_eq_none (by omega), if_neg]
              intro h
              rcases h with h | h
              · exact hx1 h
              · cases h
            have HSE := Lib.hid hse
            rcases hshape with ⟨rfl, h0, rfl⟩ | ⟨g, rfl, hcap, hg⟩
            · obtain rfl : ts = [] := List.length_eq_zero_iff.1 h0
              obtain rfl : a = 0 := by simpa using ha
              have d2a := (b2.alloc (.cells #[] 3)).c0
              have hm0 := World.ownsRow_made (e := 3) (size := 1) wr #[] 0 (Nat.le_refl _) (Nat.zero_le _) (by simp)
              have B1 := Lib.hid ((Below.refl _ wr).alloc (Nat.le_refl _) (.cells #[] 3))
              have z1 := B1.out.size
              clear hlow hse h0
              go_wp2_with (first
                | (at_builtin; refine wpList_append_own _ rfl _ _ 36 rfl wr.heap.size 3 i0 (.int .i64 0) 1 8 Tryz.underlying36 hi hz0 hz1 hz2 rfl (by decide) _ _ _ rfl (hm0.alloc _) ⟨wr.heap.size + 1, 0, none⟩ 1 1 [.int .i64 x] rfl rfl (by simpa using cell_one_new (wr.alloc (.cells #[] 3)) _ _) (by simp [Value.oneCell']) (by unfold maxLen; omega) (by omega) (by simp; omega) ?_; intro v2 w2 hown2 hgrow2 _; have B2 := Lib.hid (own_step hm0 B1.out hgrow2); clear hgrow2; have b23 := b2.later B2.out; have d22 := b23.c0; have f22 := b23.f0; have z2 := B2.out.size; obtain ⟨g2, cap2, rfl⟩ := ownsRow_succ hown2)
                | (at_builtin; refine wpList_append_own_none rfl _ _ 36 rfl wr.heap.size 3 i0 1 Tryz.underlying36 hi _ _ _ rfl hown2 rfl ?_))
              go_roundw
              case rel => exact ⟨k + 1, _, [x], by omega, by go_num, by rw [← HST.out, HSE.out]; rfl, (b0.later B2.out).other (by omega) _, (b1.later B2.out).other (by omega) _, b23.set0 _, own_base (own_set hown2 b23 (by decide) _) hsz, (hbr.trans (B2.out.mono hsz)).setCell (p := ⟨B + 1 + 1, 0, none⟩) (by show B ≤ B + 1 + 1; omega) _⟩
              case measure => simp [intOf]; omega
            · by_cases hac : a = cs
              · subst hac
                have d2a := (b2.alloc (.cells #[] 3)).c0
                have src1 := (hrv.alloc (.cells #[] 3)).part 0 a
                rw [List.drop_zero, Nat.add_zero] at src1
                have S1 := Lib.hid src1
                have hl1 : (((ts.map encI)).take a).length = a * 1 := by simp; omega
                have one1 : ∀ u ∈ (ts.map encI).take a, u.oneCell' = true := fun u hu => by
                  obtain ⟨z, _, rfl⟩ := List.mem_map.1 (List.mem_of_mem_take hu)
                  rfl
                have hl3 : (((ts.map encI).drop a).take (ts.length - a)).length = 0 * 1 := by (simp; try omega)
                have one3 : ∀ u ∈ ((ts.map encI).drop a).take (ts.length - a), u.oneCell' = true := fun u hu => by
                  obtain ⟨z, _, rfl⟩ := List.mem_map.1 (List.mem_of_mem_drop (List.mem_of_mem_take hu))
                  rfl
                have HL1 := Lib.hid hl1
                have ONE1 := Lib.hid one1
                have HL3 := Lib.hid hl3
                have ONE3 := Lib.hid one3
                have hm0 := World.ownsRow_made (e := 3) (size := 1) wr #[] 0 (Nat.le_refl _) (Nat.zero_le _) (by simp)
                have hbw := hbr.mono (Nat.le_refl B)
                clear hlow hse src1 hl1 one1 hl3 one3
                go_wp2_with (first
                  | (at_builtin; refine wpList_append_own _ rfl _ _ 36 rfl wr.heap.size 3 i0 (.int .i64 0) 1 8 Tryz.underlying36 hi hz0 hz1 hz2 rfl (by decide) _ _ _ rfl hm0 ⟨g, 0, none⟩ a _ ((ts.map encI).take a) rfl HL1.out S1.out ONE1.out (by unfold maxLen; omega) (by omega) (by simp) ?_; intro v1 w1 hown1 hgrow1 _; rw [Nat.zero_add, List.nil_append] at hown1; have B1 := Lib.hid (((Below.refl _ wr).alloc (Nat.le_refl _) _).grown hgrow1 (by simp) (own_block_le hm0)); clear hgrow1; have z1 := B1.out.size)
                  | (at_builtin; refine wpList_append_own _ rfl _ _ 36 rfl wr.heap.size 3 i0 (.int .i64 0) 1 8 Tryz.underlying36 hi hz0 hz1 hz2 rfl (by decide) _ _ _ rfl (hown1.alloc _) ⟨w1.heap.size, 0, none⟩ 1 1 [.int .i64 x] rfl rfl (cell_one_new _ _ _) (by simp [Value.oneCell']) (by unfold maxLen; omega) (by omega) (by simp; omega) ?_; intro v2 w2 hown2 hgrow2 _; have B2 := Lib.hid (own_step hown1 B1.out hgrow2); clear hgrow2; have d22 := (b2.later B2.out).c0; have S3 := Lib.hid (part_empty w2 ⟨g, 0, none⟩ ts a (by omega)); have z2 := B2.out.size)
                  | (at_builtin; refine wpList_append_own _ rfl _ _ 36 rfl wr.heap.size 3 i0 (.int .i64 0) 1 8 Tryz.underlying36 hi hz0 hz1 hz2 rfl (by decide) _ _ _ rfl hown2 ⟨g, 0, none⟩ 0 _ (((ts.map encI).drop a).take (ts.length - a)) rfl HL3.out S3.out ONE3.out (by unfold maxLen; omega) (by omega) (by omega) ?_; intro v3 w3 hown3 hgrow3 _; have B3 := Lib.hid (B2.out.grown hgrow3 z2 (own_block_le hown2)); clear hgrow3; have b23 := b2.later B3.out; have d33 := b23.c0; have f33 := b23.f0; obtain ⟨A3, c3, rfl, _⟩ := own_form hown3))
                have hts' : (ts.take a ++ [x] ++ ts.drop a).length = a + 1 + 0 := by simp; omega
                have hmap : (ts.take a ++ [x] ++ ts.drop a).map encI = (ts.map encI).take a ++ [.int .i64 x] ++ ((ts.map encI).drop a).take (ts.length - a) := by
                  rw [List.take_of_length_le (l := (ts.map encI).drop a) (by simp)]
                  simp [List.map_take, List.map_drop, encI]
                go_roundw
                case rel => exact ⟨k + 1, _, ts.take a ++ [x] ++ ts.drop a, by omega, by go_num, by rw [← HST.out, HSE.out], (b0.later B3.out).other (by omega) _, (b1.later B3.out).other (by omega) _, b23.set0 _, by rw [hts', hmap]; exact own_base (own_set hown3 b23 (by decide) _) hsz, (hbr.trans (B3.out.mono hsz)).setCell (p := ⟨B + 1 + 1, 0, none⟩) (by show B ≤ B + 1 + 1; omega) _⟩
                case measure => simp [intOf]; omega
              · have d2a := (b2.alloc (.cells #[] 3)).c0
                have src1 := (hrv.alloc (.cells #[] 3)).part 0 a
                rw [List.drop_zero, Nat.add_zero] at src1
                have S1 := Lib.hid src1
                have hl1 : (((ts.map encI)).take a).length = a * 1 := by simp; omega
                have one1 : ∀ u ∈ (ts.map encI).take a, u.oneCell' = true := fun u hu => by
                  obtain ⟨z, _, rfl⟩ := List.mem_map.1 (List.mem_of_mem_take hu)
                  rfl
                have hl3 : (((ts.map encI).drop a).take (ts.length - a)).length = (ts.length - a) * 1 := by (simp; try omega)
                have one3 : ∀ u ∈ ((ts.map encI).drop a).take (ts.length - a), u.oneCell' = true := fun u hu => by
                  obtain ⟨z, _, rfl⟩ := List.mem_map.1 (List.mem_of_mem_drop (List.mem_of_mem_take hu))
                  rfl
                have HL1 := Lib.hid hl1
                have ONE1 := Lib.hid one1
                have HL3 := Lib.hid hl3
                have ONE3 := Lib.hid one3
                have hm0 := World.ownsRow_made (e := 3) (size := 1) wr #[] 0 (Nat.le_refl _) (Nat.zero_le _) (by simp)
                have hbw := hbr.mono (Nat.le_refl B)
                clear hlow hse src1 hl1 one1 hl3 one3
                go_wp2_with (first
                  | (at_builtin; refine wpList_append_own _ rfl _ _ 36 rfl wr.heap.size 3 i0 (.int .i64 0) 1 8 Tryz.underlying36 hi hz0 hz1 hz2 rfl (by decide) _ _ _ rfl hm0 ⟨g, 0, none⟩ a _ ((ts.map encI).take a) rfl HL1.out S1.out ONE1.out (by unfold maxLen; omega) (by omega) (by simp) ?_; intro v1 w1 hown1 hgrow1 _; rw [Nat.zero_add, List.nil_append] at hown1; have B1 := Lib.hid (((Below.refl _ wr).alloc (Nat.le_refl _) _).grown hgrow1 (by simp) (own_block_le hm0)); clear hgrow1; have z1 := B1.out.size)
                  | (at_builtin; refine wpList_append_own _ rfl _ _ 36 rfl wr.heap.size 3 i0 (.int .i64 0) 1 8 Tryz.underlying36 hi hz0 hz1 hz2 rfl (by decide) _ _ _ rfl (hown1.alloc _) ⟨w1.heap.size, 0, none⟩ 1 1 [.int .i64 x] rfl rfl (cell_one_new _ _ _) (by simp [Value.oneCell']) (by unfold maxLen; omega) (by omega) (by simp; omega) ?_; intro v2 w2 hown2 hgrow2 _; have B2 := Lib.hid (own_step hown1 B1.out hgrow2); clear hgrow2; have d22 := (b2.later B2.out).c0; have S3 := Lib.hid (Nat.zero_add a ▸ (hrv.later B2.out).part a (ts.length - a)); have z2 := B2.out.size)
                  | (at_builtin; refine wpList_append_own _ rfl _ _ 36 rfl wr.heap.size 3 i0 (.int .i64 0) 1 8 Tryz.underlying36 hi hz0 hz1 hz2 rfl (by decide) _ _ _ rfl hown2 ⟨g, a, none⟩ (ts.length - a) _ (((ts.map encI).drop a).take (ts.length - a)) rfl HL3.out S3.out ONE3.out (by unfold maxLen; omega) (by omega) (by omega) ?_; intro v3 w3 hown3 hgrow3 _; have B3 := Lib.hid (B2.out.grown hgrow3 z2 (own_block_le hown2)); clear hgrow3; have b23 := b2.later B3.out; have d33 := b23.c0; have f33 := b23.f0; obtain ⟨A3, c3, rfl, _⟩ := own_form hown3))
                have hts' : (ts.take a ++ [x] ++ ts.drop a).length = a + 1 + (ts.length - a) := by simp; omega
                have hmap : (ts.take a ++ [x] ++ ts.drop a).map encI = (ts.map encI).take a ++ [.int .i64 x] ++ ((ts.map encI).drop a).take (ts.length - a) := by
                  rw [List.take_of_length_le (l := (ts.map encI).drop a) (by simp)]
                  simp [List.map_take, List.map_drop, encI]
                go_roundw
                case rel => exact ⟨k + 1, _, ts.take a ++ [x] ++ ts.drop a, by omega, by go_num, by rw [← HST.out, HSE.out], (b0.later B3.out).other (by omega) _, (b1.later B3.out).other (by omega) _, b23.set0 _, by rw [hts', hmap]; exact own_base (own_set hown3 b23 (by decide) _) hsz, (hbr.trans (B3.out.mono hsz)).setCell (p := ⟨B + 1 + 1, 0, none⟩) (by show B ≤ B + 1 + 1; omega) _⟩
                case measure => simp [intOf]; omega
    · obtain rfl : k = n := by omega
      have hfx : ts = cx := by rw [← HCX.out, HTS.out, ← hlen, List.take_length]
      subst hfx
      obtain ⟨As, cs, rfl, hrv⟩ := own_form hown
      have d2 := b2.c0
      have p1 := b0.c1
      obtain ⟨W5, hW5⟩ : ∃ W5, W5 = wr := ⟨_, rfl⟩
      subst hW5
      clear HTS HCX hlt
      go_wp2_with fail
      go_loopw [8, 9] (LawR3 W5 m ns ts) (fun _ i _ => m - (intOf i).toNat)
      case atStart => exact ⟨0, [], by omega, rfl, by simp, World.ownsRow_nil _ _ _ _, Below.refl _ _⟩
      case round =>
        obtain ⟨k3, ts3, hk3, rfl, hts3, hown3, hbr3⟩ := hrel
        have htl3 : ts3.length ≤ k3 := by rw [hts3]; exact filter_take_len _ _ _
        have HTS3 := Lib.hid hts3
        have hsz3 := hbr3.size
        have hbR := hbr.trans (hbr3.mono hsz)
        have b0r := b0.later hbr3
        have p1r := b0r.c1
        have b2r := b2.later hbr3
        have d2r := b2r.c0
        clear hts3
        by_cases hlt3 : k3 < m
        · obtain ⟨bx, ox, u, rfl, hb1', hx0, cx0⟩ := hr2.at1 hlt3
          rw [List.getElem?_map] at hx0
          obtain ⟨x, hx, rfl⟩ := Option.map_eq_some_iff.1 hx0
          clear hx0
          obtain ⟨s, rfl⟩ : ∃ s : ByteArray, x = s.data.toList := ⟨⟨x.toArray⟩, rfl⟩
          have cxr := (hbR.cell (p := ⟨bx, ox + k3, none⟩) hb1').trans cx0
          rw [encN_eq] at cxr
          have hstep := filter_take_succ (fun x => okN x && !rootedB ts x) ns k3 _ hx
          have hxl := HNS.out _ (List.mem_of_getElem? hx)
          have hxz : s.size ≤ 4294967280 := by
            have := size_nm s
            omega
          have HXZ := Lib.hid hxz
          clear hx cx0 hxl hxz
          by_cases hx0 : s.data.toList = []
          · rw [if_neg (by simp [okN, hx0]), ← HTS3.out, List.append_nil] at hstep
            have HST := Lib.hid hstep
            have hem := isEmpty_of_nil hx0
            clear hstep hx0
            go_wp2_with fail
            go_roundw
            case rel => exact ⟨k3 + 1, ts3, by omega, by go_num, HST.out.symm, hown3, hbr3⟩
            case measure => simp [intOf]; omega
          · have hne := isEmpty_of_ne hx0
            have hV := fun W => Valid_any s W (Nat.le_trans HXZ.out (by omega))
            cases hvb : validB s.data.toList with
            | true =>
              rw [hvb] at hV
              have HV := Lib.hid hV
              clear hV
              go_wp2_with fail
              refine (HV.out _).mono ?_
              rintro e w7 ⟨rfl, hb7⟩
              have hown7 := own_later hown3 hb7
              have hb8 := hbr3.trans (hb7.mono hsz3)
              have hsz8 := hb8.size
              have d27 := (b2.later hb8).c0
              have hok7 := HOK.out.later (by rw [HB.out]; exact hbr.trans (hb8.mono hsz))
              have hRt := rooted_any As ts.length cs ts s w7 hok7 (by omega) HXZ.out (hrv.later hb8)
              cases hrb : rootedB ts s.data.toList with
              | true =>
                rw [hrb] at hRt
                rw [if_neg (by simp [hrb]), ← HTS3.out, List.append_nil] at hstep
                have HST := Lib.hid hstep
                have HRT := Lib.hid hRt
                clear hstep hRt hrb hx0 hvb
                go_wp2_with fail
                refine HRT.out.mono ?_
                rintro e w9 ⟨rfl, hb9⟩
                have hown9 := own_later hown7 hb9
                have hb10 := hb8.trans (hb9.mono hsz8)
                go_wp2_with fail
                go_roundw
                case rel => exact ⟨k3 + 1, ts3, by omega, by go_num, HST.out.symm, hown9, hb10⟩
                case measure => simp [intOf]; omega
              | false =>
                rw [hrb] at hRt
                rw [if_pos (by simp [okN, hrb, hx0, hvb]), ← HTS3.out] at hstep
                have HST := Lib.hid hstep
                have HRT := Lib.hid hRt
                clear hstep hRt hrb hx0 hvb
                go_wp2_with fail
                refine HRT.out.mono ?_
                rintro e w9 ⟨rfl, hb9⟩
                have hown9 := own_later hown7 hb9
                have hb10 := hb8.trans (hb9.mono hsz8)
                have hsz10 := hb10.size
                go_wp2_with (at_builtin; refine wpList_append_own _ rfl _ _ 38 rfl W5.heap.size 53 i1 (.string ⟨#[]⟩) 1 16 Tryz.underlying38 hi1 hy0 hy1 hy2 rfl (by decide) _ _ _ rfl (hown9.alloc _) ⟨w9.heap.size, 0, none⟩ 1 1 [.string s] rfl rfl (cell_one_new _ _ _) (by simp [Value.oneCell']) (by unfold maxLen; omega) (by omega) (by simp; omega) ?_; intro v' w11 hown' hgrow _; have R := Lib.hid (own_step hown9 hb10 hgrow); clear hgrow)
                go_roundw
                case rel => exact ⟨k3 + 1, ts3 ++ [s.data.toList], by omega, by go_num, HST.out.symm, by rw [List.map_append, List.length_append]; exact hown', R.out⟩
                case measure => simp [intOf]; omega
            | false =>
              rw [hvb] at hV
              rw [if_neg (by simp [okN, hvb]), ← HTS3.out, List.append_nil] at hstep
              have HST := Lib.hid hstep
              have HV := Lib.hid hV
              clear hstep hV hvb hx0
              go_wp2_with fail
              refine (HV.out _).mono ?_
              rintro e w7 ⟨rfl, hb7⟩
              have hown7 := own_later hown3 hb7
              have hb8 := hbr3.trans (hb7.mono hsz3)
              go_wp2_with fail
              go_roundw
              case rel => exact ⟨k3 + 1, ts3, by omega, by go_num, HST.out.symm, hown7, hb8⟩
              case measure => simp [intOf]; omega
        · obtain rfl : k3 = m := by omega
          have hts : ts3 = ns.filter (fun x => okN x && !rootedB ts x) := by rw [HTS3.out, ← hlen2, List.take_length]
          have hvv : ∀ x ∈ ts3, validB x = true := by
            intro x hx
            rw [hts] at hx
            have := (List.mem_filter.1 hx).2
            simp [okN] at this
            exact this.1.2
          obtain ⟨A6, c6, rfl, hr6⟩ := own_form hown3
          have hT := Tops_valid A6 ts3.length c6 wr.heap.size ts3 wr (by omega) hr6 hvv
          have hcl : topsN ts3 = cl := by rw [hts]; exact HCL.out
          rw [hcl] at hT
          have HT := Lib.hid hT
          clear hT hts hvv hr6 HTS3 hown3 hlt3 HCL hcl
          go_wp2_with fail
          refine HT.out.mono ?_
          rintro e W6 ⟨v6, rfl, hown6, hb6⟩
          obtain ⟨A7, c7, rfl, hr7⟩ := own_form hown6
          have hbT := hbr3.trans (hb6.mono hsz3)
          have s1 := b1.later hbT
          have s2 := b2.later hbT
          have hownI := own_later hown hbT
          have hbW6 := hbr.trans (hbT.mono hsz)
          have f1 := s2.f1
          have e1 := s2.c1
          have t2 := s2.set1 (.slice A7 cl.length c7)
          have z0 := t2.c0
          have z1 := t2.c1
          have t1 := s1.other (B' := B + 1 + 1) (o := 1) (by omega) (.slice A7 cl.length c7)
          have y0 := t1.f0
          have y1 := t1.f1
          have x0 := t1.c0
          have x1 := t1.c1
          clear HT
          go_wp2_with fail
          have r2 := (t1.set0 (.slice As ts.length cs)).set1 (.slice A7 cl.length c7)
          have t0 := r2.c0
          have t9 := r2.c1
          have hoI := own_set (o := 1) (own_set (o := 0) (own_set (o := 1) hownI s2 (by decide) (.slice A7 cl.length c7)) t1 (by decide) (.slice As ts.length cs)) (t1.set0 _) (by decide) (.slice A7 cl.length c7)
          have hoL := own_base (own_set (o := 1) (own_set (o := 0) (own_set (o := 1) hown6 s2 (by decide) (.slice A7 cl.length c7)) t1 (by decide) (.slice As ts.length cs)) (t1.set0 _) (by decide) (.slice A7 cl.length c7)) (Nat.le_trans hsz hsz3)
          have hbF := ((hbW6.setCell (p := ⟨B + 1 + 1, 1, none⟩) (by show B ≤ B + 1 + 1; omega) (.slice A7 cl.length c7)).setCell (p := ⟨B + 1, 0, none⟩) (by show B ≤ B + 1; omega) (.slice As ts.length cs)).setCell (p := ⟨B + 1, 1, none⟩) (by show B ≤ B + 1; omega) (.slice A7 cl.length c7)
          exact bodyPost_ret (v := .agg #[.slice As ts.length cs, .slice A7 cl.length c7]) (by simp [results, Tryz.f18, go_sem, t0, t9]) rfl ⟨_, _, rfl, hoI, hoL, hbF⟩

end Go.Proofs.YtnibcffcbnjllaaGreatDoor
