/- (Without).canonical: the walk. -/
import Derived.Test.YtnibcffcbnjllaaGreatDoorCan2
namespace Go.Proofs.YtnibcffcbnjllaaGreatDoor
open Go.RowKit Go.Sort Go.Maps

def CanR2 (W4 : World) (M : Nat) (rs : List Nm) (i : Value) (wr : World) : Prop :=
  ∃ k, k ≤ rs.length ∧ i = .int .i64 (k : Int) ∧ IsSet Lit.string wr 53 M k (rs.take k).reverse ∧ W4.grownBy wr (some M)
def CanR3 (W5 : World) (m : Nat) (ns : List Nm) (v i : Value) (wr : World) : Prop :=
  ∃ k ts, k ≤ m ∧ i = .int .i64 (k : Int) ∧ ts = (ns.take k).filter okN ∧ wr.ownsRow W5.heap.size 53 1 v ts.length (ts.map encN) ∧ Below W5.heap.size W5 wr
def CanR4 (W6 : World) (C : Nat) (vI : Value) (rs tp : List Nm) (i : Value) (wr : World) : Prop :=
  ∃ k v ts, k ≤ tp.length ∧ i = .int .i64 (k : Int) ∧ ts = (tp.take k).filter (fun x => !decide (rootOf x ∈ rs)) ∧ Box2 wr C 47 vI v ∧ wr.ownsRow W6.heap.size 53 1 v ts.length (ts.map encN) ∧ W6.grownBy wr (some C)

/-- Behind 'c.Lineages = append(c.Lineages, n)'. -/
theorem can_step4 {W6 W w1 : World} {C e n m : Nat} {vI v v' : Value} {xs ys : List Value} {tmp : Obj} {t : TypeId} (b2 : Box2 W C t vI v) (hown : W.ownsRow W6.heap.size e 1 v n xs)
    (hg : W6.grownBy W (some C)) (hown' : w1.ownsRow W6.heap.size e 1 v' m ys) (hgrow : (W.alloc tmp).grownBy w1 v.ownBlock) (hte : t ≠ e := by decide) :
    Box2 w1 C t vI v ∧ Box2 (w1.setCell ⟨C, 1, none⟩ v') C t vI v' ∧ (w1.setCell ⟨C, 1, none⟩ v').ownsRow W6.heap.size e 1 v' m ys ∧ W6.grownBy (w1.setCell ⟨C, 1, none⟩ v') (some C) := by
  have c2 := (b2.alloc tmp).kept hgrow (b2.not_row hte hown)
  refine ⟨c2, c2.set1 _, own_set hown' c2 hte _, ?_⟩
  refine World.grownBy.trans (b := w1) ?_ (grownBy_setAt w1 C 1 v')
  have hsz := hg.size
  refine ⟨hgrow.os.trans hg.os, hgrow.tape.trans hg.tape, hgrow.output.trans hg.output, ?_, fun i hi hne => ?_⟩
  · have := hgrow.size
    simp at this
    omega
  · have h1 := hg.block i hi hne
    rw [← h1]
    have h2 : (W.alloc tmp).heap[i]? = W.heap[i]? := (World.grownBy_alloc W tmp none).block i (by omega) (by simp)
    rw [← h2]
    refine hgrow.block i (by simp; omega) (fun e => ?_)
    have := own_block_le hown i e.symm
    omega

/-- Behind 'c.Inputs = append(c.Inputs, n)'. -/
theorem can_step {w W w1 : World} {B e n m : Nat} {sA sL u v v' : Value} {xs ys : List Value} {tmp : Obj} {t : TypeId} (b0 : Box2 W B t sA sL) (b1 : Box2 W (B + 1) t (.slice none 0 0) (.slice none 0 0)) (b2 : Box2 W (B + 1 + 1) t v u) (hown : W.ownsRow B e 1 v n xs)
    (hbr : Below B w W) (hsz : B ≤ W.heap.size) (hown' : w1.ownsRow B e 1 v' m ys) (hgrow : (W.alloc tmp).grownBy w1 v.ownBlock) (hte : t ≠ e := by decide) :
    Box2 (w1.setCell ⟨B + 1 + 1, 0, none⟩ v') B t sA sL ∧ Box2 (w1.setCell ⟨B + 1 + 1, 0, none⟩ v') (B + 1) t (.slice none 0 0) (.slice none 0 0) ∧ Box2 (w1.setCell ⟨B + 1 + 1, 0, none⟩ v') (B + 1 + 1) t v' u ∧
      (w1.setCell ⟨B + 1 + 1, 0, none⟩ v').ownsRow B e 1 v' m ys ∧ Below B w (w1.setCell ⟨B + 1 + 1, 0, none⟩ v') := by
  have c0 := (b0.alloc tmp).kept hgrow (b0.not_row hte hown)
  have c1 := (b1.alloc tmp).kept hgrow (b1.not_row hte hown)
  have c2 := (b2.alloc tmp).kept hgrow (b2.not_row hte hown)
  refine ⟨c0.other (by omega) _, c1.other (by omega) _, c2.set0 _, own_set hown' c2 hte _, ?_⟩
  exact ((hbr.alloc hsz tmp).grown hgrow (by simp; omega) (own_block_le hown)).setCell (p := ⟨B + 1 + 1, 0, none⟩) (by show B ≤ B + 1 + 1; omega) _

set_option maxRecDepth 100000 in
set_option maxHeartbeats 4000000 in
theorem canonical_any (A A' : Option Addr) (n c m d : Nat) (xs : List Int) (ns : List Nm) (w : World) (hok : Ok w) (hn : n ≤ 1000) (hm : m ≤ 1000) (hns : ∀ x ∈ ns, x.length ≤ 1000) (hr : Row w w.heap.size 1 A n (xs.map encI)) (hr2 : Row w w.heap.size 1 A' m (ns.map encN)) :
    Calls Tryz.prog 41 #[.agg #[.slice A n c, .slice A' m d]] w fun e w' => ∃ v1 v2, e = .returned (.agg #[v1, v2]) ∧
      w'.ownsRow w.heap.size 3 1 v1 (canI xs).length ((canI xs).map encI) ∧ w'.ownsRow w.heap.size 53 1 v2 (canL (canI xs) ns).length ((canL (canI xs) ns).map encN) ∧ Below w.heap.size w w' := by
  obtain ⟨i0, hi, hz0, hz1, hz2⟩ := info_parts Tryz.infoInt
  obtain ⟨i1, hi1, hy0, hy1, hy2⟩ := info_parts Tryz.infoName
  have hlen : xs.length = n := by simpa using hr.1
  have hlen2 : ns.length = m := by simpa using hr2.1
  obtain ⟨cx, hcx⟩ : ∃ cx, canI xs = cx := ⟨_, rfl⟩
  obtain ⟨cl, hcl⟩ : ∃ cl, canL cx ns = cl := ⟨_, rfl⟩
  rw [hcx, hcl]
  have HCX := Lib.hid hcx
  have HCL := Lib.hid hcl
  clear hcx hcl
  have hmk : ∀ w, (Instr.makeMap 103 none).run Tryz.prog w = .ok (.map (some w.heap.size)) (w.alloc (.map #[] 0)) := fun w => by kernel_rfl
  have HOK := Lib.hid hok
  have HNS := Lib.hid hns
  clear hok hns
  obtain ⟨B, hB⟩ : ∃ B, w.heap.size = B := ⟨_, rfl⟩
  have b0 := ((Box2.new w 47 (.slice A n c) (.slice A' m d)).alloc (.cells #[.slice none 0 0, .slice none 0 0] 47)).alloc (.cells #[.slice none 0 0, .slice none 0 0] 47)
  have b1 := (Box2.new (w.alloc (.cells #[.slice A n c, .slice A' m d] 47)) 47 (.slice none 0 0) (.slice none 0 0)).alloc (.cells #[.slice none 0 0, .slice none 0 0] 47)
  have b2 := Box2.new ((w.alloc (.cells #[.slice A n c, .slice A' m d] 47)).alloc (.cells #[.slice none 0 0, .slice none 0 0] 47)) 47 (.slice none 0 0) (.slice none 0 0)
  have hB0 : Below w.heap.size w (((w.alloc (.cells #[.slice A n c, .slice A' m d] 47)).alloc (.cells #[.slice none 0 0, .slice none 0 0] 47)).alloc (.cells #[.slice none 0 0, .slice none 0 0] 47)) :=
    (((Below.refl _ w).alloc (Nat.le_refl _) _).alloc (by simp) _).alloc (by simp; omega) _
  simp only [World.size_alloc] at b1 b2
  obtain ⟨W0, hW0⟩ : ∃ W0, ((w.alloc (.cells #[.slice A n c, .slice A' m d] 47)).alloc (.cells #[.slice none 0 0, .slice none 0 0] 47)).alloc (.cells #[.slice none 0 0, .slice none 0 0] 47) = W0 := ⟨_, rfl⟩
  rw [hW0] at b0 b1 b2 hB0
  rw [hB] at b0 b1 b2 hB0 hr hr2 ⊢
  have HW := Lib.hid hW0
  have HB := Lib.hid hB
  clear hW0 hB
  go_enter Tryz.func41, Tryz.ntmps41
  go_wp2_with fail
  rw [HW.out, HB.out]
  go_loopw [17] (CanR1 w B (.slice A n c) (.slice A' m d) n xs) (fun i _ => n - (intOf i).toNat)
  case atStart => exact ⟨0, _, [], by omega, rfl, by simp, b0, b1, b2, World.ownsRow_nil _ _ _ _, hB0⟩
  case round =>
    obtain ⟨k, v, ts, hk, rfl, hts, b0, b1, b2, hown, hbr⟩ := hrel
    have htl : ts.length ≤ k := by rw [hts]; exact filter_take_len _ _ _
    have HTS := Lib.hid hts
    have hsz : B ≤ wr.heap.size := by have := hbr.size; have := HB.out; omega
    clear hts
    by_cases hlt : k < n
    · obtain ⟨bx, ox, u, rfl, hb1', hx0, cx⟩ := hr.at1 hlt
      rw [List.getElem?_map] at hx0
      obtain ⟨x, hx, rfl⟩ := Option.map_eq_some_iff.1 hx0
      clear hx0
      have cxr := (hbr.cell (p := ⟨bx, ox + k, none⟩) hb1').trans cx
      unfold encI at cxr
      have hstep := filter_take_succ (fun x => decide (1 ≤ x)) xs k x hx
      have d2 := b2.c0
      by_cases h1 : 1 ≤ x
      · rw [if_pos (by simpa using h1), ← HTS.out] at hstep
        have HST := Lib.hid hstep
        clear hstep hx cx
        go_wp2_with (at_builtin; refine wpList_append_own _ rfl _ _ 36 rfl B 3 i0 (.int .i64 0) 1 8 Tryz.underlying36 hi hz0 hz1 hz2 rfl (by decide) _ _ _ rfl (hown.alloc _) ⟨wr.heap.size, 0, none⟩ 1 1 [.int .i64 x] rfl rfl (cell_one_new _ _ _) (by simp [Value.oneCell']) (by unfold maxLen; omega) (by omega) (by simp; omega) ?_; intro v' w1 hown' hgrow _; obtain ⟨g', cap', rfl⟩ := ownsRow_succ hown'; have b2' := (b2.alloc (.cells #[.int .i64 x] 3)).kept hgrow (b2.not_row (by decide) hown); have e2 := b2'.f0; have e3 := b2'.c0; have R := Lib.hid (can_step b0 b1 b2 hown hbr hsz hown' hgrow); clear hgrow)
        go_roundw
        case rel => exact ⟨k + 1, _, ts ++ [x], by omega, by go_num, HST.out.symm, R.out.1, R.out.2.1, R.out.2.2.1, by rw [List.map_append, List.length_append]; exact R.out.2.2.2.1, R.out.2.2.2.2⟩
        case measure => simp [intOf]; omega
      · rw [if_neg (by simpa using h1), ← HTS.out, List.append_nil] at hstep
        have HST := Lib.hid hstep
        clear hstep hx cx
        go_wp2_with fail
        go_roundw
        case rel => exact ⟨k + 1, _, ts, by omega, by go_num, HST.out.symm, b0, b1, b2, hown, hbr⟩
        case measure => simp [intOf]; omega
    · obtain rfl : k = n := by omega
      have hfx : sortI ts = cx := by rw [← HCX.out, HTS.out, ← hlen, List.take_length]; rfl
      have d2 := b2.c0
      have hS := SortI_own v B ts wr (by omega) hown
      have HS := Lib.hid hS
      have HFX := Lib.hid hfx
      obtain ⟨As, cs, rfl, _⟩ := own_form hown
      clear hS hfx HTS
      go_wp2_with fail
      refine HS.out.mono ?_
      rintro e w1 ⟨rfl, hown1, hg1⟩
      replace b0 := b0.kept hg1 (b0.not_row (by decide) hown)
      replace b1 := b1.kept hg1 (b1.not_row (by decide) hown)
      replace b2 := b2.kept hg1 (b2.not_row (by decide) hown)
      have hb1 := hbr.grown hg1 hsz (own_block_le hown)
      have hml : (ts.mergeSort fun x y => decide (x ≤ y)).length = ts.length := List.length_mergeSort _
      have hC := CompactI_own (.slice As ts.length cs) B (ts.mergeSort fun x y => decide (x ≤ y)) w1 (by omega) (by rw [hml]; exact hown1)
      rw [show Lib.compact (ts.mergeSort fun x y => decide (x ≤ y)) = cx from HFX.out] at hC
      have HC := Lib.hid hC
      have hcl : cx.length ≤ 1000 := by have := sortI_len ts; rw [HFX.out] at this; omega
      have hsz1 : B ≤ w1.heap.size := by have := hb1.size; have := HB.out; omega
      replace d2 := b2.c0
      clear hC HFX HS hml hg1 hsz hbr hown
      go_wp2_with fail
      refine HC.out.mono ?_
      rintro e w2 ⟨vI, rfl, hownI, hg2⟩
      obtain ⟨AI, cI, rfl, _⟩ := own_form hownI
      replace b0 := b0.kept hg2 (b0.not_row (by decide) hown1)
      replace b1 := b1.kept hg2 (b1.not_row (by decide) hown1)
      replace b2 := b2.kept hg2 (b2.not_row (by decide) hown1)
      replace hb1 := hb1.grown hg2 hsz1 (own_block_le hown1)
      have hsz2 : B ≤ w2.heap.size := by have := hb1.size; have := HB.out; omega
      have f2 := b2.f0
      replace d2 := b2.c0
      have d3 := b2.c1
      have hsI := IsSet.made Lit.string (w2.setCell ⟨B + 1 + 1, 0, none⟩ (.slice AI cx.length cI)) 53
      have s0 := (b0.other (B' := B + 1 + 1) (o := 0) (by omega) (.slice AI cx.length cI)).alloc (.map #[] 0)
      have s1 := (b1.other (B' := B + 1 + 1) (o := 0) (by omega) (.slice AI cx.length cI)).alloc (.map #[] 0)
      have s2 := (b2.set0 (.slice AI cx.length cI)).alloc (.map #[] 0)
      have hownI2 := (own_set (o := 0) hownI b2 (by decide) (.slice AI cx.length cI)).alloc (.map #[] 0)
      have hbS : Below B w ((w2.setCell ⟨B + 1 + 1, 0, none⟩ (.slice AI cx.length cI)).alloc (.map #[] 0)) := (hb1.setCell (p := ⟨B + 1 + 1, 0, none⟩) (by show B ≤ B + 1 + 1; omega) _).alloc (by simp; omega) _
      have hM : B + 1 + 1 < w2.heap.size := b2.lt
      obtain ⟨M, hM0⟩ : ∃ M, w2.heap.size = M := ⟨_, rfl⟩
      have hMs : (w2.setCell ⟨B + 1 + 1, 0, none⟩ (.slice AI cx.length cI)).heap.size = M := by simpa using hM0
      rw [hMs] at hsI
      rw [hM0] at hM
      have g0 := s2.c0
      have g1 := s2.c1
      have HM := Lib.hid hM0
      obtain ⟨W3, hW3⟩ : ∃ W3, (w2.setCell ⟨B + 1 + 1, 0, none⟩ (.slice AI cx.length cI)).alloc (.map #[] 0) = W3 := ⟨_, rfl⟩
      have HW3 := Lib.hid hW3
      rw [hW3] at hsI s0 s1 s2 hownI2 hbS
      clear hown1 hg2 HC hsz1 hlt hM0 hMs hownI b0 b1 b2 hb1 hsz2 hW3
      go_wp2_with fail
      rw [HW3.out, HM.out]
      clear HW3 HM g0 g1 d2 d3 f2 hmk
      obtain ⟨_, _, he, hrI⟩ := own_form hownI2
      cases he
      have hok3 := HOK.out.later (by rw [HB.out]; exact hbS)
      refine (roots_any AI none cx.length cI 0 0 cx W3 hok3 (by omega) hrI).mono ?_
      rintro e w4 ⟨v4, rfl, hown4, hb4⟩
      obtain ⟨A4, c4, rfl, _⟩ := own_form hown4
      have hrl : (rootsN cx).length ≤ 1000 := by have := rootStep_len cx []; simp at this; unfold rootsN; omega
      have hrn : ∀ x ∈ rootsN cx, x.length ≤ 21 := by
        rw [rootsN_eq]
        intro x hx
        obtain ⟨y, _, rfl⟩ := List.mem_map.1 hx
        exact rootNm_len y
      have HCL2 : Hid ((topsN (ns.filter okN)).filter (fun x => !decide (rootOf x ∈ rootsN cx)) = cl) := HCL.out
      generalize rootsN cx = rs at hown4 hrl hrn HCL2
      have hsI4 := hsI.later hb4
      have hne4 := hsI4.not_row hown4
      have hM4 := hsI4.lt
      replace s0 := s0.later hb4
      replace s1 := s1.later hb4
      replace s2 := s2.later hb4
      have hownI4 := own_later hownI2 hb4
      have hneI := hsI4.not_row hownI4
      have hbW4 : Below B w w4 := hbS.trans (hb4.mono (by have := hbS.size; have := HB.out; omega))
      have HRN := Lib.hid hrn
      clear hsI hb4 hownI2 hbS hok3 hrI hrn HCL
      go_wp2_with fail
      go_loopw [41] (CanR2 w4 M rs) (fun i _ => rs.length - (intOf i).toNat)
      case atStart => exact ⟨0, by omega, rfl, by simpa using hsI4, World.grownBy.refl _ _⟩
      case round =>
        obtain ⟨k2, hk2, rfl, hset, hg⟩ := hrel
        have hownR := hown4.kept hg (.inr hne4.symm)
        obtain ⟨_, _, he, hrR⟩ := own_form hownR
        cases he
        by_cases hlt2 : k2 < rs.length
        · obtain ⟨bx, ox, u, rfl, hb1', hx0, cxr⟩ := hrR.at1 hlt2
          rw [List.getElem?_map] at hx0
          obtain ⟨x, hx, rfl⟩ := Option.map_eq_some_iff.1 hx0
          clear hx0
          unfold encN at cxr
          have hxl := HRN.out x (List.mem_of_getElem? hx)
          have hkey := nameKey x (by omega)
          have htk : (rs.take (k2 + 1)).reverse = x :: (rs.take k2).reverse := by rw [List.take_add_one, hx]; simp
          have HTK := Lib.hid htk
          clear htk hx hxl
          go_wp2_with (at_mapUpdate; refine wpList_set_add _ rfl _ _ _ 103 rfl 53 nameKeyed (fun a b h => by injection h) Tryz.underlying103 M k2 _ rfl hset (by unfold maxLen; omega) _ x rfl rfl hkey trivial ?_; intro w5 hset5 hg5)
          go_roundw
          case rel => exact ⟨k2 + 1, by omega, by go_num, by rw [HTK.out]; exact hset5, hg.trans hg5⟩
          case measure => simp [intOf]; omega
        · obtain rfl : k2 = rs.length := by omega
          rw [List.take_length] at hset
          replace s0 := s0.kept hg (fun e => by injection e with e; omega)
          replace s1 := s1.kept hg (fun e => by injection e with e; omega)
          replace s2 := s2.kept hg (fun e => by injection e with e; omega)
          have hownI5 := hownI4.kept hg (.inr hneI.symm)
          have hsz4 : B ≤ w4.heap.size := by have := hbW4.size; have := HB.out; omega
          have hbW5 : Below B w wr := hbW4.grown hg hsz4 (fun k hk => by injection hk with hk; omega)
          have hsz5 : B ≤ wr.heap.size := by have := hbW5.size; have := HB.out; omega
          have p1 := s0.c1
          clear hownR hrR hg hne4 hsI4 hM4 hownI4 hneI hbW4 HRN hown4 hlt2
          obtain ⟨W5, hW5⟩ : ∃ W5, W5 = wr := ⟨_, rfl⟩
          subst hW5
          go_wp2_with fail
          go_loopw [9, 51] (CanR3 W5 m ns) (fun _ i _ => m - (intOf i).toNat)
          case atStart => exact ⟨0, [], by omega, rfl, by simp, World.ownsRow_nil _ _ _ _, Below.refl _ _⟩
          case round =>
            obtain ⟨k3, ts3, hk3, rfl, hts3, hown3, hbr3⟩ := hrel
            have htl3 : ts3.length ≤ k3 := by rw [hts3]; exact filter_take_len _ _ _
            have HTS3 := Lib.hid hts3
            have hsz3 := hbr3.size
            have hbR := hbW5.trans (hbr3.mono hsz5)
            clear hts3
            by_cases hlt3 : k3 < m
            · obtain ⟨bx, ox, u, rfl, hb1', hx0, cx0⟩ := hr2.at1 hlt3
              rw [List.getElem?_map] at hx0
              obtain ⟨x, hx, rfl⟩ := Option.map_eq_some_iff.1 hx0
              clear hx0
              obtain ⟨s, rfl⟩ : ∃ s : ByteArray, x = s.data.toList := ⟨⟨x.toArray⟩, rfl⟩
              have cxr := (hbR.cell (p := ⟨bx, ox + k3, none⟩) hb1').trans cx0
              rw [encN_eq] at cxr
              have hstep := filter_take_succ okN ns k3 _ hx
              have hxl := HNS.out _ (List.mem_of_getElem? hx)
              have hxz : s.size ≤ 9223372036854775000 := by
                have := size_nm s
                omega
              have HXZ := Lib.hid hxz
              clear hx cx0 hxl hxz
              by_cases hx0 : s.data.toList = []
              · rw [if_neg (by simp [okN, hx0]), ← HTS3.out, List.append_nil] at hstep
                have HST := Lib.hid hstep
                have hem := isEmpty_of_nil hx0
                clear hstep hx0
                go_wp2_with fail
                go_roundw
                case rel => exact ⟨k3 + 1, ts3, by omega, by go_num, HST.out.symm, hown3, hbr3⟩
                case measure => simp [intOf]; omega
              · have hne := isEmpty_of_ne hx0
                have hV := fun W => Valid_any s W HXZ.out
                cases hvb : validB s.data.toList with
                | true =>
                  rw [hvb] at hV
                  rw [if_pos (by simp [okN, hx0, hvb]), ← HTS3.out] at hstep
                  have HST := Lib.hid hstep
                  have HV := Lib.hid hV
                  clear hstep hV hvb hx0
                  go_wp2_with fail
                  refine (HV.out _).mono ?_
                  rintro e w7 ⟨rfl, hb7⟩
                  have hown7 := own_later hown3 hb7
                  have hb8 := hbr3.trans (hb7.mono hsz3)
                  have hsz8 := hb8.size
                  go_wp2_with (at_builtin; refine wpList_append_own _ rfl _ _ 38 rfl W5.heap.size 53 i1 (.string ⟨#[]⟩) 1 16 Tryz.underlying38 hi1 hy0 hy1 hy2 rfl (by decide) _ _ _ rfl (hown7.alloc _) ⟨w7.heap.size, 0, none⟩ 1 1 [.string s] rfl rfl (cell_one_new _ _ _) (by simp [Value.oneCell']) (by unfold maxLen; omega) (by omega) (by simp; omega) ?_; intro v' w8 hown' hgrow _; have R := Lib.hid (own_step hown7 hb8 hgrow); clear hgrow)
                  go_roundw
                  case rel => exact ⟨k3 + 1, ts3 ++ [s.data.toList], by omega, by go_num, HST.out.symm, by rw [List.map_append, List.length_append]; exact hown', R.out⟩
                  case measure => simp [intOf]; omega
                | false =>
                  rw [hvb] at hV
                  rw [if_neg (by simp [okN, hvb]), ← HTS3.out, List.append_nil] at hstep
                  have HST := Lib.hid hstep
                  have HV := Lib.hid hV
                  clear hstep hV hvb hx0
                  go_wp2_with fail
                  refine (HV.out _).mono ?_
                  rintro e w7 ⟨rfl, hb7⟩
                  have hown7 := own_later hown3 hb7
                  have hb8 := hbr3.trans (hb7.mono hsz3)
                  go_wp2_with fail
                  go_roundw
                  case rel => exact ⟨k3 + 1, ts3, by omega, by go_num, HST.out.symm, hown7, hb8⟩
                  case measure => simp [intOf]; omega
            · obtain rfl : k3 = m := by omega
              have hts : ts3 = ns.filter okN := by rw [HTS3.out, ← hlen2, List.take_length]
              have hvv : ∀ x ∈ ts3, validB x = true := by
                intro x hx
                rw [hts] at hx
                have := (List.mem_filter.1 hx).2
                simp [okN] at this
                exact this.2
              obtain ⟨A6, c6, rfl, hr6⟩ := own_form hown3
              have hT := Tops_valid A6 ts3.length c6 wr.heap.size ts3 wr (by omega) hr6 hvv
              have htpl := topsN_len ts3
              have htv : ∀ x ∈ topsN ts3, validB x = true := by
                intro x hx
                rcases topStep_foldl_mem (sortN ts3) [] x hx with h | h
                · simp at h
                · exact sortN_valid hvv x h
              rw [← hts] at HCL2
              generalize topsN ts3 = tp at hT htpl htv HCL2
              have HT := Lib.hid hT
              have HTV := Lib.hid htv
              replace s0 := s0.later hbr3
              replace s1 := s1.later hbr3
              replace s2 := s2.later hbr3
              replace hset := hset.later hbr3
              have hownI6 := own_later hownI5 hbr3
              clear hT hts hvv hr6 htv HTS3 hown3 hownI5 hbr3 hsz3 hlt3
              go_wp2_with fail
              refine HT.out.mono ?_
              rintro e W6 ⟨v6, rfl, hown6, hb6⟩
              obtain ⟨A7, c7, rfl, hr7⟩ := own_form hown6
              replace s0 := s0.later hb6
              replace s1 := s1.later hb6
              replace s2 := s2.later hb6
              replace hset := hset.later hb6
              replace hownI6 := own_later hownI6 hb6
              have hbW6 := hbR.trans (hb6.mono (by have := hbR.size; have := HB.out; omega))
              clear hb6 hbR hbW5
              have hne6 := s2.not_row (by decide) hown6
              have hneI6 := s2.not_row (by decide) hownI6
              have hset6 := hset.not_box s2
              have hsz6 : B ≤ W6.heap.size := by have := hbW6.size; have := HB.out; omega
              go_wp2_with fail
              go_loopw [69] (CanR4 W6 (B + 1 + 1) (.slice AI cx.length cI) rs tp) (fun i _ => tp.length - (intOf i).toNat)
              case atStart => exact ⟨0, _, [], by omega, rfl, by simp, s2, World.ownsRow_nil _ _ _ _, World.grownBy.refl _ _⟩
              case round =>
                obtain ⟨k4, v4, ts4, hk4, rfl, hts4, q2, hown8, hg8⟩ := hrel
                have htl4 : ts4.length ≤ k4 := by rw [hts4]; exact filter_take_len _ _ _
                have HTS4 := Lib.hid hts4
                have hsz8 := hg8.size
                have hbR8 := hbW6.grown hg8 hsz6 (fun k hk => by injection hk with hk; omega)
                have hown6' := hown6.kept hg8 (.inr hne6.symm)
                obtain ⟨_, _, he, hr8⟩ := own_form hown6'
                cases he
                have hset8 := hset.kept hg8 (fun e => by injection e with e; exact hset6 e)
                have hok8 := HOK.out.later (by rw [HB.out]; exact hbR8)
                clear hts4
                by_cases hlt4 : k4 < tp.length
                · obtain ⟨bx, ox, u, rfl, hb1', hx0, cxr⟩ := hr8.at1 hlt4
                  rw [List.getElem?_map] at hx0
                  obtain ⟨x, hx, rfl⟩ := Option.map_eq_some_iff.1 hx0
                  clear hx0
                  obtain ⟨s, rfl⟩ : ∃ s : ByteArray, x = s.data.toList := ⟨⟨x.toArray⟩, rfl⟩
                  rw [encN_eq] at cxr
                  have hstep := filter_take_succ (fun x => !decide (rootOf x ∈ rs)) tp k4 _ hx
                  have hxl := valid_len (HTV.out _ (List.mem_of_getElem? hx))
                  have hxz : s.size ≤ 4294967280 := by
                    have := size_nm s
                    omega
                  have hRt := Root44_any s wr hok8 hxz
                  have hrtl : (rootOf s.data.toList).length ≤ 100 := by have := rootOf_len s.data.toList; omega
                  have hkey := nameKey (rootOf s.data.toList) (by omega)
                  have HRT := Lib.hid hRt
                  clear hx hxl hxz hRt hok8
                  go_wp2_with fail
                  refine HRT.out.mono ?_
                  rintro e w9 ⟨rfl, hb9⟩
                  have hset9 := hset8.later hb9
                  have hlook := hset9.look nameKeyed Tryz.underlying103 hkey
                  have hown9 := own_later hown8 hb9
                  have q9 := q2.later hb9
                  have hg9 := grown_later hg8 hb9
                  have hsz9 := hg9.size
                  have f9 := q9.f1
                  have d9 := q9.c1
                  unfold encN
                  by_cases hin : rootOf s.data.toList ∈ rs
                  · simp only [List.mem_reverse, hin, decide_true] at hlook
                    rw [if_neg (by simp [hin]), ← HTS4.out, List.append_nil] at hstep
                    have HST := Lib.hid hstep
                    clear hstep hin
                    go_wp2_with fail
                    go_roundw
                    case rel => exact ⟨k4 + 1, v4, ts4, by omega, by go_num, HST.out.symm, q9, hown9, hg9⟩
                    case measure => simp [intOf]; omega
                  · simp only [List.mem_reverse, hin, decide_false] at hlook
                    rw [if_pos (by simp [hin]), ← HTS4.out] at hstep
                    have HST := Lib.hid hstep
                    clear hstep hin
                    go_wp2_with (at_builtin; refine wpList_append_own _ rfl _ _ 38 rfl W6.heap.size 53 i1 (.string ⟨#[]⟩) 1 16 Tryz.underlying38 hi1 hy0 hy1 hy2 rfl (by decide) _ _ _ rfl (hown9.alloc _) ⟨w9.heap.size, 0, none⟩ 1 1 [.string s] rfl rfl (cell_one_new _ _ _) (by simp [Value.oneCell']) (by unfold maxLen; omega) (by omega) (by simp; omega) ?_; intro v' w10 hown' hgrow _; obtain ⟨g', cap', rfl⟩ := ownsRow_succ hown'; have R := Lib.hid (can_step4 q9 hown9 hg9 hown' hgrow); have e10 := R.out.1.c1; have e11 := R.out.1.f1; clear hgrow)
                    go_roundw
                    case rel => exact ⟨k4 + 1, _, ts4 ++ [s.data.toList], by omega, by go_num, HST.out.symm, R.out.2.1, by rw [List.map_append, List.length_append]; exact R.out.2.2.1, R.out.2.2.2⟩
                    case measure => simp [intOf]; omega
                · obtain rfl : k4 = tp.length := by omega
                  have hcl4 : ts4 = cl := by rw [HTS4.out, List.take_length]; exact HCL2.out
                  obtain ⟨A9, c9, rfl, _⟩ := own_form hown8
                  have z0 := q2.c0
                  have z1 := q2.c1
                  have r1 := s1.kept hg8 (fun e => by injection e with e; omega)
                  have y0 := r1.f0
                  have y1 := r1.f1
                  have x0 := r1.c0
                  have x1 := r1.c1
                  have hownI9 := hownI6.kept hg8 (.inr hneI6.symm)
                  have HCL4 := Lib.hid hcl4
                  clear hcl4
                  go_wp2_with fail
                  have r2 := (r1.set0 (.slice AI cx.length cI)).set1 (.slice A9 ts4.length c9)
                  have t0 := r2.c0
                  have t1 := r2.c1
                  have hoI := own_set (o := 1) (own_set (o := 0) hownI9 r1 (by decide) (.slice AI cx.length cI)) (r1.set0 _) (by decide) (.slice A9 ts4.length c9)
                  have hoL := own_base (own_set (o := 1) (own_set (o := 0) hown8 r1 (by decide) (.slice AI cx.length cI)) (r1.set0 _) (by decide) (.slice A9 ts4.length c9)) hsz6
                  have hbF := (hbR8.setCell (p := ⟨B + 1, 0, none⟩) (by show B ≤ B + 1; omega) (.slice AI cx.length cI)).setCell (p := ⟨B + 1, 1, none⟩) (by show B ≤ B + 1; omega) (.slice A9 ts4.length c9)
                  rw [← HCL4.out]
                  exact bodyPost_ret (v := .agg #[.slice AI cx.length cI, .slice A9 ts4.length c9]) (by simp [results, Tryz.f41, go_sem, t0, t1]) rfl ⟨_, _, rfl, hoI, hoL, hbF⟩

end Go.Proofs.YtnibcffcbnjllaaGreatDoor
