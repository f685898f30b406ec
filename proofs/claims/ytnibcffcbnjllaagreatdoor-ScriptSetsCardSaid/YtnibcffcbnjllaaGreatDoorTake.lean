/- (Script).Input in one, Take. -/
import Derived.Test.YtnibcffcbnjllaaGreatDoorCov2
import Derived.Test.YtnibcffcbnjllaaGreatDoorPlain5
namespace Go.Proofs.YtnibcffcbnjllaaGreatDoor
open Go.RowKit Go.Sort

/-- Whether a script has an input with a number. -/
def inS (S : Scr) (num : Int) : Bool := decide (S.before < num) && decide ((num - S.before - 1).toNat < S.inputs.length)
def inputOf (S : Scr) (num : Int) : Tmd := if inS S num then (S.inputs[(num - S.before - 1).toNat]?).getD tmdZero else tmdZero

theorem Input_any (S : Scr) (A A' : Option Addr) (n m c d : Nat) (num : Int) (w : World) (hS : ScrAt w w.heap.size A A' n m S) (h1 : I64 num) (h2 : I64 S.before) :
    Calls Tryz.prog 10 #[scrVal S A A' n m c d, .int .i64 num] w fun e w' => e = .returned (.tuple #[.agg (tmdCells (inputOf S num)).toArray, .bool (inS S num)]) ∧ Below w.heap.size w w' := by
  by_cases hlt : S.before < num
  · by_cases hk : (num - S.before - 1).toNat < S.inputs.length
    · have e1 : inS S num = true := by unfold inS; rw [decide_eq_true hlt, decide_eq_true hk]; rfl
      have e2 : inputOf S num = S.inputs[(num - S.before - 1).toNat] := by unfold inputOf; rw [if_pos e1, List.getElem?_eq_getElem hk]; rfl
      rw [e1, e2]
      exact Input_in S A A' n m c d num _ w hS h1 h2 hlt (List.getElem?_eq_getElem hk)
    · have e1 : inS S num = false := by unfold inS; rw [decide_eq_false hk, Bool.and_false]
      have e2 : inputOf S num = tmdZero := by unfold inputOf; rw [if_neg (by rw [e1]; simp)]
      rw [e1, e2]
      exact Input_out S A A' n m c d num w hS h1 h2 (.inr (by omega))
  · have e1 : inS S num = false := by simp [inS, hlt]
    have e2 : inputOf S num = tmdZero := by unfold inputOf; rw [if_neg (by rw [e1]; simp)]
    rw [e1, e2]
    exact Input_out S A A' n m c d num w hS h1 h2 (.inl (by omega))

/-- The cells of a timed input, written out. -/
theorem tmd_form (t : Tmd) : ∃ (a b c : Int) (x y z : ByteArray), tmdCells t = [.int .i64 a, .int .i64 b, .int .i64 c, .string x, .string y, .string z] := ⟨_, _, _, ⟨t.inp.frm.toArray⟩, ⟨t.inp.dst.toArray⟩, ⟨t.inp.txt.toArray⟩, rfl⟩

def TakeR (w : World) (B : Nat) (cs : Array Value) (sL : Value) (n : Nat) (S : Scr) (l : List Int) (i : Value) (wr : World) : Prop :=
  ∃ k v ts, k ≤ n ∧ i = .int .i64 (k : Int) ∧ ts = (l.take k).filter (inS S) ∧ BoxN wr B 25 cs ∧ Box2 wr (B + 1) 47 (.slice none 0 0) (.slice none 0 0) ∧ Box2 wr (B + 1 + 1) 47 v sL ∧
    wr.ownsRow B 3 1 v ts.length (ts.map encI) ∧ Below B w wr

/-- Behind 'w.Inputs = append(w.Inputs, n)'. -/
theorem take_step {w W w1 : World} {B e n m : Nat} {cs : Array Value} {u v v' : Value} {xs ys : List Value} {tmp : Obj} {t t' : TypeId} (b0 : BoxN W B t' cs) (b1 : Box2 W (B + 1) t (.slice none 0 0) (.slice none 0 0)) (b2 : Box2 W (B + 1 + 1) t v u) (hown : W.ownsRow B e 1 v n xs)
    (hbr : Below B w W) (hsz : B ≤ W.heap.size) (hown' : w1.ownsRow B e 1 v' m ys) (hgrow : (W.alloc tmp).grownBy w1 v.ownBlock) (hte : t ≠ e := by decide) (hte' : t' ≠ e := by decide) :
    BoxN (w1.setCell ⟨B + 1 + 1, 0, none⟩ v') B t' cs ∧ Box2 (w1.setCell ⟨B + 1 + 1, 0, none⟩ v') (B + 1) t (.slice none 0 0) (.slice none 0 0) ∧ Box2 (w1.setCell ⟨B + 1 + 1, 0, none⟩ v') (B + 1 + 1) t v' u ∧
      (w1.setCell ⟨B + 1 + 1, 0, none⟩ v').ownsRow B e 1 v' m ys ∧ Below B w (w1.setCell ⟨B + 1 + 1, 0, none⟩ v') ∧ Box2 w1 (B + 1 + 1) t v u := by
  have c0 := (b0.alloc tmp).kept hgrow (b0.not_row hte' hown)
  have c1 := (b1.alloc tmp).kept hgrow (b1.not_row hte hown)
  have c2 := (b2.alloc tmp).kept hgrow (b2.not_row hte hown)
  refine ⟨c0.other (by omega) _, c1.other (by omega) _, c2.set0 _, own_set hown' c2 hte _, ?_, c2⟩
  exact ((hbr.alloc hsz tmp).grown hgrow (by simp; omega) (own_block_le hown)).setCell (p := ⟨B + 1 + 1, 0, none⟩) (by show B ≤ B + 1 + 1; omega) _

set_option maxRecDepth 100000 in
set_option maxHeartbeats 4000000 in
theorem Take_any (S : Scr) (As As' : Option Addr) (sn sm sc sd : Nat) (A A' : Option Addr) (n c m d : Nat) (xs : List Int) (ns : List Nm) (w : World) (hok : Ok w) (hS : ScrAt w w.heap.size As As' sn sm S) (hbf : I64 S.before) (hxs : ∀ x ∈ xs, I64 x) (hn : n ≤ 1000) (hm : m ≤ 1000) (hns : ∀ x ∈ ns, x.length ≤ 1000) (hr : Row w w.heap.size 1 A n (xs.map encI)) (hr2 : Row w w.heap.size 1 A' m (ns.map encN)) :
    Calls Tryz.prog 17 #[scrVal S As As' sn sm sc sd, .slice A n c, .slice A' m d] w fun e w' => ∃ v1 v2, e = .returned (.agg #[v1, v2]) ∧
      w'.ownsRow w.heap.size 3 1 v1 (canI (xs.filter (inS S))).length ((canI (xs.filter (inS S))).map encI) ∧ w'.ownsRow w.heap.size 53 1 v2 (canL (canI (xs.filter (inS S))) ns).length ((canL (canI (xs.filter (inS S))) ns).map encN) ∧ Below w.heap.size w w' := by
  obtain ⟨i0, hi, hz0, hz1, hz2⟩ := info_parts Tryz.infoInt
  have hlen : xs.length = n := by simpa using hr.1
  obtain ⟨fx, hfx⟩ : ∃ fx, xs.filter (inS S) = fx := ⟨_, rfl⟩
  rw [hfx]
  obtain ⟨cx, hcx⟩ : ∃ cx, canI fx = cx := ⟨_, rfl⟩
  obtain ⟨cl, hcl⟩ : ∃ cl, canL cx ns = cl := ⟨_, rfl⟩
  rw [hcx, hcl]
  have HCX := Lib.hid hcx
  have HCL := Lib.hid hcl
  clear hcx hcl
  obtain ⟨B, hB⟩ : ∃ B, w.heap.size = B := ⟨_, rfl⟩
  have b0 := ((BoxN.new w 25 #[.int .i64 S.lo, .int .i64 S.hi, .int .i64 S.before, .slice As sn sc, .slice As' sm sd]).alloc (.cells #[.slice none 0 0, .slice none 0 0] 47)).alloc (.cells #[.slice none 0 0, .slice A' m d] 47)
  have b1 := (Box2.new (w.alloc (.cells #[.int .i64 S.lo, .int .i64 S.hi, .int .i64 S.before, .slice As sn sc, .slice As' sm sd] 25)) 47 (.slice none 0 0) (.slice none 0 0)).alloc (.cells #[.slice none 0 0, .slice A' m d] 47)
  have b2 := Box2.new ((w.alloc (.cells #[.int .i64 S.lo, .int .i64 S.hi, .int .i64 S.before, .slice As sn sc, .slice As' sm sd] 25)).alloc (.cells #[.slice none 0 0, .slice none 0 0] 47)) 47 (.slice none 0 0) (.slice A' m d)
  have hB0 : Below w.heap.size w (((w.alloc (.cells #[.int .i64 S.lo, .int .i64 S.hi, .int .i64 S.before, .slice As sn sc, .slice As' sm sd] 25)).alloc (.cells #[.slice none 0 0, .slice none 0 0] 47)).alloc (.cells #[.slice none 0 0, .slice A' m d] 47)) :=
    (((Below.refl _ w).alloc (Nat.le_refl _) _).alloc (by simp) _).alloc (by simp; omega) _
  simp only [World.size_alloc] at b1 b2
  obtain ⟨W0, hW0⟩ : ∃ W0, ((w.alloc (.cells #[.int .i64 S.lo, .int .i64 S.hi, .int .i64 S.before, .slice As sn sc, .slice As' sm sd] 25)).alloc (.cells #[.slice none 0 0, .slice none 0 0] 47)).alloc (.cells #[.slice none 0 0, .slice A' m d] 47) = W0 := ⟨_, rfl⟩
  rw [hW0] at b0 b1 b2 hB0
  have HIN := Lib.hid (fun (W : World) (hb : Below w.heap.size w W) (x : Int) (hx : x ∈ xs) => Input_any S As As' sn sm sc sd x W ((hS.below hb).more hb.size) (hxs x hx) hbf)
  have HCAN := Lib.hid (fun (W : World) (hb : Below w.heap.size w W) (A1 : Option Addr) (n1 c1 : Nat) (fx : List Int) (hn1 : n1 ≤ 1000) (hr1 : Row W W.heap.size 1 A1 n1 (fx.map encI)) => canonical_any A1 A' n1 c1 m d fx ns W (hok.later hb) hn1 hm hns hr1 ((hr2.below hb).more hb.size))
  rw [hB] at b0 b1 b2 hB0 hr HIN HCAN ⊢
  have HW := Lib.hid hW0
  have HB := Lib.hid hB
  have HFX := Lib.hid hfx
  clear hW0 hB hok hS hbf hxs hns hr2 hfx
  unfold scrVal at HIN ⊢
  go_enter Tryz.func17, Tryz.ntmps17
  go_wp2_with fail
  rw [HW.out, HB.out]
  go_loopw [16] (TakeR w B #[.int .i64 S.lo, .int .i64 S.hi, .int .i64 S.before, .slice As sn sc, .slice As' sm sd] (.slice A' m d) n S xs) (fun i _ => n - (intOf i).toNat)
  case atStart => exact ⟨0, _, [], by omega, rfl, by simp, b0, b1, b2, World.ownsRow_nil _ _ _ _, hB0⟩
  case round =>
    obtain ⟨k, v, ts, hk, rfl, hts, b0, b1, b2, hown, hbr⟩ := hrel
    have htl : ts.length ≤ k := by rw [hts]; exact filter_take_len _ _ _
    have HTS := Lib.hid hts
    have hsz : B ≤ wr.heap.size := by have := hbr.size; have := HB.out; omega
    clear hts
    by_cases hlt : k < n
    · obtain ⟨bx, ox, u, rfl, hb1', hx0, cx⟩ := hr.at1 hlt
      rw [List.getElem?_map] at hx0
      obtain ⟨x, hx, rfl⟩ := Option.map_eq_some_iff.1 hx0
      clear hx0
      have cxr := (hbr.cell (p := ⟨bx, ox + k, none⟩) hb1').trans cx
      unfold encI at cxr
      have hstep := filter_take_succ (inS S) xs k x hx
      have hIn := HIN.out wr hbr x (List.mem_of_getElem? hx)
      have k0 := b0.c 0
      have k1 := b0.c 1
      have k2 := b0.c 2
      have k3 := b0.c 3
      have k4 := b0.c 4
      simp only [List.getElem?_toArray, List.getElem?_cons_zero, List.getElem?_cons_succ] at k0 k1 k2 k3 k4
      obtain ⟨t1, t2, t3, s1, s2, s3, htm⟩ := tmd_form (inputOf S x)
      rw [htm] at hIn
      clear htm
      cases hin : inS S x with
      | true =>
        rw [hin] at hIn
        rw [if_pos hin, ← HTS.out] at hstep
        have HST := Lib.hid hstep
        have HI := Lib.hid hIn
        clear hstep hIn hin hx cx
        go_wp2_with fail
        refine HI.out.mono ?_
        rintro e w1 ⟨rfl, hb1⟩
        replace b0 := (b0.later hb1).alloc (.cells #[.int .i64 t1, .int .i64 t2, .int .i64 t3, .string s1, .string s2, .string s3] 33)
        replace b1 := (b1.later hb1).alloc (.cells #[.int .i64 t1, .int .i64 t2, .int .i64 t3, .string s1, .string s2, .string s3] 33)
        replace b2 := (b2.later hb1).alloc (.cells #[.int .i64 t1, .int .i64 t2, .int .i64 t3, .string s1, .string s2, .string s3] 33)
        replace hown := (own_later hown hb1).alloc (.cells #[.int .i64 t1, .int .i64 t2, .int .i64 t3, .string s1, .string s2, .string s3] 33)
        replace hbr := (hbr.trans (hb1.mono hsz)).alloc (by have := hb1.size; omega) (.cells #[.int .i64 t1, .int .i64 t2, .int .i64 t3, .string s1, .string s2, .string s3] 33)
        have d2 := b2.c0
        have hsz1 : B ≤ (w1.alloc (.cells #[.int .i64 t1, .int .i64 t2, .int .i64 t3, .string s1, .string s2, .string s3] 33)).heap.size := by have := hb1.size; simp; omega
        go_wp2_with (at_builtin; refine wpList_append_own _ rfl _ _ 36 rfl B 3 i0 (.int .i64 0) 1 8 Tryz.underlying36 hi hz0 hz1 hz2 rfl (by decide) _ _ _ rfl (hown.alloc _) ⟨w1.heap.size + 1, 0, none⟩ 1 1 [.int .i64 x] rfl rfl (by simpa using cell_one_new (w1.alloc (.cells #[.int .i64 t1, .int .i64 t2, .int .i64 t3, .string s1, .string s2, .string s3] 33)) _ _) (by simp [Value.oneCell']) (by unfold maxLen; omega) (by omega) (by simp at hsz1 ⊢; omega) ?_; intro v' w3 hown' hgrow _; obtain ⟨g', cap', rfl⟩ := ownsRow_succ hown'; have R := Lib.hid (take_step b0 b1 b2 hown hbr hsz1 hown' hgrow); have e2 := R.out.2.2.2.2.2.f0; have e3 := R.out.2.2.2.2.2.c0; clear hgrow)
        go_roundw
        case rel => exact ⟨k + 1, _, ts ++ [x], by omega, by go_num, HST.out.symm, R.out.1, R.out.2.1, R.out.2.2.1, by rw [List.map_append, List.length_append]; exact R.out.2.2.2.1, R.out.2.2.2.2.1⟩
        case measure => simp [intOf]; omega
      | false =>
        rw [hin] at hIn
        rw [if_neg (by rw [hin]; simp), ← HTS.out, List.append_nil] at hstep
        have HST := Lib.hid hstep
        have HI := Lib.hid hIn
        clear hstep hIn hin hx cx
        go_wp2_with fail
        refine HI.out.mono ?_
        rintro e w1 ⟨rfl, hb1⟩
        go_wp2_with fail
        go_roundw
        case rel => exact ⟨k + 1, v, ts, by omega, by go_num, HST.out.symm, (b0.later hb1).alloc _, (b1.later hb1).alloc _, (b2.later hb1).alloc _, (own_later hown hb1).alloc _, (hbr.trans (hb1.mono hsz)).alloc (by have := hb1.size; omega) _⟩
        case measure => simp [intOf]; omega
    · obtain rfl : k = n := by omega
      have hte : ts = fx := by rw [HTS.out, ← HFX.out, ← hlen, List.take_length]
      subst hte
      obtain ⟨A1, c1, rfl, hr1⟩ := own_form hown
      have hC := HCAN.out wr hbr A1 ts.length c1 ts (by omega) hr1
      rw [HCX.out, HCL.out] at hC
      have HC := Lib.hid hC
      have d2 := b2.c0
      have d3 := b2.c1
      clear hC HTS HFX hr1 HIN HCX HCL
      go_wp2_with fail
      refine HC.out.mono ?_
      rintro e w1 ⟨v1, v2, rfl, ho1, ho2, hb1⟩
      obtain ⟨A3, c3, rfl, _⟩ := own_form ho1
      obtain ⟨A4, c4, rfl, _⟩ := own_form ho2
      have r1 := b1.later hb1
      have y0 := r1.f0
      have y1 := r1.f1
      have x0 := r1.c0
      have x1 := r1.c1
      go_wp2_with fail
      have r2 := (r1.set0 (.slice A3 cx.length c3)).set1 (.slice A4 cl.length c4)
      have t0 := r2.c0
      have t1 := r2.c1
      have hoI := own_base (own_set (o := 1) (own_set (o := 0) ho1 r1 (by decide) (.slice A3 cx.length c3)) (r1.set0 _) (by decide) (.slice A4 cl.length c4)) hsz
      have hoL := own_base (own_set (o := 1) (own_set (o := 0) ho2 r1 (by decide) (.slice A3 cx.length c3)) (r1.set0 _) (by decide) (.slice A4 cl.length c4)) hsz
      have hbF := ((hbr.trans (hb1.mono hsz)).setCell (p := ⟨B + 1, 0, none⟩) (by show B ≤ B + 1; omega) (.slice A3 cx.length c3)).setCell (p := ⟨B + 1, 1, none⟩) (by show B ≤ B + 1; omega) (.slice A4 cl.length c4)
      exact bodyPost_ret (v := .agg #[.slice A3 cx.length c3, .slice A4 cl.length c4]) (by simp [results, Tryz.f17, go_sem, t0, t1]) rfl ⟨_, _, rfl, hoI, hoL, hbF⟩

end Go.Proofs.YtnibcffcbnjllaaGreatDoor
