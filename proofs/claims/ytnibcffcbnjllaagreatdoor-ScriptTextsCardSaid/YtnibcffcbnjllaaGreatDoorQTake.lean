/- (Script).Input in one, Take. -/
import Derived.Test.YtnibcffcbnjllaaGreatDoorQCov2
import Derived.Test.YtnibcffcbnjllaaGreatDoorQPlain4
namespace Go.Proofs.YtnibcffcbnjllaaGreatDoor
open Go.RowKit Go.Sort

/-- Whether a script has an input with a number. -/
def inS (S : Scr) (num : Int) : Bool := decide (S.before < num) && decide ((num - S.before - 1).toNat < S.inputs.length)
def inputOf (S : Scr) (num : Int) : Tmd := if inS S num then (S.inputs[(num - S.before - 1).toNat]?).getD tmdZero else tmdZero

theorem Input_any (S : Scr) (A A' : Option Addr) (n m c d : Nat) (num : Int) (w : World) (hS : ScrAt w w.heap.size A A' n m S) (h1 : I64 num) (h2 : I64 S.before) :
    Calls Tryz.prog 10 #[scrVal S A A' n m c d, .int .i64 num] w fun e w' => e = .returned (.tuple #[.agg (tmdCells (inputOf S num)).toArray, .bool (inS S num)]) ∧ Below w.heap.size w w' := by
  by_cases hlt : S.before < num
  · by_cases hk : (num - S.before - 1).toNat < S.inputs.length
    · have e1 : inS S num = true := by unfold inS; rw [decide_eq_true hlt, decide_eq_true hk]; rfl
      have e2 : inputOf S num = S.inputs[(num - S.before - 1).toNat] := by unfold inputOf; rw [if_pos e1, List.getElem?_eq_getElem hk]; rfl
      rw [e1, e2]
      exact Input_in S A A' n m c d num _ w hS h1 h2 hlt (List.getElem?_eq_getElem hk)
    · have e1 : inS S num = false := by unfold inS; rw [decide_eq_false hk, Bool.and_false]
      have e2 : inputOf S num = tmdZero := by unfold inputOf; rw [if_neg (by rw [e1]; simp)]
      rw [e1, e2]
      exact Input_out S A A' n m c d num w hS h1 h2 (.inr (by omega))
  · have e1 : inS S num = false := by simp [inS, hlt]
    have e2 : inputOf S num = tmdZero := by unfold inputOf; rw [if_neg (by rw [e1]; simp)]
    rw [e1, e2]
    exact Input_out S A A' n m c d num w hS h1 h2 (.inl (by omega))

/-- The cells of a timed input, written out. -/
theorem tmd_form (t : Tmd) : ∃ (a b c : Int) (x y z : ByteArray), tmdCells t = [.int .i64 a, .int .i64 b, .int .i64 c, .string x, .string y, .string z] := ⟨_, _, _, ⟨t.inp.frm.toArray⟩, ⟨t.inp.dst.toArray⟩, ⟨t.inp.txt.toArray⟩, rfl⟩

def TakeR (w : World) (B : Nat) (cs : Array Value) (sL : Value) (n : Nat) (S : Scr) (l : List Int) (i : Value) (wr : World) : Prop :=
  ∃ k v ts, k ≤ n ∧ i = .int .i64 (k : Int) ∧ ts = (l.take k).filter (inS S) ∧ BoxN wr B 25 cs ∧ Box2 wr (B + 1) 47 (.slice none 0 0) (.slice none 0 0) ∧ Box2 wr (B + 1 + 1) 47 v sL ∧
    wr.ownsRow B 3 1 v ts.length (ts.map encI) ∧ Below B w wr

/-- Behind 'w.Inputs = append(w.Inputs, n)'. -/
theorem take_step {w W w1 : World} {B e n m : Nat} {cs : Array Value} {u v v' : Value} {xs ys : List Value} {tmp : Obj} {t t' : TypeId} (b0 : BoxN W B t' cs) (b1 : Box2 W (B + 1) t (.slice none 0 0) (.slice none 0 0)) (b2 : Box2 W (B + 1 + 1) t v u) (hown : W.ownsRow B e 1 v n xs)
    (hbr : Below B w W) (hsz : B ≤ W.heap.size) (hown' : w1.ownsRow B e 1 v' m ys) (hgrow : (W.alloc tmp).grownBy w1 v.ownBlock) (hte : t ≠ e := by decide) (hte' : t' ≠ e := by decide) :
    BoxN (w1.setCell ⟨B + 1 + 1, 0, none⟩ v') B t' cs ∧ Box2 (w1.setCell ⟨B + 1 + 1, 0, none⟩ v') (B + 1) t (.slice none 0 0) (.slice none 0 0) ∧ Box2 (w1.setCell ⟨B + 1 + 1, 0, none⟩ v') (B + 1 + 1) t v' u ∧
      (w1.setCell ⟨B + 1 + 1, 0, none⟩ v').ownsRow B e 1 v' m ys ∧ Below B w (w1.setCell ⟨B + 1 + 1, 0, none⟩ v') ∧ Box2 w1 (B + 1 + 1) t v u := by
  have c0 := (b0.alloc tmp).kept hgrow (b0.not_row hte' hown)
  have c1 := (b1.alloc tmp).kept hgrow (b1.not_row hte hown)
  have c2 := (b2.alloc tmp).kept hgrow (b2.not_row hte hown)
  refine ⟨c0.other (by omega) _, c1.other (by omega) _, c2.set0 _, own_set hown' c2 hte _, ?_, c2⟩
  exact ((hbr.alloc hsz tmp).grown hgrow (by simp; omega) (own_block_le hown)).setCell (p := ⟨B + 1 + 1, 0, none⟩) (by show B ≤ B + 1 + 1; omega) _

set_option maxRecDepth 100000 in
set_option maxHeartbeats 4000000 in
theorem Take_any (S : Scr) (As As' : Option Addr) (sn sm sc sd : Nat) (A A' : Option Addr) (n c m d : Nat) (xs : List Int) (ns : List Nm) (w : World) (hok : Ok w) (hS : ScrAt w w.heap.size As As' sn sm S) (hbf : I64 S.before) (hxs : ∀ x ∈ xs, I64 x) (hn : n ≤ 1000) (hm : m ≤ 1000) (hns : ∀ x ∈ ns, x.length ≤ 1000) (hr : Row w w.heap.size 1 A n (xs.map encI)) (hr2 : Row w w.heap.size 1 A' m (ns.map encN)) :
    Calls Tryz.prog 17 #[scrVal S As As' sn sm sc sd, .slice A n c, .slice A' m d] w fun e w' => ∃ v1 v2, e = .returned (.agg #[v1, v2]) ∧
      w'.ownsRow w.heap.size 3 1 v1 (canI (xs.filter (inS S))).length ((canI (xs.filter (inS S))).map encI) ∧ w'.ownsRow w.heap.size 53 1 v2 (canL (canI (xs.filter (inS S))) ns).length ((canL (canI (xs.filter (inS S))) ns).map encN) ∧ Below w.heap.size w w' := by
  obtain ⟨i0, hi, hz0, hz1, hz2⟩ := info_parts Tryz.infoInt
  have hlen : xs.length = n := by simpa using hr.1
  obtain ⟨fx, hfx⟩ : ∃ fx, xs.filter (inS S) = fx := ⟨_, rfl⟩
  rw [hfx]
  obtain ⟨cx, hcx⟩ : ∃ cx, canI fx = cx := ⟨_, rfl⟩
  obtain ⟨cl, hcl⟩ : ∃ cl, canL cx ns = cl := ⟨_, rfl⟩
  rw [hcx, hcl]
  have HCX := Lib.hid hcx
  have HCL := Lib.hid hcl
  clear hcx hcl
  obtain ⟨B, hB⟩ : ∃ B, w.heap.size = B := ⟨_, rfl⟩
  have b0 := ((BoxN.new w 25 #[.int .i64 S.lo, .int .i64 S.hi, .int .i64 S.before, .slice As sn sc, .slice As' sm sd]).alloc (.cells #[.slice none 0 0, .slice none 0 0] 47)).alloc (.cells #[.slice none 0 0, .slice A' m d] 47)
  have b1 := (Box2.new (w.alloc (.cells #[.int .i64 S.lo, .int .i64 S.hi, .int .i64 S.before, .slice As sn sc, .slice As' sm sd] 25)) 47 (.slice none 0 0) (.slice none 0 0)).alloc (.cells #[.slice none 0 0, .slice A' m d] 47)
  have b2 := Box2.new ((w.alloc (.cells #[.int .i64 S.lo, .int .i64 S.hi, .int .i64 S.before, .slice As sn sc, .slice As' sm sd] 25)).alloc (.cells #[.slice none 0 0, .slice none 0 0] 47)) 47 (.slice none 0 0) (.slice A' m d)
  have hB0 : Below w.heap.size w (((w.alloc (.cells #[.int .i64 S.lo, .int .i64 S.hi, .int .i64 S.before, .slice As sn sc, .slice As' sm sd] 25)).alloc (.cells #[.slice none 0 0, .slice none 0 0] 47)).alloc (.cells #[.slice none 0 0, .slice A' m d] 47)) :=
    (((Below.refl _ w).alloc (Nat.le_refl _) _).alloc (by simp) _).alloc (by simp; omega) _
  simp only [World.size_alloc] at b1 b2
  obtain ⟨W0, hW0⟩ : ∃ W0, ((w.alloc (.cells #[.int .i64 S.lo, .int .i64 S.hi, .int .i64 S.before, .slice As sn sc, .slice As' sm sd] 25)).alloc (.cells #[.slice none 0 0, .slice none 0 0] 47)).alloc (.cells #[.slice none 0 0, .slice A' m d] 47) = W0 := ⟨_, rfl⟩
  rw [hW0] at b0 b1 b2 hB0
  have HIN := Lib.hid (fun (W : World) (hb : Below w.heap.size w W) (x : Int) (hx : x ∈ xs) => Input_any S As As' sn sm sc sd x W ((hS.below hb).more hb.size) (hxs x hx) hbf)
  have HCAN := Lib.hid (fun (W : World) (hb : Below w.heap.size w W) (A1 : Option Addr) (n1 c1 : Nat) (fx : List Int) (hn1 : n1 ≤ 1000) (hr1 : Row W W.heap.size 1 A1 n1 (fx.map encI)) => canonical_any A1 A' n1 c1 m d fx ns W (hok.later hb) hn1 hm hns hr1 ((hr2.below hb).more hb.size))
  rw [hB] at b0 b1 b2 hB0 hr HIN HCAN ⊢
  have HW := Lib.hid hW0
  have HB := Lib.hid hB
  have HFX := Lib.hid hfx
  clear hW0 hB hok hS hbf hxs hns hr2 hfx
  unfold scrVal at HIN ⊢
  go_enter Tryz.func17, Tryz.ntmps17
  go_wp2_with fail
  rw [HW.out, HB.out]
  go_loopw [16] (TakeR w B #[.int .i64 S.lo, .int .i64 S.hi, .int .i64 S.before, .slice As sn sc, .slice As' sm sd] (.slice A' m d) n S xs) (fun i _ => n - (intOf i).toNat)
  case atStart => exact ⟨0, _, [], by omega, rfl, by simp, b0, b1, b2, World.ownsRow_nil _ _ _ _, hB0⟩
  case round =>
    obtain ⟨k, v, ts, hk, rfl, hts, b0, b1, b2, hown, hbr⟩ := hrel
    have htl : ts.length ≤ k := by rw [hts]; exact filter_take_len _ _ _
    have HTS := Lib.hid hts
    have hsz : B ≤ wr.heap.size := by have := hbr.size; have := HB.out; omega
    clear hts
    by_cases hlt : k < n
    · obtain ⟨bx, ox, u, rfl, hb1', hx0, cx⟩ := hr.at1 hlt
      rw [List.getElem?_map] at hx0
      obtain ⟨x, hx, rfl⟩ := Option.map_eq_some_iff.1 hx0
      clear hx0
      have cxr := (hbr.cell (p := ⟨bx, ox + k, none⟩) hb1').trans cx
      unfold encI at cxr
      have hstep := filter_take_succ (inS S) xs k x hx
      have hIn := HIN.out wr hbr x (List.mem_of_getElem? hx)
      have k0 := b0.c 0
      have k1 := b0.c 1
      have k2 := b0.c 2
      have k3 := b0.c 3
      have k4 := b0.c 4
      simp only [List.getElem?_toArray, List.getElem?_cons_zero, List.getElem?_cons_succ] at k0 k1 k2 k3 k4
      obtain ⟨t1, t2, t3, s1, s2, s3, htm⟩ := tmd_form (inputOf S x)
      rw [htm] at hIn
      clear htm
      cases hin : inS S x with
      | true =>
        rw [hin] at hIn
        rw [if_pos hin, ← HTS.out] at hstep
        have HST := Lib.hid hstep
        have HI := Lib.hid hIn
        clear hstep hIn hin hx cx
        go_wp2_with fail
        refine HI.out.mono ?_
        rintro e w1 ⟨rfl, hb1⟩
        replace b0 := (b0.later hb1).alloc (.cells #[.int .i64 t1, .int .i64 t2, .int .i64 t3, .string s1, .string s2, .string s3] 33)
        replace b1 := (b1.later hb1).alloc (.cells #[.int .i64 t1, .int .i64 t2, .int .i64 t3, .string s1, .string s2, .string s3] 33)
        replace b2 := (b2.later hb1).alloc (.cells #[.int .i64 t1, .int .i64 t2, .int .i64 t3, .string s1, .string s2, .string s3] 33)
        replace hown := (own_later hown hb1).alloc (.cells #[.int .i64 t1, .int .i64 t2, .int .i64 t3, .string s1, .string s2, .string s3] 33)
        replace hbr := (hbr.trans (hb1.mono hsz)).alloc (by have := hb1.size; omega) (.cells #[.int .i64 t1, .int .i64 t2, .int .i64 t3, .string s1, .string s2, .string s3] 33)
        have d2 := b2.c0
        have hsz1 : B ≤ (w1.alloc (.cells #[.int .i64 t1, .int .i64 t2, .int .i64 t3, .string s1, .string s2, .string s3] 33)).heap.size := by have := hb1.size; simp; omega
        go_wp2_with (at_builtin; refine wpList_append_own _ rfl _ _ 36 rfl B 3 i0 (.int .i64 0) 1 8 Tryz.underlying36 hi hz0 hz1 hz2 rfl (by decide) _ _ _ rfl (hown.alloc _) ⟨w1.heap.size + 1, 0, none⟩ 1 1 [.int .i64 x] rfl rfl (by simpa using cell_one_new (w1.alloc (.cells #[.int .i64 t1, .int .i64 t2, .int .i64 t3, .string s1, .string s2, .string s3] 33)) _ _) (by simp [Value.oneCell']) (by unfold maxLen; omega) (by omega) (by simp at hsz1 ⊢; omega) ?_; intro v' w3 hown' hgrow _; obtain ⟨g', cap', rfl⟩ := ownsRow_succ hown'; have R := Lib.hid (take_step b0 b1 b2 hown hbr hsz1 hown' hgrow); have e2 := R.out.2.2.2.2.2.f0; have e3 := R.out.2.2.2.2.2.c0; clear hgrow)
        go_roundw
        case rel => exact ⟨k + 1, _, ts ++ [x], by omega, by go_num, HST.out.symm, R.out.1, R.out.2.1, R.out.2.2.1, by rw [List.map_append, List.length_append]; exact R.out.2.2.2.1, R.out.2.2.2.2.1⟩
        case measure => simp [intOf]; omega
      | false =>
        rw [hin] at hIn
        rw [if_neg (by rw [hin]; simp), ← HTS.out, List.append_nil] at hstep
        have HST := Lib.hid hstep
        have HI := Lib.hid hIn
        clear hstep hIn hin hx cx
        go_wp2_with fail
        refine HI.out.mono ?_
        rintro e w1 ⟨rfl, hb1⟩
        go_wp2_with fail
        go_roundw
        case rel => exact ⟨k + 1, v, ts, by omega, by go_num, HST.out.symm, (b0.later hb1).alloc _, (b1.later hb1).alloc _, (b2.later hb1).alloc _, (own_later hown hb1).alloc _, (hbr.trans (hb1.mono hsz)).alloc (by have := hb1.size; omega) _⟩
        case measure => simp [intOf]; omega
    · obtain rfl : k = n := by omega
      have hte : ts = fx := by rw [HTS.out, ← HFX.out, ← hlen, List.take_length]
      subst hte
      obtain ⟨A1, c1, rfl, hr1⟩ := own_form hown
      have hC := HCAN.out wr hbr A1 ts.length c1 ts (by omega) hr1
      rw [HCX.out, HCL.out] at hC
      have HC := Lib.hid hC
      have d2 := b2.c0
      have d3 := b2.c1
      clear hC HTS HFX hr1 HIN HCX HCL
      go_wp2_with fail
      refine HC.out.mono ?_
      rintro e w1 ⟨v1, v2, rfl, ho1, ho2, hb1⟩
      obtain ⟨A3, c3, rfl, _⟩ := own_form ho1
      obtain ⟨A4, c4, rfl, _⟩ := own_form ho2
      have r1 := b1.later hb1
      have y0 := r1.f0
      have y1 := r1.f1
      have x0 := r1.c0
      have x1 := r1.c1
      go_wp2_with fail
      have r2 := (r1.set0 (.slice A3 cx.length c3)).set1 (.slice A4 cl.length c4)
      have t0 := r2.c0
      have t1 := r2.c1
      have hoI := own_base (own_set (o := 1) (own_set (o := 0) ho1 r1 (by decide) (.slice A3 cx.length c3)) (r1.set0 _) (by decide) (.slice A4 cl.length c4)) hsz
      have hoL := own_base (own_set (o := 1) (own_set (o := 0) ho2 r1 (by decide) (.slice A3 cx.length c3)) (r1.set0 _) (by decide) (.slice A4 cl.length c4)) hsz
      have hbF := ((hbr.trans (hb1.mono hsz)).setCell (p := ⟨B + 1, 0, none⟩) (by show B ≤ B + 1; omega) (.slice A3 cx.length c3)).setCell (p := ⟨B + 1, 1, none⟩) (by show B ≤ B + 1; omega) (.slice A4 cl.length c4)
      exact bodyPost_ret (v := .agg #[.slice A3 cx.length c3, .slice A4 cl.length c4]) (by simp [results, Tryz.f17, go_sem, t0, t1]) rfl ⟨_, _, rfl, hoI, hoL, hbF⟩

end Go.Proofs.YtnibcffcbnjllaaGreatDoor
/- (Without).Text. -/
namespace Go.Proofs.YtnibcffcbnjllaaGreatDoor
open Go.RowKit Go.Sort

theorem join_len (sep : Nm) : ∀ (ts : List Nm) (k : Nat), (∀ x ∈ ts, x.length ≤ k) → (Lib.join ts sep).length ≤ ts.length * (k + sep.length)
  | [], k, _ => by simp [Lib.join]
  | [x], k, h => by
    have := h x (by simp)
    simp [Lib.join]
    omega
  | x :: y :: r, k, h => by
    have h1 := h x (by simp)
    have h2 := join_len sep (y :: r) k (fun z hz => h z (by simp [hz]))
    have e : Lib.join (x :: y :: r) sep = x ++ sep ++ Lib.join (y :: r) sep := by simp [Lib.join]
    rw [e, List.length_append, List.length_append, List.length_cons, Nat.succ_mul]
    omega

theorem Join_own (v : Value) (base : Nat) (ts : List Nm) (sep : ByteArray) (w : World) (hn : ts.length ≤ 100000) (hl : ∀ x ∈ ts, x.length ≤ 100000) (hsep : sep.size ≤ 100) (ho : w.ownsRow base 9 1 v ts.length (ts.map encN)) :
    Calls Tryz.prog 58 #[v, .string sep] w fun e w' => e = .returned (encN (Lib.join ts sep.data.toList)) ∧ Below w.heap.size w w' := by
  obtain ⟨A, c, rfl, hr⟩ := own_form ho
  rcases Nat.eq_zero_or_pos ts.length with h0 | hpos
  · obtain rfl : ts = [] := List.length_eq_zero_iff.1 h0
    refine (Tryz.strings_Join_none A c sep w).mono ?_
    rintro e w' ⟨rfl, rfl⟩
    exact ⟨rfl, Below.refl _ _⟩
  · rcases own_shape ho with ⟨_, h0, _⟩ | ⟨g, rfl, hcap, hg⟩
    · omega
    · have hm : (ts.map fun x => (⟨x.toArray⟩ : ByteArray)).map (·.data.toList) = ts := by
        rw [List.map_map]; simp [Function.comp_def]
      have hjl := join_len sep.data.toList ts 100000 hl
      have hsz := size_nm sep
      have hJ := Tryz.strings_Join g 0 c (ts.map fun x => ⟨x.toArray⟩) sep w (by
        intro j x hx
        rw [List.getElem?_map] at hx
        obtain ⟨y, hy, rfl⟩ := Option.map_eq_some_iff.1 hx
        obtain ⟨b, off, e, _, hc⟩ := hr.2 hpos
        injection e with e
        injection e with e1 e2
        subst e1 e2
        exact hc j (encN y) (by rw [List.getElem?_map, hy]; rfl)) hg (by simp; omega) (by simpa using hcap) (by
        rw [hm]
        have h2 : ts.length * (100000 + sep.data.toList.length) ≤ 100000 * (100000 + 100) := Nat.mul_le_mul hn (by omega)
        omega)
      rw [hm, List.length_map] at hJ
      exact hJ

/-- The words of a text. -/
def hashN (n : Int) : Nm := 35 :: Lib.itoa n
def textN (c : List Int) (l : List Nm) : Nm := Lib.join (c.map hashN ++ l) [32]
theorem hash_bytes (l : Nm) : Value.string ((⟨#[35]⟩ : ByteArray) ++ ⟨l.toArray⟩) = encN (35 :: l) := by
  unfold encN
  congr 1
theorem hashN_len (n : Int) (h : I64 n) : (hashN n).length ≤ 22 := by
  have := Lib.itoa_length_le n h.1 h.2
  simp [hashN]
  omega

def TextR1 (W1 : World) (n : Nat) (l : List Int) (v i : Value) (wr : World) : Prop :=
  ∃ k, k ≤ n ∧ i = .int .i64 (k : Int) ∧ wr.ownsRow W1.heap.size 9 1 v k ((l.take k).map fun x => encN (hashN x)) ∧ Below W1.heap.size W1 wr
def TextR2 (W1 : World) (p : List Nm) (n : Nat) (l : List Nm) (v i : Value) (wr : World) : Prop :=
  ∃ k, k ≤ n ∧ i = .int .i64 (k : Int) ∧ wr.ownsRow W1.heap.size 9 1 v (p.length + k) ((p ++ l.take k).map encN) ∧ Below W1.heap.size W1 wr

set_option maxRecDepth 100000 in
set_option maxHeartbeats 4000000 in
theorem Text_any (A A' : Option Addr) (n c m d : Nat) (xs : List Int) (ns : List Nm) (w : World) (hok : Ok w) (hxs : ∀ x ∈ xs, I64 x) (hn : n ≤ 1000) (hm : m ≤ 1000) (hns : ∀ x ∈ ns, x.length ≤ 1000) (hr : Row w w.heap.size 1 A n (xs.map encI)) (hr2 : Row w w.heap.size 1 A' m (ns.map encN)) :
    Calls Tryz.prog 30 #[.agg #[.slice A n c, .slice A' m d]] w fun e w' => e = .returned (encN (textN (canI xs) (canL (canI xs) ns))) ∧ Below w.heap.size w w' := by
  obtain ⟨i0, hi, hz0, hz1, hz2⟩ := info_parts Tryz.infoStr
  have hcs : ∀ x ∈ canI xs, I64 x := fun x hx => hxs x (((canI_spec xs).2 x).1 hx).1
  have hlen : xs.length = n := by simpa using hr.1
  have hlen2 : ns.length = m := by simpa using hr2.1
  have hl1 : (canI xs).length ≤ 1000 := by
    have h1 := sortI_len (xs.filter fun x => decide (1 ≤ x))
    have h2 := List.length_filter_le (fun x => decide (1 ≤ x)) xs
    unfold canI
    omega
  have hl2 : (canL (canI xs) ns).length ≤ 1000 := by
    have h1 := List.length_filter_le (fun x => !decide (rootOf x ∈ rootsN (canI xs))) (topsN (ns.filter okN))
    have h2 := topsN_len (ns.filter okN)
    have h3 := List.length_filter_le okN ns
    unfold canL
    omega
  have hl3 : ∀ x ∈ canL (canI xs) ns, x.length ≤ 1000 := by
    intro x hx
    have h1 := (List.mem_filter.1 hx).1
    have h2 := ((topsN_spec (l := ns.filter okN) (fun y hy => (okN_iff.1 (List.mem_filter.1 hy).2).2)).2 x).1 h1
    exact hns x (List.mem_filter.1 h2.1).1
  have HC := Lib.hid (fun o => canonical_any A A' n c m d xs ns (w.alloc o) (hok.later ((Below.refl _ w).alloc (Nat.le_refl _) o)) hn hm hns (hr.later ((Below.refl _ w).alloc (Nat.le_refl _) o)) (hr2.later ((Below.refl _ w).alloc (Nat.le_refl _) o)))
  generalize canL (canI xs) ns = cl at HC hl2 hl3 ⊢
  generalize canI xs = cx at HC hl1 hcs ⊢
  have HOK := Lib.hid hok
  have HCS := Lib.hid hcs
  have HL3 := Lib.hid hl3
  clear hok hcs hl3 hr hr2 hxs hns
  go_enter Tryz.func30, Tryz.ntmps30
  go_wp2_with fail
  refine (HC.out _).mono ?_
  rintro e w1 ⟨v1, v2, rfl, ho1, ho2, hb1⟩
  obtain ⟨A1, c1, rfl, hr1⟩ := own_form ho1
  obtain ⟨A2, c2, rfl, hr2⟩ := own_form ho2
  have bx := Box2.new w1 47 (.slice A1 cx.length c1) (.slice A2 cl.length c2)
  replace hr1 := hr1.alloc (.cells #[.slice A1 cx.length c1, .slice A2 cl.length c2] 47)
  replace hr2 := hr2.alloc (.cells #[.slice A1 cx.length c1, .slice A2 cl.length c2] 47)
  have hbW : Below w.heap.size w (w1.alloc (.cells #[.slice A1 cx.length c1, .slice A2 cl.length c2] 47)) :=
    (((Below.refl _ w).alloc (Nat.le_refl _) _).trans (hb1.mono (by simp))).alloc (by have := hb1.size; simp at this; omega) _
  obtain ⟨Z, hZ⟩ : ∃ Z, w1.heap.size = Z := ⟨_, rfl⟩
  rw [hZ] at bx
  obtain ⟨W1, hW1⟩ : ∃ W1, w1.alloc (.cells #[.slice A1 cx.length c1, .slice A2 cl.length c2] 47) = W1 := ⟨_, rfl⟩
  rw [hW1] at bx hr1 hr2 hbW
  have HW := Lib.hid hW1
  have HZ := Lib.hid hZ
  clear hW1 hZ ho1 ho2 hb1 HC
  go_wp2_with fail
  rw [HW.out, HZ.out]
  clear HW HZ
  go_loopw [4, 14] (TextR1 W1 cx.length cx) (fun _ i _ => cx.length - (intOf i).toNat)
  case atStart => exact ⟨0, by omega, rfl, World.ownsRow_nil _ _ _ _, Below.refl _ _⟩
  case round =>
    obtain ⟨k, hk, rfl, hown, hbr⟩ := hrel
    have hsz := hbr.size
    have hb2 := hbW.trans (hbr.mono hbW.size)
    by_cases hlt : k < cx.length
    · obtain ⟨b1, o1, u, rfl, hb1', hx0, cx0⟩ := hr1.at1 hlt
      rw [List.getElem?_map] at hx0
      obtain ⟨x, hx, rfl⟩ := Option.map_eq_some_iff.1 hx0
      clear hx0
      have cxr := (hbr.cell (p := ⟨b1, o1 + k, none⟩) hb1').trans cx0
      unfold encI at cxr
      have hx64 := HCS.out x (List.mem_of_getElem? hx)
      have hI := Tryz.strconv_Itoa x hx64.1 hx64.2 wr (HOK.out.later hb2).pow10
      have hil : (Lib.itoa x).length ≤ 21 := Lib.itoa_length_le x hx64.1 hx64.2
      have hmap : (cx.take (k + 1)).map (fun x => encN (hashN x)) = (cx.take k).map (fun x => encN (hashN x)) ++ [encN (hashN x)] := by rw [List.take_add_one, List.map_append, hx]; rfl
      have HM := Lib.hid hmap
      have HI := Lib.hid hI
      clear hmap hI hx cx0 hx64
      go_wp2_with fail
      refine HI.out.mono ?_
      rintro e w2 ⟨rfl, q, os, rfl⟩
      have hbi : Below wr.heap.size wr (grow (wr.drewN q) os) := below_grow q os
      generalize grow (wr.drewN q) os = W2 at hbi ⊢
      have hown2 := own_later hown hbi
      have hb4 := hbr.trans (hbi.mono hsz)
      have hsz4 := hb4.size
      go_wp2_with (at_builtin; rw [hash_bytes]; refine wpList_append_own _ rfl _ _ 82 rfl W1.heap.size 9 i0 (.string ⟨#[]⟩) 1 16 Tryz.underlying82 hi hz0 hz1 hz2 rfl (by decide) _ _ _ rfl (hown2.alloc _) ⟨W2.heap.size, 0, none⟩ 1 1 [encN (hashN x)] rfl rfl (cell_one_new _ _ _) (by simp [Value.oneCell', encN]) (by unfold maxLen; omega) (by omega) (by simp; omega) ?_; intro v' w3 hown' hgrow _; have R := Lib.hid (own_step hown2 hb4 hgrow); clear hgrow)
      go_roundw
      case rel => exact ⟨k + 1, by omega, by go_num, by rw [HM.out]; exact hown', R.out⟩
      case measure => simp [intOf]; omega
    · obtain rfl : k = cx.length := by omega
      rw [List.take_length] at hown
      have hpl : (cx.map hashN).length = cx.length := by simp
      have hpm : (cx.map fun x => encN (hashN x)) = (cx.map hashN).map encN := by rw [List.map_map]; rfl
      have hpv : ∀ x ∈ cx.map hashN, x.length ≤ 100000 := by
        intro x hx
        obtain ⟨y, hy, rfl⟩ := List.mem_map.1 hx
        have := hashN_len y (HCS.out y hy)
        omega
      have htx : textN cx cl = Lib.join (cx.map hashN ++ cl) [32] := rfl
      rw [hpm, ← hpl] at hown
      generalize cx.map hashN = p at hown hpl hpv htx
      have HPL := Lib.hid hpl
      have HPV := Lib.hid hpv
      have HTX := Lib.hid htx
      have bx2 := bx.later hbr
      have z1 := bx2.c1
      clear hpl hpm hpv htx hr1 hlt hk
      go_wp2_with fail
      go_loopw [4, 28] (TextR2 W1 p cl.length cl) (fun _ i _ => cl.length - (intOf i).toNat)
      case atStart => exact ⟨0, by omega, rfl, by simpa using hown, hbr⟩
      case round =>
        obtain ⟨k2, hk2, rfl, hown3, hbr3⟩ := hrel
        have hsz3 := hbr3.size
        have hb3 := hbW.trans (hbr3.mono hbW.size)
        have hpl3 : p.length ≤ 1000 := by rw [HPL.out]; exact hl1
        by_cases hlt2 : k2 < cl.length
        · obtain ⟨b1, o1, u, rfl, hb1', hx0, cx0⟩ := hr2.at1 hlt2
          rw [List.getElem?_map] at hx0
          obtain ⟨x, hx, rfl⟩ := Option.map_eq_some_iff.1 hx0
          clear hx0
          have cxr := (hbr3.cell (p := ⟨b1, o1 + k2, none⟩) hb1').trans cx0
          have hmap : (p ++ cl.take (k2 + 1)).map encN = (p ++ cl.take k2).map encN ++ [encN x] := by rw [List.take_add_one, hx]; simp
          have HM := Lib.hid hmap
          unfold encN at cxr
          clear hmap hx cx0
          go_wp2_with (at_builtin; refine wpList_append_own _ rfl _ _ 82 rfl W1.heap.size 9 i0 (.string ⟨#[]⟩) 1 16 Tryz.underlying82 hi hz0 hz1 hz2 rfl (by decide) _ _ _ rfl (hown3.alloc _) ⟨wr.heap.size, 0, none⟩ 1 1 [.string ⟨x.toArray⟩] rfl rfl (cell_one_new _ _ _) (by simp [Value.oneCell']) (by unfold maxLen; omega) (by omega) (by simp; omega) ?_; intro v' w3 hown' hgrow _; have R := Lib.hid (own_step hown3 hbr3 hgrow); clear hgrow)
          go_roundw
          case rel => exact ⟨k2 + 1, by omega, by go_num, by rw [HM.out]; exact hown', R.out⟩
          case measure => simp [intOf]; omega
        · obtain rfl : k2 = cl.length := by omega
          rw [List.take_length] at hown3
          obtain ⟨A5, c5, rfl, _⟩ := own_form hown3
          have hJ := Join_own (.slice A5 (p.length + cl.length) c5) _ (p ++ cl) ⟨#[32]⟩ wr (by simp; omega) (by
            intro x hx
            rcases List.mem_append.1 hx with h | h
            · exact HPV.out x h
            · have := HL3.out x h; omega) (by decide) (by rw [List.length_append]; exact hown3)
          rw [show Lib.join (p ++ cl) (⟨#[32]⟩ : ByteArray).data.toList = textN cx cl from HTX.out.symm] at hJ
          have HJ := Lib.hid hJ
          clear hJ
          unfold encN at HJ
          go_wp2_with fail
          refine HJ.out.mono ?_
          rintro e w9 ⟨rfl, hb9⟩
          go_wp2_with fail
          go_ret
          exact ⟨rfl, hb3.trans (hb9.mono hb3.size)⟩

end Go.Proofs.YtnibcffcbnjllaaGreatDoor
/- (Script).At. -/
namespace Go.Proofs.YtnibcffcbnjllaaGreatDoor
open Go.RowKit Go.Sort

theorem Tryz.infoInp : (Tryz.prog.info? 31).map (fun i => (i.zero, i.size, i.bytes)) = some (some (.agg #[.int .i64 0, .int .i64 0, .string ⟨#[]⟩, .string ⟨#[]⟩, .string ⟨#[]⟩]), 5, 64) := by kernel_rfl

/-- The inputs of a tick. -/
def inputsN (l : List Tmd) (t : Int) (k : Nat) : List Inp := ((l.take k).filter fun x => decide (x.tick = t)).map (·.inp)
def inputsOf (S : Scr) (t : Int) : List Inp := if S.lo ≤ t ∧ t < S.hi then inputsN S.inputs t S.inputs.length else []
theorem inputsN_yes {l : List Tmd} {t : Int} {k : Nat} {x : Tmd} (h : l[k]? = some x) (ht : x.tick = t) : inputsN l t (k + 1) = inputsN l t k ++ [x.inp] := by
  unfold inputsN; rw [filter_take_succ _ l k x h, if_pos (by simpa using ht)]; simp
theorem inputsN_no {l : List Tmd} {t : Int} {k : Nat} {x : Tmd} (h : l[k]? = some x) (ht : x.tick ≠ t) : inputsN l t (k + 1) = inputsN l t k := by
  unfold inputsN; rw [filter_take_succ _ l k x h, if_neg (by simpa using ht)]; simp
theorem inputsN_len (l : List Tmd) (t : Int) (k : Nat) : (inputsN l t k).length ≤ k := by
  unfold inputsN; rw [List.length_map]; exact filter_take_len _ _ _

def AtR (W1 : World) (n : Nat) (S : Scr) (t : Int) (v u i : Value) (wr : World) : Prop :=
  ∃ k, k ≤ n ∧ i = .int .i64 (k : Int) ∧ wr.ownsRow W1.heap.size 3 1 v (placesN S.inputs t k).length ((placesN S.inputs t k).map fun i => encI (numAt S i)) ∧
    wr.ownsRow W1.heap.size 31 5 u (inputsN S.inputs t k).length ((inputsN S.inputs t k).flatMap inpCells) ∧ Below W1.heap.size W1 wr

/-- Another row of the call's own, of another type, kept behind an append (both laid behind W1). -/
theorem cells5_new (w : World) (a b : Int) (x y z : ByteArray) (t : TypeId) : ∀ j u, ([.int .i64 a, .int .i64 b, .string x, .string y, .string z] : List Value)[j]? = some u → (w.alloc (.cells #[.int .i64 a, .int .i64 b, .string x, .string y, .string z] t)).cell? ((⟨w.heap.size, 0, none⟩ : Addr).add j) = some u := by
  intro j u hj
  rw [Addr.add_lit, Nat.zero_add]
  have h := (BoxN.new w t #[.int .i64 a, .int .i64 b, .string x, .string y, .string z]).c j
  rw [h]
  simpa using hj

set_option maxRecDepth 100000 in
set_option maxHeartbeats 2000000 in
theorem At_any (S : Scr) (A A' : Option Addr) (n m c d : Nat) (t : Int) (w : World) (hS : ScrAt w w.heap.size A A' n m S) (ht64 : I64 t) (hlo64 : I64 S.lo) (h0 : 0 ≤ S.before) (h1 : S.before ≤ 999999) (hn1 : n ≤ 65536) (hsl : (schedOf S t).length ≤ 1000) :
    Calls Tryz.prog 11 #[scrVal S A A' n m c d, .int .i64 t] w fun e w' => ∃ v1 v2 v3, e = .returned (.tuple #[v1, v2, v3]) ∧
      w'.ownsRow w.heap.size 3 1 v1 (placesOf S t).length ((placesOf S t).map fun i => encI (numAt S i)) ∧ w'.ownsRow w.heap.size 31 5 v2 (inputsOf S t).length ((inputsOf S t).flatMap inpCells) ∧
      w'.ownsRow w.heap.size 53 1 v3 (schedOf S t).length ((schedOf S t).map encN) ∧ Below w.heap.size w w' := by
  have hS0 := hS
  obtain ⟨hr, hl, hs2, hn, hm⟩ := hS
  obtain ⟨i0, hi, hz0, hz1, hz2⟩ := info_parts Tryz.infoInt
  obtain ⟨i1, hi1, hy0, hy1, hy2⟩ := info_parts Tryz.infoInp
  have HL := Lib.hid hl
  have HSC := Lib.hid (fun (W : World) (hb : Below w.heap.size w W) => schedule40_any S A A' n m c d t W ((hS0.below hb).more hb.size) ht64 hlo64)
  clear hl hs2 hS0 ht64 hlo64
  unfold scrVal
  have b0 := BoxN.new w 25 #[.int .i64 S.lo, .int .i64 S.hi, .int .i64 S.before, .slice A n c, .slice A' m d]
  have hb0 : Below w.heap.size w (w.alloc (.cells #[.int .i64 S.lo, .int .i64 S.hi, .int .i64 S.before, .slice A n c, .slice A' m d] 25)) := (Below.refl _ w).alloc (Nat.le_refl _) _
  obtain ⟨W1, hW1⟩ : ∃ W1, w.alloc (.cells #[.int .i64 S.lo, .int .i64 S.hi, .int .i64 S.before, .slice A n c, .slice A' m d] 25) = W1 := ⟨_, rfl⟩
  rw [hW1] at b0 hb0
  have HW := Lib.hid hW1
  clear hW1
  by_cases hh : S.lo ≤ t ∧ t < S.hi
  · have hp : placesOf S t = placesN S.inputs t n := by unfold placesOf; rw [if_pos hh, HL.out]
    have hq : inputsOf S t = inputsN S.inputs t n := by unfold inputsOf; rw [if_pos hh, HL.out]
    have hs : hasB S.lo S.hi t = true := by simp [hasB, hh]
    have HP := Lib.hid hp
    have HQ := Lib.hid hq
    clear hp hq hh
    go_enter Tryz.func11, Tryz.ntmps11
    go_wp2_with fail
    rw [HW.out]
    refine (has38_any S.lo S.hi S.before t (.slice A n c) (.slice A' m d) W1 A A' n m c d rfl rfl).mono ?_
    rintro e w2 ⟨rfl, hb2⟩
    rw [hs]
    have b2 := b0.later hb2
    have hbw2 := hb0.trans (hb2.mono hb0.size)
    have k3 := b2.c 3
    simp only [List.getElem?_toArray, List.getElem?_cons_zero, List.getElem?_cons_succ] at k3
    have hr2 := (hr.below hbw2).more hbw2.size
    obtain ⟨Z, hZ⟩ : ∃ Z, w.heap.size = Z := ⟨_, rfl⟩
    rw [hZ] at b2 k3 hbw2 HSC ⊢
    have HZ := Lib.hid hZ
    clear hr hb0 b0 HW hZ hb2
    go_wp2_with fail
    go_loopw [4, 5, 16] (AtR w2 n S t) (fun _ _ i _ => n - (intOf i).toNat)
    case atStart => exact ⟨0, by omega, rfl, World.ownsRow_nil _ _ _ _, World.ownsRow_nil _ _ _ _, Below.refl _ _⟩
    case round =>
      obtain ⟨k, hk, rfl, hown, hown2, hbr⟩ := hrel
      have hpl := placesN_len S.inputs t k
      have hil := inputsN_len S.inputs t k
      have hsz := hbr.size
      have bR := b2.later hbr
      have q2 := bR.c 2
      simp only [List.getElem?_toArray, List.getElem?_cons_zero, List.getElem?_cons_succ] at q2
      by_cases hlt : k < n
      · obtain ⟨b, off, tick, kind, number, fs, ds, ts, rfl, hb, ht, c0, c1, c2, c3, c4, c5⟩ := hr2.tm HL.out hlt
        have g0 := (hbr.cell (p := ⟨b, off + k * 6, none⟩) hb).trans c0
        have g1 := (hbr.cell (p := ⟨b, off + k * 6 + 1, none⟩) hb).trans c1
        have g2 := (hbr.cell (p := ⟨b, off + k * 6 + 2, none⟩) hb).trans c2
        have g3 := (hbr.cell (p := ⟨b, off + k * 6 + 3, none⟩) hb).trans c3
        have g4 := (hbr.cell (p := ⟨b, off + k * 6 + 4, none⟩) hb).trans c4
        have g5 := (hbr.cell (p := ⟨b, off + k * 6 + 5, none⟩) hb).trans c5
        have HT := Lib.hid ht
        clear ht c0 c1 c2 c3 c4 c5
        by_cases htick : tick = t
        · have t1 : (tick == t) = true := by simp [htick]
          have HS := Lib.hid (placesN_yes HT.out htick)
          have HI := Lib.hid (inputsN_yes HT.out htick)
          clear htick
          have bt := BoxN.new wr 33 #[.int .i64 tick, .int .i64 kind, .int .i64 number, .string fs, .string ds, .string ts]
          have q3 := (bR.alloc (.cells #[.int .i64 tick, .int .i64 kind, .int .i64 number, .string fs, .string ds, .string ts] 33)).c 2
          simp only [List.getElem?_toArray, List.getElem?_cons_zero, List.getElem?_cons_succ] at q3
          have ho3 := hown.alloc (.cells #[.int .i64 tick, .int .i64 kind, .int .i64 number, .string fs, .string ds, .string ts] 33)
          have ho32 := hown2.alloc (.cells #[.int .i64 tick, .int .i64 kind, .int .i64 number, .string fs, .string ds, .string ts] 33)
          have hb3 := hbr.alloc hsz (.cells #[.int .i64 tick, .int .i64 kind, .int .i64 number, .string fs, .string ds, .string ts] 33)
          go_wp2_with (first
            | (at_builtin; refine wpList_append_own _ rfl _ _ 36 rfl w2.heap.size 3 i0 (.int .i64 0) 1 8 Tryz.underlying36 hi hz0 hz1 hz2 rfl (by decide) _ _ _ rfl (ho3.alloc _) ⟨wr.heap.size + 1, 0, none⟩ 1 1 [.int .i64 (S.before + k + 1)] rfl rfl (by simpa using cell_one_new (wr.alloc (.cells #[.int .i64 tick, .int .i64 kind, .int .i64 number, .string fs, .string ds, .string ts] 33)) _ _) (by simp [Value.oneCell']) (by unfold maxLen; omega) (by omega) (by simp; omega) ?_; intro v' w4 hown' hgrow _; have R1 := Lib.hid (own_step ho3 hb3 hgrow); have bt4 := (bt.alloc _).kept hgrow (bt.not_row (by decide) ho3); have ho42 := own_other ho3 ho32 (by decide) hgrow; clear hgrow; have m1 := bt4.c 1; have m2 := bt4.c 2; have m3 := bt4.c 3; have m4 := bt4.c 4; have m5 := bt4.c 5; simp only [List.getElem?_toArray, List.getElem?_cons_zero, List.getElem?_cons_succ] at m1 m2 m3 m4 m5; have z4 := R1.out.size)
            | (at_builtin; refine wpList_append_own _ rfl _ _ 37 rfl w2.heap.size 31 i1 _ 5 64 Tryz.underlying37 hi1 hy0 hy1 hy2 rfl (by decide) _ _ _ rfl (ho42.alloc _) ⟨w4.heap.size, 0, none⟩ 1 1 [.int .i64 kind, .int .i64 number, .string fs, .string ds, .string ts] rfl rfl (cells5_new w4 kind number fs ds ts _) (by simp [Value.oneCell']) (by unfold maxLen; omega) (by omega) (by simp; omega) ?_; intro v2' w5 hown2' hgrow2 _; have R2 := Lib.hid (own_step ho42 R1.out hgrow2); have ho5 := own_other ho42 hown' (by decide) hgrow2; clear hgrow2))
          go_roundw
          case rel => exact ⟨k + 1, by omega, by go_num, by rw [HS.out, List.length_append, List.map_append]; exact ho5, by rw [HI.out, List.length_append, List.flatMap_append]; exact hown2', R2.out⟩
          case measure => simp [intOf]; omega
        · have t1 : (tick == t) = false := by simp [htick]
          have HS := Lib.hid (placesN_no HT.out htick)
          have HI := Lib.hid (inputsN_no HT.out htick)
          go_wp2_with fail
          go_roundw
          case rel => exact ⟨k + 1, by omega, by go_num, by rw [HS.out]; exact hown.alloc _, by rw [HI.out]; exact hown2.alloc _, hbr.alloc hsz _⟩
          case measure => simp [intOf]; omega
      · obtain rfl : k = n := by omega
        have hbR := hbw2.trans (hbr.mono (by have := hbw2.size; have := HZ.out; omega))
        have hSc := HSC.out wr hbR
        have HSc := Lib.hid hSc
        have y0 := bR.c 0
        have y1 := bR.c 1
        have y2 := bR.c 2
        have y3 := bR.c 3
        have y4 := bR.c 4
        simp only [List.getElem?_toArray, List.getElem?_cons_zero, List.getElem?_cons_succ] at y0 y1 y2 y3 y4
        clear hSc hlt hr2 HSC
        go_wp2_with fail
        refine HSc.out.mono ?_
        rintro e w6 ⟨⟨A6, c6, rfl, hr6, _⟩, hb6⟩
        have hC := CloneN_any A6 (schedOf S t).length c6 w6.heap.size ((schedOf S t).map encN) w6 (by omega) ((hr6.below hb6).more hb6.size) (by
          intro u hu
          obtain ⟨x, _, rfl⟩ := List.mem_map.1 hu
          rfl)
        have HC := Lib.hid hC
        clear hC hr6
        go_wp2_with fail
        refine HC.out.mono ?_
        rintro e w7 ⟨v7, rfl, ho7, hb7⟩
        go_wp2_with fail
        have hb67 := hb6.trans (hb7.mono hb6.size)
        have o1 := own_later hown hb67
        have o2 := own_later hown2 hb67
        have hzz : w.heap.size ≤ w2.heap.size := hbw2.size
        have hzr : w.heap.size ≤ w6.heap.size := by have := hb6.size; omega
        rw [← HP.out] at o1
        rw [← HQ.out] at o2
        have hbF : Below w.heap.size w w7 := (by rw [HZ.out]; exact hbR : Below w.heap.size w wr).trans (hb67.mono (by omega))
        exact bodyPost_ret (v := .tuple #[u4, u5, v7]) (by simp [results, Tryz.f11, go_sem]) rfl ⟨_, _, _, rfl, own_base o1 hzz, own_base o2 hzz, own_base ho7 hzr, hbF⟩
  · have hp : placesOf S t = [] := by unfold placesOf; rw [if_neg hh]
    have hq : inputsOf S t = [] := by unfold inputsOf; rw [if_neg hh]
    have hq2 : schedOf S t = [] := by unfold schedOf; rw [if_neg hh]
    have hs : hasB S.lo S.hi t = false := by simp only [hasB, Bool.and_eq_false_iff, decide_eq_false_iff_not]; omega
    rw [hp, hq, hq2]
    clear hp hq hh hq2 hsl
    go_enter Tryz.func11, Tryz.ntmps11
    go_wp2_with fail
    rw [HW.out]
    refine (has38_any S.lo S.hi S.before t (.slice A n c) (.slice A' m d) W1 A A' n m c d rfl rfl).mono ?_
    rintro e w2 ⟨rfl, hb2⟩
    rw [hs]
    go_wp2_with fail
    exact bodyPost_ret (v := .tuple #[.slice none 0 0, .slice none 0 0, .slice none 0 0]) (by simp [results, Tryz.f11, go_sem]) rfl ⟨_, _, _, rfl, World.ownsRow_nil _ _ _ _, World.ownsRow_nil _ _ _ _, World.ownsRow_nil _ _ _ _, hb0.trans (hb2.mono hb0.size)⟩

end Go.Proofs.YtnibcffcbnjllaaGreatDoor
