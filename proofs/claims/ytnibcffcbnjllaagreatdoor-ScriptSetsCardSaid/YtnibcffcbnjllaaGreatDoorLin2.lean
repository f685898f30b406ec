/- The iterator over the ordinals of a text (lineage.parts and its closure). -/
import Derived.RangeFuncNested
import Derived.RangeFuncBound
import Derived.RangeFuncCalls
import Derived.RangeFuncLeaves
import Derived.Shelf.Abstract
import Derived.Shelf.RegionOpen
import Derived.WalkKit
import Derived.OwnWalkIn
import Derived.TacticsInMore
import Derived.LoopNIn
import Derived.LoopIn
import Derived.Test.YtnibcffcbnjllaaGreatDoorLin1
namespace Go.Proofs.YtnibcffcbnjllaaGreatDoor
open Go.RowKit Go.Shelf
attribute [local go_sem] Oper.semAt_some

/-- What a round keeps of memory: every block of a part, and every block of a string. -/
def KeepT (W W' : World) : Prop := ∀ (k : Nat) (cs : Array Value) (t : TypeId) (fz : Nat × Nat), (t = 131 ∨ t = 9) → W.heap[k]? = some (.cells cs t fz) → W'.heap[k]? = some (.cells cs t fz)
theorem keepT_t {A B C : World} (h : KeepT A B) (k : KeepT B C) : KeepT A C := fun i cs t fz ht hi => k i cs t fz ht (h i cs t fz ht hi)
theorem keepT_b {w : World} (W : World) (l : Nat) (o o' : Obj) (_ : w.heap.size ≤ l) (h : W.heap[l]? = some o) (hc : o.isCells = false) (_ : o.isWalk = false) : KeepT W (W.putObj l o') := by
  intro k cs t fz _ hk
  have hne : k ≠ l := by
    rintro rfl
    rw [hk] at h
    injection h with h
    subst h
    simp [Obj.isCells] at hc
  rw [World.putObj_heap_other hne]
  exact hk
theorem keepT_refl (W : World) : KeepT W W := fun _ _ _ _ _ h => h
theorem keepT_below {W W' : World} (h : Below W.heap.size W W') : KeepT W W' := fun k cs t fz _ hk => by
  have hlt : k < W.heap.size := (Array.getElem?_eq_some_iff.1 hk).1
  rw [h.block k hlt]; exact hk

/-- parts(s): the text is boxed; the function value captures the box. -/
theorem parts_in (n : Nat) (s : ByteArray) (w : World) :
    CallsIn Fence.wide n Tryz.prog 96 #[.string s] w fun e w' => e = .returned (.func (.func 121) #[] #[.pointer (some ⟨w.heap.size, 0, none⟩)]) ∧ w' = w.alloc (.cells #[.string s] 9) := by
  refine callsIn_of_wp Tryz.func96 rfl trivial ?_ rfl
  simp only [Tryz.ntmps96, List.size_toArray, List.length_cons, List.length_nil, Nat.reduceAdd, Nat.reduceSub, Array.replicate_succ, Array.replicate_zero, List.push_toArray, List.append_toArray, List.nil_append, List.cons_append]
  gi_wp2
  go_ret
  exact ⟨rfl, rfl⟩

theorem below_grown0 {a w : World} (h : Below a.heap.size a w) : a.grownBy w none := ⟨h.os, h.tape, h.output, h.size, fun i hi _ => h.block i hi⟩

set_option maxRecDepth 100000 in
set_option maxHeartbeats 1000000 in
theorem parts1_in (n : Nat) (hn : 1 ≤ n) (l Bs : Nat) (s : ByteArray) (hs : s.size ≤ 9223372036854775000) (hne : s.data.toList ≠ []) (J Jx : List Part → World → Prop)
    (hJ : ∀ pre (X Y : World), J pre X → Below X.heap.size X Y → J pre Y)
    (hY : ∀ pre x W, J pre W → pre.length < (partsOf s.data.toList).length → YieldAt Fence.wide (n - 1) Tryz.prog l #[encPart x] W fun e W' =>
      (e = .returned (.bool true) ∧ J (pre ++ [x]) W' ∧ KeepT W W') ∨ (e = .returned (.bool false) ∧ Jx (pre ++ [x]) W'))
    (W : World) (hBs : W.heap[Bs]? = some (.cells #[.string s] 9 (0, 0))) (h0 : J [] W) :
    CallsIn Fence.wide n Tryz.prog 121 #[.func (.yield l) #[] #[], .pointer (some ⟨Bs, 0, none⟩)] W fun e W' => (∃ v, e = .returned v) ∧
      ((∃ ys, ys = partsOf s.data.toList ∧ J ys W') ∨ (∃ pre, pre <+: partsOf s.data.toList ∧ Jx pre W')) := by
  have hss : 0 < s.size := by
    rw [← len_of_byte]
    exact List.length_pos_iff.2 hne
  refine callsIn_of_wp Tryz.func121 rfl trivial ?_ rfl
  simp only [Tryz.ntmps121, List.size_toArray, List.length_cons, List.length_nil, Nat.reduceAdd, Nat.reduceSub, Array.replicate_succ, Array.replicate_zero, List.push_toArray, List.append_toArray, List.nil_append, List.cons_append]
  gi_wp2
  gi_loopw [3, 4] (fun at_ cn wr => ∃ (pre : List Part) (a c : Nat), at_ = .int .i64 (a : Int) ∧ cn = .int .i64 (c : Int) ∧ a ≤ s.size ∧ c ≤ 8 ∧ partsOf s.data.toList = pre ++ partsN (9 - c) s.data.toList a c ∧ J pre wr ∧ wr.heap[Bs]? = some (.cells #[.string s] 9 (0, 0)))
    (fun _ cn _ => 9 - (intOf cn).toNat)
  case atStart => exact ⟨[], 0, 0, rfl, rfl, by omega, by omega, by simp [partsOf, hne], h0, hBs⟩
  case round =>
    obtain ⟨pre, a, c, rfl, rfl, ha, hc8, hp, hJs, hB⟩ := hrel
    have HP := Lib.hid hp
    have HB := Lib.hid hB
    have hcell : wr.cell? ⟨Bs, 0, none⟩ = some (.string s) := by simp [World.cell?, hB]
    have hne' : s.toList.isEmpty = false := isEmpty_of_ne hne
    clear hp hB
    obtain ⟨⟨⟨o, p, er⟩, en⟩, hf⟩ : ∃ r, firstP s.data.toList a c = r := ⟨_, rfl⟩
    have HF := Lib.hid hf
    clear hf
    have hpl : pre.length < (partsOf s.data.toList).length := by
      obtain ⟨r, hr⟩ := partsN_head hc8 HF.out
      rw [HP.out, hr]; simp
    gi_wp2_with (refine ⟨trivial, ?_⟩; gi_at_call 122; refine (callsIn_wide.2 (first_as s a c o p er en _ hs ha (by omega) HF.out)).mono ?_; rintro e w' ⟨rfl, hb1⟩)
    have hb2 : Below wr.heap.size wr (w'.alloc (.cells #[.int .i64 (o : Int), .int .i64 (p : Int), .int .i64 (er : Int)] 131)) := hb1.alloc hb1.size _
    have hx := World.alloc_heap_new w' (.cells #[.int .i64 (o : Int), .int .i64 (p : Int), .int .i64 (er : Int)] 131)
    have hB2 : (w'.alloc (.cells #[.int .i64 (o : Int), .int .i64 (p : Int), .int .i64 (er : Int)] 131)).heap[Bs]? = some (.cells #[.string s] 9 (0, 0)) := by
      have hlt : Bs < wr.heap.size := (Array.getElem?_eq_some_iff.1 HB.out).1
      rw [hb2.block Bs hlt]; exact HB.out
    obtain ⟨fn, tmps, assign, body, hy, hR⟩ := hY pre (o, p, er) _ (hJ pre _ _ hJs hb2) hpl
    simp only [encPart] at hy
    have HX := Lib.hid hx
    have HB2 := Lib.hid hB2
    clear hx hB2
    rw [hy]
    refine ⟨fun _ => hn, hR.mono ?_⟩
    rintro e W3 (⟨rfl, hJ3, hk3⟩ | ⟨rfl, hJx3⟩)
    · have hx3 := hk3 _ _ _ _ (.inl rfl) HX.out
      have hB3 := hk3 _ _ _ _ (.inr rfl) HB2.out
      have hc2 : W3.cell? ⟨w'.heap.size, 2, none⟩ = some (.int .i64 (er : Int)) := by simp [World.cell?, hx3]
      have hcs : W3.cell? ⟨Bs, 0, none⟩ = some (.string s) := by simp [World.cell?, hB3]
      have HB3 := Lib.hid hB3
      have HX3 := Lib.hid hx3
      have HK := Lib.hid hk3
      clear hx3 hB3 hk3 hy
      by_cases her : er = 0
      · have hn0 := firstP_zero (by rw [len_of_byte]; exact ha) (her ▸ HF.out)
        rw [len_of_byte] at hn0
        have hen := hn0.2
        have hc7 : c ≤ 7 := by omega
        have t1 : ((er : Int) != 0) = false := by subst her; rfl
        have HER := Lib.hid her
        clear her hn0
        by_cases hes : en = s.size
        · have t2 : ((en : Int) == (s.size : Int)) = true := by simp [hes]
          have HES := Lib.hid hes
          clear hes
          gi_wp2
          refine bodyPost_ret (results_none rfl _ _ _) rfl ?_
          exact ⟨⟨_, rfl⟩, .inl ⟨_, by rw [HP.out, partsN_stop hc8 HF.out (.inr (by rw [len_of_byte]; exact HES.out))], hJ3⟩⟩
        · have hlt : en < s.size := by omega
          have t2 : ((en : Int) == (s.size : Int)) = false := by simp; omega
          by_cases hdot : s[en] = 46
          · have t3 : (((s[en]).toNat : Int) != 46) = false := by rw [hdot]; rfl
            have HDOT := Lib.hid hdot
            clear hdot
            gi_wp2
            go_roundw
            case rel => exact ⟨pre ++ [(o, p, er)], en + 1, c + 1, by go_num, by go_num, by omega, by omega, by rw [HP.out, partsN_next hc8 HF.out HER.out (by rw [len_of_byte]; exact hes) (by rw [get_of_byte hlt, HDOT.out])]; simp, hJ3, HB3.out⟩
            case measure => simp [intOf]; omega
          · have t3 : (((s[en]).toNat : Int) != 46) = true := by
              rw [bne_iff_ne]
              intro e
              exact hdot (UInt8.toNat_inj.1 (by simp; omega))
            have hpN := partsN_byte hc8 HF.out HER.out (by rw [len_of_byte]; exact hes) (by rw [get_of_byte hlt]; simpa using hdot)
            obtain ⟨fn', tmps', assign', body', hy', hR'⟩ := hY _ (0, en, 6) W3 hJ3 (by rw [HP.out, hpN]; simp)
            have hy2 : (Instr.yield l #[.agg #[.int .i64 0, .int .i64 (en : Int), .int .i64 6]]).run Tryz.prog W3 = .ok (.round l fn' tmps' assign' body') W3 := hy'
            clear hy'
            have HPN := Lib.hid hpN
            clear hpN hdot
            gi_wp2
            refine hR'.mono ?_
            rintro e W4 (⟨rfl, hJ4, hk4⟩ | ⟨rfl, hJx4⟩)
            · gi_wp2
              refine bodyPost_ret (results_none rfl _ _ _) rfl ?_
              exact ⟨⟨_, rfl⟩, .inl ⟨_, by rw [HP.out, HPN.out]; simp, hJ4⟩⟩
            · gi_wp2
              refine bodyPost_ret (results_none rfl _ _ _) rfl ?_
              exact ⟨⟨_, rfl⟩, .inr ⟨_, by rw [HP.out, HPN.out]; simp, hJx4⟩⟩
      · have t1 : ((er : Int) != 0) = true := by rw [bne_iff_ne]; omega
        gi_wp2
        refine bodyPost_ret (results_none rfl _ _ _) rfl ?_
        exact ⟨⟨_, rfl⟩, .inl ⟨_, by rw [HP.out, partsN_stop hc8 HF.out (.inl her)], hJ3⟩⟩
    · clear hy
      gi_wp2
      refine bodyPost_ret (results_none rfl _ _ _) rfl ?_
      obtain ⟨r, hr⟩ := partsN_head hc8 HF.out
      exact ⟨⟨_, rfl⟩, .inr ⟨_, ⟨r, by rw [HP.out, hr]; simp⟩, hJx3⟩⟩

end Go.Proofs.YtnibcffcbnjllaaGreatDoor
