/- digits of the law: a number in decimal. -/
import Derived.Lib.ItoaLen
import Derived.Deep.DrawnRows
import Derived.Deep.RegionHeld3
import Derived.Test.YtnibcffcbnjllaaGreatDoorQLaw2
namespace Go.Proofs.YtnibcffcbnjllaaGreatDoor
open Go.RowKit

theorem dig_byte {k : Nat} (h : k < 10) : ((UInt8.ofNat (48 + k)).toNat : Int) = 48 + (k : Int) := by
  have : (UInt8.ofNat (48 + k)).toNat = 48 + k := by simp; omega
  omega
/-- 'string([]byte{c})'. -/
theorem conv_one (W : World) {c : UInt8} {z : Int} (h : (c.toNat : Int) = z) : (convert 117 9 (.slice (some ⟨W.heap.size, 0, none⟩) 1 1)).run Tryz.prog (W.alloc (.cells #[.int .u8 z] 5)) = .ok (.string ⟨#[c]⟩) (W.alloc (.cells #[.int .u8 z] 5)) :=
  run_convert_bytes_back (P := Tryz.prog) (W.alloc (.cells #[.int .u8 z] 5)) 117 9 5 ⟨W.heap.size, 0, none⟩ 1 [c] (by kernel_rfl) (by kernel_rfl) (by kernel_rfl) (fun j hj => by
    obtain rfl : j = 0 := by simpa using hj
    have hh := World.alloc_heap_new W (.cells #[.int .u8 z] 5)
    rw [show (⟨W.heap.size, 0, none⟩ : Addr).add 0 = ⟨W.heap.size, 0, none⟩ by simp [Addr.add]]
    unfold World.cell?
    simp only [hh, List.getElem_cons_zero, h]
    rfl)
/-- The same, of a block that lies there. -/
theorem conv_at (W : World) {B : Nat} {c : UInt8} {z : Int} (h : (c.toNat : Int) = z) (hc : W.cell? ⟨B, 0, none⟩ = some (.int .u8 z)) : (convert 117 9 (.slice (some ⟨B, 0, none⟩) 1 1)).run Tryz.prog W = .ok (.string ⟨#[c]⟩) W :=
  run_convert_bytes_back (P := Tryz.prog) W 117 9 5 ⟨B, 0, none⟩ 1 [c] (by kernel_rfl) (by kernel_rfl) (by kernel_rfl) (fun j hj => by
    obtain rfl : j = 0 := by simpa using hj
    rw [show (⟨B, 0, none⟩ : Addr).add 0 = ⟨B, 0, none⟩ by simp [Addr.add], hc]
    simp [h])
theorem dig_cell (W : World) (z : Int) : (W.alloc (.cells #[.int .u8 z] 5)).cell? ⟨W.heap.size, 0, none⟩ = some (.int .u8 z) := by
  have hh := World.alloc_heap_new W (.cells #[.int .u8 z] 5)
  unfold World.cell?
  simp only [hh]
  rfl
theorem str_app (a : Nm) (c : UInt8) : Ending.returned (Value.string ((⟨a.toArray⟩ : ByteArray) ++ ⟨#[c]⟩)) = .returned (encN (a ++ [c])) := by
  unfold encN
  congr 2
theorem dig_lt {k : Nat} (h : k < 10) : Lib.decDigits k = [UInt8.ofNat (48 + k)] := by rw [Lib.decDigits, dif_pos h]
theorem dig_ge {k : Nat} (h : ¬ k < 10) : Lib.decDigits k = Lib.decDigits (k / 10) ++ [UInt8.ofNat (48 + k % 10)] := by rw [Lib.decDigits, dif_neg h]

set_option maxRecDepth 100000 in
set_option maxHeartbeats 2000000 in
theorem digits_any : ∀ (k n : Nat) (w : World), n < 10 ^ k → k ≤ 18 →
    Calls Tryz.prog 62 #[.int .i64 (n : Int)] w fun e w' => e = .returned (encN (Lib.decDigits n)) ∧ Below w.heap.size w w'
  | k, n, w, hn, hk => by
    by_cases h : n < 10
    · have hlt : (n : Int) < 10 := by omega
      rw [dig_lt h]
      have hcb := dig_byte h
      generalize UInt8.ofNat (48 + n) = c at hcb ⊢
      have hcv := fun W => conv_one W hcb
      clear hcb
      go_enter Tryz.func62, Tryz.ntmps62
      go_wp2_with fail
      go_ret
      exact ⟨rfl, (Below.refl _ w).alloc (Nat.le_refl _) _⟩
    · cases k with
      | zero => simp at hn; omega
      | succ k =>
        have hlt : ¬ (n : Int) < 10 := by omega
        have hn18 : n < 10 ^ 18 := Nat.lt_of_lt_of_le hn (Nat.pow_le_pow_right (by omega) hk)
        rw [dig_ge h]
        have hq : n / 10 < 10 ^ k := by rw [Nat.pow_succ] at hn; omega
        have hm : n % 10 < 10 := Nat.mod_lt _ (by omega)
        have e1 : IntKind.i64.wrap ((n : Int) / 10) = ((n / 10 : Nat) : Int) := by
          rw [IntKind.wrap_i64]
          first | omega | (unfold wrap64; omega)
        have hq2 : n / 10 ≤ 999999999999999999 := by omega
        have e2 : (n : Int).tmod 10 = ((n % 10 : Nat) : Int) := rfl
        have hcb := dig_byte hm
        generalize n / 10 = q at *
        generalize n % 10 = m at *
        have e3 : IntKind.i64.wrap (48 + (m : Int)) = 48 + (m : Int) := by
          rw [IntKind.wrap_i64]
          first | omega | (unfold wrap64; omega)
        have e4 : IntKind.u8.wrap (48 + (m : Int)) = 48 + (m : Int) := by
          rw [IntKind.wrap_u8]
          omega
        generalize UInt8.ofNat (48 + m) = c at hcb ⊢
        have hcv := fun W => conv_one W hcb
        have ih := Lib.hid (fun W => digits_any k q W hq (by omega))
        unfold encN at ih
        have hil : (Lib.decDigits q).length ≤ 21 := by
          have := Lib.itoa_length_le (q : Int) (by omega) (by omega)
          rw [show Lib.itoa (q : Int) = Lib.decDigits q by unfold Lib.itoa; rw [if_neg (by omega)]; rfl] at this
          exact this
        generalize Lib.decDigits q = dq at ih hil ⊢
        clear hn hn18 hq h
        have hcd := conv_at (w.alloc (.cells #[.int .u8 (48 + (m : Int))] 5)).drew hcb (dig_cell w (48 + (m : Int)))
        go_enter Tryz.func62, Tryz.ntmps62
        go_wp2_with fail
        go_region_with (first
          | (go_at_call 62; (with_reducible refine (ih.out _).mono ?_); rintro e w1 ⟨rfl, hb1⟩; (try (have hcw := conv_at w1 hcb ((hb1.cell (p := ⟨w.heap.size, 0, none⟩) (by simp)).trans (dig_cell w (48 + (m : Int))))))))
        all_goals
          go_wp2_with fail
          go_ret
          first
            | exact ⟨str_app dq c, ((Below.refl w.heap.size w).drew.trans hb1).alloc (hb1.size) _⟩
            | exact ⟨str_app dq c, (((Below.refl w.heap.size w).alloc (Nat.le_refl _) _).drew).trans (hb1.mono (by simp))⟩

end Go.Proofs.YtnibcffcbnjllaaGreatDoor
