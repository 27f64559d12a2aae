/- The walks of the library's length of a number in bits. -/
import Derived.Test.YtjgmjnjpgdadhaaAwake3
import Derived.Lib.BitFns
import Derived.Lib.Tables
import Derived.Deep.Light
namespace Go.Proofs.Ytjgmjnjpgdadhaa
open Go.RowKit

set_option maxRecDepth 100000 in
@[go_sem high] theorem fold_len8 : ({ data := (([0, 1, 2, 2, 3, 3, 3, 3, 4, 4, 4, 4, 4, 4, 4, 4, 5, 5, 5, 5, 5, 5, 5, 5, 5, 5, 5, 5, 5, 5, 5, 5, 6, 6, 6, 6, 6, 6, 6, 6, 6, 6, 6, 6, 6, 6, 6, 6, 6, 6, 6, 6, 6, 6, 6, 6, 6, 6, 6, 6, 6, 6, 6, 6].append [7, 7, 7, 7, 7, 7, 7, 7, 7, 7, 7, 7, 7, 7, 7, 7, 7, 7, 7, 7, 7, 7, 7, 7, 7, 7, 7, 7, 7, 7, 7, 7, 7, 7, 7, 7, 7, 7, 7, 7, 7, 7, 7, 7, 7, 7, 7, 7, 7, 7, 7, 7, 7, 7, 7, 7, 7, 7, 7, 7, 7, 7, 7, 7]).append ([8, 8, 8, 8, 8, 8, 8, 8, 8, 8, 8, 8, 8, 8, 8, 8, 8, 8, 8, 8, 8, 8, 8, 8, 8, 8, 8, 8, 8, 8, 8, 8, 8, 8, 8, 8, 8, 8, 8, 8, 8, 8, 8, 8, 8, 8, 8, 8, 8, 8, 8, 8, 8, 8, 8, 8, 8, 8, 8, 8, 8, 8, 8, 8].append [8, 8, 8, 8, 8, 8, 8, 8, 8, 8, 8, 8, 8, 8, 8, 8, 8, 8, 8, 8, 8, 8, 8, 8, 8, 8, 8, 8, 8, 8, 8, 8, 8, 8, 8, 8, 8, 8, 8, 8, 8, 8, 8, 8, 8, 8, 8, 8, 8, 8, 8, 8, 8, 8, 8, 8, 8, 8, 8, 8, 8, 8, 8, 8])).toArray } : ByteArray) = Lib.len8tab := by rfl

theorem wadd (k a b : Nat) (hk : k ≤ 56) (ha : a ≤ 8) (hb : b = k + a) : wrap64 ((k : Int) + wrap64 (a : Int)) = (b : Int) := by
  unfold wrap64
  omega
theorem wwrap (a : Nat) (ha : a ≤ 8) : wrap64 (wrap64 (a : Int)) = (a : Int) := by
  unfold wrap64
  omega
theorem wone (a : Nat) (ha : a ≤ 8) : wrap64 (a : Int) = (a : Int) := by
  unfold wrap64
  omega
theorem len8_at (y : Int) (h : y.toNat < Lib.len8tab.size) : ((Lib.len8tab[y.toNat]'h).toNat : Int) = Lib.len8 y := by
  unfold Lib.len8
  rw [getElem?_pos Lib.len8tab y.toNat h]
  rfl
theorem len8_size : (Lib.len8tab.size : Int) = 256 := by rw [Lib.len8tab_size]; rfl

set_option maxRecDepth 1000000 in
set_option maxHeartbeats 32000000 in
theorem Len64_any (x : Int) (w : World) (h0 : 0 ≤ x) (h1 : x ≤ 18446744073709551615) :
    Calls Try.prog 146 #[.int .u64 x] w fun e w' => e = .returned (.int .i64 (Lib.bitLen x.toNat)) ∧ w' = w := by
  go_enter Try.func146, Try.ntmps146
  go_wp2
  all_goals first
    | (go_ret; refine ⟨congrArg Ending.returned (congrArg (Value.int IntKind.i64) ?_), rfl⟩; go_light)
    | (exfalso
       go_light
       have hs := len8_size
       omega)
  all_goals first
    | (rw [len8_at (x / 4294967296 / 65536 / 256) _, Lib.len8_of (x / 4294967296 / 65536 / 256) (by omega) (by omega)]
       have e : (x / 4294967296 / 65536 / 256).toNat = x.toNat / 72057594037927936 := by omega
       have l := Lib.bitLen_le8' (x / 4294967296 / 65536 / 256) (by omega) (by omega)
       have s := Lib.bitLen_shift56 x.toNat (by omega) (by omega)
       rw [e] at l ⊢
       exact wadd 56 _ _ (by decide) l s)
    | (rw [len8_at (x / 4294967296 / 65536) _, Lib.len8_of (x / 4294967296 / 65536) (by omega) (by omega)]
       have e : (x / 4294967296 / 65536).toNat = x.toNat / 281474976710656 := by omega
       have l := Lib.bitLen_le8' (x / 4294967296 / 65536) (by omega) (by omega)
       have s := Lib.bitLen_shift48 x.toNat (by omega) (by omega)
       rw [e] at l ⊢
       exact wadd 48 _ _ (by decide) l s)
    | (rw [len8_at (x / 4294967296 / 256) _, Lib.len8_of (x / 4294967296 / 256) (by omega) (by omega)]
       have e : (x / 4294967296 / 256).toNat = x.toNat / 1099511627776 := by omega
       have l := Lib.bitLen_le8' (x / 4294967296 / 256) (by omega) (by omega)
       have s := Lib.bitLen_shift40 x.toNat (by omega) (by omega)
       rw [e] at l ⊢
       exact wadd 40 _ _ (by decide) l s)
    | (rw [len8_at (x / 4294967296) _, Lib.len8_of (x / 4294967296) (by omega) (by omega)]
       have e : (x / 4294967296).toNat = x.toNat / 4294967296 := by omega
       have l := Lib.bitLen_le8' (x / 4294967296) (by omega) (by omega)
       have s := Lib.bitLen_shift32 x.toNat (by omega) (by omega)
       rw [e] at l ⊢
       exact wadd 32 _ _ (by decide) l s)
    | (rw [len8_at (x / 65536 / 256) _, Lib.len8_of (x / 65536 / 256) (by omega) (by omega)]
       have e : (x / 65536 / 256).toNat = x.toNat / 16777216 := by omega
       have l := Lib.bitLen_le8' (x / 65536 / 256) (by omega) (by omega)
       have s := Lib.bitLen_shift24 x.toNat (by omega) (by omega)
       rw [e] at l ⊢
       exact wadd 24 _ _ (by decide) l s)
    | (rw [len8_at (x / 65536) _, Lib.len8_of (x / 65536) (by omega) (by omega)]
       have e : (x / 65536).toNat = x.toNat / 65536 := by omega
       have l := Lib.bitLen_le8' (x / 65536) (by omega) (by omega)
       have s := Lib.bitLen_shift16 x.toNat (by omega) (by omega)
       rw [e] at l ⊢
       exact wadd 16 _ _ (by decide) l s)
    | (rw [len8_at (x / 256) _, Lib.len8_of (x / 256) (by omega) (by omega)]
       have e : (x / 256).toNat = x.toNat / 256 := by omega
       have l := Lib.bitLen_le8' (x / 256) (by omega) (by omega)
       have s := Lib.bitLen_shift8 x.toNat (by omega) (by omega)
       rw [e] at l ⊢
       exact wadd 8 _ _ (by decide) l s)
    | (rw [len8_at (x) _, Lib.len8_of (x) (by omega) (by omega)]
       have l := Lib.bitLen_le8' (x) (by omega) (by omega)
       first | exact wwrap _ l | exact wadd 0 _ _ (by decide) l (by omega) | exact wone _ l)

/-- The place of the highest bit. -/
theorem bitLen_hi {x : Nat} (h0 : 0 < x) (h : x < 18446744073709551616) : 1 ≤ Lib.bitLen x ∧ Lib.bitLen x ≤ 64 ∧ 2 ^ (Lib.bitLen x - 1) ≤ x ∧ x < 2 ^ Lib.bitLen x := by
  have b64 : Lib.bitLen x ≤ 64 := Lib.bitLen_le x 64 (by omega) h
  have b1 : 1 ≤ Lib.bitLen x := by have := Lib.bitLen_half x (by omega) h; omega
  refine ⟨b1, b64, ?_, ?_⟩
  · rcases Nat.lt_or_ge x (2 ^ (Lib.bitLen x - 1)) with k | k
    · have := Lib.bitLen_le x (Lib.bitLen x - 1) (by omega) k; omega
    · exact k
  · rcases Nat.lt_or_ge x (2 ^ Lib.bitLen x) with k | k
    · exact k
    · have s := Lib.bitLen_shift (Lib.bitLen x) x k h
      have hp : 0 < 2 ^ Lib.bitLen x := Nat.two_pow_pos _
      have q : 0 < x / 2 ^ Lib.bitLen x := Nat.div_pos k hp
      have := Lib.bitLen_half (x / 2 ^ Lib.bitLen x) (by omega) (Nat.lt_of_le_of_lt (Nat.div_le_self _ _) h)
      omega

set_option maxHeartbeats 1000000 in
theorem Lz64_any (y : Nat) (w : World) (h0 : 0 < y) (h : y < 18446744073709551616) :
    Calls Try.prog 140 #[.int .u64 y] w fun e w' => e = .returned (.int .i64 ((64 - Lib.bitLen y : Nat) : Int)) ∧ w' = w := by
  have hb := bitLen_hi h0 h
  have C := Lib.hid (fun w => Len64_any (y : Int) w (by omega) (by omega))
  rw [Int.toNat_natCast] at C
  obtain ⟨b, hbb⟩ : ∃ b, b = Lib.bitLen y := ⟨_, rfl⟩
  rw [← hbb] at hb C ⊢
  clear hbb
  obtain ⟨b1, b2, _, _⟩ := hb
  go_enter Try.func140, Try.ntmps140
  go_wp2_with (go_at_call 146; (with_reducible refine (C.out _).mono ?_); rintro e w' ⟨rfl, rfl⟩)
  go_ret
  exact ⟨ret_int (by omega), rfl⟩

end Go.Proofs.Ytjgmjnjpgdadhaa
