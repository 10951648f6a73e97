/- Digests: words, rotations and mixed. -/
import Derived.Test.YteakoleceoclkaaB3
namespace Go.Proofs.Yteakoleceoclkaa
open Go.RowKit
set_option linter.unusedSimpArgs false
set_option linter.unusedVariables false

/-- a word as the program holds it -/
abbrev wi (x : BitVec 64) : Int := (x.toNat : Int)
theorem wi_lt (x : BitVec 64) : 0 ≤ wi x ∧ wi x < 18446744073709551616 := ⟨Int.natCast_nonneg _, by have := x.isLt; unfold wi; omega⟩
theorem ofInt_wi (x : BitVec 64) : BitVec.ofInt 64 (wi x) = x := by
  apply BitVec.eq_of_toNat_eq
  rw [BitVec.toNat_ofInt]
  have := x.isLt
  unfold wi
  omega
theorem u64_wi (n : Nat) : IntKind.u64.wrap (n : Int) = wi (BitVec.ofNat 64 n) := by
  rw [IntKind.wrap_u64]
  unfold wi
  rw [BitVec.toNat_ofNat]
  omega
theorem wi_wrap (x : BitVec 64) : IntKind.u64.wrap (wi x) = wi x := by
  rw [IntKind.wrap_u64]
  have := wi_lt x
  omega
theorem bits_xor (x y : BitVec 64) : bits .xor .u64 (wi x) (wi y) = wi (x ^^^ y) := by
  have e : bits .xor .u64 (wi x) (wi y) = IntKind.u64.wrap (((BitVec.ofInt 64 (wi x)) ^^^ (BitVec.ofInt 64 (wi y))).toNat : Int) := rfl
  rw [e, ofInt_wi, ofInt_wi, wi_wrap]
theorem bits_and (x y : BitVec 64) : bits .and .u64 (wi x) (wi y) = wi (x &&& y) := by
  have e : bits .and .u64 (wi x) (wi y) = IntKind.u64.wrap (((BitVec.ofInt 64 (wi x)) &&& (BitVec.ofInt 64 (wi y))).toNat : Int) := rfl
  rw [e, ofInt_wi, ofInt_wi, wi_wrap]
theorem bits_or (x y : BitVec 64) : bits .or .u64 (wi x) (wi y) = wi (x ||| y) := by
  have e : bits .or .u64 (wi x) (wi y) = IntKind.u64.wrap (((BitVec.ofInt 64 (wi x)) ||| (BitVec.ofInt 64 (wi y))).toNat : Int) := rfl
  rw [e, ofInt_wi, ofInt_wi, wi_wrap]
theorem shl_wi (x : BitVec 64) (s : Nat) : IntKind.u64.wrap (wi x * 2 ^ s) = wi (x <<< s) := by
  have e : wi x * 2 ^ s = ((x.toNat * 2 ^ s : Nat) : Int) := by unfold wi; push_cast; rfl
  rw [e, u64_wi]
  congr 1
  apply BitVec.eq_of_toNat_eq
  rw [BitVec.toNat_ofNat, BitVec.toNat_shiftLeft, Nat.shiftLeft_eq]
theorem shr_wi (x : BitVec 64) (s : Nat) : wi x / 2 ^ s = wi (x >>> s) := by
  unfold wi
  rw [BitVec.toNat_ushiftRight, Nat.shiftRight_eq_div_pow]
  push_cast
  rfl
/-- to the right -/
def rot (x : BitVec 64) (k : Nat) : BitVec 64 := (x >>> k) ||| (x <<< (64 - k))
def mixd (x : BitVec 64) (a b : Nat) : BitVec 64 := x ^^^ rot x a ^^^ rot x b
set_option maxRecDepth 100000 in
theorem rot_walk (x : BitVec 64) (k : Int) (s : Nat) (hs : s < 64) (hk : bits .and .u64 (IntKind.u64.wrap k) 63 = (s : Int)) (w : World) : Calls Try.prog 125 #[.int .u64 (wi x), .int .i64 k] w fun e w' => e = .returned (.int .u64 (wi (rot x (64 - s)))) ∧ w' = w := by
  have e : bits .or .u64 (IntKind.u64.wrap (wi x * 2 ^ s)) (wi x / 2 ^ (64 - s)) = wi (rot x (64 - s)) := by
    rw [shl_wi, shr_wi, bits_or]
    unfold rot
    rw [BitVec.or_comm]
    congr 3
    omega
  have HE := hid e
  clear e
  generalize wi x = X at *
  go_enter Try.func125, Try.ntmps125
  go_wp2
  go_ret
  rw [HE.out]
  exact ⟨rfl, rfl⟩
set_option maxRecDepth 100000 in
theorem rrot_walk (x : BitVec 64) (k : Nat) (hk : k < 64) (w : World) : Calls Try.prog 123 #[.int .u64 (wi x), .int .i64 k] w fun e w' => e = .returned (.int .u64 (wi (rot x k))) ∧ w.grownBy w' none := by
  have e : bits .or .u64 (wi x / 2 ^ k) (IntKind.u64.wrap (wi x * 2 ^ (64 - k))) = wi (rot x k) := by
    rw [shl_wi, shr_wi, bits_or]
    rfl
  have HE := hid e
  clear e
  generalize wi x = X at *
  go_enter Try.func123, Try.ntmps123
  go_wp2
  go_region
  all_goals go_wp2
  all_goals go_ret
  all_goals exact ⟨by rw [HE.out]; rfl, grown_drew _⟩
theorem rots : bits .and .u64 (IntKind.u64.wrap (-19)) 63 = ((45 : Nat) : Int) ∧ bits .and .u64 (IntKind.u64.wrap (-28)) 63 = ((36 : Nat) : Int) ∧ bits .and .u64 (IntKind.u64.wrap (-61)) 63 = ((3 : Nat) : Int) ∧ bits .and .u64 (IntKind.u64.wrap (-39)) 63 = ((25 : Nat) : Int) ∧ bits .and .u64 (IntKind.u64.wrap (-1)) 63 = ((63 : Nat) : Int) ∧ bits .and .u64 (IntKind.u64.wrap (-6)) 63 = ((58 : Nat) : Int) ∧ bits .and .u64 (IntKind.u64.wrap (-10)) 63 = ((54 : Nat) : Int) ∧ bits .and .u64 (IntKind.u64.wrap (-17)) 63 = ((47 : Nat) : Int) ∧ bits .and .u64 (IntKind.u64.wrap (-7)) 63 = ((57 : Nat) : Int) ∧ bits .and .u64 (IntKind.u64.wrap (-41)) 63 = ((23 : Nat) : Int) := by decide +kernel
set_option maxRecDepth 100000 in
theorem mixed_walk (x : BitVec 64) (a b : Int) (s t : Nat) (hs : s < 64) (ht : t < 64) (ha : -64 < -a ∧ -a < 0) (hb : -64 < -b ∧ -b < 0) (h1 : bits .and .u64 (IntKind.u64.wrap (-a)) 63 = (s : Int)) (h2 : bits .and .u64 (IntKind.u64.wrap (-b)) 63 = (t : Int)) (w : World) :
    Calls Try.prog 122 #[.int .u64 (wi x), .int .i64 a, .int .i64 b] w fun e w' => e = .returned (.int .u64 (wi (mixd x (64 - s) (64 - t)))) ∧ w' = w := by
  have H1 := hid h1
  have H2 := hid h2
  clear h1 h2
  have e : bits .xor .u64 (bits .xor .u64 (wi x) (wi (rot x (64 - s)))) (wi (rot x (64 - t))) = wi (mixd x (64 - s) (64 - t)) := by rw [bits_xor, bits_xor]; rfl
  have HE := hid e
  clear e
  go_enter Try.func122, Try.ntmps122
  go_wp2_with fail
  refine (rot_walk x (-a) s hs H1.out w).mono ?_
  rintro e w1 ⟨rfl, rfl⟩
  go_wp2_with fail
  refine (rot_walk x (-b) t ht H2.out _).mono ?_
  rintro e w1 ⟨rfl, rfl⟩
  go_wp2
  go_ret
  exact ⟨by rw [HE.out]; rfl, rfl⟩
end Go.Proofs.Yteakoleceoclkaa
