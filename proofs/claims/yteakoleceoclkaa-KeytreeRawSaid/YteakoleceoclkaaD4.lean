/- Digests: words of bytes. -/
import Derived.Test.YteakoleceoclkaaD1
import Derived.Test.YteakoleceoclkaaQ
namespace Go.Proofs.Yteakoleceoclkaa
open Go.RowKit
set_option linter.unusedSimpArgs false
set_option linter.unusedVariables false

/-- the first k bytes of a list as a word, the least first -/
def wdk (l : List Nat) (k : Nat) : BitVec 64 := (List.range k).foldl (fun x i => x ||| (BitVec.ofNat 64 (l.getD i 0) <<< (8 * i))) 0
def wd (l : List Nat) : BitVec 64 := wdk l 8
theorem wdk_succ (l : List Nat) (k : Nat) : wdk l (k + 1) = wdk l k ||| (BitVec.ofNat 64 (l.getD k 0) <<< (8 * k)) := by unfold wdk; rw [List.range_succ, List.foldl_append]; rfl
theorem wi_byte {b : Nat} (h : b < 256) : wi (BitVec.ofNat 64 b) = (b : Int) := by unfold wi; rw [BitVec.toNat_ofNat]; omega
theorem wd_step (l : List Nat) (k : Nat) (hb : l.getD k 0 < 256) : bits .or .u64 (wi (wdk l k)) (IntKind.u64.wrap ((l.getD k 0 : Nat) * 2 ^ (8 * k))) = wi (wdk l (k + 1)) := by
  rw [wdk_succ, ← bits_or, ← shl_wi, wi_byte hb]
theorem bv_at {l : List Nat} {k : Nat} (hk : k < l.length) : (bv l)[k]? = some (.int .u8 (l.getD k 0 : Nat)) := by
  unfold bv
  rw [List.getElem?_map, List.getElem?_eq_getElem hk, List.getD_eq_getElem?_getD, List.getElem?_eq_getElem hk]; rfl
/-- the bytes of a slice lie in one block -/
theorem Sl.bytes {w : World} {ao : Option Addr} {n cap : Nat} {l : List Nat} (h : Sl w 1 (.slice ao n cap) n (bv l)) (hl : 0 < l.length) :
    ∃ b off, ao = some ⟨b, off, none⟩ ∧ ∀ k, k < l.length → w.cell? ⟨b, off + k, none⟩ = some (.int .u8 (l.getD k 0 : Nat)) := by
  obtain ⟨b, off, h1, h2⟩ := Sl.at h 0 (by rw [bv_length]; exact hl)
  refine ⟨b, off, h1, fun k hk => ?_⟩
  have hk' : k < (bv l).length := by rw [bv_length]; exact hk
  rw [h2 k hk']
  have := bv_at hk
  rw [List.getElem?_eq_getElem hk'] at this
  exact this
set_option maxRecDepth 100000 in
set_option maxHeartbeats 1000000 in
theorem word_walk (l : List Nat) (hl : l.length = 8) (hb : ∀ x ∈ l, x < 256) (s : Value) (w : World) (h : Sl w 1 s 8 (bv l)) : Calls Try.prog 115 #[s] w fun e w' => e = .returned (.int .u64 (wi (wd l))) ∧ w' = w := by
  obtain ⟨ao, cap, rfl, hc1, hc2⟩ := Sl.shape h
  obtain ⟨b, off, rfl, hc⟩ := Sl.bytes h (by omega)
  have HC := hid hc
  have HL := hid hl
  have HB := hid hb
  clear hc h hl hb
  go_enter Try.func115, Try.ntmps115
  go_wp2
  go_loop [3, 8] (fun x i => ∃ k : Nat, k ≤ 8 ∧ i = .int .i64 k ∧ x = .int .u64 (wi (wdk l k))) (fun _ i => 8 - (intOf i).toNat)
  case atStart => exact ⟨0, by omega, rfl, rfl⟩
  case round =>
    obtain ⟨k, hk, rfl, rfl⟩ := hrel
    by_cases hlt : k < 8
    · have hlk : k < l.length := by rw [HL.out]; exact hlt
      have c0 := HC.out k hlk
      have hbk : l.getD k 0 < 256 := HB.out _ (by rw [List.getD_eq_getElem?_getD, List.getElem?_eq_getElem hlk]; exact List.getElem_mem hlk)
      have ST := hid (wd_step l k hbk)
      generalize l.getD k 0 = c at *
      have i1 : (0 : Int) ≤ (k : Int) := by omega
      have i2 : (k : Int) < 8 := by omega
      have b1 : (0 : Int) ≤ (c : Int) := by omega
      have b2 : (c : Int) < 256 := by omega
      clear hlk hbk
      generalize wi (wdk l k) = X at *
      go_wp2
      go_round
      case rel => exact ⟨k + 1, by omega, by go_num, by rw [ST.out]⟩
      case measure => simp [intOf]; omega
    · obtain rfl : k = 8 := by omega
      go_wp2
      go_ret
      exact ⟨rfl, rfl⟩
set_option maxRecDepth 100000 in
set_option maxHeartbeats 1000000 in
theorem rword_walk (l : List Nat) (hl : l.length = 8) (hb : ∀ x ∈ l, x < 256) (s : Value) (w : World) (h : Sl w 1 s 8 (bv l)) : Calls Try.prog 118 #[s] w fun e w' => e = .returned (.int .u64 (wi (wd l))) ∧ w' = w := by
  obtain ⟨ao, cap, rfl, hc1, hc2⟩ := Sl.shape h
  obtain ⟨b, off, rfl, hc⟩ := Sl.bytes h (by omega)
  have HC := hid hc
  have HL := hid hl
  have HB := hid hb
  clear hc h hl hb
  go_enter Try.func118, Try.ntmps118
  go_wp2
  go_loop [3, 4] (fun x i => ∃ k : Nat, k ≤ 8 ∧ i = .int .i64 k ∧ x = .int .u64 (wi (wdk l k))) (fun _ i => 8 - (intOf i).toNat)
  case atStart => exact ⟨0, by omega, rfl, rfl⟩
  case round =>
    obtain ⟨k, hk, rfl, rfl⟩ := hrel
    by_cases hlt : k < 8
    · have hlk : k < l.length := by rw [HL.out]; exact hlt
      have c0 := HC.out k hlk
      have hbk : l.getD k 0 < 256 := HB.out _ (by rw [List.getD_eq_getElem?_getD, List.getElem?_eq_getElem hlk]; exact List.getElem_mem hlk)
      have ST := hid (wd_step l k hbk)
      generalize l.getD k 0 = c at *
      have i1 : (0 : Int) ≤ (k : Int) := by omega
      have i2 : (k : Int) < 8 := by omega
      have b1 : (0 : Int) ≤ (c : Int) := by omega
      have b2 : (c : Int) < 256 := by omega
      clear hlk hbk
      generalize wi (wdk l k) = X at *
      go_wp2
      go_round
      case rel => exact ⟨k + 1, by omega, by go_num, by rw [ST.out]⟩
      case measure => simp [intOf]; omega
    · obtain rfl : k = 8 := by omega
      go_wp2
      go_ret
      exact ⟨rfl, rfl⟩
end Go.Proofs.Yteakoleceoclkaa
