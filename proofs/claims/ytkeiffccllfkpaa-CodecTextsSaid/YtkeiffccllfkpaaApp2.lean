/- row, versions, sources: the appenders over lists that draw no order. -/
import Derived.Test.YtkeiffccllfkpaaApp
namespace Go.Proofs.Ytkeiffccllfkpaa
open Go.RowKit

def vcells (v : V) : List Value := [.int .i64 v.kind, .int .i64 v.int, .string v.text]
/-- s reads as the row l, from blocks below B -/
def DRow (B : Nat) (w : World) (s : Value) (l : List V) : Prop := Sl w 3 s l.length (l.flatMap vcells) ∧ Lo s B
def Hi (v : Value) (B : Nat) : Prop := ∀ k, v.ownBlock = some k → B ≤ k
theorem Hi.step {w w' : World} {v v' : Value} {B : Nat} (h : Hi v B) (hs : Step w v w' v') (hB : B ≤ w.heap.size) : Hi v' B := fun k hk => by
  rcases hs.2 k hk with h1 | h1
  · exact h k h1
  · omega
theorem Hi.below {w w' : World} {v v' : Value} {B : Nat} (h : Hi v B) (hs : Step w v w' v') (hB : B ≤ w.heap.size) : Below B w w' := grown_below hs.1 hB h
theorem DRow.below {B : Nat} {w w' : World} {s : Value} {l : List V} (h : DRow B w s l) (hb : Below B w w') : DRow B w' s l := ⟨h.1.below hb h.2, h.2⟩
theorem flat_get {α β : Type} (f : α → List β) (n : Nat) : ∀ (l : List α), (∀ x ∈ l, (f x).length = n) → ∀ (k : Nat) (hk : k < l.length) (j : Nat), j < n → (l.flatMap f)[k * n + j]? = (f l[k])[j]?
  | [], _, k, hk, _, _ => by simp at hk
  | x :: l, hf, 0, hk, j, hj => by
    rw [List.flatMap_cons, List.getElem?_append_left (by rw [hf x List.mem_cons_self]; omega)]
    simp
  | x :: l, hf, k + 1, hk, j, hj => by
    have hx := hf x List.mem_cons_self
    rw [List.flatMap_cons, List.getElem?_append_right (by rw [hx, Nat.add_mul]; omega), hx]
    have e : (k + 1) * n + j - n = k * n + j := by rw [Nat.add_mul]; omega
    rw [e, flat_get f n l (fun y hy => hf y (List.mem_cons_of_mem _ hy)) k (by simpa using hk) j hj]
    simp
/-- the cells of one element -/
theorem Sl.elem {α : Type} {w : World} {n : Nat} {ao : Option Addr} {m cap : Nat} {l : List α} {f : α → List Value} (h : Sl w n (.slice ao m cap) l.length (l.flatMap f)) (hf : ∀ x ∈ l, (f x).length = n) (hn : 0 < n) (k : Nat) (hk : k < l.length) :
    ∃ b off, ao = some ⟨b, off, none⟩ ∧ ∀ j v, (f l[k])[j]? = some v → w.cell? ⟨b, off + (k * n + j), none⟩ = some v := by
  have hlen : (l.flatMap f).length = l.length * n := h.1
  have hpos : k * n < (l.flatMap f).length := by rw [hlen]; exact Nat.mul_lt_mul_of_pos_right hk hn
  obtain ⟨b, off, he, hc⟩ := h.at (k * n) hpos
  refine ⟨b, off, he, fun j v hj => ?_⟩
  have hjn : j < n := by
    have := (List.getElem?_eq_some_iff.1 hj).1
    rw [hf _ (List.getElem_mem hk)] at this
    exact this
  have hlt : k * n + j < (l.flatMap f).length := by
    rw [hlen]
    calc k * n + j < k * n + n := by omega
      _ = (k + 1) * n := by rw [Nat.add_mul]; omega
      _ ≤ l.length * n := Nat.mul_le_mul_right _ (by omega)
  rw [hc _ hlt]
  have := flat_get f n l hf k hk j hjn
  rw [List.getElem?_eq_getElem hlt, hj] at this
  exact this
theorem encC_len {v : V} (h : v.ok) : (encC v).length ≤ 60 := by
  unfold encC
  have h1 := enc_len (V.ok_kind h).1.1 (V.ok_kind h).1.2
  have h2 := enc_len (V.ok_kind h).2.1 (V.ok_kind h).2.2
  have h3 := encT_len v.text (by have := V.ok_text h; omega)
  have h4 := V.ok_text h
  rw [List.length_append]
  split
  · omega
  · split
    · omega
    · simp; omega
theorem encV_len (v : V) : (encV v).length ≤ 60 := encC_len v.clean_ok
theorem flat_len {α : Type} {f : α → List Nat} {n : Nat} : ∀ (l : List α), (∀ x ∈ l, (f x).length ≤ n) → (l.flatMap f).length ≤ n * l.length
  | [], _ => by simp
  | x :: l, h => by
    have h1 := h x List.mem_cons_self
    have h2 := flat_len l fun y hy => h y (List.mem_cons_of_mem _ hy)
    simp only [List.flatMap_cons, List.length_append, List.length_cons, Nat.mul_add]
    omega

set_option maxRecDepth 100000 in
set_option maxHeartbeats 1000000 in
theorem row_app (v s : Value) (l : List V) (xs : List Nat) (w : World) (B : Nat) (hown : Own w 5 1 v xs.length (bv xs)) (hi : Hi v B) (hs : DRow B w s l) (hB : B ≤ w.heap.size) (hl : xs.length + 20 + 60 * l.length ≤ 1099511627776) :
    Calls Try.prog 113 #[v, s] w (AppPost w v (xs ++ encRow l)) := by
  obtain ⟨ao, cap, rfl, hnc, hcm⟩ := hs.1.shape
  have HS := hid hs
  have HI := hid hi
  clear hs hi
  go_enter Try.func113, Try.ntmps113
  go_wp2_with fail
  refine (intsL_walk v [(l.length : Int)] xs w _ _ 1 hown rfl rfl (fun m hm => by simp at hm; subst hm; exact ⟨by omega, by omega⟩) (by simp; omega)).mono ?_
  rintro e w1 ⟨v1, rfl, hown1, hst1⟩
  simp only [List.flatMap_cons, List.flatMap_nil, List.append_nil] at hown1
  have hel := enc_len (n := (l.length : Int)) (by omega) (by omega)
  have HE := hid hel
  clear hel
  go_wp2
  go_loopw [0, 14] (fun b i wr => ∃ k : Nat, k ≤ l.length ∧ i = .int .i64 k ∧ Own wr 5 1 b (xs ++ enc l.length ++ (l.take k).flatMap encV).length (bv (xs ++ enc l.length ++ (l.take k).flatMap encV)) ∧ Step w v wr b) (fun _ i _ => l.length - (intOf i).toNat)
  case atStart => exact ⟨0, Nat.zero_le _, rfl, by simpa using hown1, hst1⟩
  case round =>
    obtain ⟨k, hk, rfl, hownk, hstk⟩ := hrel
    by_cases hlt : k < l.length
    · have hbel := HI.out.below hstk hB
      obtain ⟨blk, off, rfl, hc⟩ := (HS.out.below hbel).1.elem (fun x _ => rfl) (by decide) k hlt
      have h0 : wr.cell? ⟨blk, off + k * 3, none⟩ = some (.int .i64 l[k].kind) := hc 0 _ rfl
      have h1 : wr.cell? ⟨blk, off + k * 3 + 1, none⟩ = some (.int .i64 l[k].int) := hc 1 _ rfl
      have h2 : wr.cell? ⟨blk, off + k * 3 + 2, none⟩ = some (.string l[k].text) := hc 2 _ rfl
      have HT := hid (take_flat encV l k hlt)
      have hfl := flat_len (l.take k) (n := 60) (f := encV) fun x _ => encV_len x
      rw [List.length_take, Nat.min_eq_left (by omega)] at hfl
      have hl2 : (xs ++ enc l.length ++ (l.take k).flatMap encV).length + 60 ≤ 1099511627776 := by
        have := HE.out
        simp only [List.length_append]
        omega
      generalize hx : l[k] = x at *
      clear hc hx hfl
      have OK := hid hownk
      have SK := hid hstk
      clear hownk hstk
      generalize hpre : xs ++ enc l.length ++ (l.take k).flatMap encV = pre at *
      have HP := hid hpre
      clear hpre
      go_wp2_with fail
      refine (cell_app u0 x pre _ (OK.out.alloc _) hl2).mono ?_
      rintro e w2 ⟨v2, rfl, hown2, hst2⟩
      go_wp2
      go_roundw
      case rel => exact ⟨k + 1, by omega, by go_num, by rw [HT.out, ← List.append_assoc, HP.out]; exact hown2, SK.out.trans hst2.alloc⟩
      case measure => simp [intOf]; omega
    · obtain rfl : k = l.length := by omega
      go_wp2
      go_ret
      rw [List.take_length] at hownk
      exact ⟨_, rfl, by unfold encRow; rw [← List.append_assoc]; exact hownk, hstk⟩
end Go.Proofs.Ytkeiffccllfkpaa
