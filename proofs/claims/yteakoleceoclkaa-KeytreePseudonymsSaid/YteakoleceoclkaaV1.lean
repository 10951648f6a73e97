/- Vaults: what a slice of keys reads; owners compared. -/
import Derived.Test.YteakoleceoclkaaSG
import Derived.Test.YteakoleceoclkaaVP
import Derived.Lib.Bytealg
import Derived.Lib.BytesEntry
namespace Go.Proofs.Yteakoleceoclkaa
open Go.RowKit Go.Shelf
set_option linter.unusedSimpArgs false
set_option linter.unusedVariables false
structure VK where
 o : List Nat
 ho : Dg o
 ao : Option Addr
 cap : Nat
 l : List Nd
def VK.s (k : VK) : Value := .slice k.ao k.l.length k.cap
def VK.p (k : VK) : VP := (k.o, k.l)
def kcells (k : VK) : List Value := [bv k.o, [k.s]].flatten
def kval (k : VK) : Value := .agg (kcells k).toArray
theorem kcells_len (k : VK) : (kcells k).length = 33 := by simp [kcells, bv_length, k.ho.1]
theorem kcells_one (k : VK) : ∀ c ∈ kcells k, c.oneCell' = true := by
 intro c hc
 simp only [kcells, List.flatten_cons, List.flatten_nil, List.append_nil] at hc
 rcases List.mem_append.1 hc with h | h
 · exact bv_ones _ c h
 · obtain rfl := List.mem_singleton.1 h; rfl
theorem kcells_all (ks : List VK) : (ks.flatMap kcells).all Value.oneCell' = true := by
 rw [List.all_flatMap, List.all_eq_true]
 exact fun k _ => List.all_eq_true.2 (kcells_one k)
theorem tyK (k : VK) : TY Try.prog 65 (kcells k) (kval k) := by
 refine TY.agg Try.underlying65 rfl ?_ (kcells_one k)
 rw [kcells_len]
 kernel_rfl
theorem tyKs (v : Value) (h : v.oneCell' = true) : TY Try.prog 56 [v] v := TY.one' Try.underlying56 rfl (by kernel_rfl) h
def vval (sa po : List Nat) (s : Value) : Value := .agg ([bv sa, bv po, [s]].flatten).toArray
theorem tyVa {sa po : List Nat} (hs : Dg sa) (hp : Dg po) (s : Value) (h : s.oneCell' = true) : TY Try.prog 58 ([bv sa, bv po, [s]].flatten) (vval sa po s) := by
 refine TY.agg Try.underlying58 rfl ?_ ?_
 · rw [show ([bv sa, bv po, [s]].flatten).length = 65 by simp [bv_length, hs.1, hp.1]]
   kernel_rfl
 · intro c hc
   simp only [List.flatten_cons, List.flatten_nil, List.append_nil, List.mem_append, List.mem_singleton] at hc
   rcases hc with hc | hc | hc
   · exact bv_ones _ c hc
   · exact bv_ones _ c hc
   · rw [hc]; exact h
def KsR (w : World) (ks : List VK) : Prop := ∀ k ∈ ks, RdT w k.s k.l
def fpKs (ks : List VK) (b : Nat) : Prop := ∃ k ∈ ks, fpT k.s b
def fpK (v : Value) (ks : List VK) (b : Nat) : Prop := fpS v b ∨ fpKs ks b
def RdK (w : World) (v : Value) (ks : List VK) : Prop := SlB w 33 v ks.length (ks.flatMap kcells) ∧ KsR w ks
section
variable {w w' : World} {v : Value} {ks : List VK} {b : Nat}
theorem KsR.kn (h : KsR w ks) (g : w.grownBy w' none) : KsR w' ks := fun k hk => (h k hk).kn g
theorem KsR.off (h : KsR w ks) (g : w.grownBy w' (some b)) (hb : ∀ k, fpKs ks k → k ≠ b) : KsR w' ks := fun k hk => (h k hk).off g fun x hx => hb x ⟨k, hk, hx⟩
theorem KsR.offR (h : KsR w ks) {row : Option Nat} (g : w.grownBy w' row) (hb : ∀ k, fpKs ks k → row ≠ some k) : KsR w' ks := fun k hk => (h k hk).offR g fun x hx => hb x ⟨k, hk, hx⟩
theorem RdK.offR (h : RdK w v ks) {row : Option Nat} (g : w.grownBy w' row) (hb : ∀ k, fpK v ks k → row ≠ some k) : RdK w' v ks := ⟨h.1.offR g fun k hk => hb k (.inl hk), h.2.offR g fun k hk => hb k (.inr hk)⟩
theorem KsR.lt (h : KsR w ks) : ∀ k, fpKs ks k → k < w.heap.size := fun k ⟨x, hx, hk⟩ => (h x hx).lt k hk
theorem RdK.kn (h : RdK w v ks) (g : w.grownBy w' none) : RdK w' v ks := ⟨h.1.kn g, h.2.kn g⟩
theorem RdK.off (h : RdK w v ks) (g : w.grownBy w' (some b)) (hb : ∀ k, fpK v ks k → k ≠ b) : RdK w' v ks := ⟨h.1.off g fun k hk => hb k (.inl hk), h.2.off g fun k hk => hb k (.inr hk)⟩
theorem RdK.lt (h : RdK w v ks) : ∀ k, fpK v ks k → k < w.heap.size := fun k hk => hk.elim (h.1.2 k) (h.2.lt k)
theorem RdK.shape (h : RdK w v ks) : ∃ ao cap, v = .slice ao ks.length cap := by
 obtain ⟨ao, cap, e, _⟩ := h.1.1.shape
 exact ⟨ao, cap, e⟩
theorem RdK.len (h : RdK w v ks) : (ks.length : Int) ≤ 9223372036854775807 := by
 obtain ⟨ao, cap, e, h1, h2⟩ := h.1.1.shape
 omega
end
theorem RdK.nil (w : World) : RdK w (.slice none 0 0) [] := ⟨⟨Sl.nil w 33, fun k hk => by simp [fpS, Value.ownBlock] at hk⟩, fun k hk => by simp at hk⟩
theorem fpK_nil (b : Nat) : ¬ fpK (.slice none 0 0) [] b := by
 rintro (h | ⟨k, hk, _⟩)
 · simp [fpS, Value.ownBlock] at h
 · simp at hk
theorem od_map {ks : List VK} {j : Nat} (h : j < ks.length) : od (ks.map VK.p) j = ks[j].o := by rw [od_at (by simpa using h), List.getElem_map]; rfl
theorem tr_map {ks : List VK} {j : Nat} (h : j < ks.length) : tr (ks.map VK.p) j = ks[j].l := by rw [tr_at (by simpa using h), List.getElem_map]; rfl
theorem RdK.owner {w : World} {ao : Option Addr} {n cap j : Nat} {ks : List VK} (h : RdK w (.slice ao n cap) ks) (hn : n = ks.length) (hj : j < ks.length) : w.rangeAt (bO ao) (oO ao + j * 33) (bv ks[j].o) := by
 subst hn
 have := el_range h.1.1 kcells_len hj (by decide)
 exact mid_range (o := oO ao + j * 33) (k := 0) (A := []) (B := bv ks[j].o) (C := [ks[j].s]) this rfl
theorem RdK.tree {w : World} {ao : Option Addr} {n cap j : Nat} {ks : List VK} (h : RdK w (.slice ao n cap) ks) (hn : n = ks.length) (hj : j < ks.length) : w.rangeAt (bO ao) (oO ao + j * 33 + 32) [ks[j].s] := by
 subst hn
 have := el_range h.1.1 kcells_len hj (by decide)
 exact mid_range (A := bv ks[j].o) (B := [ks[j].s]) (C := []) this (by rw [bv_length, ks[j].ho.1])
theorem RdK.key {w : World} {ao : Option Addr} {n cap j : Nat} {ks : List VK} (h : RdK w (.slice ao n cap) ks) (hn : n = ks.length) (hj : j < ks.length) : w.rangeAt (bO ao) (oO ao + j * 33) (kcells ks[j]) := by
 subst hn
 exact el_range h.1.1 kcells_len hj (by decide)
/-! ## bytes.Compare -/
theorem blt_bytes : ∀ {a b : List Nat}, (∀ x ∈ a, x < 256) → (∀ x ∈ b, x < 256) → Lib.compareBytes (a.map UInt8.ofNat) (b.map UInt8.ofNat) = bcmp a b
 | [], [], _, _ => rfl
 | [], _ :: _, _, _ => rfl
 | _ :: _, [], _, _ => rfl
 | x :: a, y :: b, ha, hb => by
   have hx := ha x List.mem_cons_self
   have hy := hb y List.mem_cons_self
   have ih := blt_bytes (a := a) (b := b) (fun z hz => ha z (List.mem_cons_of_mem _ hz)) (fun z hz => hb z (List.mem_cons_of_mem _ hz))
   have e1 : (UInt8.ofNat x < UInt8.ofNat y) ↔ x < y := by rw [UInt8.lt_iff_toNat_lt, UInt8.toNat_ofNat', UInt8.toNat_ofNat', Nat.mod_eq_of_lt hx, Nat.mod_eq_of_lt hy]
   have e2 : (UInt8.ofNat y < UInt8.ofNat x) ↔ y < x := by rw [UInt8.lt_iff_toNat_lt, UInt8.toNat_ofNat', UInt8.toNat_ofNat', Nat.mod_eq_of_lt hx, Nat.mod_eq_of_lt hy]
   rw [List.map_cons, List.map_cons, Lib.compareBytes, ih]
   unfold bcmp
   by_cases h1 : x < y
   · rw [if_pos (e1.2 h1), if_pos (by simp [blt, h1])]
   · rw [if_neg (fun h => h1 (e1.1 h))]
     by_cases h2 : y < x
     · rw [if_pos (e2.2 h2), if_neg (by simp [blt, h1]; omega), if_neg (by simp; omega)]
     · have : x = y := by omega
       subst this
       rw [if_neg (fun h => h2 (e2.1 h))]
       simp [blt]
theorem run_bytes {P : Program} {w : World} {l : List Nat} (hl : ∀ x ∈ l, x < 256) {n : Nat} (hn : l.length = n) {b o c : Nat} (h : w.rangeAt b o (bv l)) : (Extern.Bytes.bytesOf (.slice (some ⟨b, o, none⟩) n c)).run P w = .ok ⟨(l.map UInt8.ofNat).toArray⟩ w := by
 subst hn
 have := Lib.run_loadBytesX (P := P) w (l.map fun (x : Nat) => (x : Int)) ⟨b, o, none⟩ .empty (fun j x hj => by
   rw [Addr.add_mid]
   refine h j _ ?_
   rw [List.getElem?_map] at hj
   unfold bv
   rw [List.getElem?_map]
   cases e : l[j]? with
   | none => rw [e] at hj; cases hj
   | some y =>
     rw [e] at hj
     obtain rfl := Option.some.inj hj
     rfl)
 rw [List.length_map] at this
 show (Extern.Bytes.loadBytes ⟨b, o, none⟩ l.length .empty).run P w = _
 refine this.trans ?_
 congr 2
 simp [Lib.bytesOf, Function.comp_def]
theorem run_bcmp {x y : List Nat} (hx : Dg x) (hy : Dg y) {w : World} {b o b' o' c c' : Nat} (h : w.rangeAt b o (bv x)) (h' : w.rangeAt b' o' (bv y)) :
   (callFunc 109 #[.slice (some ⟨b, o, none⟩) 32 c, .slice (some ⟨b', o', none⟩) 32 c']).run Try.prog w = .ok (.value (.int .i64 (bcmp x y))) w := by
 have e1 : (Extern.BytealgCompare.compare #[.slice (some ⟨b, o, none⟩) 32 c, .slice (some ⟨b', o', none⟩) 32 c']).run Try.prog w = .ok (.int .i64 (bcmp x y)) w := by
   change Sem.run Try.prog (do pure (goInt (Extern.BytealgCompare.cmp (← Extern.Bytes.bytesOf (.slice (some ⟨b, o, none⟩) 32 c)) (← Extern.Bytes.bytesOf (.slice (some ⟨b', o', none⟩) 32 c'))))) w = _
   rw [Sem.run_bind, run_bytes hx.2 hx.1 h]
   simp only [Result.andThen_ok]
   rw [Sem.run_bind, run_bytes hy.2 hy.1 h']
   simp only [Result.andThen_ok, Sem.run_pure]
   rw [Lib.cmp_eq]
   simp only
   rw [blt_bytes hx.2 hy.2]
   rfl
 rw [run_callFunc_extern Try.func109 (by kernel_rfl) (by kernel_rfl) (by kernel_rfl) (e := Extern.BytealgCompare.compare) (by kernel_rfl), e1]
 rfl
set_option maxRecDepth 100000 in
theorem compare_walk {x y : List Nat} (hx : Dg x) (hy : Dg y) {w : World} {b o b' o' c c' : Nat} (h : w.rangeAt b o (bv x)) (h' : w.rangeAt b' o' (bv y)) :
   Calls Try.prog 96 #[.slice (some ⟨b, o, none⟩) 32 c, .slice (some ⟨b', o', none⟩) 32 c'] w fun e w' => e = .returned (.int .i64 (bcmp x y)) ∧ w.grownBy w' none := by
 have H := fun c c' => run_bcmp hx hy h h' (c := c) (c' := c')
 go_enter Try.func96, Try.ntmps96
 go_wp2
 go_ret
 exact ⟨rfl, World.grownBy.refl _ _⟩
theorem sl_arr (b o : Nat) (w : World) : (Instr.sliceAt 29 (.pointer (some ⟨b, o, none⟩)) none none none).run Try.prog w = .ok (.slice (some ⟨b, o, none⟩) 32 32) w := by
 kernel_rfl
end Go.Proofs.Yteakoleceoclkaa
