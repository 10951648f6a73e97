/- SameChange decided. -/
import Derived.Test.YtkeiffccllfkpaaN3
namespace Go.Proofs.Ytkeiffccllfkpaa
open Go.RowKit
set_option linter.unusedSimpArgs false

deriving instance DecidableEq for Ch
set_option maxRecDepth 100000 in
set_option maxHeartbeats 2000000 in
theorem sameChange_walk (r1 r2 : Value) (x y : Ch) (w : World) (h1 : Sl w 3 r1 x.row.length (x.row.flatMap vcells)) (h2 : Sl w 3 r2 y.row.length (y.row.flatMap vcells)) :
    Calls Try.prog 54 #[valCh x r1, valCh y r2] w fun e w' => e = .returned (.bool (decide (x = y))) ∧ w.grownBy w' none := by
  obtain ⟨ao, acap, rfl, hnc, hcm⟩ := h1.shape
  obtain ⟨bo, bcap, rfl, hnc2, hcm2⟩ := h2.shape
  obtain ⟨ak, ag, ad, au, al, ⟨aq, ai, ax⟩, ac, ⟨av, aj, az⟩⟩ := x
  obtain ⟨bk, bg, bd, bu, bl, ⟨bq, bi, bx⟩, bc, ⟨bv, bj, bz⟩⟩ := y
  simp only at h1 h2 hnc hnc2 ⊢
  have HA := hid h1
  have HB := hid h2
  clear h1 h2
  show Calls Try.prog 54 #[.agg #[.int .i64 ak, .int .i64 ag, .int .i64 ad, .int .i64 au, .slice ao al.length acap, .int .i64 aq, .int .i64 ai, .string ax, .int .i64 ac, .int .i64 av, .int .i64 aj, .string az], .agg #[.int .i64 bk, .int .i64 bg, .int .i64 bd, .int .i64 bu, .slice bo bl.length bcap, .int .i64 bq, .int .i64 bi, .string bx, .int .i64 bc, .int .i64 bv, .int .i64 bj, .string bz]] w _
  by_cases e0 : ak = bk
  · subst e0
    by_cases e1 : ag = bg
    · subst e1
      by_cases e2 : ad = bd
      · subst e2
        by_cases e3 : au = bu
        · subst e3
          by_cases e4 : al = bl
          · subst e4
            by_cases e5 : aq = bq
            · subst e5
              by_cases e6 : ai = bi
              · subst e6
                by_cases e7 : ax = bx
                · subst e7
                  by_cases e8 : ac = bc
                  · subst e8
                    by_cases e9 : av = bv
                    · subst e9
                      by_cases e10 : aj = bj
                      · subst e10
                        by_cases e11 : az = bz
                        · subst e11
                          have HD := hid (decide_eq_true (p := (⟨ak, ag, ad, au, al, ⟨aq, ai, ax⟩, ac, ⟨av, aj, az⟩⟩ : Ch) = ⟨ak, ag, ad, au, al, ⟨aq, ai, ax⟩, ac, ⟨av, aj, az⟩⟩) rfl)
                          go_enter Try.func54, Try.ntmps54
                          go_wp2_with fail
                          have ga := World.grownBy_alloc w (.cells #[.int .i64 ak, .int .i64 ag, .int .i64 ad, .int .i64 au, .slice ao al.length acap, .int .i64 aq, .int .i64 ai, .string ax, .int .i64 ac, .int .i64 av, .int .i64 aj, .string az] 86) none
                          have gb := grown_trans ga (World.grownBy_alloc _ (.cells #[.int .i64 ak, .int .i64 ag, .int .i64 ad, .int .i64 au, .slice bo al.length bcap, .int .i64 aq, .int .i64 ai, .string ax, .int .i64 ac, .int .i64 av, .int .i64 aj, .string az] 86) none)
                          refine (sameRow_walk _ _ al al _ (HA.out.kn gb) (HB.out.kn gb)).mono ?_
                          rintro e w1 ⟨rfl, hg1⟩
                          have hb1 := row_of hg1 (row_of (World.grownBy_alloc _ (.cells #[.int .i64 ak, .int .i64 ag, .int .i64 ad, .int .i64 au, .slice bo al.length bcap, .int .i64 aq, .int .i64 ai, .string ax, .int .i64 ac, .int .i64 av, .int .i64 aj, .string az] 86) none) (heap_at (w := w) (o := (.cells #[.int .i64 ak, .int .i64 ag, .int .i64 ad, .int .i64 au, .slice ao al.length acap, .int .i64 aq, .int .i64 ai, .string ax, .int .i64 ac, .int .i64 av, .int .i64 aj, .string az] 86)) rfl) (by simp)) (by simp)
                          have hb2 := row_of hg1 (heap_at (w := w.alloc (.cells #[.int .i64 ak, .int .i64 ag, .int .i64 ad, .int .i64 au, .slice ao al.length acap, .int .i64 aq, .int .i64 ai, .string ax, .int .i64 ac, .int .i64 av, .int .i64 aj, .string az] 86)) (o := (.cells #[.int .i64 ak, .int .i64 ag, .int .i64 ad, .int .i64 au, .slice bo al.length bcap, .int .i64 aq, .int .i64 ai, .string ax, .int .i64 ac, .int .i64 av, .int .i64 aj, .string az] 86)) (n := w.heap.size + 1) (by simp)) (by simp)
                          have G1 := hid (grown_trans gb hg1)
                          have y0 : ∀ j, w1.cell? ⟨w.heap.size, j, none⟩ = (#[.int .i64 ak, .int .i64 ag, .int .i64 ad, .int .i64 au, .slice ao al.length acap, .int .i64 aq, .int .i64 ai, .string ax, .int .i64 ac, .int .i64 av, .int .i64 aj, .string az] : Array Value)[j]? := fun j => cell_of_row w1 _ j _ _ _ hb1
                          have y1 : ∀ j, w1.cell? ⟨w.heap.size + 1, j, none⟩ = (#[.int .i64 ak, .int .i64 ag, .int .i64 ad, .int .i64 au, .slice bo al.length bcap, .int .i64 aq, .int .i64 ai, .string ax, .int .i64 ac, .int .i64 av, .int .i64 aj, .string az] : Array Value)[j]? := fun j => cell_of_row w1 _ j _ _ _ hb2
                          clear hg1 gb ga hb1 hb2
                          go_wp2
                          go_ret
                          exact ⟨by rw [HD.out]; rfl, G1.out⟩
                        · have HD := hid (decide_eq_false (p := (⟨ak, ag, ad, au, al, ⟨aq, ai, ax⟩, ac, ⟨av, aj, az⟩⟩ : Ch) = ⟨ak, ag, ad, au, al, ⟨aq, ai, ax⟩, ac, ⟨av, aj, bz⟩⟩) (fun h => e11 (by simpa using congrArg (fun c : Ch => c.val.text) h)))
                          have d11 : ¬ az.toList = bz.toList := fun e => e11 (toList_inj e)
                          go_enter Try.func54, Try.ntmps54
                          go_wp2_with fail
                          have ga := World.grownBy_alloc w (.cells #[.int .i64 ak, .int .i64 ag, .int .i64 ad, .int .i64 au, .slice ao al.length acap, .int .i64 aq, .int .i64 ai, .string ax, .int .i64 ac, .int .i64 av, .int .i64 aj, .string az] 86) none
                          have gb := grown_trans ga (World.grownBy_alloc _ (.cells #[.int .i64 ak, .int .i64 ag, .int .i64 ad, .int .i64 au, .slice bo al.length bcap, .int .i64 aq, .int .i64 ai, .string ax, .int .i64 ac, .int .i64 av, .int .i64 aj, .string bz] 86) none)
                          refine (sameRow_walk _ _ al al _ (HA.out.kn gb) (HB.out.kn gb)).mono ?_
                          rintro e w1 ⟨rfl, hg1⟩
                          have hb1 := row_of hg1 (row_of (World.grownBy_alloc _ (.cells #[.int .i64 ak, .int .i64 ag, .int .i64 ad, .int .i64 au, .slice bo al.length bcap, .int .i64 aq, .int .i64 ai, .string ax, .int .i64 ac, .int .i64 av, .int .i64 aj, .string bz] 86) none) (heap_at (w := w) (o := (.cells #[.int .i64 ak, .int .i64 ag, .int .i64 ad, .int .i64 au, .slice ao al.length acap, .int .i64 aq, .int .i64 ai, .string ax, .int .i64 ac, .int .i64 av, .int .i64 aj, .string az] 86)) rfl) (by simp)) (by simp)
                          have hb2 := row_of hg1 (heap_at (w := w.alloc (.cells #[.int .i64 ak, .int .i64 ag, .int .i64 ad, .int .i64 au, .slice ao al.length acap, .int .i64 aq, .int .i64 ai, .string ax, .int .i64 ac, .int .i64 av, .int .i64 aj, .string az] 86)) (o := (.cells #[.int .i64 ak, .int .i64 ag, .int .i64 ad, .int .i64 au, .slice bo al.length bcap, .int .i64 aq, .int .i64 ai, .string ax, .int .i64 ac, .int .i64 av, .int .i64 aj, .string bz] 86)) (n := w.heap.size + 1) (by simp)) (by simp)
                          have G1 := hid (grown_trans gb hg1)
                          have y0 : ∀ j, w1.cell? ⟨w.heap.size, j, none⟩ = (#[.int .i64 ak, .int .i64 ag, .int .i64 ad, .int .i64 au, .slice ao al.length acap, .int .i64 aq, .int .i64 ai, .string ax, .int .i64 ac, .int .i64 av, .int .i64 aj, .string az] : Array Value)[j]? := fun j => cell_of_row w1 _ j _ _ _ hb1
                          have y1 : ∀ j, w1.cell? ⟨w.heap.size + 1, j, none⟩ = (#[.int .i64 ak, .int .i64 ag, .int .i64 ad, .int .i64 au, .slice bo al.length bcap, .int .i64 aq, .int .i64 ai, .string ax, .int .i64 ac, .int .i64 av, .int .i64 aj, .string bz] : Array Value)[j]? := fun j => cell_of_row w1 _ j _ _ _ hb2
                          clear hg1 gb ga hb1 hb2
                          go_wp2
                          go_ret
                          exact ⟨by rw [HD.out]; rfl, G1.out⟩
                      · have HD := hid (decide_eq_false (p := (⟨ak, ag, ad, au, al, ⟨aq, ai, ax⟩, ac, ⟨av, aj, az⟩⟩ : Ch) = ⟨ak, ag, ad, au, al, ⟨aq, ai, ax⟩, ac, ⟨av, bj, bz⟩⟩) (fun h => e10 (by simpa using congrArg (fun c : Ch => c.val.int) h)))
                        go_enter Try.func54, Try.ntmps54
                        go_wp2_with fail
                        have ga := World.grownBy_alloc w (.cells #[.int .i64 ak, .int .i64 ag, .int .i64 ad, .int .i64 au, .slice ao al.length acap, .int .i64 aq, .int .i64 ai, .string ax, .int .i64 ac, .int .i64 av, .int .i64 aj, .string az] 86) none
                        have gb := grown_trans ga (World.grownBy_alloc _ (.cells #[.int .i64 ak, .int .i64 ag, .int .i64 ad, .int .i64 au, .slice bo al.length bcap, .int .i64 aq, .int .i64 ai, .string ax, .int .i64 ac, .int .i64 av, .int .i64 bj, .string bz] 86) none)
                        refine (sameRow_walk _ _ al al _ (HA.out.kn gb) (HB.out.kn gb)).mono ?_
                        rintro e w1 ⟨rfl, hg1⟩
                        have hb1 := row_of hg1 (row_of (World.grownBy_alloc _ (.cells #[.int .i64 ak, .int .i64 ag, .int .i64 ad, .int .i64 au, .slice bo al.length bcap, .int .i64 aq, .int .i64 ai, .string ax, .int .i64 ac, .int .i64 av, .int .i64 bj, .string bz] 86) none) (heap_at (w := w) (o := (.cells #[.int .i64 ak, .int .i64 ag, .int .i64 ad, .int .i64 au, .slice ao al.length acap, .int .i64 aq, .int .i64 ai, .string ax, .int .i64 ac, .int .i64 av, .int .i64 aj, .string az] 86)) rfl) (by simp)) (by simp)
                        have hb2 := row_of hg1 (heap_at (w := w.alloc (.cells #[.int .i64 ak, .int .i64 ag, .int .i64 ad, .int .i64 au, .slice ao al.length acap, .int .i64 aq, .int .i64 ai, .string ax, .int .i64 ac, .int .i64 av, .int .i64 aj, .string az] 86)) (o := (.cells #[.int .i64 ak, .int .i64 ag, .int .i64 ad, .int .i64 au, .slice bo al.length bcap, .int .i64 aq, .int .i64 ai, .string ax, .int .i64 ac, .int .i64 av, .int .i64 bj, .string bz] 86)) (n := w.heap.size + 1) (by simp)) (by simp)
                        have G1 := hid (grown_trans gb hg1)
                        have y0 : ∀ j, w1.cell? ⟨w.heap.size, j, none⟩ = (#[.int .i64 ak, .int .i64 ag, .int .i64 ad, .int .i64 au, .slice ao al.length acap, .int .i64 aq, .int .i64 ai, .string ax, .int .i64 ac, .int .i64 av, .int .i64 aj, .string az] : Array Value)[j]? := fun j => cell_of_row w1 _ j _ _ _ hb1
                        have y1 : ∀ j, w1.cell? ⟨w.heap.size + 1, j, none⟩ = (#[.int .i64 ak, .int .i64 ag, .int .i64 ad, .int .i64 au, .slice bo al.length bcap, .int .i64 aq, .int .i64 ai, .string ax, .int .i64 ac, .int .i64 av, .int .i64 bj, .string bz] : Array Value)[j]? := fun j => cell_of_row w1 _ j _ _ _ hb2
                        clear hg1 gb ga hb1 hb2
                        go_wp2
                        go_ret
                        exact ⟨by rw [HD.out]; rfl, G1.out⟩
                    · have HD := hid (decide_eq_false (p := (⟨ak, ag, ad, au, al, ⟨aq, ai, ax⟩, ac, ⟨av, aj, az⟩⟩ : Ch) = ⟨ak, ag, ad, au, al, ⟨aq, ai, ax⟩, ac, ⟨bv, bj, bz⟩⟩) (fun h => e9 (by simpa using congrArg (fun c : Ch => c.val.kind) h)))
                      go_enter Try.func54, Try.ntmps54
                      go_wp2_with fail
                      have ga := World.grownBy_alloc w (.cells #[.int .i64 ak, .int .i64 ag, .int .i64 ad, .int .i64 au, .slice ao al.length acap, .int .i64 aq, .int .i64 ai, .string ax, .int .i64 ac, .int .i64 av, .int .i64 aj, .string az] 86) none
                      have gb := grown_trans ga (World.grownBy_alloc _ (.cells #[.int .i64 ak, .int .i64 ag, .int .i64 ad, .int .i64 au, .slice bo al.length bcap, .int .i64 aq, .int .i64 ai, .string ax, .int .i64 ac, .int .i64 bv, .int .i64 bj, .string bz] 86) none)
                      refine (sameRow_walk _ _ al al _ (HA.out.kn gb) (HB.out.kn gb)).mono ?_
                      rintro e w1 ⟨rfl, hg1⟩
                      have hb1 := row_of hg1 (row_of (World.grownBy_alloc _ (.cells #[.int .i64 ak, .int .i64 ag, .int .i64 ad, .int .i64 au, .slice bo al.length bcap, .int .i64 aq, .int .i64 ai, .string ax, .int .i64 ac, .int .i64 bv, .int .i64 bj, .string bz] 86) none) (heap_at (w := w) (o := (.cells #[.int .i64 ak, .int .i64 ag, .int .i64 ad, .int .i64 au, .slice ao al.length acap, .int .i64 aq, .int .i64 ai, .string ax, .int .i64 ac, .int .i64 av, .int .i64 aj, .string az] 86)) rfl) (by simp)) (by simp)
                      have hb2 := row_of hg1 (heap_at (w := w.alloc (.cells #[.int .i64 ak, .int .i64 ag, .int .i64 ad, .int .i64 au, .slice ao al.length acap, .int .i64 aq, .int .i64 ai, .string ax, .int .i64 ac, .int .i64 av, .int .i64 aj, .string az] 86)) (o := (.cells #[.int .i64 ak, .int .i64 ag, .int .i64 ad, .int .i64 au, .slice bo al.length bcap, .int .i64 aq, .int .i64 ai, .string ax, .int .i64 ac, .int .i64 bv, .int .i64 bj, .string bz] 86)) (n := w.heap.size + 1) (by simp)) (by simp)
                      have G1 := hid (grown_trans gb hg1)
                      have y0 : ∀ j, w1.cell? ⟨w.heap.size, j, none⟩ = (#[.int .i64 ak, .int .i64 ag, .int .i64 ad, .int .i64 au, .slice ao al.length acap, .int .i64 aq, .int .i64 ai, .string ax, .int .i64 ac, .int .i64 av, .int .i64 aj, .string az] : Array Value)[j]? := fun j => cell_of_row w1 _ j _ _ _ hb1
                      have y1 : ∀ j, w1.cell? ⟨w.heap.size + 1, j, none⟩ = (#[.int .i64 ak, .int .i64 ag, .int .i64 ad, .int .i64 au, .slice bo al.length bcap, .int .i64 aq, .int .i64 ai, .string ax, .int .i64 ac, .int .i64 bv, .int .i64 bj, .string bz] : Array Value)[j]? := fun j => cell_of_row w1 _ j _ _ _ hb2
                      clear hg1 gb ga hb1 hb2
                      go_wp2
                      go_ret
                      exact ⟨by rw [HD.out]; rfl, G1.out⟩
                  · have HD := hid (decide_eq_false (p := (⟨ak, ag, ad, au, al, ⟨aq, ai, ax⟩, ac, ⟨av, aj, az⟩⟩ : Ch) = ⟨ak, ag, ad, au, al, ⟨aq, ai, ax⟩, bc, ⟨bv, bj, bz⟩⟩) (fun h => e8 (by simpa using congrArg (fun c : Ch => c.col) h)))
                    go_enter Try.func54, Try.ntmps54
                    go_wp2_with fail
                    have ga := World.grownBy_alloc w (.cells #[.int .i64 ak, .int .i64 ag, .int .i64 ad, .int .i64 au, .slice ao al.length acap, .int .i64 aq, .int .i64 ai, .string ax, .int .i64 ac, .int .i64 av, .int .i64 aj, .string az] 86) none
                    have gb := grown_trans ga (World.grownBy_alloc _ (.cells #[.int .i64 ak, .int .i64 ag, .int .i64 ad, .int .i64 au, .slice bo al.length bcap, .int .i64 aq, .int .i64 ai, .string ax, .int .i64 bc, .int .i64 bv, .int .i64 bj, .string bz] 86) none)
                    refine (sameRow_walk _ _ al al _ (HA.out.kn gb) (HB.out.kn gb)).mono ?_
                    rintro e w1 ⟨rfl, hg1⟩
                    have hb1 := row_of hg1 (row_of (World.grownBy_alloc _ (.cells #[.int .i64 ak, .int .i64 ag, .int .i64 ad, .int .i64 au, .slice bo al.length bcap, .int .i64 aq, .int .i64 ai, .string ax, .int .i64 bc, .int .i64 bv, .int .i64 bj, .string bz] 86) none) (heap_at (w := w) (o := (.cells #[.int .i64 ak, .int .i64 ag, .int .i64 ad, .int .i64 au, .slice ao al.length acap, .int .i64 aq, .int .i64 ai, .string ax, .int .i64 ac, .int .i64 av, .int .i64 aj, .string az] 86)) rfl) (by simp)) (by simp)
                    have hb2 := row_of hg1 (heap_at (w := w.alloc (.cells #[.int .i64 ak, .int .i64 ag, .int .i64 ad, .int .i64 au, .slice ao al.length acap, .int .i64 aq, .int .i64 ai, .string ax, .int .i64 ac, .int .i64 av, .int .i64 aj, .string az] 86)) (o := (.cells #[.int .i64 ak, .int .i64 ag, .int .i64 ad, .int .i64 au, .slice bo al.length bcap, .int .i64 aq, .int .i64 ai, .string ax, .int .i64 bc, .int .i64 bv, .int .i64 bj, .string bz] 86)) (n := w.heap.size + 1) (by simp)) (by simp)
                    have G1 := hid (grown_trans gb hg1)
                    have y0 : ∀ j, w1.cell? ⟨w.heap.size, j, none⟩ = (#[.int .i64 ak, .int .i64 ag, .int .i64 ad, .int .i64 au, .slice ao al.length acap, .int .i64 aq, .int .i64 ai, .string ax, .int .i64 ac, .int .i64 av, .int .i64 aj, .string az] : Array Value)[j]? := fun j => cell_of_row w1 _ j _ _ _ hb1
                    have y1 : ∀ j, w1.cell? ⟨w.heap.size + 1, j, none⟩ = (#[.int .i64 ak, .int .i64 ag, .int .i64 ad, .int .i64 au, .slice bo al.length bcap, .int .i64 aq, .int .i64 ai, .string ax, .int .i64 bc, .int .i64 bv, .int .i64 bj, .string bz] : Array Value)[j]? := fun j => cell_of_row w1 _ j _ _ _ hb2
                    clear hg1 gb ga hb1 hb2
                    go_wp2
                    go_ret
                    exact ⟨by rw [HD.out]; rfl, G1.out⟩
                · have HD := hid (decide_eq_false (p := (⟨ak, ag, ad, au, al, ⟨aq, ai, ax⟩, ac, ⟨av, aj, az⟩⟩ : Ch) = ⟨ak, ag, ad, au, al, ⟨aq, ai, bx⟩, bc, ⟨bv, bj, bz⟩⟩) (fun h => e7 (by simpa using congrArg (fun c : Ch => c.key.text) h)))
                  have d7 : ¬ ax.toList = bx.toList := fun e => e7 (toList_inj e)
                  go_enter Try.func54, Try.ntmps54
                  go_wp2_with fail
                  have ga := World.grownBy_alloc w (.cells #[.int .i64 ak, .int .i64 ag, .int .i64 ad, .int .i64 au, .slice ao al.length acap, .int .i64 aq, .int .i64 ai, .string ax, .int .i64 ac, .int .i64 av, .int .i64 aj, .string az] 86) none
                  have gb := grown_trans ga (World.grownBy_alloc _ (.cells #[.int .i64 ak, .int .i64 ag, .int .i64 ad, .int .i64 au, .slice bo al.length bcap, .int .i64 aq, .int .i64 ai, .string bx, .int .i64 bc, .int .i64 bv, .int .i64 bj, .string bz] 86) none)
                  refine (sameRow_walk _ _ al al _ (HA.out.kn gb) (HB.out.kn gb)).mono ?_
                  rintro e w1 ⟨rfl, hg1⟩
                  have hb1 := row_of hg1 (row_of (World.grownBy_alloc _ (.cells #[.int .i64 ak, .int .i64 ag, .int .i64 ad, .int .i64 au, .slice bo al.length bcap, .int .i64 aq, .int .i64 ai, .string bx, .int .i64 bc, .int .i64 bv, .int .i64 bj, .string bz] 86) none) (heap_at (w := w) (o := (.cells #[.int .i64 ak, .int .i64 ag, .int .i64 ad, .int .i64 au, .slice ao al.length acap, .int .i64 aq, .int .i64 ai, .string ax, .int .i64 ac, .int .i64 av, .int .i64 aj, .string az] 86)) rfl) (by simp)) (by simp)
                  have hb2 := row_of hg1 (heap_at (w := w.alloc (.cells #[.int .i64 ak, .int .i64 ag, .int .i64 ad, .int .i64 au, .slice ao al.length acap, .int .i64 aq, .int .i64 ai, .string ax, .int .i64 ac, .int .i64 av, .int .i64 aj, .string az] 86)) (o := (.cells #[.int .i64 ak, .int .i64 ag, .int .i64 ad, .int .i64 au, .slice bo al.length bcap, .int .i64 aq, .int .i64 ai, .string bx, .int .i64 bc, .int .i64 bv, .int .i64 bj, .string bz] 86)) (n := w.heap.size + 1) (by simp)) (by simp)
                  have G1 := hid (grown_trans gb hg1)
                  have y0 : ∀ j, w1.cell? ⟨w.heap.size, j, none⟩ = (#[.int .i64 ak, .int .i64 ag, .int .i64 ad, .int .i64 au, .slice ao al.length acap, .int .i64 aq, .int .i64 ai, .string ax, .int .i64 ac, .int .i64 av, .int .i64 aj, .string az] : Array Value)[j]? := fun j => cell_of_row w1 _ j _ _ _ hb1
                  have y1 : ∀ j, w1.cell? ⟨w.heap.size + 1, j, none⟩ = (#[.int .i64 ak, .int .i64 ag, .int .i64 ad, .int .i64 au, .slice bo al.length bcap, .int .i64 aq, .int .i64 ai, .string bx, .int .i64 bc, .int .i64 bv, .int .i64 bj, .string bz] : Array Value)[j]? := fun j => cell_of_row w1 _ j _ _ _ hb2
                  clear hg1 gb ga hb1 hb2
                  go_wp2
                  go_ret
                  exact ⟨by rw [HD.out]; rfl, G1.out⟩
              · have HD := hid (decide_eq_false (p := (⟨ak, ag, ad, au, al, ⟨aq, ai, ax⟩, ac, ⟨av, aj, az⟩⟩ : Ch) = ⟨ak, ag, ad, au, al, ⟨aq, bi, bx⟩, bc, ⟨bv, bj, bz⟩⟩) (fun h => e6 (by simpa using congrArg (fun c : Ch => c.key.int) h)))
                go_enter Try.func54, Try.ntmps54
                go_wp2_with fail
                have ga := World.grownBy_alloc w (.cells #[.int .i64 ak, .int .i64 ag, .int .i64 ad, .int .i64 au, .slice ao al.length acap, .int .i64 aq, .int .i64 ai, .string ax, .int .i64 ac, .int .i64 av, .int .i64 aj, .string az] 86) none
                have gb := grown_trans ga (World.grownBy_alloc _ (.cells #[.int .i64 ak, .int .i64 ag, .int .i64 ad, .int .i64 au, .slice bo al.length bcap, .int .i64 aq, .int .i64 bi, .string bx, .int .i64 bc, .int .i64 bv, .int .i64 bj, .string bz] 86) none)
                refine (sameRow_walk _ _ al al _ (HA.out.kn gb) (HB.out.kn gb)).mono ?_
                rintro e w1 ⟨rfl, hg1⟩
                have hb1 := row_of hg1 (row_of (World.grownBy_alloc _ (.cells #[.int .i64 ak, .int .i64 ag, .int .i64 ad, .int .i64 au, .slice bo al.length bcap, .int .i64 aq, .int .i64 bi, .string bx, .int .i64 bc, .int .i64 bv, .int .i64 bj, .string bz] 86) none) (heap_at (w := w) (o := (.cells #[.int .i64 ak, .int .i64 ag, .int .i64 ad, .int .i64 au, .slice ao al.length acap, .int .i64 aq, .int .i64 ai, .string ax, .int .i64 ac, .int .i64 av, .int .i64 aj, .string az] 86)) rfl) (by simp)) (by simp)
                have hb2 := row_of hg1 (heap_at (w := w.alloc (.cells #[.int .i64 ak, .int .i64 ag, .int .i64 ad, .int .i64 au, .slice ao al.length acap, .int .i64 aq, .int .i64 ai, .string ax, .int .i64 ac, .int .i64 av, .int .i64 aj, .string az] 86)) (o := (.cells #[.int .i64 ak, .int .i64 ag, .int .i64 ad, .int .i64 au, .slice bo al.length bcap, .int .i64 aq, .int .i64 bi, .string bx, .int .i64 bc, .int .i64 bv, .int .i64 bj, .string bz] 86)) (n := w.heap.size + 1) (by simp)) (by simp)
                have G1 := hid (grown_trans gb hg1)
                have y0 : ∀ j, w1.cell? ⟨w.heap.size, j, none⟩ = (#[.int .i64 ak, .int .i64 ag, .int .i64 ad, .int .i64 au, .slice ao al.length acap, .int .i64 aq, .int .i64 ai, .string ax, .int .i64 ac, .int .i64 av, .int .i64 aj, .string az] : Array Value)[j]? := fun j => cell_of_row w1 _ j _ _ _ hb1
                have y1 : ∀ j, w1.cell? ⟨w.heap.size + 1, j, none⟩ = (#[.int .i64 ak, .int .i64 ag, .int .i64 ad, .int .i64 au, .slice bo al.length bcap, .int .i64 aq, .int .i64 bi, .string bx, .int .i64 bc, .int .i64 bv, .int .i64 bj, .string bz] : Array Value)[j]? := fun j => cell_of_row w1 _ j _ _ _ hb2
                clear hg1 gb ga hb1 hb2
                go_wp2
                go_ret
                exact ⟨by rw [HD.out]; rfl, G1.out⟩
            · have HD := hid (decide_eq_false (p := (⟨ak, ag, ad, au, al, ⟨aq, ai, ax⟩, ac, ⟨av, aj, az⟩⟩ : Ch) = ⟨ak, ag, ad, au, al, ⟨bq, bi, bx⟩, bc, ⟨bv, bj, bz⟩⟩) (fun h => e5 (by simpa using congrArg (fun c : Ch => c.key.kind) h)))
              go_enter Try.func54, Try.ntmps54
              go_wp2_with fail
              have ga := World.grownBy_alloc w (.cells #[.int .i64 ak, .int .i64 ag, .int .i64 ad, .int .i64 au, .slice ao al.length acap, .int .i64 aq, .int .i64 ai, .string ax, .int .i64 ac, .int .i64 av, .int .i64 aj, .string az] 86) none
              have gb := grown_trans ga (World.grownBy_alloc _ (.cells #[.int .i64 ak, .int .i64 ag, .int .i64 ad, .int .i64 au, .slice bo al.length bcap, .int .i64 bq, .int .i64 bi, .string bx, .int .i64 bc, .int .i64 bv, .int .i64 bj, .string bz] 86) none)
              refine (sameRow_walk _ _ al al _ (HA.out.kn gb) (HB.out.kn gb)).mono ?_
              rintro e w1 ⟨rfl, hg1⟩
              have hb1 := row_of hg1 (row_of (World.grownBy_alloc _ (.cells #[.int .i64 ak, .int .i64 ag, .int .i64 ad, .int .i64 au, .slice bo al.length bcap, .int .i64 bq, .int .i64 bi, .string bx, .int .i64 bc, .int .i64 bv, .int .i64 bj, .string bz] 86) none) (heap_at (w := w) (o := (.cells #[.int .i64 ak, .int .i64 ag, .int .i64 ad, .int .i64 au, .slice ao al.length acap, .int .i64 aq, .int .i64 ai, .string ax, .int .i64 ac, .int .i64 av, .int .i64 aj, .string az] 86)) rfl) (by simp)) (by simp)
              have hb2 := row_of hg1 (heap_at (w := w.alloc (.cells #[.int .i64 ak, .int .i64 ag, .int .i64 ad, .int .i64 au, .slice ao al.length acap, .int .i64 aq, .int .i64 ai, .string ax, .int .i64 ac, .int .i64 av, .int .i64 aj, .string az] 86)) (o := (.cells #[.int .i64 ak, .int .i64 ag, .int .i64 ad, .int .i64 au, .slice bo al.length bcap, .int .i64 bq, .int .i64 bi, .string bx, .int .i64 bc, .int .i64 bv, .int .i64 bj, .string bz] 86)) (n := w.heap.size + 1) (by simp)) (by simp)
              have G1 := hid (grown_trans gb hg1)
              have y0 : ∀ j, w1.cell? ⟨w.heap.size, j, none⟩ = (#[.int .i64 ak, .int .i64 ag, .int .i64 ad, .int .i64 au, .slice ao al.length acap, .int .i64 aq, .int .i64 ai, .string ax, .int .i64 ac, .int .i64 av, .int .i64 aj, .string az] : Array Value)[j]? := fun j => cell_of_row w1 _ j _ _ _ hb1
              have y1 : ∀ j, w1.cell? ⟨w.heap.size + 1, j, none⟩ = (#[.int .i64 ak, .int .i64 ag, .int .i64 ad, .int .i64 au, .slice bo al.length bcap, .int .i64 bq, .int .i64 bi, .string bx, .int .i64 bc, .int .i64 bv, .int .i64 bj, .string bz] : Array Value)[j]? := fun j => cell_of_row w1 _ j _ _ _ hb2
              clear hg1 gb ga hb1 hb2
              go_wp2
              go_ret
              exact ⟨by rw [HD.out]; rfl, G1.out⟩
          · have HD := hid (decide_eq_false (p := (⟨ak, ag, ad, au, al, ⟨aq, ai, ax⟩, ac, ⟨av, aj, az⟩⟩ : Ch) = ⟨ak, ag, ad, au, bl, ⟨bq, bi, bx⟩, bc, ⟨bv, bj, bz⟩⟩) (fun h => e4 (by simpa using congrArg (fun c : Ch => c.row) h)))
            have d4 : decide (al = bl) = false := decide_eq_false e4
            go_enter Try.func54, Try.ntmps54
            go_wp2_with fail
            have ga := World.grownBy_alloc w (.cells #[.int .i64 ak, .int .i64 ag, .int .i64 ad, .int .i64 au, .slice ao al.length acap, .int .i64 aq, .int .i64 ai, .string ax, .int .i64 ac, .int .i64 av, .int .i64 aj, .string az] 86) none
            have gb := grown_trans ga (World.grownBy_alloc _ (.cells #[.int .i64 ak, .int .i64 ag, .int .i64 ad, .int .i64 au, .slice bo bl.length bcap, .int .i64 bq, .int .i64 bi, .string bx, .int .i64 bc, .int .i64 bv, .int .i64 bj, .string bz] 86) none)
            refine (sameRow_walk _ _ al bl _ (HA.out.kn gb) (HB.out.kn gb)).mono ?_
            rintro e w1 ⟨rfl, hg1⟩
            have hb1 := row_of hg1 (row_of (World.grownBy_alloc _ (.cells #[.int .i64 ak, .int .i64 ag, .int .i64 ad, .int .i64 au, .slice bo bl.length bcap, .int .i64 bq, .int .i64 bi, .string bx, .int .i64 bc, .int .i64 bv, .int .i64 bj, .string bz] 86) none) (heap_at (w := w) (o := (.cells #[.int .i64 ak, .int .i64 ag, .int .i64 ad, .int .i64 au, .slice ao al.length acap, .int .i64 aq, .int .i64 ai, .string ax, .int .i64 ac, .int .i64 av, .int .i64 aj, .string az] 86)) rfl) (by simp)) (by simp)
            have hb2 := row_of hg1 (heap_at (w := w.alloc (.cells #[.int .i64 ak, .int .i64 ag, .int .i64 ad, .int .i64 au, .slice ao al.length acap, .int .i64 aq, .int .i64 ai, .string ax, .int .i64 ac, .int .i64 av, .int .i64 aj, .string az] 86)) (o := (.cells #[.int .i64 ak, .int .i64 ag, .int .i64 ad, .int .i64 au, .slice bo bl.length bcap, .int .i64 bq, .int .i64 bi, .string bx, .int .i64 bc, .int .i64 bv, .int .i64 bj, .string bz] 86)) (n := w.heap.size + 1) (by simp)) (by simp)
            have G1 := hid (grown_trans gb hg1)
            have y0 : ∀ j, w1.cell? ⟨w.heap.size, j, none⟩ = (#[.int .i64 ak, .int .i64 ag, .int .i64 ad, .int .i64 au, .slice ao al.length acap, .int .i64 aq, .int .i64 ai, .string ax, .int .i64 ac, .int .i64 av, .int .i64 aj, .string az] : Array Value)[j]? := fun j => cell_of_row w1 _ j _ _ _ hb1
            have y1 : ∀ j, w1.cell? ⟨w.heap.size + 1, j, none⟩ = (#[.int .i64 ak, .int .i64 ag, .int .i64 ad, .int .i64 au, .slice bo bl.length bcap, .int .i64 bq, .int .i64 bi, .string bx, .int .i64 bc, .int .i64 bv, .int .i64 bj, .string bz] : Array Value)[j]? := fun j => cell_of_row w1 _ j _ _ _ hb2
            clear hg1 gb ga hb1 hb2
            go_wp2
            go_ret
            exact ⟨by rw [HD.out]; rfl, G1.out⟩
        · have HD := hid (decide_eq_false (p := (⟨ak, ag, ad, au, al, ⟨aq, ai, ax⟩, ac, ⟨av, aj, az⟩⟩ : Ch) = ⟨ak, ag, ad, bu, bl, ⟨bq, bi, bx⟩, bc, ⟨bv, bj, bz⟩⟩) (fun h => e3 (by simpa using congrArg (fun c : Ch => c.table) h)))
          go_enter Try.func54, Try.ntmps54
          go_wp2
          go_ret
          exact ⟨by rw [HD.out]; rfl, grown_trans (World.grownBy_alloc _ _ _) (World.grownBy_alloc _ _ _)⟩
      · have HD := hid (decide_eq_false (p := (⟨ak, ag, ad, au, al, ⟨aq, ai, ax⟩, ac, ⟨av, aj, az⟩⟩ : Ch) = ⟨ak, ag, bd, bu, bl, ⟨bq, bi, bx⟩, bc, ⟨bv, bj, bz⟩⟩) (fun h => e2 (by simpa using congrArg (fun c : Ch => c.day) h)))
        go_enter Try.func54, Try.ntmps54
        go_wp2
        go_ret
        exact ⟨by rw [HD.out]; rfl, grown_trans (World.grownBy_alloc _ _ _) (World.grownBy_alloc _ _ _)⟩
    · have HD := hid (decide_eq_false (p := (⟨ak, ag, ad, au, al, ⟨aq, ai, ax⟩, ac, ⟨av, aj, az⟩⟩ : Ch) = ⟨ak, bg, bd, bu, bl, ⟨bq, bi, bx⟩, bc, ⟨bv, bj, bz⟩⟩) (fun h => e1 (by simpa using congrArg (fun c : Ch => c.seq) h)))
      go_enter Try.func54, Try.ntmps54
      go_wp2
      go_ret
      exact ⟨by rw [HD.out]; rfl, grown_trans (World.grownBy_alloc _ _ _) (World.grownBy_alloc _ _ _)⟩
  · have HD := hid (decide_eq_false (p := (⟨ak, ag, ad, au, al, ⟨aq, ai, ax⟩, ac, ⟨av, aj, az⟩⟩ : Ch) = ⟨bk, bg, bd, bu, bl, ⟨bq, bi, bx⟩, bc, ⟨bv, bj, bz⟩⟩) (fun h => e0 (by simpa using congrArg (fun c : Ch => c.kind) h)))
    go_enter Try.func54, Try.ntmps54
    go_wp2
    go_ret
    exact ⟨by rw [HD.out]; rfl, grown_trans (World.grownBy_alloc _ _ _) (World.grownBy_alloc _ _ _)⟩
end Go.Proofs.Ytkeiffccllfkpaa
