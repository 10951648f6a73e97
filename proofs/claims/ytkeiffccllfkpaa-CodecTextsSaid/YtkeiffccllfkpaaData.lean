/- The codec's data, their encodings and their parsers: what is encoded is read back, and what is read has that encoding. -/
import Derived.Test.YtkeiffccllfkpaaEnc
namespace Go.Proofs.Ytkeiffccllfkpaa
open Go.RowKit

structure V where
  kind : Int
  int : Int
  text : ByteArray
structure Rec where
  row : List V
  seq : List Int
  day : Int
structure En where
  row : List V
  count : Int
structure Ch where
  kind : Int
  seq : Int
  day : Int
  table : Int
  row : List V
  key : V
  col : Int
  val : V
structure Ver where
  table : Int
  column : Int
  seq : Int
structure Src where
  table : Int
  seq : Int
structure Idf where
  ns : ByteArray
  val : V
structure Lnk where
  a : Idf
  b : Idf
  seq : Int
  rev : Bool
structure Hld where
  table : Int
  column : Int
  who : Idf
  seq : Int
  since : Int
  till : Int
structure Req where
  kind : Int
  who : Idf
  seq : Int
  day : Int
  deadline : Int
structure LE where
  kind : Int
  day : Int
  plan : Int
  step : Int
  req : Req
  lnk : Lnk
  hld : Hld
  vers : List Ver
  srcs : List Src
  root : List Nat

/-! ### values -/
def V.nul : V := ⟨0, 0, ByteArray.empty⟩
def V.ok (v : V) : Prop := (v.kind = 0 ∧ v.int = 0 ∧ v.text = ByteArray.empty) ∨ (v.kind = 1 ∧ -4294967296 ≤ v.int ∧ v.int ≤ 4294967296 ∧ v.text = ByteArray.empty) ∨ (v.kind = 2 ∧ v.int = 0 ∧ v.text.size ≤ 32)
instance (v : V) : Decidable v.ok := by unfold V.ok; infer_instance
def V.clean (v : V) : V := if v.ok then v else V.nul
theorem V.nul_ok : V.nul.ok := .inl ⟨rfl, rfl, rfl⟩
theorem V.clean_ok (v : V) : v.clean.ok := by
  unfold V.clean
  split
  · assumption
  · exact V.nul_ok
theorem V.clean_of {v : V} (h : v.ok) : v.clean = v := if_pos h
theorem V.ok_text {v : V} (h : v.ok) : v.text.size ≤ 32 := by
  rcases h with ⟨_, _, h⟩ | ⟨_, _, _, h⟩ | ⟨_, _, h⟩
  · rw [h]; decide
  · rw [h]; decide
  · exact h
theorem V.ok_kind {v : V} (h : v.ok) : I64 v.kind ∧ I64 v.int := by
  unfold V.ok at h
  omega
/-- the encoding of a clean value -/
def encC (v : V) : List Nat := enc v.kind ++ (if v.kind = 1 then enc v.int else if v.kind = 2 then encT v.text else [])
def encV (v : V) : List Nat := encC v.clean
def pV : Parser V := pBind (pIntIn 0 2) fun k => if k = 1 then pBind (pIntIn (-4294967296) 4294967296) fun n => pPure ⟨k, n, ByteArray.empty⟩ else if k = 2 then pBind (pText 32) fun t => pPure ⟨k, 0, t⟩ else pPure ⟨k, 0, ByteArray.empty⟩
theorem cd_k {k a b : Int} (h : I64 k) (ha : a ≤ k) (hb : k ≤ b) : Cd (pIntIn a b) (enc k) k := cd_intIn h ha hb
theorem cd_C {v : V} (h : v.ok) : Cd pV (encC v) v := by
  obtain ⟨k, n, t⟩ := v
  rcases h with ⟨h1, h2, h3⟩ | ⟨h1, h2, h3, h4⟩ | ⟨h1, h2, h3⟩
  · simp only at h1 h2 h3
    subst h1 h2 h3
    have c : Cd (pIntIn 0 2) (enc 0) 0 := cd_k ⟨by omega, by omega⟩ (by omega) (by omega)
    exact c.bind (Cd.pure _)
  · simp only at h1 h2 h3 h4
    subst h1 h4
    have c : Cd (pIntIn 0 2) (enc 1) 1 := cd_k ⟨by omega, by omega⟩ (by omega) (by omega)
    have d : Cd (pIntIn (-4294967296) 4294967296) (enc n) n := cd_k ⟨by omega, by omega⟩ h2 h3
    exact c.bind (Cd.map (fun n => (⟨1, n, ByteArray.empty⟩ : V)) d)
  · simp only at h1 h2 h3
    subst h1 h2
    have c : Cd (pIntIn 0 2) (enc 2) 2 := cd_k ⟨by omega, by omega⟩ (by omega) (by omega)
    exact c.bind (Cd.map (fun t => (⟨2, 0, t⟩ : V)) (cd_text t (by omega) (by omega)))
theorem cd_V (v : V) : Cd pV (encV v) v.clean := cd_C v.clean_ok
theorem V_only {l r : List Nat} {v : V} (hb : ∀ b ∈ l, b < 256) (h : pV l = .ok (v, r)) : l = encC v ++ r ∧ v.ok := by
  obtain ⟨k, m, h1, h2⟩ := bind_ok h
  clear h
  obtain ⟨rfl, h3, h4, h5⟩ := intIn_only hb h1
  have hm : ∀ b ∈ m, b < 256 := fun b hb' => hb b (by simp [hb'])
  split at h2
  · rename_i hk
    subst hk
    obtain ⟨n, m', h6, h7⟩ := bind_ok h2
    obtain ⟨rfl, rfl⟩ := pure_ok h7
    obtain ⟨rfl, h8, h9, h10⟩ := intIn_only hm h6
    exact ⟨by simp [encC], .inr (.inl ⟨rfl, h9, h10, rfl⟩)⟩
  · split at h2
    · rename_i hk
      subst hk
      obtain ⟨t, m', h6, h7⟩ := bind_ok h2
      obtain ⟨rfl, rfl⟩ := pure_ok h7
      obtain ⟨rfl, h8⟩ := text_only hm h6
      exact ⟨by simp [encC], .inr (.inr ⟨rfl, rfl, by show t.size ≤ 32; omega⟩)⟩
    · obtain ⟨rfl, rfl⟩ := pure_ok h2
      have hk : k = 0 := by omega
      subst hk
      exact ⟨by simp [encC], .inl ⟨rfl, rfl, rfl⟩⟩

/-! ### rows, records, bags -/
def encRow (l : List V) : List Nat := enc l.length ++ l.flatMap encV
def pRow : Parser (List V) := pList 16 pV
theorem cd_row (l : List V) (h : l.length ≤ 16) : Cd pRow (encRow l) (l.map V.clean) := cd_list l (by omega) (by omega) fun v _ => cd_V v
def encRowC (l : List V) : List Nat := enc l.length ++ l.flatMap encC
theorem encRow_ok {l : List V} (h : ∀ v ∈ l, v.ok) : encRow l = encRowC l := by
  unfold encRow encRowC
  congr 1
  unfold List.flatMap
  congr 1
  exact List.map_congr_left fun v hv => by unfold encV; rw [V.clean_of (h v hv)]
theorem row_only {l r : List Nat} {x : List V} (hb : ∀ b ∈ l, b < 256) (h : pRow l = .ok (x, r)) : l = encRowC x ++ r ∧ x.length ≤ 16 ∧ ∀ v ∈ x, v.ok := by
  have := list_only (W := V.ok) (e := encC) (fun l x r hb h => V_only hb h) hb h
  exact ⟨this.1, by omega, this.2.2⟩
/-- as many positions as the row has values -/
def fit (n : Nat) (l : List Int) : List Int := (List.range n).map fun i => l.getD i 0
theorem fit_length (n : Nat) (l : List Int) : (fit n l).length = n := by simp [fit]
def encRec (x : Rec) : List Nat := encRow x.row ++ ((fit x.row.length x.seq).flatMap enc ++ enc x.day)
def pRec : Parser Rec := pBind pRow fun row => pBind (pRep pInt row.length) fun seq => pBind pInt fun day => pPure ⟨row, seq, day⟩
theorem cd_rec (x : Rec) (h : x.row.length ≤ 16) (hs : ∀ n ∈ x.seq, I64 n) (hd : I64 x.day) : Cd pRec (encRec x) ⟨x.row.map V.clean, fit x.row.length x.seq, x.day⟩ := by
  refine (cd_row x.row h).bind ?_
  have h1 : Cd (pRep pInt (fit x.row.length x.seq).length) ((fit x.row.length x.seq).flatMap enc) ((fit x.row.length x.seq).map id) := cd_rep _ fun n hn => cd_int (by
    simp only [fit, List.mem_map, List.mem_range] at hn
    obtain ⟨i, _, rfl⟩ := hn
    rw [List.getD_eq_getElem?_getD]
    cases hi : x.seq[i]? with
    | none => exact (by decide : I64 0)
    | some m => exact hs m (List.mem_of_getElem? hi))
  rw [fit_length, List.map_id] at h1
  rw [List.length_map]
  exact h1.bind (Cd.map (fun d => (⟨x.row.map V.clean, fit x.row.length x.seq, d⟩ : Rec)) (cd_int hd))
def encEn (x : En) : List Nat := encRow x.row ++ enc x.count
def pEn : Parser En := pBind pRow fun row => pBind pInt fun c => pPure ⟨row, c⟩
theorem cd_en (x : En) (h : x.row.length ≤ 16) (hc : I64 x.count) : Cd pEn (encEn x) ⟨x.row.map V.clean, x.count⟩ :=
  (cd_row x.row h).bind (Cd.map (fun c => (⟨x.row.map V.clean, c⟩ : En)) (cd_int hc))
def encBag (l : List En) : List Nat := enc l.length ++ l.flatMap encEn
def pBag : Parser (List En) := pList 4096 pEn
theorem cd_bag (l : List En) (h : l.length ≤ 4096) (hr : ∀ x ∈ l, x.row.length ≤ 16 ∧ I64 x.count) : Cd pBag (encBag l) (l.map fun x => ⟨x.row.map V.clean, x.count⟩) :=
  cd_list l (by omega) (by omega) fun x hx => cd_en x (hr x hx).1 (hr x hx).2

/-! ### changes -/
def encCh (c : Ch) : List Nat := enc c.kind ++ (enc c.seq ++ (enc c.day ++ (enc c.table ++ (encRow c.row ++ (encV c.key ++ (enc c.col ++ encV c.val))))))
def pCh : Parser Ch := pBind pInt fun kind => pBind pInt fun seq => pBind pInt fun day => pBind pInt fun table => pBind pRow fun row => pBind pV fun key => pBind pInt fun col => pBind pV fun val => pPure ⟨kind, seq, day, table, row, key, col, val⟩
def Ch.clean (c : Ch) : Ch := ⟨c.kind, c.seq, c.day, c.table, c.row.map V.clean, c.key.clean, c.col, c.val.clean⟩
structure Ch.wf (c : Ch) : Prop where
  kind : I64 c.kind
  seq : I64 c.seq
  day : I64 c.day
  table : I64 c.table
  col : I64 c.col
theorem cd_ch (c : Ch) (h : c.row.length ≤ 16) (w : c.wf) : Cd pCh (encCh c) c.clean := by
  refine (cd_int w.kind).bind ((cd_int w.seq).bind ((cd_int w.day).bind ((cd_int w.table).bind ((cd_row c.row h).bind ((cd_V c.key).bind ((cd_int w.col).bind ?_))))))
  exact Cd.map (fun v => (⟨c.kind, c.seq, c.day, c.table, c.row.map V.clean, c.key.clean, c.col, v⟩ : Ch)) (cd_V c.val)

/-! ### versions, sources -/
def encVer (v : Ver) : List Nat := enc v.table ++ (enc v.seq ++ enc v.column)
def pVer : Parser Ver := pBind pInt fun t => pBind pInt fun s => pBind pInt fun c => pPure ⟨t, c, s⟩
structure Ver.wf (v : Ver) : Prop where
  table : I64 v.table
  column : I64 v.column
  seq : I64 v.seq
theorem cd_ver (v : Ver) (w : v.wf) : Cd pVer (encVer v) v :=
  (cd_int w.table).bind ((cd_int w.seq).bind (Cd.map (fun c => (⟨v.table, c, v.seq⟩ : Ver)) (cd_int w.column)))
theorem ver_only {l r : List Nat} {v : Ver} (hb : ∀ b ∈ l, b < 256) (h : pVer l = .ok (v, r)) : l = encVer v ++ r ∧ v.wf := by
  obtain ⟨t, m, h1, h2⟩ := bind_ok h
  obtain ⟨s, m', h3, h4⟩ := bind_ok h2
  obtain ⟨c, m2, h5, h6⟩ := bind_ok h4
  obtain ⟨rfl, rfl⟩ := pure_ok h6
  clear h h2 h4 h6
  obtain ⟨rfl, w1⟩ := int_only hb h1
  obtain ⟨rfl, w2⟩ := int_only (fun b hb' => hb b (by simp [hb'])) h3
  obtain ⟨rfl, w3⟩ := int_only (fun b hb' => hb b (by simp [hb'])) h5
  exact ⟨by simp [encVer], w1, w3, w2⟩
def encVers (l : List Ver) : List Nat := enc l.length ++ l.flatMap encVer
def pVers : Parser (List Ver) := pList 512 pVer
theorem cd_vers (l : List Ver) (h : l.length ≤ 512) (w : ∀ v ∈ l, v.wf) : Cd pVers (encVers l) l := by
  have := cd_list (p := pVer) (e := encVer) (g := id) (most := 512) l (by omega) (by omega) fun v hv => cd_ver v (w v hv)
  rwa [List.map_id] at this
def encSrc (s : Src) : List Nat := enc s.table ++ enc s.seq
def pSrc : Parser Src := pBind pInt fun t => pBind pInt fun s => pPure ⟨t, s⟩
structure Src.wf (v : Src) : Prop where
  table : I64 v.table
  seq : I64 v.seq
theorem cd_src (v : Src) (w : v.wf) : Cd pSrc (encSrc v) v :=
  (cd_int w.table).bind (Cd.map (fun c => (⟨v.table, c⟩ : Src)) (cd_int w.seq))
theorem src_only {l r : List Nat} {v : Src} (hb : ∀ b ∈ l, b < 256) (h : pSrc l = .ok (v, r)) : l = encSrc v ++ r ∧ v.wf := by
  obtain ⟨t, m, h1, h2⟩ := bind_ok h
  obtain ⟨s, m', h3, h4⟩ := bind_ok h2
  obtain ⟨rfl, rfl⟩ := pure_ok h4
  clear h h2 h4
  obtain ⟨rfl, w1⟩ := int_only hb h1
  obtain ⟨rfl, w2⟩ := int_only (fun b hb' => hb b (by simp [hb'])) h3
  exact ⟨by simp [encSrc], w1, w2⟩
def encSrcs (l : List Src) : List Nat := enc l.length ++ l.flatMap encSrc
def pSrcs : Parser (List Src) := pList 512 pSrc
theorem cd_srcs (l : List Src) (h : l.length ≤ 512) (w : ∀ v ∈ l, v.wf) : Cd pSrcs (encSrcs l) l := by
  have := cd_list (p := pSrc) (e := encSrc) (g := id) (most := 512) l (by omega) (by omega) fun v hv => cd_src v (w v hv)
  rwa [List.map_id] at this

/-! ### identifiers, links, holds, requests -/
def encIdf (i : Idf) : List Nat := encT i.ns ++ encV i.val
def pIdf : Parser Idf := pBind (pText 16) fun ns => pBind pV fun v => pPure ⟨ns, v⟩
def Idf.clean (i : Idf) : Idf := ⟨i.ns, i.val.clean⟩
theorem cd_idf (i : Idf) (h : i.ns.size ≤ 16) : Cd pIdf (encIdf i) i.clean :=
  (cd_text i.ns (by omega) (by omega)).bind (Cd.map (fun v => (⟨i.ns, v⟩ : Idf)) (cd_V i.val))
theorem idf_only {l r : List Nat} {i : Idf} (hb : ∀ b ∈ l, b < 256) (h : pIdf l = .ok (i, r)) : l = encIdf i ++ r ∧ i.ns.size ≤ 16 ∧ i.val.ok := by
  obtain ⟨t, m, h1, h2⟩ := bind_ok h
  obtain ⟨s, m', h3, h4⟩ := bind_ok h2
  obtain ⟨rfl, rfl⟩ := pure_ok h4
  clear h h2 h4
  obtain ⟨rfl, w1⟩ := text_only hb h1
  obtain ⟨rfl, w2⟩ := V_only (fun b hb' => hb b (by simp [hb'])) h3
  exact ⟨by simp [encIdf, encV, V.clean_of w2], by show t.size ≤ 16; omega, w2⟩
def b01 (b : Bool) : Int := if b then 1 else 0
def encLnk (l : Lnk) : List Nat := encIdf l.a ++ (encIdf l.b ++ (enc l.seq ++ enc (b01 l.rev)))
def pLnk : Parser Lnk := pBind pIdf fun a => pBind pIdf fun b => pBind pInt fun s => pBind (pIntIn 0 1) fun r => pPure ⟨a, b, s, r == 1⟩
def Lnk.clean (l : Lnk) : Lnk := ⟨l.a.clean, l.b.clean, l.seq, l.rev⟩
theorem cd_lnk (l : Lnk) (ha : l.a.ns.size ≤ 16) (hb : l.b.ns.size ≤ 16) (hs : I64 l.seq) : Cd pLnk (encLnk l) l.clean := by
  refine (cd_idf l.a ha).bind ((cd_idf l.b hb).bind ((cd_int hs).bind ?_))
  have h1 : I64 (b01 l.rev) ∧ 0 ≤ b01 l.rev ∧ b01 l.rev ≤ 1 := by unfold b01; split <;> omega
  have := Cd.map (fun r => (⟨l.a.clean, l.b.clean, l.seq, r == 1⟩ : Lnk)) (cd_intIn h1.1 h1.2.1 h1.2.2)
  have e : (b01 l.rev == 1) = l.rev := by unfold b01; cases l.rev <;> rfl
  rw [e] at this
  exact this
theorem lnk_only {l r : List Nat} {x : Lnk} (hb : ∀ b ∈ l, b < 256) (h : pLnk l = .ok (x, r)) : l = encLnk x ++ r ∧ x.a.ns.size ≤ 16 ∧ x.b.ns.size ≤ 16 ∧ I64 x.seq ∧ x.clean = x := by
  obtain ⟨a, m1, h1, h2⟩ := bind_ok h
  obtain ⟨b, m2, h3, h4⟩ := bind_ok h2
  obtain ⟨s, m3, h5, h6⟩ := bind_ok h4
  obtain ⟨v, m4, h7, h8⟩ := bind_ok h6
  obtain ⟨rfl, rfl⟩ := pure_ok h8
  clear h h2 h4 h6 h8
  obtain ⟨rfl, w1, w1'⟩ := idf_only hb h1
  obtain ⟨rfl, w2, w2'⟩ := idf_only (fun b hb' => hb b (by simp [hb'])) h3
  obtain ⟨rfl, w3⟩ := int_only (fun b hb' => hb b (by simp [hb'])) h5
  obtain ⟨rfl, w4, w5, w6⟩ := intIn_only (fun b hb' => hb b (by simp [hb'])) h7
  have e : b01 (v == 1) = v := by
    unfold b01
    by_cases hv : v = 1
    · subst hv; rfl
    · have : v = 0 := by omega
      subst this; rfl
  exact ⟨by simp [encLnk, e], w1, w2, w3, by simp [Lnk.clean, Idf.clean, V.clean_of w1', V.clean_of w2']⟩
def encHld (h : Hld) : List Nat := enc h.table ++ (enc h.column ++ (encIdf h.who ++ (enc h.seq ++ (enc h.since ++ enc h.till))))
def pHld : Parser Hld := pBind pInt fun t => pBind pInt fun c => pBind pIdf fun w => pBind pInt fun s => pBind pInt fun f => pBind pInt fun u => pPure ⟨t, c, w, s, f, u⟩
def Hld.clean (h : Hld) : Hld := ⟨h.table, h.column, h.who.clean, h.seq, h.since, h.till⟩
structure Hld.wf (h : Hld) : Prop where
  table : I64 h.table
  column : I64 h.column
  seq : I64 h.seq
  since : I64 h.since
  till : I64 h.till
theorem cd_hld (h : Hld) (hn : h.who.ns.size ≤ 16) (w : h.wf) : Cd pHld (encHld h) h.clean :=
  (cd_int w.table).bind ((cd_int w.column).bind ((cd_idf h.who hn).bind ((cd_int w.seq).bind ((cd_int w.since).bind
    (Cd.map (fun u => (⟨h.table, h.column, h.who.clean, h.seq, h.since, u⟩ : Hld)) (cd_int w.till))))))
theorem hld_only {l r : List Nat} {x : Hld} (hb : ∀ b ∈ l, b < 256) (h : pHld l = .ok (x, r)) : l = encHld x ++ r ∧ x.who.ns.size ≤ 16 ∧ x.wf ∧ x.clean = x := by
  obtain ⟨t, m1, h1, h2⟩ := bind_ok h
  obtain ⟨c, m2, h3, h4⟩ := bind_ok h2
  obtain ⟨i, m3, h5, h6⟩ := bind_ok h4
  obtain ⟨s, m4, h7, h8⟩ := bind_ok h6
  obtain ⟨f, m5, h9, h10⟩ := bind_ok h8
  obtain ⟨u, m6, h11, h12⟩ := bind_ok h10
  obtain ⟨rfl, rfl⟩ := pure_ok h12
  clear h h2 h4 h6 h8 h10 h12
  obtain ⟨rfl, w1⟩ := int_only hb h1
  obtain ⟨rfl, w2⟩ := int_only (fun b hb' => hb b (by simp [hb'])) h3
  obtain ⟨rfl, w3, w3'⟩ := idf_only (fun b hb' => hb b (by simp [hb'])) h5
  obtain ⟨rfl, w4⟩ := int_only (fun b hb' => hb b (by simp [hb'])) h7
  obtain ⟨rfl, w5⟩ := int_only (fun b hb' => hb b (by simp [hb'])) h9
  obtain ⟨rfl, w6⟩ := int_only (fun b hb' => hb b (by simp [hb'])) h11
  exact ⟨by simp [encHld], w3, ⟨w1, w2, w4, w5, w6⟩, by simp [Hld.clean, Idf.clean, V.clean_of w3']⟩
def encReq (q : Req) : List Nat := enc q.kind ++ (encIdf q.who ++ (enc q.seq ++ (enc q.day ++ enc q.deadline)))
def pReq : Parser Req := pBind pInt fun k => pBind pIdf fun w => pBind pInt fun s => pBind pInt fun d => pBind pInt fun u => pPure ⟨k, w, s, d, u⟩
def Req.clean (q : Req) : Req := ⟨q.kind, q.who.clean, q.seq, q.day, q.deadline⟩
structure Req.wf (q : Req) : Prop where
  kind : I64 q.kind
  seq : I64 q.seq
  day : I64 q.day
  deadline : I64 q.deadline
theorem cd_req (q : Req) (hn : q.who.ns.size ≤ 16) (w : q.wf) : Cd pReq (encReq q) q.clean :=
  (cd_int w.kind).bind ((cd_idf q.who hn).bind ((cd_int w.seq).bind ((cd_int w.day).bind
    (Cd.map (fun u => (⟨q.kind, q.who.clean, q.seq, q.day, u⟩ : Req)) (cd_int w.deadline)))))
theorem req_only {l r : List Nat} {x : Req} (hb : ∀ b ∈ l, b < 256) (h : pReq l = .ok (x, r)) : l = encReq x ++ r ∧ x.who.ns.size ≤ 16 ∧ x.wf ∧ x.clean = x := by
  obtain ⟨t, m1, h1, h2⟩ := bind_ok h
  obtain ⟨i, m3, h5, h6⟩ := bind_ok h2
  obtain ⟨s, m4, h7, h8⟩ := bind_ok h6
  obtain ⟨f, m5, h9, h10⟩ := bind_ok h8
  obtain ⟨u, m6, h11, h12⟩ := bind_ok h10
  obtain ⟨rfl, rfl⟩ := pure_ok h12
  clear h h2 h6 h8 h10 h12
  obtain ⟨rfl, w1⟩ := int_only hb h1
  obtain ⟨rfl, w3, w3'⟩ := idf_only (fun b hb' => hb b (by simp [hb'])) h5
  obtain ⟨rfl, w4⟩ := int_only (fun b hb' => hb b (by simp [hb'])) h7
  obtain ⟨rfl, w5⟩ := int_only (fun b hb' => hb b (by simp [hb'])) h9
  obtain ⟨rfl, w6⟩ := int_only (fun b hb' => hb b (by simp [hb'])) h11
  exact ⟨by simp [encReq], w3, ⟨w1, w4, w5, w6⟩, by simp [Req.clean, Idf.clean, V.clean_of w3']⟩

/-! ### ledger entries -/
def z32 : List Nat := List.replicate 32 0
def Idf.zero : Idf := ⟨ByteArray.empty, V.nul⟩
def Req.zero : Req := ⟨0, Idf.zero, 0, 0, 0⟩
def Lnk.zero : Lnk := ⟨Idf.zero, Idf.zero, 0, false⟩
def Hld.zero : Hld := ⟨0, 0, Idf.zero, 0, 0, 0⟩
def LE.base (k d p s : Int) : LE := ⟨k, d, p, s, Req.zero, Lnk.zero, Hld.zero, [], [], z32⟩
def encLEt (e : LE) : List Nat := if e.kind = 1 then encReq e.req else if e.kind = 2 then encVers e.vers ++ encSrcs e.srcs else if e.kind = 4 then e.root else if e.kind = 6 then encLnk e.lnk else if e.kind = 7 then encHld e.hld else []
def encLE (e : LE) : List Nat := enc e.kind ++ (enc e.day ++ (enc e.plan ++ (enc e.step ++ encLEt e)))
def pLEt (k : Int) (b : LE) : Parser LE := if k = 1 then pBind pReq fun q => pPure { b with req := q } else if k = 2 then pBind pVers fun v => pBind pSrcs fun s => pPure { b with vers := v, srcs := s }
  else if k = 4 then pBind (pBytes 32) fun d => pPure { b with root := d } else if k = 6 then pBind pLnk fun l => pPure { b with lnk := l } else if k = 7 then pBind pHld fun h => pPure { b with hld := h } else pPure b
def pLE : Parser LE := pBind (pIntIn 1 7) fun k => pBind pInt fun d => pBind pInt fun p => pBind pInt fun s => pLEt k (LE.base k d p s)
/-- cleaned, without what the kind does not use -/
def LE.norm (e : LE) : LE :=
  if e.kind = 1 then { LE.base e.kind e.day e.plan e.step with req := e.req.clean }
  else if e.kind = 2 then { LE.base e.kind e.day e.plan e.step with vers := e.vers, srcs := e.srcs }
  else if e.kind = 4 then { LE.base e.kind e.day e.plan e.step with root := e.root }
  else if e.kind = 6 then { LE.base e.kind e.day e.plan e.step with lnk := e.lnk.clean }
  else if e.kind = 7 then { LE.base e.kind e.day e.plan e.step with hld := e.hld.clean }
  else LE.base e.kind e.day e.plan e.step
structure LE.wf (e : LE) : Prop where
  kind : I64 e.kind
  day : I64 e.day
  plan : I64 e.plan
  step : I64 e.step
  req : e.req.wf
  lnk : I64 e.lnk.seq
  hld : e.hld.wf
  vers : ∀ v ∈ e.vers, v.wf
  srcs : ∀ v ∈ e.srcs, v.wf
  root : e.root.length = 32 ∧ ∀ b ∈ e.root, b < 256
structure LE.fits (e : LE) : Prop where
  req : e.req.who.ns.size ≤ 16
  lnka : e.lnk.a.ns.size ≤ 16
  lnkb : e.lnk.b.ns.size ≤ 16
  hld : e.hld.who.ns.size ≤ 16
  vers : e.vers.length ≤ 512
  srcs : e.srcs.length ≤ 512
theorem cd_LE (e : LE) (w : e.wf) (f : e.fits) (h1 : 1 ≤ e.kind) (h7 : e.kind ≤ 7) : Cd pLE (encLE e) e.norm := by
  refine (cd_intIn w.kind h1 h7).bind ((cd_int w.day).bind ((cd_int w.plan).bind ((cd_int w.step).bind ?_)))
  unfold pLEt encLEt LE.norm
  simp only [LE.base]
  by_cases h1 : e.kind = 1
  · rw [if_pos h1, if_pos h1, if_pos h1]
    exact Cd.map (fun q => (⟨e.kind, e.day, e.plan, e.step, q, Lnk.zero, Hld.zero, [], [], z32⟩ : LE)) (cd_req e.req f.req w.req)
  rw [if_neg h1, if_neg h1, if_neg h1]
  by_cases h2 : e.kind = 2
  · rw [if_pos h2, if_pos h2, if_pos h2]
    exact (cd_vers e.vers f.vers w.vers).bind (Cd.map (fun q => (⟨e.kind, e.day, e.plan, e.step, Req.zero, Lnk.zero, Hld.zero, e.vers, q, z32⟩ : LE)) (cd_srcs e.srcs f.srcs w.srcs))
  rw [if_neg h2, if_neg h2, if_neg h2]
  by_cases h4 : e.kind = 4
  · rw [if_pos h4, if_pos h4, if_pos h4]
    exact Cd.map (fun q => (⟨e.kind, e.day, e.plan, e.step, Req.zero, Lnk.zero, Hld.zero, [], [], q⟩ : LE)) (cd_bytes e.root 32 w.root.1.symm)
  rw [if_neg h4, if_neg h4, if_neg h4]
  by_cases h6 : e.kind = 6
  · rw [if_pos h6, if_pos h6, if_pos h6]
    exact Cd.map (fun q => (⟨e.kind, e.day, e.plan, e.step, Req.zero, q, Hld.zero, [], [], z32⟩ : LE)) (cd_lnk e.lnk f.lnka f.lnkb w.lnk)
  rw [if_neg h6, if_neg h6, if_neg h6]
  by_cases h7 : e.kind = 7
  · rw [if_pos h7, if_pos h7, if_pos h7]
    exact Cd.map (fun q => (⟨e.kind, e.day, e.plan, e.step, Req.zero, Lnk.zero, q, [], [], z32⟩ : LE)) (cd_hld e.hld f.hld w.hld)
  rw [if_neg h7, if_neg h7, if_neg h7]
  exact Cd.pure _
theorem zero_wf : Req.zero.wf ∧ Hld.zero.wf := by
  constructor <;> constructor <;> (show I64 0; decide)
theorem LE_only {l r : List Nat} {x : LE} (hb : ∀ b ∈ l, b < 256) (h : pLE l = .ok (x, r)) : l = encLE x ++ r ∧ x.wf ∧ x.fits ∧ 1 ≤ x.kind ∧ x.kind ≤ 7 ∧ x.norm = x := by
  obtain ⟨k, m1, h1, h2⟩ := bind_ok h
  obtain ⟨d, m2, h3, h4⟩ := bind_ok h2
  obtain ⟨p, m3, h5, h6⟩ := bind_ok h4
  obtain ⟨s, m4, h7, h8⟩ := bind_ok h6
  clear h h2 h4 h6
  obtain ⟨rfl, w1, w1a, w1b⟩ := intIn_only hb h1
  obtain ⟨rfl, w2⟩ := int_only (fun b hb' => hb b (by simp [hb'])) h3
  obtain ⟨rfl, w3⟩ := int_only (fun b hb' => hb b (by simp [hb'])) h5
  obtain ⟨rfl, w4⟩ := int_only (fun b hb' => hb b (by simp [hb'])) h7
  have hm : ∀ b ∈ m4, b < 256 := fun b hb' => hb b (by simp [hb'])
  have z1 := zero_wf.1
  have z2 := zero_wf.2
  have zr : z32.length = 32 ∧ ∀ b ∈ z32, b < 256 := ⟨by simp [z32], by simp [z32]⟩
  have zl : I64 Lnk.zero.seq := by show I64 0; decide
  have zs : Req.zero.who.ns.size ≤ 16 ∧ Lnk.zero.a.ns.size ≤ 16 ∧ Lnk.zero.b.ns.size ≤ 16 ∧ Hld.zero.who.ns.size ≤ 16 := by decide
  unfold pLEt at h8
  simp only [LE.base] at h8
  split at h8
  · rename_i hk
    obtain ⟨q, m5, h9, h10⟩ := bind_ok h8
    obtain ⟨rfl, rfl⟩ := pure_ok h10
    obtain ⟨rfl, q1, q2, q3⟩ := req_only hm h9
    refine ⟨by simp [encLE, encLEt, hk], ⟨w1, w2, w3, w4, q2, zl, z2, by simp, by simp, zr⟩, ⟨q1, zs.2.1, zs.2.2.1, zs.2.2.2, by simp, by simp⟩, w1a, w1b, by simp [LE.norm, hk, LE.base, q3]⟩
  · rename_i hk1
    split at h8
    · rename_i hk
      obtain ⟨q, m5, h9, h10⟩ := bind_ok h8
      obtain ⟨q', m6, h11, h12⟩ := bind_ok h10
      obtain ⟨rfl, rfl⟩ := pure_ok h12
      clear h8 h10 h12
      obtain ⟨rfl, q1, q2⟩ := list_only (W := Ver.wf) (e := encVer) (fun l x r hb h => ver_only hb h) hm h9
      obtain ⟨rfl, q3, q4⟩ := list_only (W := Src.wf) (e := encSrc) (fun l x r hb h => src_only hb h) (fun b hb' => hm b (by simp [hb'])) h11
      refine ⟨by simp [encLE, encLEt, hk, encVers, encSrcs], ⟨w1, w2, w3, w4, z1, zl, z2, q2, q4, zr⟩, ⟨zs.1, zs.2.1, zs.2.2.1, zs.2.2.2, by simp; omega, by simp; omega⟩, w1a, w1b, by simp [LE.norm, hk, LE.base]⟩
    · rename_i hk2
      split at h8
      · rename_i hk
        obtain ⟨q, m5, h9, h10⟩ := bind_ok h8
        obtain ⟨rfl, rfl⟩ := pure_ok h10
        clear h8 h10
        obtain ⟨rfl, q1⟩ := bytes_only h9
        refine ⟨by simp [encLE, encLEt, hk], ⟨w1, w2, w3, w4, z1, zl, z2, by simp, by simp, ⟨q1, fun b hb' => hm b (by simp only [List.mem_append]; exact .inl hb')⟩⟩, ⟨zs.1, zs.2.1, zs.2.2.1, zs.2.2.2, by simp, by simp⟩, w1a, w1b, by simp [LE.norm, hk, LE.base]⟩
      · rename_i hk4
        split at h8
        · rename_i hk
          obtain ⟨q, m5, h9, h10⟩ := bind_ok h8
          obtain ⟨rfl, rfl⟩ := pure_ok h10
          clear h8 h10
          obtain ⟨rfl, q1, q2, q3, q4⟩ := lnk_only hm h9
          refine ⟨by simp [encLE, encLEt, hk], ⟨w1, w2, w3, w4, z1, q3, z2, by simp, by simp, zr⟩, ⟨zs.1, q1, q2, zs.2.2.2, by simp, by simp⟩, w1a, w1b, by simp [LE.norm, hk, LE.base, q4]⟩
        · rename_i hk6
          split at h8
          · rename_i hk
            obtain ⟨q, m5, h9, h10⟩ := bind_ok h8
            obtain ⟨rfl, rfl⟩ := pure_ok h10
            clear h8 h10
            obtain ⟨rfl, q1, q2, q3⟩ := hld_only hm h9
            refine ⟨by simp [encLE, encLEt, hk], ⟨w1, w2, w3, w4, z1, zl, q2, by simp, by simp, zr⟩, ⟨zs.1, zs.2.1, zs.2.2.1, q1, by simp, by simp⟩, w1a, w1b, by simp [LE.norm, hk, LE.base, q3]⟩
          · rename_i hk7
            obtain ⟨rfl, rfl⟩ := pure_ok h8
            refine ⟨by simp [encLE, encLEt, hk1, hk2, hk4, hk6, hk7], ⟨w1, w2, w3, w4, z1, zl, z2, by simp, by simp, zr⟩, ⟨zs.1, zs.2.1, zs.2.2.1, zs.2.2.2, by simp, by simp⟩, w1a, w1b, by simp [LE.norm, hk1, hk2, hk4, hk6, hk7, LE.base]⟩
end Go.Proofs.Ytkeiffccllfkpaa
