import Derived.Test.YtgbjilcfgpbcgaaZpH2
/- Layer 8: what a heap is, and how it lies in memory. -/
namespace Go.Proofs.Ytgbjilcfgpbcgaa
open Go.RowKit Go.Proofs.YtgbjilcfgpbcgaaW.PrintWords Go.Proofs.YtgbjilcfgpbcgaaW.PrintLast Go.Proofs.YtgbjilcfgpbcgaaW.PrintMore
set_option linter.unusedSimpArgs false
set_option linter.unusedVariables false
/-- A row under its number, in its slot. -/
structure Ent where
  id : Int
  row : List Int
  slot : Int
structure St where
  ents : List Ent
  free : List Int
  edge : Int
  last : Int
abbrev St.ids (S : St) : List Int := S.ents.map Ent.id
/-- What the map of the cells leads to. -/
def fM (ids : List Int) (cb : Int → Nat) : Lit → Option Value
  | .int .i64 c => if c ∈ ids then some (.pointer (some ⟨cb c, 0, none⟩)) else none
  | _ => none
/-- A heap in memory: hb its block, mb its map, vi and vf its numbers and free slots, cb each row's cell, rv each row. All its blocks satisfy O. -/
structure Hq (base : Nat) (O : Nat → Prop) (w : World) (hb : Nat) (E : List Ent) (I F : List Int) (ed la : Int) (mb : Nat) (vi vf : Value) (cb : Int → Nat) (rv : Int → Value) : Prop where
  blk : w.heap[hb]? = some (.cells #[.map (some mb), vi, vf, .int .i64 ed, .int .i64 la] 57 (0, 0))
  map : MapG w mb E.length (fM (E.map Ent.id) cb)
  own : base ≤ hb ∧ O hb ∧ base ≤ mb ∧ O mb
  ids : ki.R 3 w base O vi I
  free : ki.R 3 w base O vf F
  apart : ∀ k, vi.ownBlock = some k → vf.ownBlock ≠ some k
  cell : ∀ e ∈ E, w.heap[cb e.id]? = some (.cells #[rv e.id, .int .i64 e.slot] 63 (0, 0)) ∧ base ≤ cb e.id ∧ O (cb e.id)
  cinj : ∀ e ∈ E, ∀ e' ∈ E, cb e.id = cb e'.id → e.id = e'.id
  row : ∀ e ∈ E, kb.R 5 w base O (rv e.id) e.row
abbrev Hp (base : Nat) (O : Nat → Prop) (w : World) (hb : Nat) (S : St) (mb : Nat) (vi vf : Value) (cb : Int → Nat) (rv : Int → Value) : Prop := Hq base O w hb S.ents S.ids S.free S.edge S.last mb vi vf cb rv
def HeapAt (base : Nat) (O : Nat → Prop) (w : World) (hb : Nat) (S : St) : Prop := ∃ mb vi vf cb rv, Hp base O w hb S mb vi vf cb rv
theorem Hq.keep {base : Nat} {O : Nat → Prop} {w w' : World} {hb : Nat} {E : List Ent} {I F : List Int} {ed la : Int} {mb : Nat} {vi vf : Value} {cb : Int → Nat} {rv : Int → Value} (h : Hq base O w hb E I F ed la mb vi vf cb rv) (hk : ∀ k, O k → k < w.heap.size → w'.heap[k]? = w.heap[k]?) : Hq base O w' hb E I F ed la mb vi vf cb rv where
  blk := (hk hb h.own.2.1 (blk_lt h.blk)).trans h.blk
  map := h.map.blk (hk mb h.own.2.2.2 h.map.lt)
  own := h.own
  ids := Kd.R_step h.ids hk
  free := Kd.R_step h.free hk
  apart := h.apart
  cell e he := ⟨(hk _ (h.cell e he).2.2 (blk_lt (h.cell e he).1)).trans (h.cell e he).1, (h.cell e he).2⟩
  cinj := h.cinj
  row e he := Kd.R_step (h.row e he) hk
theorem Hq.mono {base : Nat} {O O' : Nat → Prop} {w : World} {hb : Nat} {E : List Ent} {I F : List Int} {ed la : Int} {mb : Nat} {vi vf : Value} {cb : Int → Nat} {rv : Int → Value} (h : Hq base O w hb E I F ed la mb vi vf cb rv) (ho : ∀ k, O k → k < w.heap.size → O' k) : Hq base O' w hb E I F ed la mb vi vf cb rv where
  blk := h.blk
  map := h.map
  own := ⟨h.own.1, ho _ h.own.2.1 (blk_lt h.blk), h.own.2.2.1, ho _ h.own.2.2.2 h.map.lt⟩
  ids := Kd.R_mono (Kd.R_bound h.ids) fun k hk => ho k hk.1 hk.2.2.1
  free := Kd.R_mono (Kd.R_bound h.free) fun k hk => ho k hk.1 hk.2.2.1
  apart := h.apart
  cell e he := ⟨(h.cell e he).1, (h.cell e he).2.1, ho _ (h.cell e he).2.2 (blk_lt (h.cell e he).1)⟩
  cinj := h.cinj
  row e he := Kd.R_mono (Kd.R_bound (h.row e he)) fun k hk => ho k hk.1 hk.2.2.1
theorem HeapAt.keep {base : Nat} {O : Nat → Prop} {w w' : World} {hb : Nat} {S : St} (h : HeapAt base O w hb S) (hk : ∀ k, O k → k < w.heap.size → w'.heap[k]? = w.heap[k]?) : HeapAt base O w' hb S := by
  obtain ⟨mb, vi, vf, cb, rv, h⟩ := h
  exact ⟨mb, vi, vf, cb, rv, h.keep hk⟩
theorem HeapAt.below {base : Nat} {O : Nat → Prop} {w w' : World} {hb : Nat} {S : St} (h : HeapAt base O w hb S) (hk : Below w.heap.size w w') : HeapAt base O w' hb S := h.keep fun k _ hl => hk.block k hl
theorem HeapAt.mono {base : Nat} {O O' : Nat → Prop} {w : World} {hb : Nat} {S : St} (h : HeapAt base O w hb S) (ho : ∀ k, O k → k < w.heap.size → O' k) : HeapAt base O' w hb S := by
  obtain ⟨mb, vi, vf, cb, rv, h⟩ := h
  exact ⟨mb, vi, vf, cb, rv, h.mono ho⟩
/-- What a call on a heap leaves alone. -/
structure Fr (base : Nat) (O : Nat → Prop) (w w' : World) : Prop where
  low : Below base w w'
  kept : Kept w w' O
theorem Fr.refl (base : Nat) (O : Nat → Prop) (w : World) : Fr base O w w := ⟨Below.refl _ _, Kept.refl _ _⟩
/-- The blocks of a heap behind a call: what it had, and some that are new. -/
def grow (O : Nat → Prop) (w w' : World) : Nat → Prop := fun k => O k ∨ (w.heap.size ≤ k ∧ k < w'.heap.size)
/-- What is so of every heap that its calls have made; N: a bound of its numbers. -/
structure Inv (N : Int) (S : St) : Prop where
  ids : S.ids.Pairwise (· < ·)
  idr : ∀ e ∈ S.ents, 1 ≤ e.id ∧ e.id ≤ S.last
  free : S.free.Pairwise (· < ·)
  frr : ∀ s ∈ S.free, 0 ≤ s ∧ s < S.edge
  sl : ∀ e ∈ S.ents, 0 ≤ e.slot ∧ e.slot < S.edge ∧ e.slot ∉ S.free
  dis : (S.ents.map Ent.slot).Nodup
  cnt : (S.ents.length : Int) + S.free.length = S.edge
  bd : S.edge ≤ N ∧ 0 ≤ S.last ∧ S.last ≤ N
def slotP (S : St) : Int × St := match S.free with
  | [] => (S.edge, { S with edge := S.edge + 1 })
  | s :: r => (s, { S with free := r })
def idxP (S : St) (id : Int) : Nat := S.ids.countP (· < id)
def layP (S : St) (id : Int) (row : List Int) : St := { (slotP S).2 with ents := insAt S.ents (idxP S id) ⟨id, row, (slotP S).1⟩ }
def addP (S : St) (row : List Int) : St := layP { S with last := S.last + 1 } (S.last + 1) row
def findP (S : St) (id : Int) : Option Ent := S.ents.find? fun e => e.id == id
def setP (S : St) (id : Int) (row : List Int) : St := { S with ents := S.ents.map fun e => if e.id = id then { e with row := row } else e }
def trimN : Nat → List Int → Int → List Int × Int
  | 0, f, e => (f, e)
  | n + 1, f, e => if f.getD n 0 = e - 1 then trimN n (f.take n) (e - 1) else (f, e)
def dropP (S : St) (id : Int) : St := match findP S id with
  | none => S
  | some e =>
    let f := insAt S.free (S.free.countP (· < e.slot)) e.slot
    { S with ents := S.ents.take (idxP S id) ++ S.ents.drop (idxP S id + 1), free := (trimN f.length f S.edge).1, edge := (trimN f.length f S.edge).2 }
end Go.Proofs.Ytgbjilcfgpbcgaa
