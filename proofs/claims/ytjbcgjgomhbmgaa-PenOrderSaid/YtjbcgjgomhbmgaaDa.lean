/- Data values for Go memory: a logic of calls over them, proved once. -/
import Derived.WalkKit
import Derived.WalkSpells
import Derived.ProofKit
import Derived.Laws.IdiomCopy
import Derived.Laws.Entries
import Derived.ChangeKeysEq
import Derived.Laws.StructEq

/-  Data values for Go memory, and how they stand to the model's values and worlds. Generic: no program in sight. -/
namespace Go.Proofs.Ytjbcgjgomhbmgaa
open Go.RowKit
set_option linter.unusedVariables false
set_option linter.constructorNameAsVariable false

abbrev Path := List Nat

/-- A value as data. `s`: a slice that nobody writes, by its rows of cells; `o`: a view of memory of the call's own, by name and version; `p`, `q`: pointers into the one and the other; `z`: no elements and no room; `e`: no elements, and not nil. -/
inductive DV where
  | x (v : Value)
  | z (isNil : Bool)
  | s (E : Nat) (rows : List (List DV))
  | o (n : Path) (ver off len : Nat)
  | p (n : Path) (ver row off : Nat)
  | q (cells : List DV) (off : Nat)
  | g (cells : List DV)
  | t (vs : List DV)
  | f (fn : Fn) (first captured : List DV)
  | i (t : TypeId) (v : DV)
  | e

instance : Inhabited DV := ⟨.x undef⟩

/-- One cell's value. -/
def DV.one : DV → Bool
  | .x v => v.oneCell'
  | .g _ | .t _ => false
  | _ => true

structure Blk where
  E : Nat
  ro : Bool
  rows : List (List DV)

/-- The call's own memory: by name, the version that is live, and what it holds. -/
abbrev Heap := Path → Nat × Option Blk

def Heap.set (H : Heap) (n : Path) (x : Nat × Option Blk) : Heap := fun m => if m = n then x else H m
theorem Heap.set_eq (H : Heap) (n : Path) (x : Nat × Option Blk) : H.set n x n = x := by simp [Heap.set]
theorem Heap.set_ne (H : Heap) {n m : Path} (x : Nat × Option Blk) (h : m ≠ n) : H.set n x m = H m := by simp [Heap.set, h]

/-- Where a block of the call's own lies. -/
structure Pl where
  b : Nat
  o : Nat
  E : Nat
  cap : Nat

abbrev Rho := Path → Nat → Option Pl
def Rho.nil : Rho := fun _ _ => none
def Rho.le (r r' : Rho) : Prop := ∀ n v p, r n v = some p → r' n v = some p
theorem Rho.le_refl (r : Rho) : r.le r := fun _ _ _ h => h
theorem Rho.le_trans {a b c : Rho} (h : a.le b) (k : b.le c) : a.le c := fun n v p e => k n v p (h n v p e)
theorem Rho.nil_le (r : Rho) : Rho.nil.le r := fun _ _ _ h => by simp [Rho.nil] at h

inductive VR (w : World) (K : Nat → Prop) : Rho → DV → Value → Prop
  | x (r : Rho) (v : Value) : VR w K r (.x v) v
  | zn (r : Rho) : VR w K r (.z true) (.slice none 0 0)
  | ze (r : Rho) (a : Option Addr) : VR w K r (.z false) (.slice a 0 0)
  | s (r : Rho) (E : Nat) (rows : List (List DV)) (a : Addr) (cap : Nat) (vs : Nat → Nat → Value) :
      rows.length ≤ cap → (rows ≠ [] → a.spot = none ∧ K a.block) →
      (∀ (i : Nat) (row : List DV), rows[i]? = some row → row.length = E) →
      (∀ (i : Nat) (row : List DV) (j : Nat) (d : DV), rows[i]? = some row → row[j]? = some d → d.one = true ∧ w.cell? ⟨a.block, a.off + (i * E + j), none⟩ = some (vs i j)) →
      (∀ (i : Nat) (row : List DV) (j : Nat) (d : DV), rows[i]? = some row → row[j]? = some d → VR w K Rho.nil d (vs i j)) →
      VR w K r (.s E rows) (.slice (some a) rows.length cap)
  | s0 (r : Rho) (E : Nat) : VR w K r (.s E []) (.slice none 0 0)
  | o (r : Rho) (n : Path) (ver off len : Nat) (pl : Pl) (a : Addr) : r n ver = some pl → (0 < pl.cap - off → a = ⟨pl.b, pl.o + off * pl.E, none⟩) →
      VR w K r (.o n ver off len) (.slice (some a) len (pl.cap - off))
  | p (r : Rho) (n : Path) (ver row off : Nat) (pl : Pl) : r n ver = some pl →
      VR w K r (.p n ver row off) (.pointer (some ⟨pl.b, pl.o + (row * pl.E + off), none⟩))
  | q (r : Rho) (cells : List DV) (off : Nat) (b c : Nat) (vs : Nat → Value) : K b →
      (∀ (j : Nat) (d : DV), cells[j]? = some d → d.one = true ∧ w.cell? ⟨b, c + j, none⟩ = some (vs j)) →
      (∀ (j : Nat) (d : DV), cells[j]? = some d → VR w K Rho.nil d (vs j)) →
      VR w K r (.q cells off) (.pointer (some ⟨b, c + off, none⟩))
  | g (r : Rho) (cells : List DV) (arr : Array Value) : arr.size = cells.length → (∀ (j : Nat) (d : DV), cells[j]? = some d → d.one = true) →
      (∀ (j : Nat) (d : DV), cells[j]? = some d → VR w K r d (arr.getD j undef)) → VR w K r (.g cells) (.agg arr)
  | t (r : Rho) (vs : List DV) (arr : Array Value) : arr.size = vs.length →
      (∀ (j : Nat) (d : DV), vs[j]? = some d → VR w K r d (arr.getD j undef)) → VR w K r (.t vs) (.tuple arr)
  | f (r : Rho) (fn : Fn) (fs cs : List DV) (fa ca : Array Value) : fa.size = fs.length → ca.size = cs.length →
      (∀ (j : Nat) (d : DV), fs[j]? = some d → VR w K r d (fa.getD j undef)) →
      (∀ (j : Nat) (d : DV), cs[j]? = some d → VR w K r d (ca.getD j undef)) → VR w K r (.f fn fs cs) (.func fn fa ca)
  | i (r : Rho) (t : TypeId) (d : DV) (v : Value) : VR w K r d v → VR w K r (.i t d) (.iface t v)
  | e (r : Rho) (a : Addr) (cap : Nat) : VR w K r .e (.slice (some a) 0 cap)

theorem cell?_of_heap {w w' : World} {b : Nat} (h : w'.heap[b]? = w.heap[b]?) (c : Nat) : w'.cell? ⟨b, c, none⟩ = w.cell? ⟨b, c, none⟩ := by
  simp [World.cell?, h]
theorem frozen?_of_heap {w w' : World} {b : Nat} (h : w'.heap[b]? = w.heap[b]?) (c : Nat) : w'.frozen? ⟨b, c, none⟩ = w.frozen? ⟨b, c, none⟩ := by
  simp [World.frozen?, h]

theorem VR.mono {w w' : World} {K K' : Nat → Prop} (hw : ∀ b, K b → w'.heap[b]? = w.heap[b]?) (hK : ∀ b, K b → K' b) {r : Rho} {d : DV} {v : Value} (h : VR w K r d v) :
    ∀ {r' : Rho}, r.le r' → VR w' K' r' d v := by
  induction h with
  | x r v => exact fun _ => .x _ _
  | zn r => exact fun _ => .zn _
  | ze r a => exact fun _ => .ze _ _
  | s r E rows a cap vs hc hk hl hcell _ ih =>
    intro r' _
    refine .s _ E rows a cap vs hc (fun h => ⟨(hk h).1, hK _ (hk h).2⟩) hl (fun i row j d h1 h2 => ?_) (fun i row j d h1 h2 => ih i row j d h1 h2 (Rho.le_refl _))
    have hne : rows ≠ [] := by intro e; rw [e] at h1; simp at h1
    exact ⟨(hcell i row j d h1 h2).1, by rw [cell?_of_heap (hw _ (hk hne).2)]; exact (hcell i row j d h1 h2).2⟩
  | s0 r E => exact fun _ => .s0 _ _
  | o r n ver off len pl a h1 h2 => exact fun hr => .o _ n ver off len pl a (hr _ _ _ h1) h2
  | p r n ver row off pl h1 => exact fun hr => .p _ n ver row off pl (hr _ _ _ h1)
  | q r cells off b c vs hk hcell _ ih =>
    exact fun _ => .q _ cells off b c vs (hK _ hk) (fun j d h => ⟨(hcell j d h).1, by rw [cell?_of_heap (hw _ hk)]; exact (hcell j d h).2⟩) (fun j d h => ih j d h (Rho.le_refl _))
  | g r cells arr h1 h2 _ ih => exact fun hr => .g _ cells arr h1 h2 (fun j d h => ih j d h hr)
  | t r vs arr h1 _ ih => exact fun hr => .t _ vs arr h1 (fun j d h => ih j d h hr)
  | f r fn fs cs fa ca h1 h2 _ _ ih1 ih2 => exact fun hr => .f _ fn fs cs fa ca h1 h2 (fun j d h => ih1 j d h hr) (fun j d h => ih2 j d h hr)
  | i r t d v _ ih => exact fun hr => .i _ t d v (ih hr)
  | e r a cap => exact fun _ => .e _ _ _

/-- One cell's datum stands to one cell's value. -/
theorem VR.one {w : World} {K : Nat → Prop} {r : Rho} {d : DV} {v : Value} (h : VR w K r d v) (hd : d.one = true) : v.oneCell' = true := by
  cases h <;> first | exact hd | rfl | simp [DV.one] at hd

/-- What a step leaves: the kept blocks as they were, nothing gone, the outside as it was. -/
structure Nx (K : Nat → Prop) (w w' : World) : Prop where
  os : w'.os = w.os
  tape : w'.tape = w.tape
  output : w'.output = w.output
  size : w.heap.size ≤ w'.heap.size
  block : ∀ b, K b → w'.heap[b]? = w.heap[b]?

theorem Nx.refl (K : Nat → Prop) (w : World) : Nx K w w := ⟨rfl, rfl, rfl, Nat.le_refl _, fun _ _ => rfl⟩
theorem Nx.trans {K K' : Nat → Prop} {a b c : World} (h : Nx K a b) (hK : ∀ n, K n → K' n) (k : Nx K' b c) : Nx K a c :=
  ⟨k.os.trans h.os, k.tape.trans h.tape, k.output.trans h.output, Nat.le_trans h.size k.size, fun i hi => (k.block i (hK i hi)).trans (h.block i hi)⟩
theorem Nx.below {K : Nat → Prop} {w w' : World} {B : Nat} (h : Nx K w w') (hK : ∀ b, b < B → K b) : Below B w w' :=
  ⟨h.os, h.tape, h.output, h.size, fun b hb => h.block b (hK b hb)⟩
theorem Nx.of_below {w w' : World} {B : Nat} {K : Nat → Prop} (h : Below B w w') (hK : ∀ b, K b → b < B) : Nx K w w' :=
  ⟨h.os, h.tape, h.output, h.size, fun b hb => h.block b (hK b hb)⟩

/-- A live block of the call's own. -/
structure LiveAt (w : World) (K : Nat → Prop) (r : Rho) (B : Nat) (blk : Blk) (pl : Pl) : Prop where
  E : pl.E = blk.E
  base : B ≤ pl.b
  wf : ∀ (i : Nat) (row : List DV), blk.rows[i]? = some row → row.length = blk.E
  len : blk.rows.length ≤ pl.cap
  room : ∀ k, k < pl.cap * pl.E → ∃ v, w.cell? ⟨pl.b, pl.o + k, none⟩ = some v
  lt : pl.b < w.heap.size
  free : ∀ k, w.frozen? ⟨pl.b, k, none⟩ = false
  ro : blk.ro = false → ¬ K pl.b
  cell : ∀ (i : Nat) (row : List DV) (j : Nat) (d : DV), blk.rows[i]? = some row → row[j]? = some d →
    d.one = true ∧ ∃ v, w.cell? ⟨pl.b, pl.o + (i * pl.E + j), none⟩ = some v ∧ VR w K r d v

structure HR (B : Nat) (K : Nat → Prop) (r : Rho) (H : Heap) (w : World) : Prop where
  there : ∀ b, K b → b < w.heap.size
  base : B ≤ w.heap.size
  live : ∀ (n : Path) (ver : Nat) (blk : Blk), H n = (ver, some blk) → ∃ pl, r n ver = some pl ∧ LiveAt w K r B blk pl
  apart : ∀ (n m : Path) (ver ver' : Nat) (blk blk' : Blk) (pl pl' : Pl), n ≠ m → H n = (ver, some blk) → H m = (ver', some blk') →
    r n ver = some pl → r m ver' = some pl' → pl.b ≠ pl'.b
  old : ∀ (n : Path) (v : Nat) (pl : Pl), r n v = some pl → v ≤ (H n).1
  fin : ∃ N : Nat, ∀ m : Path, N ≤ m.length → (H m).2 = none

theorem fin_set {H : Heap} (h : ∃ N : Nat, ∀ m : Path, N ≤ m.length → (H m).2 = none) (n : Path) (x : Nat × Option Blk) : ∃ N : Nat, ∀ m : Path, N ≤ m.length → (H.set n x m).2 = none := by
  obtain ⟨N, hN⟩ := h
  refine ⟨N + n.length + 1, fun m hm => ?_⟩
  rw [Heap.set_ne _ _ (fun e => by subst e; omega)]
  exact hN m (by omega)

/-- A world that differs in nothing that is looked at (a draw). -/
theorem VR.same {w w' : World} {K : Nat → Prop} {r : Rho} {d : DV} {v : Value} (hw : w'.heap = w.heap) (h : VR w K r d v) : VR w' K r d v :=
  h.mono (fun b _ => by rw [hw]) (fun _ h => h) (Rho.le_refl _)

theorem LiveAt.mono {w w' : World} {K K' : Nat → Prop} {r r' : Rho} {B : Nat} {blk : Blk} {pl : Pl} (h : LiveAt w K r B blk pl) (hb : w'.heap[pl.b]? = w.heap[pl.b]?) (hs : w.heap.size ≤ w'.heap.size)
    (hw : ∀ b, K b → w'.heap[b]? = w.heap[b]?) (hK : ∀ b, K b → K' b) (hr : r.le r') (hro : blk.ro = false → ¬ K' pl.b) : LiveAt w' K' r' B blk pl :=
  ⟨h.E, h.base, h.wf, h.len, fun k hk => by rw [cell?_of_heap hb]; exact h.room k hk, Nat.lt_of_lt_of_le h.lt hs, fun k => by rw [frozen?_of_heap hb]; exact h.free k, hro,
    fun i row j d h1 h2 => by
      obtain ⟨ho, v, hv, hd⟩ := h.cell i row j d h1 h2
      exact ⟨ho, v, by rw [cell?_of_heap hb]; exact hv, hd.mono hw hK hr⟩⟩

theorem HR.drew {B : Nat} {K : Nat → Prop} {r : Rho} {H : Heap} {w : World} (h : HR B K r H w) : HR B K r H w.drew :=
  ⟨h.there, h.base, fun n ver blk e => by
    obtain ⟨pl, h1, h2⟩ := h.live n ver blk e
    exact ⟨pl, h1, h2.mono rfl (Nat.le_refl _) (fun _ _ => rfl) (fun _ h => h) (Rho.le_refl _) h2.ro⟩, h.apart, h.old, h.fin⟩

theorem Nx.sub {K K' : Nat → Prop} {w w' : World} (h : Nx K' w w') (hk : ∀ b, K b → K' b) : Nx K w w' := ⟨h.os, h.tape, h.output, h.size, fun b hb => h.block b (hk b hb)⟩

/-- What is never written: all below B, and what data that nobody writes lie in. -/
def Lo (B : Nat) (K : Nat → Prop) (b : Nat) : Prop := b < B ∨ K b

/-- From one state on to another. -/
structure Ch (B : Nat) (K : Nat → Prop) (r : Rho) (w : World) (K' : Nat → Prop) (r' : Rho) (w' : World) : Prop where
  kk : ∀ b, K b → K' b
  kn : ∀ b, K' b → K b ∨ B ≤ b
  rr : r.le r'
  nx : Nx (Lo B K) w w'

theorem Ch.refl (B : Nat) (K : Nat → Prop) (r : Rho) (w : World) : Ch B K r w K r w := ⟨fun _ h => h, fun _ h => .inl h, Rho.le_refl _, Nx.refl _ _⟩
theorem Ch.trans {B : Nat} {K K1 K2 : Nat → Prop} {r r1 r2 : Rho} {w w1 w2 : World} (h : Ch B K r w K1 r1 w1) (k : Ch B K1 r1 w1 K2 r2 w2) : Ch B K r w K2 r2 w2 :=
  ⟨fun b hb => k.kk b (h.kk b hb), fun b hb => (k.kn b hb).elim (fun hb => h.kn b hb) .inr, Rho.le_trans h.rr k.rr, h.nx.trans (fun b hb => hb.imp id (h.kk b)) k.nx⟩
theorem Ch.block {B : Nat} {K K' : Nat → Prop} {r r' : Rho} {w w' : World} (h : Ch B K r w K' r' w') : ∀ b, K b → w'.heap[b]? = w.heap[b]? := fun b hb => h.nx.block b (.inr hb)
theorem VR.ch {B : Nat} {K K' : Nat → Prop} {r r' : Rho} {w w' : World} (h : Ch B K r w K' r' w') {d : DV} {v : Value} (hv : VR w K r d v) : VR w' K' r' d v := hv.mono h.block h.kk h.rr
theorem Ch.same {B : Nat} {K : Nat → Prop} {r r' : Rho} {w w' : World} (hr : r.le r') (hn : Nx (Lo B K) w w') : Ch B K r w K r' w' := ⟨fun _ h => h, fun _ h => .inl h, hr, hn⟩

end Go.Proofs.Ytjbcgjgomhbmgaa

/-  Data values: the three ways in which an operation meets memory: it reads cells, it writes cells of a live block, it makes a new block. -/
namespace Go.Proofs.Ytjbcgjgomhbmgaa
open Go.RowKit
set_option linter.unusedVariables false
set_option linter.constructorNameAsVariable false

variable {w w' : World} {K K' : Nat → Prop} {r r' : Rho} {H H' : Heap} {B : Nat}

/-- The cells from c on in block b hold these data. -/
def Holds (w : World) (K : Nat → Prop) (r : Rho) (b c : Nat) (cs : List DV) (vs : List Value) : Prop :=
  vs.length = cs.length ∧ ∀ (j : Nat) (d : DV) (v : Value), cs[j]? = some d → vs[j]? = some v → d.one = true ∧ w.cell? ⟨b, c + j, none⟩ = some v ∧ VR w K r d v

theorem Holds.of_each : ∀ (cs : List DV) (c : Nat) {b : Nat}, (∀ (j : Nat) (d : DV), cs[j]? = some d → ∃ v, d.one = true ∧ w.cell? ⟨b, c + j, none⟩ = some v ∧ VR w K r d v) → ∃ vs, Holds w K r b c cs vs
  | [], _, _, _ => ⟨[], rfl, fun _ _ _ h => by simp at h⟩
  | d :: cs, c, b, h => by
    obtain ⟨v, hv⟩ := h 0 d (by simp)
    obtain ⟨vs, hl, hvs⟩ := Holds.of_each cs (c + 1) (b := b) (fun j e he => by
      have := h (j + 1) e (by simpa using he)
      rwa [show c + (j + 1) = c + 1 + j by omega] at this)
    refine ⟨v :: vs, by simp [hl], fun j e u he hu => ?_⟩
    cases j with
    | zero => simp at he hu; subst he; subst hu; exact hv
    | succ j =>
      have := hvs j e u (by simpa using he) (by simpa using hu)
      rwa [show c + (j + 1) = c + 1 + j by omega]

theorem add_flat (b c j : Nat) : (⟨b, c, none⟩ : Addr).add j = ⟨b, c + j, none⟩ := by unfold Addr.add; split <;> simp_all

theorem Holds.run_load {P : Program} {b c : Nat} {cs : List DV} {vs : List Value} (h : Holds w K r b c cs vs) :
    (loadCells ⟨b, c, none⟩ cs.length).run P w = .ok vs.toArray w := by
  have := run_loadCells_list (P := P) w ⟨b, c, none⟩ vs (fun j v hv => by
    rw [add_flat]
    have hj : j < cs.length := by rw [← h.1]; exact (List.getElem?_eq_some_iff.1 hv).1
    exact (h.2 j _ v (List.getElem?_eq_getElem hj) hv).2.1)
  rwa [h.1] at this

theorem Holds.agg {b c : Nat} {cs : List DV} {vs : List Value} (h : Holds w K r b c cs vs) : VR w K r (.g cs) (.agg vs.toArray) := by
  refine .g _ cs vs.toArray (by simp [h.1]) (fun j d hd => ?_) (fun j d hd => ?_)
  · have hj : j < vs.length := by rw [h.1]; exact (List.getElem?_eq_some_iff.1 hd).1
    exact (h.2 j d _ hd (List.getElem?_eq_getElem hj)).1
  · have hj : j < vs.length := by rw [h.1]; exact (List.getElem?_eq_some_iff.1 hd).1
    have := (h.2 j d _ hd (List.getElem?_eq_getElem hj)).2.2
    simpa [Array.getD, hj] using this

theorem Holds.all_one {b c : Nat} {cs : List DV} {vs : List Value} (h : Holds w K r b c cs vs) : ∀ v ∈ vs, v.oneCell' = true := by
  intro v hv
  obtain ⟨j, hj, rfl⟩ := List.getElem_of_mem hv
  have hj' : j < cs.length := by rw [← h.1]; exact hj
  obtain ⟨h1, _, h3⟩ := h.2 j _ _ (List.getElem?_eq_getElem hj') (List.getElem?_eq_getElem hj)
  exact h3.one h1

/-- A live block by its name. -/
theorem HR.get (h : HR B K r H w) {n : Path} {ver : Nat} {blk : Blk} {pl : Pl} (hn : H n = (ver, some blk)) (hp : r n ver = some pl) : LiveAt w K r B blk pl := by
  obtain ⟨pl', h1, h2⟩ := h.live n ver blk hn
  rw [hp] at h1
  cases h1
  exact h2

theorem LiveAt.holds {blk : Blk} {pl : Pl} (h : LiveAt w K r B blk pl) {i : Nat} {row : List DV} (hr : blk.rows[i]? = some row) (off E : Nat) :
    ∃ vs, Holds w K r pl.b (pl.o + (i * pl.E + off)) ((row.drop off).take E) vs :=
  Holds.of_each _ _ fun j d hd => by
    rw [List.getElem?_take] at hd
    split at hd
    · rw [List.getElem?_drop] at hd
      obtain ⟨h1, v, h2, h3⟩ := h.cell i row (off + j) d hr hd
      exact ⟨v, h1, by rw [show pl.o + (i * pl.E + off) + j = pl.o + (i * pl.E + (off + j)) by omega]; exact h2, h3⟩
    · simp at hd

/-! ### Writing -/

theorem heap_setCells (b : Nat) : ∀ (vs : List Value) (o : Nat) (w : World) (k : Nat), k ≠ b → (w.setCells b o vs).heap[k]? = w.heap[k]?
  | [], _, _, _, _ => rfl
  | v :: vs, o, w, k, h => by rw [World.setCells, heap_setCells b vs (o + 1) _ k h]; exact Below.heap_setCell _ _ _ _ (by simpa using h)
theorem size_setCells (b : Nat) : ∀ (vs : List Value) (o : Nat) (w : World), (w.setCells b o vs).heap.size = w.heap.size
  | [], _, _ => rfl
  | v :: vs, o, w => by rw [World.setCells, size_setCells b vs]; simp
theorem nx_setCells (b : Nat) (hb : ¬ K b) : ∀ (vs : List Value) (o : Nat) (w : World), Nx K w (w.setCells b o vs)
  | [], _, _ => Nx.refl _ _
  | v :: vs, o, w => by
    have h1 : Nx K w (w.setCell ⟨b, o, none⟩ v) := ⟨rfl, rfl, rfl, by simp, fun k hk => Below.heap_setCell _ _ _ _ (by intro e; exact hb (by simpa [e] using hk))⟩
    exact h1.trans (fun _ h => h) (nx_setCells b hb vs (o + 1) _)
theorem cell?_setCells_in' (b : Nat) (vs : List Value) (o : Nat) (w : World) (h : ∀ j, j < vs.length → ∃ v, w.cell? ⟨b, o + j, none⟩ = some v) (j : Nat) (v : Value) (hj : vs[j]? = some v) :
    (w.setCells b o vs).cell? ⟨b, o + j, none⟩ = some v := by
  have hl := (List.getElem?_eq_some_iff.1 hj).1
  rw [World.cell?_setCells_in b vs o w (fun i hi => by obtain ⟨v, hv⟩ := h i hi; simp [hv]) j hl]
  rw [← hj]
  simp [List.getElem?_eq_getElem hl]

/-- The room of a live block, from element `at_` on, is written over: what the block then holds. -/
theorem HR.write (h : HR B K r H w) {n : Path} {ver : Nat} {blk : Blk} {pl : Pl} (hn : H n = (ver, some blk)) (hp : r n ver = some pl) (hro : blk.ro = false)
    (c : Nat) (vs : List Value) (hc : c + vs.length ≤ pl.cap * pl.E) (ver' : Nat) (pl' : Pl) (blk' : Blk)
    (hver : ver ≤ ver') (hr' : Rho.le r r') (hnew : r' n ver' = some pl') (hold : ∀ m v p, r' m v = some p → r m v = some p ∨ (m = n ∧ v = ver'))
    (hb : pl'.b = pl.b) (hE : pl'.E = blk'.E) (hwf : ∀ (i : Nat) (row : List DV), blk'.rows[i]? = some row → row.length = blk'.E) (hlen : blk'.rows.length ≤ pl'.cap)
    (hroom : ∀ k, k < pl'.cap * pl'.E → pl.o ≤ pl'.o + k ∧ pl'.o + k < pl.o + pl.cap * pl.E) (hro' : blk'.ro = false)
    (hcell : ∀ (i : Nat) (row : List DV) (j : Nat) (d : DV), blk'.rows[i]? = some row → row[j]? = some d → d.one = true ∧ ∃ v, (w.setCells pl.b (pl.o + c) vs).cell? ⟨pl.b, pl'.o + (i * pl'.E + j), none⟩ = some v ∧ VR w K r' d v) :
    HR B K r' (H.set n (ver', some blk')) (w.setCells pl.b (pl.o + c) vs) := by
  have hl := h.get hn hp
  have hnk := hl.ro hro
  have hnx := nx_setCells (K := K) pl.b hnk vs (pl.o + c) w
  refine ⟨fun b hb => Nat.lt_of_lt_of_le (h.there b hb) hnx.size, Nat.le_trans h.base hnx.size, ?_, ?_, ?_, fin_set h.fin _ _⟩
  · intro m v b' hm
    by_cases e : m = n
    · subst e
      rw [Heap.set_eq] at hm
      cases hm
      refine ⟨pl', hnew, ⟨hE, by rw [hb]; exact hl.base, hwf, hlen, fun k hk => ?_, by rw [hb]; exact Nat.lt_of_lt_of_le hl.lt hnx.size, fun k => ?_, fun _ => by rw [hb]; exact hnk, fun i row j d h1 h2 => ?_⟩⟩
      · obtain ⟨h1, h2⟩ := hroom k hk
        rw [hb]
        by_cases hin : pl.o + c ≤ pl'.o + k ∧ pl'.o + k < pl.o + c + vs.length
        · have hj : pl'.o + k - (pl.o + c) < vs.length := by omega
          refine ⟨vs[pl'.o + k - (pl.o + c)], ?_⟩
          have := cell?_setCells_in' pl.b vs (pl.o + c) w (fun j hj => by have := hl.room (c + j) (by omega); rwa [show pl.o + (c + j) = pl.o + c + j by omega] at this) (pl'.o + k - (pl.o + c)) _ (List.getElem?_eq_getElem hj)
          rwa [show pl.o + c + (pl'.o + k - (pl.o + c)) = pl'.o + k by omega] at this
        · obtain ⟨v, hv⟩ := hl.room (pl'.o + k - pl.o) (by omega)
          refine ⟨v, ?_⟩
          rw [World.cell?_setCells_out _ _ _ _ _ (by simp; omega)]
          rwa [show pl.o + (pl'.o + k - pl.o) = pl'.o + k by omega] at hv
      · rw [World.frozen?_setCells, hb]; exact hl.free k
      · obtain ⟨h3, v, h4, h5⟩ := hcell i row j d h1 h2
        exact ⟨h3, v, by rw [hb]; exact h4, h5.mono hnx.block (fun _ h => h) (Rho.le_refl _)⟩
    · rw [Heap.set_ne _ _ e] at hm
      obtain ⟨p, h1, h2⟩ := h.live m v b' hm
      have hne := h.apart m n v ver b' blk p pl e hm hn h1 hp
      exact ⟨p, hr' _ _ _ h1, h2.mono (heap_setCells _ _ _ _ _ hne) hnx.size hnx.block (fun _ h => h) hr' h2.ro⟩
  · intro m m' v v' b1 b2 p p' hne h1 h2 h3 h4
    by_cases e : m = n
    · subst e
      rw [Heap.set_eq] at h1
      cases h1
      rw [Heap.set_ne _ _ (Ne.symm hne)] at h2
      obtain ⟨q, hq1, _⟩ := h.live m' v' b2 h2
      have hq2 := hr' _ _ _ hq1
      rw [h4] at hq2
      cases hq2
      rw [hnew] at h3
      cases h3
      rw [hb]
      exact h.apart m m' _ _ blk b2 pl p' hne hn h2 hp hq1
    · rw [Heap.set_ne _ _ e] at h1
      obtain ⟨q, hq1, _⟩ := h.live m v b1 h1
      have hq2 := hr' _ _ _ hq1
      rw [h3] at hq2
      cases hq2
      by_cases e' : m' = n
      · subst e'
        rw [Heap.set_eq] at h2
        cases h2
        rw [hnew] at h4
        cases h4
        rw [hb]
        exact h.apart m m' _ _ b1 blk p pl hne h1 hn hq1 hp
      · rw [Heap.set_ne _ _ e'] at h2
        obtain ⟨q', hq1', _⟩ := h.live m' v' b2 h2
        have hq2' := hr' _ _ _ hq1'
        rw [h4] at hq2'
        cases hq2'
        exact h.apart m m' _ _ b1 b2 p p' hne h1 h2 hq1 hq1'
  · intro m v p hm
    rcases hold m v p hm with h1 | ⟨rfl, rfl⟩
    · have := h.old m v p h1
      by_cases e : m = n
      · subst e
        rw [Heap.set_eq]
        rw [hn] at this
        exact Nat.le_trans this hver
      · rwa [Heap.set_ne _ _ e]
    · rw [Heap.set_eq]; exact Nat.le_refl _

/-! ### A new block -/

def Rho.add (r : Rho) (n : Path) (v : Nat) (p : Pl) : Rho := fun m u => if m = n ∧ u = v then some p else r m u
theorem Rho.add_eq (r : Rho) (n : Path) (v : Nat) (p : Pl) : r.add n v p n v = some p := by simp [Rho.add]
theorem Rho.le_add (r : Rho) (n : Path) (v : Nat) (p : Pl) (h : r n v = none) : r.le (r.add n v p) := by
  intro m u q hq
  unfold Rho.add
  split
  · rename_i e; rw [e.1, e.2, h] at hq; cases hq
  · exact hq
theorem Rho.add_inv {r : Rho} {n : Path} {v : Nat} {p : Pl} {m : Path} {u : Nat} {q : Pl} (h : r.add n v p m u = some q) : r m u = some q ∨ (m = n ∧ u = v) := by
  unfold Rho.add at h
  split at h
  · rename_i e; exact .inr e
  · exact .inl h

theorem HR.fresh (h : HR B K r H w) (n : Path) : r n ((H n).1 + 1) = none := by
  cases e : r n ((H n).1 + 1) with
  | none => rfl
  | some p => have := h.old n _ p e; omega

theorem nx_alloc (o : Obj) (h : ∀ b, K b → b < w.heap.size) : Nx K w (w.alloc o) :=
  ⟨rfl, rfl, rfl, by simp, fun b hb => Below.heap_alloc _ _ _ (h b hb)⟩

/-- A new block of cells, under a name whose version goes up. -/
theorem HR.new (h : HR B K r H w) (n : Path) (c : Array Value) (t : TypeId) (blk : Blk) (cap : Nat)
    (hwf : ∀ (i : Nat) (row : List DV), blk.rows[i]? = some row → row.length = blk.E) (hlen : blk.rows.length ≤ cap) (hroom : cap * blk.E ≤ c.size) (hro : blk.ro = false)
    (hcell : ∀ (i : Nat) (row : List DV) (j : Nat) (d : DV), blk.rows[i]? = some row → row[j]? = some d → d.one = true ∧ ∃ v, c[i * blk.E + j]? = some v ∧ VR w K r d v) :
    HR B K (r.add n ((H n).1 + 1) ⟨w.heap.size, 0, blk.E, cap⟩) (H.set n ((H n).1 + 1, some blk)) (w.alloc (.cells c t)) := by
  have hle := r.le_add n _ ⟨w.heap.size, 0, blk.E, cap⟩ (h.fresh n)
  have hnx : Nx K w (w.alloc (.cells c t)) := nx_alloc _ h.there
  have hK : ¬ K w.heap.size := fun e => Nat.lt_irrefl _ (h.there _ e)
  refine ⟨fun b hb => Nat.lt_of_lt_of_le (h.there b hb) hnx.size, Nat.le_trans h.base hnx.size, ?_, ?_, ?_, fin_set h.fin _ _⟩
  · intro m v b' hm
    by_cases e : m = n
    · subst e
      rw [Heap.set_eq] at hm
      cases hm
      refine ⟨_, r.add_eq _ _ _, ⟨rfl, h.base, hwf, hlen, fun k hk => ?_, by simp, fun k => ?_, fun _ => hK, fun i row j d h1 h2 => ?_⟩⟩
      · simp only [] at hk
        refine ⟨c[k]'(by omega), ?_⟩
        rw [World.cell?_alloc_new]
        simp
      · simp
      · obtain ⟨h3, v, h4, h5⟩ := hcell i row j d h1 h2
        refine ⟨h3, v, ?_, h5.mono hnx.block (fun _ h => h) hle⟩
        rw [World.cell?_alloc_new]
        simpa using h4
    · rw [Heap.set_ne _ _ e] at hm
      obtain ⟨p, h1, h2⟩ := h.live m v b' hm
      exact ⟨p, hle _ _ _ h1, h2.mono (Below.heap_alloc _ _ _ h2.lt) hnx.size hnx.block (fun _ h => h) hle h2.ro⟩
  · intro m m' v v' b1 b2 p p' hne h1 h2 h3 h4
    by_cases e : m = n
    · subst e
      rw [Heap.set_ne _ _ (Ne.symm hne)] at h2
      obtain ⟨q, hq1, hq⟩ := h.live m' v' b2 h2
      have hq2 := hle _ _ _ hq1
      rw [h4] at hq2
      cases hq2
      rw [Heap.set_eq] at h1
      cases h1
      rw [Rho.add_eq] at h3
      cases h3
      have := hq.lt
      simp only []
      omega
    · rw [Heap.set_ne _ _ e] at h1
      obtain ⟨q, hq1, hq⟩ := h.live m v b1 h1
      have hq2 := hle _ _ _ hq1
      rw [h3] at hq2
      cases hq2
      by_cases e' : m' = n
      · subst e'
        rw [Heap.set_eq] at h2
        cases h2
        rw [Rho.add_eq] at h4
        cases h4
        have := hq.lt
        simp only []
        omega
      · rw [Heap.set_ne _ _ e'] at h2
        obtain ⟨q', hq1', _⟩ := h.live m' v' b2 h2
        have hq2' := hle _ _ _ hq1'
        rw [h4] at hq2'
        cases hq2'
        exact h.apart m m' _ _ b1 b2 p p' hne h1 h2 hq1 hq1'
  · intro m v p hm
    rcases Rho.add_inv hm with h1 | ⟨rfl, rfl⟩
    · have := h.old m v p h1
      by_cases e : m = n
      · subst e; rw [Heap.set_eq]; simp only []; omega
      · rwa [Heap.set_ne _ _ e]
    · rw [Heap.set_eq]; exact Nat.le_refl _

theorem HR.lo (h : HR B K r H w) : ∀ b, Lo B K b → b < w.heap.size := fun b hb => hb.elim (fun hb => Nat.lt_of_lt_of_le hb h.base) (h.there b)
theorem LiveAt.lo {blk : Blk} {pl : Pl} (h : LiveAt w K r B blk pl) (hro : blk.ro = false) : ¬ Lo B K pl.b := fun hb => hb.elim (fun hb => by have := h.base; omega) (h.ro hro)

end Go.Proofs.Ytjbcgjgomhbmgaa

/-  Data values: reading, writing, making: as functions on data, and that the model's operations do as they say. -/
namespace Go.Proofs.Ytjbcgjgomhbmgaa
open Go.RowKit
set_option linter.unusedVariables false
set_option linter.constructorNameAsVariable false

variable {P : Program} {w w' : World} {K K' : Nat → Prop} {r r' : Rho} {H H' : Heap} {B : Nat}

/-- An operation ran, and what it left stands to the datum and the heap that were reckoned. -/
def OK (B : Nat) (K : Nat → Prop) (r : Rho) (w : World) (x : Result Value) (d : DV) (H' : Heap) : Prop :=
  ∃ v w' K' r', x = .ok v w' ∧ Ch B K r w K' r' w' ∧ HR B K' r' H' w' ∧ VR w' K' r' d v

theorem OK.pure (h : HR B K r H w) {x : Result Value} {v : Value} {d : DV} (hx : x = .ok v w) (hv : VR w K r d v) : OK B K r w x d H :=
  ⟨v, w, K, r, hx, Ch.refl _ _ _ _, h, hv⟩

/-- A live block that may be read, by name and version. -/
def Heap.look (H : Heap) (n : Path) (ver : Nat) : Option Blk :=
  match H n with
  | (v, some b) => if v = ver then some b else none
  | _ => none
theorem Heap.look_some {H : Heap} {n : Path} {ver : Nat} {b : Blk} (h : H.look n ver = some b) : H n = (ver, some b) := by
  unfold Heap.look at h
  split at h
  · rename_i v b' e
    split at h
    · rename_i e'; subst e'; simp at h; subst h; exact e
    · simp at h
  · simp at h

/-- The cells from a pointer on. -/
def cellsAt (H : Heap) : DV → Option (List DV)
  | .p n ver row off => (H.look n ver).bind fun b => (b.rows[row]?).map (·.drop off)
  | .q cells off => some (cells.drop off)
  | _ => none

theorem cellsAt_holds (h : HR B K r H w) {d : DV} {v : Value} (hv : VR w K r d v) {cs : List DV} (hc : cellsAt H d = some cs) (E : Nat) :
    ∃ b c vs, v = .pointer (some ⟨b, c, none⟩) ∧ Holds w K r b c (cs.take E) vs := by
  cases hv with
  | p _ n ver row off pl hp =>
    simp only [cellsAt] at hc
    cases hb : H.look n ver with
    | none => simp [hb] at hc
    | some blk =>
      simp only [hb, Option.bind_some, Option.map_eq_some_iff] at hc
      obtain ⟨cells, h1, rfl⟩ := hc
      obtain ⟨vs, hvs⟩ := (h.get (Heap.look_some hb) hp).holds h1 off E
      exact ⟨_, _, vs, rfl, hvs⟩
  | q _ cells off b c vs hk h1 h2 =>
    simp only [cellsAt, Option.some.injEq] at hc
    subst hc
    obtain ⟨us, hus⟩ := Holds.of_each (w := w) (K := K) (r := r) ((cells.drop off).take E) (c + off) (b := b) (fun j d hd => by
      rw [List.getElem?_take] at hd
      split at hd
      · rw [List.getElem?_drop] at hd
        obtain ⟨h3, h4⟩ := h1 _ _ hd
        exact ⟨vs (off + j), h3, by rw [Nat.add_assoc]; exact h4, (h2 _ _ hd).mono (fun _ _ => rfl) (fun _ h => h) (Rho.nil_le _)⟩
      · simp at hd)
    exact ⟨b, c + off, us, rfl, hus⟩
  | _ => simp [cellsAt] at hc

/-! ### load -/

def ldD (H : Heap) (E : Nat) (agg : Bool) (d : DV) : Option DV :=
  (cellsAt H d).bind fun cs => if agg then (if (cs.take E).length = E then some (.g (cs.take E)) else none) else if E = 1 then cs[0]? else none

def isAggD : TypeDesc → Bool
  | .struct _ | .array _ _ => true
  | _ => false
theorem run_isAgg_of {t : TypeId} {D : TypeDesc} (h : P.underlying t = some D) : (isAgg t).run P w = .ok (isAggD D) w := by
  unfold isAgg
  simp only [Sem.run_bind, run_underlying h, Result.andThen_ok]
  cases D <;> rfl
theorem run_sizeOf_of {t : TypeId} {i : TypeInfo} (h : P.info? t = some i) : (sizeOf t).run P w = .ok i.size w := by
  simp [sizeOf, typeInfo, h]

theorem ld_ok (h : HR B K r H w) {t : TypeId} {D : TypeDesc} {i : TypeInfo} (hu : P.underlying t = some D) (hi : P.info? t = some i)
    {d : DV} {v : Value} (hv : VR w K r d v) {x : DV} (hx : ldD H i.size (isAggD D) d = some x) : OK B K r w ((Instr.loadAt t v).run P w) x H := by
  unfold ldD at hx
  cases hc : cellsAt H d with
  | none => simp [hc] at hx
  | some cs =>
    obtain ⟨b, c, vs, rfl, hh⟩ := cellsAt_holds h hv hc i.size
    simp only [hc, Option.bind_some] at hx
    have hrun : (loadVar t ⟨b, c, none⟩ : Sem Value).run P w = if isAggD D then ((loadCells ⟨b, c, none⟩ i.size).run P w).andThen fun cs w => .ok (.agg cs) w else (load ⟨b, c, none⟩).run P w := by
      unfold loadVar
      simp only [Sem.run_bind, run_isAgg_of hu, Result.andThen_ok]
      cases isAggD D <;> simp [run_sizeOf_of hi]
    have hat : (Instr.loadAt t (.pointer (some ⟨b, c, none⟩))).run P w = (loadVar t ⟨b, c, none⟩ : Sem Value).run P w := by
      simp [Instr.loadAt, Instr.sureAddr]
    rw [hat, hrun]
    cases ha : isAggD D with
    | true =>
      rw [ha] at hx
      simp only [if_true] at hx ⊢
      split at hx
      · rename_i hl
        simp only [Option.some.injEq] at hx
        subst hx
        have := hh.run_load (P := P)
        rw [hl] at this
        rw [this]
        exact OK.pure h (v := .agg vs.toArray) rfl hh.agg
      · simp at hx
    | false =>
      rw [ha] at hx
      simp only [Bool.false_eq_true, if_false] at hx ⊢
      split at hx
      · rename_i hE
        rw [hE] at hh
        cases cs with
        | nil => simp at hx
        | cons y ys =>
          simp at hx
          subst hx
          obtain ⟨hl, hcell⟩ := hh
          cases vs with
          | nil => simp at hl
          | cons u us =>
            obtain ⟨_, h2, h3⟩ := hcell 0 y u (by simp) (by simp)
            refine OK.pure h (v := u) ?_ h3
            rw [run_load]
            simp only [Nat.add_zero] at h2
            rw [h2]
      · simp at hx

/-! ### store -/

def cellsOf : DV → List DV
  | .g cs => cs
  | d => [d]

def stD (H : Heap) (E : Nat) (d x : DV) : Option Heap :=
  match d with
  | .p n ver row off => (H.look n ver).bind fun b => (b.rows[row]?).bind fun cells =>
      if b.ro = false ∧ (cellsOf x).length = E ∧ (cellsOf x).all (·.one) = true ∧ off + E ≤ cells.length then
        some (H.set n (ver, some { b with rows := b.rows.set row (cells.take off ++ (cellsOf x ++ cells.drop (off + E))) }))
      else none
  | _ => none

theorem cells_of_VR {d : DV} {v : Value} (hv : VR w K r d v) (ho : (cellsOf d).all (·.one) = true) :
    v.cells.size = (cellsOf d).length ∧ ∀ (j : Nat) (e : DV), (cellsOf d)[j]? = some e → ∃ u, v.cells.toList[j]? = some u ∧ u.oneCell' = true ∧ VR w K r e u := by
  have single : ∀ (d : DV) (v : Value), VR w K r d v → d.one = true → cellsOf d = [d] → v.cells.size = (cellsOf d).length ∧ ∀ (j : Nat) (e : DV), (cellsOf d)[j]? = some e → ∃ u, v.cells.toList[j]? = some u ∧ u.oneCell' = true ∧ VR w K r e u := by
    intro d v hv h1 hc
    have h2 := hv.one h1
    have h3 : v.cells = #[v] := by cases v <;> first | rfl | simp [Value.oneCell'] at h2
    rw [hc, h3]
    refine ⟨rfl, fun j e he => ?_⟩
    cases j with
    | zero => simp at he; subst he; exact ⟨v, by simp, h2, hv⟩
    | succ j => simp at he
  cases hd : d with
  | g cs =>
    subst hd
    cases hv with
    | g _ _ arr hs h1 h2 =>
      refine ⟨hs, fun j e he => ?_⟩
      have hj : j < arr.size := by rw [hs]; exact (List.getElem?_eq_some_iff.1 he).1
      have h3 := h2 j e he
      have h4 : arr.getD j undef = arr[j] := by simp [Array.getD, hj]
      rw [h4] at h3
      exact ⟨arr[j], by simp [Value.cells, hj], h3.one (h1 j e he), h3⟩
  | _ =>
    rw [← hd]
    refine single d v hv ?_ (by rw [hd]; rfl)
    rw [hd] at ho ⊢
    simpa [cellsOf] using ho

theorem getElem?_splice {α : Type} (l xs : List α) (off : Nat) (h : off + xs.length ≤ l.length) (j : Nat) :
    (l.take off ++ (xs ++ l.drop (off + xs.length)))[j]? = if off ≤ j ∧ j < off + xs.length then xs[j - off]? else l[j]? := by
  have h1 : (l.take off).length = off := by simp; omega
  rw [List.getElem?_append]
  split
  · rw [List.getElem?_take, if_pos (by omega), if_neg (by omega)]
  · rw [List.getElem?_append]
    split
    · rw [if_pos (by omega), h1]
    · rw [if_neg (by omega), List.getElem?_drop, h1]
      congr 1
      omega

theorem st_ok (h : HR B K r H w) {t : TypeId} {i : TypeInfo} (hi : P.info? t = some i) {d x : DV} {v u : Value} (hv : VR w K r d v) (hu : VR w K r x u)
    {H' : Heap} (hx : stD H i.size d x = some H') :
    ∃ w', (Instr.storeAt t v u).run P w = .ok () w' ∧ Nx (Lo B K) w w' ∧ HR B K r H' w' := by
  cases hv with
  | p _ n ver row off pl hp =>
    simp only [stD] at hx
    cases hb : H.look n ver with
    | none => simp [hb] at hx
    | some blk =>
      simp only [hb, Option.bind_some] at hx
      cases hr : blk.rows[row]? with
      | none => simp [hr] at hx
      | some cells =>
        simp only [hr, Option.bind_some] at hx
        split at hx
        · rename_i hc
          obtain ⟨hro, hE, hone, hfit⟩ := hc
          simp only [Option.some.injEq] at hx
          subst hx
          have hn := Heap.look_some hb
          have hl := h.get hn hp
          have hnk := hl.ro hro
          obtain ⟨hsz, hcell⟩ := cells_of_VR hu hone
          have hrow := hl.wf _ _ hr
          have hrl : row < blk.rows.length := (List.getElem?_eq_some_iff.1 hr).1
          have hvl : u.cells.toList.length = i.size := by rw [← hE, ← hsz]; simp
          have hmul : row * pl.E + pl.E ≤ pl.cap * pl.E := by
            have : (row + 1) * pl.E ≤ pl.cap * pl.E := Nat.mul_le_mul_right _ (by have := hl.len; omega)
            rw [Nat.succ_mul] at this
            exact this
          have hcap : row * pl.E + off + u.cells.toList.length ≤ pl.cap * pl.E := by rw [hvl]; have := hl.E; omega
          have hone' : ∀ y ∈ u.cells.toList, y.oneCell' = true := by
            intro y hy
            obtain ⟨j, hj, rfl⟩ := List.getElem_of_mem hy
            have hj' : j < (cellsOf x).length := by rw [hE, ← hvl]; exact hj
            obtain ⟨y, h1, h2, _⟩ := hcell j _ (List.getElem?_eq_getElem hj')
            rw [List.getElem?_eq_getElem hj] at h1
            cases h1
            exact h2
          have hrun : (Instr.storeAt t (.pointer (some ⟨pl.b, pl.o + (row * pl.E + off), none⟩)) u).run P w = .ok () (w.setCells pl.b (pl.o + (row * pl.E + off)) u.cells.toList) := by
            have h1 := run_storeCells_cells (P := P) pl.b (pl.o + (row * pl.E + off)) u.cells.toList 0 w
              (fun j hj => by
                obtain ⟨y, hy⟩ := hl.room (row * pl.E + off + j) (by omega)
                rw [show pl.o + (row * pl.E + off) + 0 + j = pl.o + (row * pl.E + off + j) by omega, hy]
                rfl)
              (fun j _ => hl.free _) hone'
            have hsz' : u.cells.size = i.size := by rw [hsz, hE]
            simp only [Instr.storeAt, Instr.sureAddr, Sem.run_bind, Sem.run_pure, Result.andThen_ok, storeVar, run_sizeOf_of hi, hsz', ne_eq, not_true_eq_false, if_false]
            simpa using h1
          refine ⟨_, hrun, nx_setCells _ (hl.lo hro) _ _ _, ?_⟩
          refine h.write hn hp hro (row * pl.E + off) _ hcap ver pl _ (Nat.le_refl _) (Rho.le_refl _) hp (fun m v p e => .inl e) rfl hl.E ?_ (by simpa using hl.len) (fun k hk => by omega) hro ?_
          · intro k row' hk
            simp only [List.getElem?_set] at hk
            split at hk
            · rename_i e
              subst e
              simp at hk
              obtain ⟨_, rfl⟩ := hk
              simp [hE]
              omega
            · exact hl.wf _ _ hk
          · intro k row' j e hk hj
            simp only [List.getElem?_set] at hk
            split at hk
            · rename_i e'
              subst e'
              simp at hk
              obtain ⟨_, rfl⟩ := hk
              have hsp := getElem?_splice cells (cellsOf x) off (by omega) j
              rw [hE] at hsp
              rw [hsp] at hj
              split at hj
              · rename_i hin
                obtain ⟨y, h1, h2, h3⟩ := hcell _ _ hj
                have h4 : e.one = true := by
                  have := List.all_eq_true.1 hone e (List.mem_of_getElem? hj)
                  exact this
                refine ⟨h4, y, ?_, h3⟩
                have := cell?_setCells_in' pl.b u.cells.toList (pl.o + (row * pl.E + off)) w (fun j hj => by
                  obtain ⟨y, hy⟩ := hl.room (row * pl.E + off + j) (by omega)
                  exact ⟨y, by rw [show pl.o + (row * pl.E + off) + j = pl.o + (row * pl.E + off + j) by omega]; exact hy⟩) (j - off) y h1
                rw [show pl.o + (row * pl.E + off) + (j - off) = pl.o + (row * pl.E + j) by omega] at this
                exact this
              · rename_i hout
                obtain ⟨h1, y, h2, h3⟩ := hl.cell row cells j e hr hj
                refine ⟨h1, y, ?_, h3⟩
                rw [World.cell?_setCells_out _ _ _ _ _ (by simp only [hvl]; intro _ _; omega)]
                exact h2
            · rename_i hne
              obtain ⟨h1, y, h2, h3⟩ := hl.cell k row' j e hk hj
              refine ⟨h1, y, ?_, h3⟩
              have hjl : j < pl.E := by
                have := hl.wf _ _ hk
                have := (List.getElem?_eq_some_iff.1 hj).1
                have := hl.E
                omega
              rw [World.cell?_setCells_out _ _ _ _ _ ?_]
              · exact h2
              · simp only [hvl]
                intro _ _
                have hEE := hl.E
                rcases Nat.lt_or_ge k row with hlt | hge
                · left
                  have : (k + 1) * pl.E ≤ row * pl.E := Nat.mul_le_mul_right _ hlt
                  rw [Nat.succ_mul] at this
                  omega
                · right
                  have : (row + 1) * pl.E ≤ k * pl.E := Nat.mul_le_mul_right _ (by omega)
                  rw [Nat.succ_mul] at this
                  omega
        · simp at hx
  | _ => simp [stD] at hx

end Go.Proofs.Ytjbcgjgomhbmgaa

/-  Data values: rows of a slice, new blocks, append and copy. -/
namespace Go.Proofs.Ytjbcgjgomhbmgaa
open Go.RowKit
set_option linter.unusedVariables false
set_option linter.constructorNameAsVariable false

variable {P : Program} {w w' : World} {K K' : Nat → Prop} {r r' : Rho} {H H' : Heap} {B : Nat}

/-- Rows of one length. -/
def RowsOf (E : Nat) (rows : List (List DV)) : Prop := ∀ (i : Nat) (row : List DV), rows[i]? = some row → row.length = E

theorem RowsOf.tail {E : Nat} {x : List DV} {rows : List (List DV)} (h : RowsOf E (x :: rows)) : RowsOf E rows := fun i row hi => h (i + 1) row (by simpa using hi)
theorem RowsOf.append {E : Nat} {a b : List (List DV)} (h : RowsOf E a) (k : RowsOf E b) : RowsOf E (a ++ b) := by
  intro i row hi
  rw [List.getElem?_append] at hi
  split at hi
  · exact h _ _ hi
  · exact k _ _ hi
theorem RowsOf.drop {E : Nat} {a : List (List DV)} (h : RowsOf E a) (n : Nat) : RowsOf E (a.drop n) := fun i row hi => h _ row (by rwa [List.getElem?_drop] at hi)
theorem RowsOf.take {E : Nat} {a : List (List DV)} (h : RowsOf E a) (n : Nat) : RowsOf E (a.take n) := fun i row hi => h i row (by
  rw [List.getElem?_take] at hi
  split at hi
  · exact hi
  · simp at hi)

theorem flat_length : ∀ {E : Nat} {rows : List (List DV)}, RowsOf E rows → rows.flatten.length = rows.length * E
  | _, [], _ => by simp
  | E, x :: rows, h => by
    have h0 : x.length = E := h 0 x (by simp)
    rw [List.flatten_cons, List.length_append, flat_length h.tail, h0, List.length_cons, Nat.succ_mul, Nat.add_comm]

theorem flat_get : ∀ {E : Nat} {rows : List (List DV)}, RowsOf E rows → ∀ (i j : Nat), j < E → rows.flatten[i * E + j]? = (rows[i]?).bind (·[j]?)
  | _, [], _, _, _, _ => by simp
  | E, x :: rows, h, i, j, hj => by
    have h0 : x.length = E := h 0 x (by simp)
    rw [List.flatten_cons, List.getElem?_append]
    cases i with
    | zero => simp only [Nat.zero_mul, Nat.zero_add, h0, hj, if_true, List.getElem?_cons_zero, Option.bind_some]
    | succ i =>
      have he : ((i + 1) * E + j) - x.length = i * E + j := by rw [h0, Nat.succ_mul]; omega
      rw [if_neg (by rw [h0, Nat.succ_mul]; omega), he, flat_get h.tail i j hj]
      simp

theorem flat_inv {E : Nat} {rows : List (List DV)} (h : RowsOf E rows) {k : Nat} {d : DV} (hk : rows.flatten[k]? = some d) :
    ∃ i j row, k = i * E + j ∧ j < E ∧ rows[i]? = some row ∧ row[j]? = some d := by
  have hl := (List.getElem?_eq_some_iff.1 hk).1
  rw [flat_length h] at hl
  have hE : 0 < E := by
    rcases Nat.eq_zero_or_pos E with e | e
    · rw [e] at hl; omega
    · exact e
  have he : k / E * E + k % E = k := by rw [Nat.mul_comm]; exact Nat.div_add_mod k E
  have h1 := flat_get h (k / E) (k % E) (Nat.mod_lt _ hE)
  rw [he, hk] at h1
  cases hr : rows[k / E]? with
  | none => simp [hr] at h1
  | some row =>
    simp only [hr, Option.bind_some] at h1
    exact ⟨k / E, k % E, row, he.symm, Nat.mod_lt _ hE, hr, h1.symm⟩

/-- The rows that a slice shows. -/
def rowsOf (H : Heap) (E : Nat) : DV → Option (List (List DV))
  | .z _ => some []
  | .e => some []
  | .s E' rows => if E' = E then some rows else none
  | .o n ver off len => (H.look n ver).bind fun b => if b.E = E ∧ off + len ≤ b.rows.length then some ((b.rows.drop off).take len) else none
  | _ => none

theorem LiveAt.rows {blk : Blk} {pl : Pl} (h : LiveAt w K r B blk pl) (off len : Nat) :
    ∃ vs, Holds w K r pl.b (pl.o + off * pl.E) (((blk.rows.drop off).take len).flatten) vs := by
  have hw : RowsOf blk.E ((blk.rows.drop off).take len) := (RowsOf.drop h.wf off).take len
  refine Holds.of_each _ _ fun k d hk => ?_
  obtain ⟨i, j, row, rfl, hj, hi, hd⟩ := flat_inv hw hk
  have hi' : blk.rows[off + i]? = some row := by
    rw [List.getElem?_take] at hi
    split at hi
    · rwa [List.getElem?_drop] at hi
    · simp at hi
  obtain ⟨h1, v, h2, h3⟩ := h.cell _ row j d hi' hd
  refine ⟨v, h1, ?_, h3⟩
  rw [show pl.o + off * pl.E + (i * blk.E + j) = pl.o + ((off + i) * pl.E + j) by rw [h.E, Nat.add_mul]; omega]
  exact h2

theorem rowsOf_holds (h : HR B K r H w) {d : DV} {v : Value} (hv : VR w K r d v) {E : Nat} {rows : List (List DV)} (hr : rowsOf H E d = some rows) :
    ∃ a cap, v = .slice a rows.length cap ∧ rows.length ≤ cap ∧ RowsOf E rows ∧ (rows ≠ [] → ∃ b c vs, a = some ⟨b, c, none⟩ ∧ Holds w K r b c rows.flatten vs) := by
  cases hv with
  | zn => simp only [rowsOf, Option.some.injEq] at hr; subst hr; exact ⟨_, _, rfl, Nat.le_refl _, fun i row hi => by simp at hi, fun h => absurd rfl h⟩
  | ze => simp only [rowsOf, Option.some.injEq] at hr; subst hr; exact ⟨_, _, rfl, Nat.le_refl _, fun i row hi => by simp at hi, fun h => absurd rfl h⟩
  | e => simp only [rowsOf, Option.some.injEq] at hr; subst hr; exact ⟨_, _, rfl, Nat.zero_le _, fun i row hi => by simp at hi, fun h => absurd rfl h⟩
  | s0 =>
    simp only [rowsOf] at hr
    split at hr
    · simp at hr; subst hr; exact ⟨_, _, rfl, Nat.le_refl _, fun i row hi => by simp at hi, fun h => absurd rfl h⟩
    · simp at hr
  | s _ E' rows' a cap vs hcap hk hl h1 h2 =>
    simp only [rowsOf] at hr
    split at hr
    · rename_i e
      subst e
      simp only [Option.some.injEq] at hr
      subst hr
      refine ⟨_, _, rfl, hcap, hl, fun hne => ?_⟩
      obtain ⟨b, c, sp⟩ := a
      have ha := (hk hne).1
      simp only at ha
      subst ha
      obtain ⟨us, hus⟩ := Holds.of_each (w := w) (K := K) (r := r) rows'.flatten c (b := b) (fun k d hk => by
        obtain ⟨i, j, row, rfl, _, hi, hd⟩ := flat_inv hl hk
        obtain ⟨h3, h4⟩ := h1 i row j d hi hd
        exact ⟨_, h3, h4, (h2 i row j d hi hd).mono (fun _ _ => rfl) (fun _ h => h) (Rho.nil_le _)⟩)
      exact ⟨b, c, us, rfl, hus⟩
    · simp at hr
  | o _ n ver off len pl a hp ha =>
    simp only [rowsOf] at hr
    cases hb : H.look n ver with
    | none => simp [hb] at hr
    | some blk =>
      simp only [hb, Option.bind_some] at hr
      split at hr
      · rename_i hc
        simp only [Option.some.injEq] at hr
        subst hr
        have hl := h.get (Heap.look_some hb) hp
        have hlen : ((blk.rows.drop off).take len).length = len := by simp; omega
        have hle := hl.len
        refine ⟨some a, pl.cap - off, by rw [hlen], by rw [hlen]; omega, by rw [← hc.1]; exact (RowsOf.drop hl.wf off).take len, fun hne => ?_⟩
        have hpos : 0 < len := by
          rcases Nat.eq_zero_or_pos len with e | e
          · exfalso; apply hne; rw [e]; simp
          · exact e
        obtain ⟨vs, hvs⟩ := hl.rows off len
        exact ⟨pl.b, pl.o + off * pl.E, vs, by rw [ha (by omega)], hvs⟩
      · simp at hr
  | _ => simp [rowsOf] at hr

theorem run_firstCells {size : Nat} {rows : List (List DV)} {a : Option Addr} {len cap : Nat} (hw : RowsOf size rows)
    (h : rows ≠ [] → ∃ b c vs, a = some ⟨b, c, none⟩ ∧ Holds w K r b c rows.flatten vs) :
    ∃ vs, (Builtin.firstCells size rows.length (.slice a len cap)).run P w = .ok vs w ∧ vs.size = rows.length * size ∧
      ∀ (j : Nat) (d : DV), rows.flatten[j]? = some d → ∃ v, vs[j]? = some v ∧ d.one = true ∧ v.oneCell' = true ∧ VR w K r d v := by
  by_cases hne : rows = []
  · subst hne
    cases a with
    | none => exact ⟨#[], rfl, by simp, fun j d h => by simp at h⟩
    | some a => exact ⟨#[], by simp [Builtin.firstCells, loadCells, loadCellsFrom], by simp, fun j d h => by simp at h⟩
  · obtain ⟨b, c, vs, rfl, hh⟩ := h hne
    refine ⟨vs.toArray, ?_, by simp [hh.1, flat_length hw], fun j d hd => ?_⟩
    · have := hh.run_load (P := P)
      rw [flat_length hw] at this
      simpa [Builtin.firstCells] using this
    · have hj : j < vs.length := by rw [hh.1]; exact (List.getElem?_eq_some_iff.1 hd).1
      obtain ⟨h1, h2, h3⟩ := hh.2 j d _ hd (List.getElem?_eq_getElem hj)
      exact ⟨vs[j], by simp [hj], h1, h3.one h1, h3⟩

/-! ### A new block -/

/-- The name's next version, holding these rows. -/
def newD (H : Heap) (n : Path) (E : Nat) (rows : List (List DV)) : Heap := H.set n ((H n).1 + 1, some ⟨E, false, rows⟩)

theorem new_ok (h : HR B K r H w) (n : Path) {c : Array Value} (t : TypeId) {E cap : Nat} {rows : List (List DV)} (hw : RowsOf E rows) (hlen : rows.length ≤ cap) (hroom : cap * E ≤ c.size)
    (hcell : ∀ (k : Nat) (d : DV), rows.flatten[k]? = some d → d.one = true ∧ ∃ v, c[k]? = some v ∧ VR w K r d v) :
    HR B K (r.add n ((H n).1 + 1) ⟨w.heap.size, 0, E, cap⟩) (newD H n E rows) (w.alloc (.cells c t)) ∧ Nx (Lo B K) w (w.alloc (.cells c t)) ∧ r.le (r.add n ((H n).1 + 1) ⟨w.heap.size, 0, E, cap⟩) := by
  refine ⟨h.new n c t ⟨E, false, rows⟩ cap hw hlen hroom rfl (fun i row j d hi hd => ?_), nx_alloc _ h.lo, r.le_add n _ _ (h.fresh n)⟩
  have hjE : j < E := by rw [← hw i row hi]; exact (List.getElem?_eq_some_iff.1 hd).1
  have hk := flat_get hw i j hjE
  rw [hi, Option.bind_some, hd] at hk
  exact hcell _ _ hk

theorem run_newRow (t : TypeId) (c : Array Value) : (newRow t c).run P w = .ok ⟨w.heap.size, 0, none⟩ (w.alloc (.cells c t)) := by
  simp [newRow]

/-- A variable: box, alloc. -/
def boxD (H : Heap) (n : Path) (x : DV) : Option (DV × Heap) :=
  if (cellsOf x).all (·.one) = true then some (.p n ((H n).1 + 1) 0 0, newD H n (cellsOf x).length [cellsOf x]) else none

theorem box_ok (h : HR B K r H w) (n : Path) (t : TypeId) {x : DV} {v : Value} (hv : VR w K r x v) {d : DV} (hx : boxD H n x = some (d, H')) :
    OK B K r w ((Instr.box t v).run P w) d H' := by
  unfold boxD at hx
  split at hx
  · rename_i ho
    simp only [Option.some.injEq, Prod.mk.injEq] at hx
    obtain ⟨rfl, rfl⟩ := hx
    obtain ⟨hs, hc⟩ := cells_of_VR hv ho
    obtain ⟨h1, h2, h3⟩ := new_ok h n (c := v.cells) t (E := (cellsOf x).length) (cap := 1) (rows := [cellsOf x]) (fun i row hi => by
      cases i with
      | zero => simp at hi; rw [← hi]
      | succ i => simp at hi) (by simp) (by rw [hs]; omega) (fun k e hk => by
        have hk' : (cellsOf x)[k]? = some e := by simpa using hk
        obtain ⟨u, hu, _, hd⟩ := hc k e hk'
        exact ⟨List.all_eq_true.1 ho e (List.mem_of_getElem? hk'), u, by simpa using hu, hd⟩)
    refine ⟨_, _, K, _, ?_, Ch.same h3 h2, h1, .p _ n _ 0 0 _ (Rho.add_eq _ _ _ _)⟩
    simp [Instr.box, newVar, run_newRow]
  · simp at hx

/-- A new slice of these rows. -/
def sliceNewD (H : Heap) (n : Path) (E : Nat) (rows : List (List DV)) : DV × Heap := (.o n ((H n).1 + 1) 0 rows.length, newD H n E rows)

theorem sliceNew_ok (h : HR B K r H w) (n : Path) {c : Array Value} (t : TypeId) {E cap : Nat} {rows : List (List DV)} (hw : RowsOf E rows) (hlen : rows.length ≤ cap) (hroom : cap * E ≤ c.size)
    (hcell : ∀ (k : Nat) (d : DV), rows.flatten[k]? = some d → d.one = true ∧ ∃ v, c[k]? = some v ∧ VR w K r d v) :
    OK B K r w (.ok (.slice (some ⟨w.heap.size, 0, none⟩) rows.length cap) (w.alloc (.cells c t))) (sliceNewD H n E rows).1 (sliceNewD H n E rows).2 := by
  obtain ⟨h1, h2, h3⟩ := new_ok h n t hw hlen hroom hcell
  refine ⟨_, _, K, _, rfl, Ch.same h3 h2, h1, ?_⟩
  have := VR.o (w := w.alloc (.cells c t)) (K := K) (r.add n ((H n).1 + 1) ⟨w.heap.size, 0, E, cap⟩) n ((H n).1 + 1) 0 rows.length ⟨w.heap.size, 0, E, cap⟩ ⟨w.heap.size, 0, none⟩ (Rho.add_eq _ _ _ _) (fun _ => by simp)
  exact this

end Go.Proofs.Ytjbcgjgomhbmgaa

/-  Data values: append and copy. -/
namespace Go.Proofs.Ytjbcgjgomhbmgaa
open Go.RowKit
set_option linter.unusedVariables false
set_option linter.constructorNameAsVariable false

variable {P : Program} {w w' : World} {K K' : Nat → Prop} {r r' : Rho} {H H' : Heap} {B : Nat}

theorem growBy_le (n : Nat) : ∀ (k c : Nat), 256 ≤ c → Builtin.growBy n k c ≤ 2 ^ k * c
  | 0, c, _ => by simp [Builtin.growBy]
  | k + 1, c, h => by
    unfold Builtin.growBy
    split
    · rw [Nat.pow_succ]
      have : 1 ≤ 2 ^ k := Nat.one_le_two_pow
      have h2 : 1 * c ≤ 2 ^ k * 2 * c := Nat.mul_le_mul_right c (by omega)
      omega
    · have h1 := growBy_le n k (c + (c + 768) / 4) (by omega)
      have h2 : c + (c + 768) / 4 ≤ 2 * c := by omega
      have h3 : 2 ^ k * (c + (c + 768) / 4) ≤ 2 ^ k * (2 * c) := Nat.mul_le_mul_left _ h2
      rw [Nat.pow_succ, Nat.mul_assoc]
      omega

theorem nextcap_le {need cap : Nat} (h : cap < need) : Builtin.nextslicecap need cap ≤ 16 * need := by
  unfold Builtin.nextslicecap
  split
  · omega
  · split
    · omega
    · have := growBy_le need 4 cap (by omega)
      omega

theorem zeroCells_size (z : Array Value) (n : Nat) : (Builtin.zeroCells z n).size = n * z.size := by simp [Builtin.zeroCells]

/-- What append does, in the model's words: in place, or into a new block. -/
theorem run_append {sT xT ty elem eX : TypeId} {i : TypeInfo} {z : Value} (hu : P.underlying sT = some (.slice elem)) (hx : P.underlying xT = some (.slice eX))
    (hi : P.info? elem = some i) (hz : i.zero = some z) {base a : Option Addr} {sLen sCap n cap : Nat} {new : Array Value}
    (hn : (Builtin.firstCells i.size n (.slice a n cap)).run P w = .ok new w)
    (hlim : (sLen + n) * i.bytes ≤ 17592186044416) (hlim2 : sLen + n ≤ 17592186044416) :
    (sLen + n ≤ sCap → (Builtin.append_ #[sT, xT] ty #[.slice base sLen sCap, .slice a n cap]).run P w =
      (((match base with | some a => storeCells (a.add (sLen * i.size)) new.toList | none => Pure.pure ()) : Sem Unit).run P w).andThen fun _ w => .ok (.slice base (sLen + n) sCap) w) ∧
    (∀ (old : Array Value), sCap < sLen + n → (Builtin.firstCells i.size sLen (.slice base sLen sCap)).run P w.drew = .ok old w.drew → (Builtin.firstCells i.size n (.slice a n cap)).run P w.drew = .ok new w.drew →
      ∃ m, sLen + n ≤ m ∧ (Builtin.append_ #[sT, xT] ty #[.slice base sLen sCap, .slice a n cap]).run P w =
        .ok (.slice (some ⟨w.heap.size, 0, none⟩) (sLen + n) m) (w.drew.alloc (.cells (old ++ new ++ Builtin.zeroCells z.cells (m - (sLen + n))) elem))) := by
  constructor
  · intro hle
    cases base with
    | none => simp [Builtin.append_, run_underlying hu, run_underlying hx, run_sizeOf_of hi, Builtin.lenOf, hle, hn]
    | some b => simp [Builtin.append_, run_underlying hu, run_underlying hx, run_sizeOf_of hi, Builtin.lenOf, hle, hn]
  · intro old hlt ho hn'
    have hcap := nextcap_le hlt
    have hb : Builtin.nextslicecap (sLen + n) sCap * i.bytes ≤ 2 ^ 48 := by
      have : Builtin.nextslicecap (sLen + n) sCap * i.bytes ≤ 16 * (sLen + n) * i.bytes := Nat.mul_le_mul_right _ hcap
      rw [Nat.mul_assoc] at this
      omega
    refine ⟨(sLen + n) + w.tape w.drawn (.appendCap (sLen + n) sCap elem) % (2 ^ 63 - (sLen + n)), by omega, ?_⟩
    have h1 : ¬ (sLen + n ≤ sCap) := by omega
    have h2 : ¬ (2 ^ 48 < Builtin.nextslicecap (sLen + n) sCap * i.bytes) := by omega
    have hti : (typeInfo elem).run P w = .ok i w := by simp [typeInfo, hi]
    have hti' : (typeInfo elem).run P w.drew = .ok i w.drew := by simp [typeInfo, hi]
    have hzv : (zeroValue elem).run P w.drew = .ok z w.drew := by simp [zeroValue, hti', hz]
    have h3 : ¬ (9223372036854775807 < ((sLen : Int) + (n : Int)) ∧ i.bytes = 0) := by omega
    have h4 : ¬ (281474976710656 < Builtin.nextslicecap (sLen + n) sCap * i.bytes) := by omega
    simp [Builtin.append_, run_underlying hu, run_underlying hx, run_sizeOf_of hi, Builtin.lenOf, h1, hti, hti', h4, h3, ho, hn', hzv, run_newRow, Question.forced, Question.cut]

def appD (H : Heap) (n : Path) (E bytes : Nat) (x y : DV) : Option (DV × Heap) :=
  (rowsOf H E y).bind fun ys =>
    match x with
    | .z b => if ys.isEmpty then some (.z b, H) else if ys.length * bytes ≤ 17592186044416 ∧ ys.length ≤ 17592186044416 then some (sliceNewD H n E ys) else none
    | .s E' rows => if ys.isEmpty ∧ E' = E then some (.s E' rows, H) else none
    | .e => if ys.isEmpty then some (.e, H) else none
    | .o m ver off len => (H.look m ver).bind fun b =>
        if b.E = E ∧ b.ro = false ∧ off + len ≤ b.rows.length ∧ (len + ys.length) * bytes ≤ 17592186044416 ∧ len + ys.length ≤ 17592186044416 then
          some (.o m (ver + 1) 0 (len + ys.length), H.set m (ver + 1, some ⟨E, false, (b.rows.drop off).take len ++ ys⟩))
        else none
    | _ => none

theorem VR.drew {d : DV} {v : Value} (h : VR w K r d v) : VR w.drew K r d v :=
  VR.mono (w := w) (w' := w.drew) (K := K) (K' := K) (fun _ _ => rfl) (fun _ h => h) h (Rho.le_refl _)
theorem Holds.drew {b c : Nat} {cs : List DV} {vs : List Value} (h : Holds w K r b c cs vs) : Holds w.drew K r b c cs vs :=
  ⟨h.1, fun j d v hj hv => by
    obtain ⟨h6, h7, h8⟩ := h.2 j d v hj hv
    exact ⟨h6, h7, h8.drew⟩⟩

/-- The cells of a slice that is read, in this world and behind a draw. -/
theorem first_both {size : Nat} {rows : List (List DV)} {a : Option Addr} {len cap : Nat} (hw : RowsOf size rows)
    (h : rows ≠ [] → ∃ b c vs, a = some ⟨b, c, none⟩ ∧ Holds w K r b c rows.flatten vs) :
    ∃ vs, (Builtin.firstCells size rows.length (.slice a len cap)).run P w = .ok vs w ∧ (Builtin.firstCells size rows.length (.slice a len cap)).run P w.drew = .ok vs w.drew ∧ vs.size = rows.length * size ∧
      ∀ (j : Nat) (d : DV), rows.flatten[j]? = some d → ∃ v, vs[j]? = some v ∧ d.one = true ∧ v.oneCell' = true ∧ VR w K r d v := by
  by_cases hne : rows = []
  · subst hne
    cases a with
    | none => exact ⟨#[], rfl, rfl, by simp, fun j d h => by simp at h⟩
    | some a => exact ⟨#[], by simp [Builtin.firstCells, loadCells, loadCellsFrom], by simp [Builtin.firstCells, loadCells, loadCellsFrom], by simp, fun j d h => by simp at h⟩
  · obtain ⟨b, c, vs, rfl, hh⟩ := h hne
    refine ⟨vs.toArray, ?_, ?_, by simp [hh.1, flat_length hw], fun j d hd => ?_⟩
    · have := hh.run_load (P := P)
      rw [flat_length hw] at this
      simpa [Builtin.firstCells] using this
    · have := hh.drew.run_load (P := P)
      rw [flat_length hw] at this
      simpa [Builtin.firstCells] using this
    · have hj : j < vs.length := by rw [hh.1]; exact (List.getElem?_eq_some_iff.1 hd).1
      obtain ⟨h1, h2, h3⟩ := hh.2 j d _ hd (List.getElem?_eq_getElem hj)
      exact ⟨vs[j], by simp [hj], h1, h3.one h1, h3⟩

/-- Growing: a new block of the old rows and the new ones. -/
theorem app_grow (h : HR B K r H w) (n : Path) (t : TypeId) {E m : Nat} {os ys : List (List DV)} {old new rest : Array Value} (ho : RowsOf E os) (hy : RowsOf E ys)
    (hos : old.size = os.length * E) (hns : new.size = ys.length * E) (hrest : rest.size = (m - (os.length + ys.length)) * E) (hm : os.length + ys.length ≤ m)
    (hoc : ∀ (j : Nat) (d : DV), os.flatten[j]? = some d → ∃ v, old[j]? = some v ∧ d.one = true ∧ v.oneCell' = true ∧ VR w K r d v)
    (hnc : ∀ (j : Nat) (d : DV), ys.flatten[j]? = some d → ∃ v, new[j]? = some v ∧ d.one = true ∧ v.oneCell' = true ∧ VR w K r d v) :
    OK B K r w (.ok (.slice (some ⟨w.heap.size, 0, none⟩) (os.length + ys.length) m) (w.drew.alloc (.cells (old ++ new ++ rest) t))) (sliceNewD H n E (os ++ ys)).1 (sliceNewD H n E (os ++ ys)).2 := by
  have hsz : (old ++ new ++ rest).size = m * E := by
    simp only [Array.size_append, hos, hns, hrest, ← Nat.add_mul]
    congr 1
    omega
  have := sliceNew_ok (cap := m) h.drew n t (c := old ++ new ++ rest) (ho.append hy) (by simpa using hm) (by rw [hsz]; exact Nat.le_refl _) (fun k e hk => by
    rw [List.flatten_append, List.getElem?_append] at hk
    split at hk
    · obtain ⟨u, h1, h2, _, h3⟩ := hoc k e hk
      have hk' : k < old.size := (Array.getElem?_eq_some_iff.1 h1).1
      exact ⟨h2, u, by rw [Array.append_assoc, Array.getElem?_append, if_pos hk', h1], h3.drew⟩
    · rename_i hge
      obtain ⟨u, h1, h2, _, h3⟩ := hnc _ e hk
      have hk' : k - old.size < new.size := by
        have := (Array.getElem?_eq_some_iff.1 h1).1
        rwa [flat_length ho, ← hos] at this
      rw [flat_length ho, ← hos] at h1 hge
      refine ⟨h2, u, ?_, h3.drew⟩
      rw [Array.append_assoc, Array.getElem?_append, if_neg hge, Array.getElem?_append, if_pos hk', h1])
  rw [List.length_append] at this
  obtain ⟨v, w1, K1, r1, e1, e4, e5, e6⟩ := this
  exact ⟨v, w1, K1, r1, e1, ⟨e4.kk, e4.kn, e4.rr, ⟨e4.nx.os, e4.nx.tape, e4.nx.output, e4.nx.size, e4.nx.block⟩⟩, e5, e6⟩

theorem all_one {rows : List (List DV)} {E : Nat} {vs : Array Value} (hs : vs.size = rows.length * E) (hw : RowsOf E rows)
    (hc : ∀ (j : Nat) (d : DV), rows.flatten[j]? = some d → ∃ v, vs[j]? = some v ∧ d.one = true ∧ v.oneCell' = true ∧ VR w K r d v) : ∀ v ∈ vs.toList, v.oneCell' = true := by
  intro v hv
  obtain ⟨j, hj, rfl⟩ := List.getElem_of_mem hv
  have hj' : j < rows.flatten.length := by rw [flat_length hw, ← hs]; simpa using hj
  obtain ⟨u, h1, _, h3, _⟩ := hc j _ (List.getElem?_eq_getElem hj')
  have : vs[j]? = some (vs.toList[j]) := by simp at hj; simp [hj]
  rw [this] at h1
  cases h1
  exact h3

/-- Some of a live block's room is written over by whole rows: what the block then shows, from element `off` on. -/
theorem put_rows (h : HR B K r H w) {n : Path} {ver : Nat} {blk : Blk} {pl : Pl} (hn : H n = (ver, some blk)) (hp : r n ver = some pl) (hro : blk.ro = false)
    {off len : Nat} (hoff : off + len ≤ blk.rows.length) {ys : List (List DV)} {new : List Value} (hy : RowsOf blk.E ys) (hns : new.length = ys.length * blk.E) (hfit : off + len + ys.length ≤ pl.cap)
    (hnc : ∀ (j : Nat) (d : DV), ys.flatten[j]? = some d → ∃ v, new[j]? = some v ∧ d.one = true ∧ v.oneCell' = true ∧ VR w K r d v) :
    HR B K (r.add n (ver + 1) ⟨pl.b, pl.o + off * pl.E, blk.E, pl.cap - off⟩) (H.set n (ver + 1, some ⟨blk.E, false, (blk.rows.drop off).take len ++ ys⟩)) (w.setCells pl.b (pl.o + (off * pl.E + len * pl.E)) new) ∧
    Nx (Lo B K) w (w.setCells pl.b (pl.o + (off * pl.E + len * pl.E)) new) ∧ r.le (r.add n (ver + 1) ⟨pl.b, pl.o + off * pl.E, blk.E, pl.cap - off⟩) := by
  have hl := h.get hn hp
  have hE := hl.E
  have hfr : r n (ver + 1) = none := by have := h.fresh n; rwa [hn] at this
  have hle := r.le_add n (ver + 1) ⟨pl.b, pl.o + off * pl.E, blk.E, pl.cap - off⟩ hfr
  have hcap : off * pl.E + len * pl.E + new.length ≤ pl.cap * pl.E := by
    rw [hns, ← hE, ← Nat.add_mul, ← Nat.add_mul]
    exact Nat.mul_le_mul_right _ hfit
  have hview : ((blk.rows.drop off).take len).length = len := by simp; omega
  refine ⟨?_, nx_setCells _ (hl.lo hro) _ _ _, hle⟩
  refine h.write hn hp hro (off * pl.E + len * pl.E) new hcap (ver + 1) ⟨pl.b, pl.o + off * pl.E, blk.E, pl.cap - off⟩ ⟨blk.E, false, (blk.rows.drop off).take len ++ ys⟩ (by omega) hle (Rho.add_eq _ _ _ _) (fun m v p e => Rho.add_inv e) rfl rfl
    (((RowsOf.drop hl.wf off).take len).append hy) (by simp; omega) (fun k hk => ?_) rfl (fun i row j d hi hd => ?_)
  · have hk' : k < (pl.cap - off) * blk.E := hk
    rw [← hE, Nat.sub_mul] at hk'
    show pl.o ≤ pl.o + off * pl.E + k ∧ pl.o + off * pl.E + k < pl.o + pl.cap * pl.E
    omega
  · simp only [List.getElem?_append, hview] at hi
    simp only []
    split at hi
    · rename_i hil
      rw [List.getElem?_take, if_pos hil, List.getElem?_drop] at hi
      obtain ⟨h1, v, h2, h3⟩ := hl.cell _ row j d hi hd
      have hjE : j < pl.E := by have := hl.wf _ _ hi; have := (List.getElem?_eq_some_iff.1 hd).1; omega
      have e1 : (off + i) * pl.E = off * pl.E + i * pl.E := Nat.add_mul _ _ _
      have e2 : (i + 1) * pl.E ≤ len * pl.E := Nat.mul_le_mul_right _ hil
      rw [Nat.succ_mul] at e2
      refine ⟨h1, v, ?_, h3.mono (fun _ _ => rfl) (fun _ h => h) hle⟩
      rw [World.cell?_setCells_out _ _ _ _ _ (by simp only [← hE]; intro _ _; omega)]
      rw [← hE, show pl.o + off * pl.E + (i * pl.E + j) = pl.o + ((off + i) * pl.E + j) by omega]
      exact h2
    · rename_i hil
      have hjE : j < blk.E := by have := hy _ _ hi; have := (List.getElem?_eq_some_iff.1 hd).1; omega
      have hk := flat_get hy (i - len) j hjE
      rw [hi, Option.bind_some, hd] at hk
      obtain ⟨v, h1, h2, _, h3⟩ := hnc _ d hk
      refine ⟨h2, v, ?_, h3.mono (fun _ _ => rfl) (fun _ h => h) hle⟩
      have := cell?_setCells_in' pl.b new (pl.o + (off * pl.E + len * pl.E)) w (fun j hj => by
        obtain ⟨y, hy⟩ := hl.room (off * pl.E + len * pl.E + j) (by omega)
        exact ⟨y, by rw [show pl.o + (off * pl.E + len * pl.E) + j = pl.o + (off * pl.E + len * pl.E + j) by omega]; exact hy⟩) _ v h1
      have e1 : i * blk.E = (i - len) * blk.E + len * blk.E := by rw [← Nat.add_mul]; congr 1; omega
      rw [show pl.o + off * pl.E + (i * blk.E + j) = pl.o + (off * pl.E + len * pl.E) + ((i - len) * blk.E + j) by rw [e1, hE]; omega]
      exact this

theorem app_ok (h : HR B K r H w) (n : Path) {sT xT ty elem eX : TypeId} {i : TypeInfo} {z : Value} (hu : P.underlying sT = some (.slice elem)) (hxT : P.underlying xT = some (.slice eX))
    (hi : P.info? elem = some i) (hz : i.zero = some z) (hzs : z.cells.size = i.size) {x y : DV} {vx vy : Value} (hx : VR w K r x vx) (hy : VR w K r y vy)
    {d : DV} (hd : appD H n i.size i.bytes x y = some (d, H')) : OK B K r w ((Builtin.append_ #[sT, xT] ty #[vx, vy]).run P w) d H' := by
  unfold appD at hd
  cases hys : rowsOf H i.size y with
  | none => simp [hys] at hd
  | some ys =>
    simp only [hys, Option.bind_some] at hd
    obtain ⟨a, cap, rfl, hcap, hwf, hh⟩ := rowsOf_holds h hy hys
    obtain ⟨new, hnew, hnew', hns, hnc⟩ := first_both (P := P) (len := ys.length) (cap := cap) hwf hh
    -- an empty base
    have hzero : ∀ (ba : Option Addr) (b : Bool), (b = true → ba = none) → (if ys.isEmpty = true then some (DV.z b, H) else if ys.length * i.bytes ≤ 17592186044416 ∧ ys.length ≤ 17592186044416 then some (sliceNewD H n i.size ys) else none) = some (d, H') →
        OK B K r w ((Builtin.append_ #[sT, xT] ty #[.slice ba 0 0, .slice a ys.length cap]).run P w) d H' := by
      intro ba b hb hd2
      split at hd2
      · rename_i he
        have he' : ys = [] := by simpa using he
        subst he'
        simp only [Option.some.injEq, Prod.mk.injEq] at hd2
        obtain ⟨rfl, rfl⟩ := hd2
        obtain ⟨h1, _⟩ := run_append (ty := ty) hu hxT hi hz (base := ba) (sLen := 0) (sCap := 0) hnew (by simp) (by simp)
        have hn0 : new = #[] := by apply Array.eq_empty_of_size_eq_zero; rw [hns]; simp
        rw [h1 (by simp)]
        subst hn0
        refine OK.pure h (v := .slice ba 0 0) (by cases ba <;> simp [storeCells]) ?_
        cases b with
        | false => exact .ze _ _
        | true => rw [hb rfl]; exact .zn _
      · rename_i he
        split at hd2
        · rename_i hl
          simp only [Option.some.injEq] at hd2
          obtain ⟨_, h2⟩ := run_append (ty := ty) hu hxT hi hz (base := ba) (sLen := 0) (sCap := 0) hnew (by simpa using hl.1) (by simpa using hl.2)
          have hpos : 0 < ys.length := by
            cases ys with
            | nil => simp at he
            | cons => simp
          obtain ⟨m, hm, h3⟩ := h2 #[] (by simpa using hpos) (by cases ba <;> simp [Builtin.firstCells, loadCells, loadCellsFrom]) hnew'
          rw [h3]
          have := app_grow h n elem (m := m) (os := []) (old := #[]) (rest := Builtin.zeroCells z.cells (m - (0 + ys.length))) (fun i row hi => by simp at hi) hwf (by simp) hns (by simp [zeroCells_size, hzs]) (by simpa using hm) (fun j d hj => by simp at hj) hnc
          simp only [List.nil_append, List.length_nil] at this
          rw [hd2] at this
          exact this
        · simp at hd2
    cases hx with
    | zn => exact hzero none true (fun _ => rfl) hd
    | ze _ ba => exact hzero ba false (fun h => by simp at h) hd
    | e _ a' cap' =>
      replace hd : (if ys.isEmpty = true then some (DV.e, H) else none) = some (d, H') := hd
      split at hd
      · rename_i he
        have he' : ys = [] := by simpa using he
        subst he'
        simp only [Option.some.injEq, Prod.mk.injEq] at hd
        obtain ⟨rfl, rfl⟩ := hd
        have hn0 : new = #[] := by apply Array.eq_empty_of_size_eq_zero; rw [hns]; simp
        subst hn0
        have hrun : (Builtin.append_ #[sT, xT] ty #[.slice (some a') 0 cap', .slice a 0 cap]).run P w = .ok (.slice (some a') 0 cap') w := by
          simp [Builtin.append_, run_underlying hu, run_underlying hxT, run_sizeOf_of hi, Builtin.lenOf, storeCells]
          have := hnew
          simp at this
          rw [this]
          simp [storeCells]
        exact OK.pure h (v := .slice (some a') 0 cap') hrun (.e _ _ _)
      · simp at hd
    | s0 _ E' =>
      replace hd : (if ys.isEmpty = true ∧ E' = i.size then some (DV.s E' [], H) else none) = some (d, H') := hd
      split at hd
      · rename_i he
        have he' : ys = [] := by simpa using he.1
        subst he'
        simp only [Option.some.injEq, Prod.mk.injEq] at hd
        obtain ⟨rfl, rfl⟩ := hd
        obtain ⟨h1, _⟩ := run_append (ty := ty) hu hxT hi hz (base := none) (sLen := 0) (sCap := 0) hnew (by simp) (by simp)
        rw [h1 (by simp)]
        exact OK.pure h (v := .slice none 0 0) rfl (.s0 _ _)
      · simp at hd
    | s _ E' rows a' cap' vs hcap' hk hl h1' h2' =>
      replace hd : (if ys.isEmpty = true ∧ E' = i.size then some (DV.s E' rows, H) else none) = some (d, H') := hd
      split at hd
      · rename_i he
        have he' : ys = [] := by simpa using he.1
        subst he'
        simp only [Option.some.injEq, Prod.mk.injEq] at hd
        obtain ⟨rfl, rfl⟩ := hd
        have hn0 : new = #[] := by apply Array.eq_empty_of_size_eq_zero; rw [hns]; simp
        subst hn0
        have hrun : (Builtin.append_ #[sT, xT] ty #[.slice (some a') rows.length cap', .slice a 0 cap]).run P w = .ok (.slice (some a') rows.length cap') w := by
          have hcap2 : rows.length + 0 ≤ cap' := by omega
          simp [Builtin.append_, run_underlying hu, run_underlying hxT, run_sizeOf_of hi, Builtin.lenOf, hcap', storeCells]
          have := hnew
          simp at this
          rw [this]
          simp [storeCells]
        exact OK.pure h (v := .slice (some a') rows.length cap') hrun (.s _ E' rows a' cap' vs hcap' hk hl h1' h2')
      · simp at hd
    | o _ m ver off len pl a' hp ha' =>
      replace hd : ((H.look m ver).bind fun b => if b.E = i.size ∧ b.ro = false ∧ off + len ≤ b.rows.length ∧ (len + ys.length) * i.bytes ≤ 17592186044416 ∧ len + ys.length ≤ 17592186044416 then
          some (DV.o m (ver + 1) 0 (len + ys.length), H.set m (ver + 1, some ⟨i.size, false, (b.rows.drop off).take len ++ ys⟩)) else none) = some (d, H') := hd
      cases hb : H.look m ver with
      | none => simp [hb] at hd
      | some blk =>
        simp only [hb, Option.bind_some] at hd
        split at hd
        · rename_i hc
          obtain ⟨hE, hro, hfit, hl1, hl2⟩ := hc
          simp only [Option.some.injEq, Prod.mk.injEq] at hd
          obtain ⟨rfl, rfl⟩ := hd
          have hn := Heap.look_some hb
          have hl := h.get hn hp
          have hview : ((blk.rows.drop off).take len).length = len := by simp; omega
          obtain ⟨g1, g2⟩ := run_append (ty := ty) hu hxT hi hz (base := some a') (sLen := len) (sCap := pl.cap - off) hnew (by exact hl1) (by exact hl2)
          have hlc := hl.len
          by_cases hin : len + ys.length ≤ pl.cap - off
          · rw [g1 hin]
            rw [← hE] at hwf hns
            obtain ⟨p1, p2, p3⟩ := put_rows h hn hp hro hfit (new := new.toList) hwf (by simpa using hns) (by omega) (fun j d hj => by
              obtain ⟨v, h1, h2⟩ := hnc j d hj
              exact ⟨v, by simpa using h1, h2⟩)
            refine ⟨.slice (some a') (len + ys.length) (pl.cap - off), _, K, _, ?_, Ch.same p3 p2, by rw [← hE]; exact p1, ?_⟩
            · by_cases hz0 : pl.cap - off = 0
              · have : ys = [] := by cases ys with | nil => rfl | cons => simp at hin; omega
                subst this
                have hn0 : new = #[] := by apply Array.eq_empty_of_size_eq_zero; rw [hns]; simp
                subst hn0
                simp [storeCells, World.setCells]
              · rw [ha' (by omega)]
                have hst := run_storeCells_cells (P := P) pl.b (pl.o + (off * pl.E + len * pl.E)) new.toList 0 w
                  (fun j hj => by
                    obtain ⟨y, hy⟩ := hl.room (off * pl.E + len * pl.E + j) (by
                      simp [hns] at hj
                      have : (off + len + ys.length) * pl.E ≤ pl.cap * pl.E := Nat.mul_le_mul_right _ (by omega)
                      rw [Nat.add_mul, Nat.add_mul] at this
                      rw [← hl.E] at hj
                      omega)
                    rw [show pl.o + (off * pl.E + len * pl.E) + 0 + j = pl.o + (off * pl.E + len * pl.E + j) by omega, hy]
                    rfl)
                  (fun j _ => hl.free _) (all_one hns hwf hnc)
                show ((storeCells ((⟨pl.b, pl.o + off * pl.E, none⟩ : Addr).add (len * i.size)) new.toList).run P w).andThen _ = _
                rw [add_flat, ← hE, show pl.o + off * pl.E + len * blk.E = pl.o + (off * pl.E + len * pl.E) by rw [hl.E]; omega]
                simp only [Nat.add_zero] at hst
                rw [hst]
                rfl
            · have := VR.o (w := w.setCells pl.b (pl.o + (off * pl.E + len * pl.E)) new.toList) (K := K) (r.add m (ver + 1) ⟨pl.b, pl.o + off * pl.E, blk.E, pl.cap - off⟩) m (ver + 1) 0 (len + ys.length) ⟨pl.b, pl.o + off * pl.E, blk.E, pl.cap - off⟩ a' (Rho.add_eq _ _ _ _) (fun hpos => by
                simp only [Nat.sub_zero] at hpos
                rw [ha' hpos]
                simp)
              simpa using this
          · have hrows : rowsOf H i.size (.o m ver off len) = some ((blk.rows.drop off).take len) := by simp [rowsOf, hb, hE, hfit]
            have hvo : VR w K r (.o m ver off len) (.slice (some a') len (pl.cap - off)) := .o _ m ver off len pl a' hp ha'
            obtain ⟨a2, cap2, he2, _, hwo, hho⟩ := rowsOf_holds h hvo hrows
            simp only [Value.slice.injEq] at he2
            obtain ⟨rfl, _, rfl⟩ := he2
            obtain ⟨old, ho1, ho2, hos, hoc⟩ := first_both (P := P) (len := len) (cap := pl.cap - off) hwo hho
            rw [hview] at ho1 ho2 hos
            obtain ⟨mm, hm, h3⟩ := g2 old (by omega) ho2 hnew'
            rw [h3]
            have := app_grow h m elem (m := mm) (os := (blk.rows.drop off).take len) (old := old) (rest := Builtin.zeroCells z.cells (mm - (len + ys.length))) hwo hwf (by rw [hview]; exact hos) hns (by simp [zeroCells_size, hzs, hview]) (by rw [hview]; exact hm) hoc hnc
            rw [hview] at this
            have e1 : (sliceNewD H m i.size ((blk.rows.drop off).take len ++ ys)) = (.o m (ver + 1) 0 (len + ys.length), H.set m (ver + 1, some ⟨i.size, false, (blk.rows.drop off).take len ++ ys⟩)) := by
              simp only [sliceNewD, newD, hn, List.length_append, hview]
            rw [e1] at this
            exact this
        · simp at hd
    | _ => simp at hd

end Go.Proofs.Ytjbcgjgomhbmgaa

/-  Data values: addresses, slices, numbers, and what else leaves memory alone; new slices; copy. -/
namespace Go.Proofs.Ytjbcgjgomhbmgaa
open Go.RowKit
set_option linter.unusedVariables false
set_option linter.constructorNameAsVariable false

variable {P : Program} {w w' : World} {K K' : Nat → Prop} {r r' : Rho} {H H' : Heap} {B : Nat}

/-! ### addresses -/

def fadD (off : Nat) : DV → Option DV
  | .p n v row o => some (.p n v row (o + off))
  | .q cs o => some (.q cs (o + off))
  | _ => none

theorem fad_ok (h : HR B K r H w) {s : TypeId} {fs : Array Field} {k : Nat} {f : Field} {i : TypeInfo} (hu : P.underlying s = some (.struct fs)) (hf : fs[k]? = some f) (hi : P.info? f.type = some i) (hs : i.size ≠ 0)
    {d x : DV} {v : Value} (hv : VR w K r d v) (hx : fadD f.offset d = some x) : OK B K r w ((Instr.fieldAt s v k).run P w) x H := by
  have hrun : ∀ b c, (Instr.fieldAt s (.pointer (some ⟨b, c, none⟩)) k).run P w = .ok (.pointer (some ⟨b, c + f.offset, none⟩)) w := by
    intro b c
    simp [Instr.fieldAt, run_underlying hu, hf, Instr.sureAddr, fieldPlace, run_sizeOf_of hi, hs, add_flat]
  cases hv with
  | p _ n ver row off pl hp =>
    simp only [fadD, Option.some.injEq] at hx
    subst hx
    rw [hrun]
    have := VR.p (w := w) (K := K) r n ver row (off + f.offset) pl hp
    refine OK.pure h rfl (v := .pointer (some ⟨pl.b, pl.o + (row * pl.E + off) + f.offset, none⟩)) ?_
    rwa [show pl.o + (row * pl.E + (off + f.offset)) = pl.o + (row * pl.E + off) + f.offset by omega] at this
  | q _ cells off b c vs hk h1 h2 =>
    simp only [fadD, Option.some.injEq] at hx
    subst hx
    rw [hrun]
    have := VR.q (w := w) (K := K) r cells (off + f.offset) b c vs hk h1 h2
    refine OK.pure h rfl (v := .pointer (some ⟨b, c + off + f.offset, none⟩)) ?_
    rwa [← Nat.add_assoc] at this
  | _ => simp [fadD] at hx

/-- The address of an element of a slice. -/
def iadD (H : Heap) (E : Nat) (d : DV) (i : Int) : Option DV :=
  match d with
  | .s E' rows => if E' = E ∧ 0 ≤ i then (rows[i.toNat]?).map (.q · 0) else none
  | .o n ver off len => (H.look n ver).bind fun b => if b.E = E ∧ off + len ≤ b.rows.length ∧ 0 ≤ i ∧ i < len then some (.p n ver (off + i.toNat) 0) else none
  | _ => none

theorem iad_ok (h : HR B K r H w) {t : TypeId} {elem : TypeId} {i : TypeInfo} (hu : P.underlying t = some (.slice elem)) (hi : P.info? elem = some i)
    {d x : DV} {v : Value} {kd : IntKind} {j : Int} (hv : VR w K r d v) (hx : iadD H i.size d j = some x) : OK B K r w ((Instr.indexAt t v (.int kd j)).run P w) x H := by
  have hrun : ∀ (b c len cap : Nat), 0 ≤ j → j < (len : Int) → (Instr.indexAt t (.slice (some ⟨b, c, none⟩) len cap) (.int kd j)).run P w = .ok (.pointer (some ⟨b, c + j.toNat * i.size, none⟩)) w := by
    intro b c len cap h0 h1
    simp [Instr.indexAt, asIntOf, run_underlying hu, h0, h1, run_sizeOf_of hi, add_flat]
  cases hv with
  | s _ E rows a cap vs hcap hk hl h1 h2 =>
    simp only [iadD] at hx
    split at hx
    · rename_i hc
      obtain ⟨rfl, hj⟩ := hc
      simp only [Option.map_eq_some_iff] at hx
      obtain ⟨row, hr, rfl⟩ := hx
      have hjl := (List.getElem?_eq_some_iff.1 hr).1
      obtain ⟨b, c, sp⟩ := a
      have hne : rows ≠ [] := by intro e; rw [e] at hr; simp at hr
      have ha := (hk hne).1
      simp only at ha
      subst ha
      rw [hrun _ _ _ _ hj (by omega)]
      have := VR.q (w := w) (K := K) r row 0 b (c + j.toNat * i.size) (fun k => vs j.toNat k) (hk hne).2 (fun k d hd => by
        obtain ⟨h3, h4⟩ := h1 _ row k d hr hd
        exact ⟨h3, by rw [Nat.add_assoc]; exact h4⟩) (fun k d hd => h2 _ row k d hr hd)
      exact OK.pure h rfl this
    · simp at hx
  | o _ n ver off len pl a hp ha =>
    simp only [iadD] at hx
    cases hb : H.look n ver with
    | none => simp [hb] at hx
    | some blk =>
      simp only [hb, Option.bind_some] at hx
      split at hx
      · rename_i hc
        obtain ⟨hE, hle, h0, h1⟩ := hc
        simp only [Option.some.injEq] at hx
        subst hx
        have hl := h.get (Heap.look_some hb) hp
        have hcl := hl.len
        have hpos : 0 < pl.cap - off := by omega
        · rw [ha hpos, hrun _ _ _ _ h0 h1]
          have := VR.p (w := w) (K := K) r n ver (off + j.toNat) 0 pl hp
          refine OK.pure h rfl (v := .pointer (some ⟨pl.b, pl.o + off * pl.E + j.toNat * i.size, none⟩)) ?_
          rwa [show pl.o + ((off + j.toNat) * pl.E + 0) = pl.o + off * pl.E + j.toNat * i.size by rw [Nat.add_mul, hl.E, hE]; omega] at this
      · simp at hx
  | _ => simp [iadD] at hx

/-- The address of an element of an array that lies behind a pointer. -/
theorem iarr_ok (h : HR B K r H w) {t elem : TypeId} {n : Nat} {i : TypeInfo} (hu : P.underlying t = some (.array n elem)) (hi : P.info? elem = some i)
    {d x : DV} {v : Value} {kd : IntKind} {j : Int} (h0 : 0 ≤ j) (h1 : j < n) (hv : VR w K r d v) (hx : fadD (j.toNat * i.size) d = some x) : OK B K r w ((Instr.indexAt t v (.int kd j)).run P w) x H := by
  have hrun : ∀ b c, (Instr.indexAt t (.pointer (some ⟨b, c, none⟩)) (.int kd j)).run P w = .ok (.pointer (some ⟨b, c + j.toNat * i.size, none⟩)) w := by
    intro b c
    simp [Instr.indexAt, asIntOf, run_underlying hu, Instr.sureAddr, h0, h1, run_sizeOf_of hi, add_flat]
  cases hv with
  | p _ n ver row off pl hp =>
    simp only [fadD, Option.some.injEq] at hx
    subst hx
    rw [hrun]
    have := VR.p (w := w) (K := K) r n ver row (off + j.toNat * i.size) pl hp
    refine OK.pure h rfl (v := .pointer (some ⟨pl.b, pl.o + (row * pl.E + off) + j.toNat * i.size, none⟩)) ?_
    rwa [show pl.o + (row * pl.E + (off + j.toNat * i.size)) = pl.o + (row * pl.E + off) + j.toNat * i.size by omega] at this
  | q _ cells off b c vs hk h1 h2 =>
    simp only [fadD, Option.some.injEq] at hx
    subst hx
    rw [hrun]
    have := VR.q (w := w) (K := K) r cells (off + j.toNat * i.size) b c vs hk h1 h2
    refine OK.pure h rfl (v := .pointer (some ⟨b, c + off + j.toNat * i.size, none⟩)) ?_
    rwa [← Nat.add_assoc] at this
  | _ => simp [fadD] at hx

/-! ### slicing -/

/-- A slice of a slice: low and high bound, both within the length. `full`: with a third bound, which is 0. -/
def sliD (H : Heap) (E : Nat) (d : DV) (lo hi : Option Int) : Option DV :=
  let l := lo.getD 0
  match d with
  | .z b => if l = 0 ∧ hi.getD 0 = 0 then some (.z b) else none
  | .e => if l = 0 ∧ hi.getD 0 = 0 then some .e else none
  | .s E' rows => let h := hi.getD rows.length; if E' = E ∧ 0 ≤ l ∧ l ≤ h ∧ h ≤ rows.length then some (.s E ((rows.drop l.toNat).take (h - l).toNat)) else none
  | .o n ver off len => (H.look n ver).bind fun b => let h := hi.getD len; if b.E = E ∧ off + len ≤ b.rows.length ∧ 0 ≤ l ∧ l ≤ h ∧ h ≤ len then some (.o n ver (off + l.toNat) (h - l).toNat) else none
  | _ => none

theorem sli_run {t elem : TypeId} {i : TypeInfo} (hu : P.underlying t = some (.slice elem)) (hi : P.info? elem = some i) {a : Option Addr} {len cap : Nat} (hcap : len ≤ cap)
    (lo hi' : Option Int) (kl kh : IntKind) (h0 : 0 ≤ lo.getD 0) (h1 : lo.getD 0 ≤ hi'.getD len) (h2 : hi'.getD len ≤ len) :
    (Instr.sliceAt t (.slice a len cap) (lo.map (.int kl)) (hi'.map (.int kh)) none).run P w =
      .ok (.slice (if cap = (lo.getD 0).toNat then a else a.map (·.add ((lo.getD 0).toNat * i.size))) ((hi'.getD len).toNat - (lo.getD 0).toNat) (cap - (lo.getD 0).toNat)) w := by
  cases lo with
  | none =>
    cases hi' with
    | none =>
      simp [Instr.sliceAt, run_underlying hu, Instr.slice, Instr.sliceBounds, run_sizeOf_of hi]
    | some y =>
      simp only [Option.getD_some, Option.getD_none] at h1 h2
      have e1 : y ≤ (cap : Int) := by omega
      simp [Instr.sliceAt, run_underlying hu, Instr.slice, Instr.sliceBounds, Instr.sliceBound, asIntOf, run_sizeOf_of hi, h1, e1]
  | some x =>
    simp only [Option.getD_some] at h0 h1
    cases hi' with
    | none =>
      simp only [Option.getD_none] at h1
      simp [Instr.sliceAt, run_underlying hu, Instr.slice, Instr.sliceBounds, Instr.sliceBound, asIntOf, run_sizeOf_of hi, h0, h1]
    | some y =>
      simp only [Option.getD_some] at h1 h2
      have e1 : y ≤ (cap : Int) := by omega
      have e2 : 0 ≤ y := by omega
      have e3 : x ≤ (y.toNat : Int) := by omega
      have e4 : x ≤ max y 0 := by omega
      simp [Instr.sliceAt, run_underlying hu, Instr.slice, Instr.sliceBounds, Instr.sliceBound, asIntOf, run_sizeOf_of hi, h0, e1, e2, e4]

theorem sli_ok (h : HR B K r H w) {t elem : TypeId} {i : TypeInfo} (hu : P.underlying t = some (.slice elem)) (hi : P.info? elem = some i)
    {d x : DV} {v : Value} (lo hi' : Option Int) (kl kh : IntKind) (hv : VR w K r d v) (hx : sliD H i.size d lo hi' = some x) :
    OK B K r w ((Instr.sliceAt t v (lo.map (.int kl)) (hi'.map (.int kh)) none).run P w) x H := by
  cases hv with
  | zn =>
    simp only [sliD] at hx
    split at hx
    · rename_i hc
      simp only [Option.some.injEq] at hx
      subst hx
      rw [sli_run hu hi (by simp) lo hi' kl kh (by omega) (by simp only [Int.natCast_zero] ; omega) (by simp only [Int.natCast_zero]; omega)]
      exact OK.pure h (v := .slice none 0 0) (by simp [hc.1, hc.2]) (.zn _)
    · simp at hx
  | ze _ a =>
    simp only [sliD] at hx
    split at hx
    · rename_i hc
      simp only [Option.some.injEq] at hx
      subst hx
      rw [sli_run hu hi (by simp) lo hi' kl kh (by omega) (by simp only [Int.natCast_zero]; omega) (by simp only [Int.natCast_zero]; omega)]
      exact OK.pure h (v := .slice a 0 0) (by simp [hc.1, hc.2]) (.ze _ _)
    · simp at hx
  | e _ a cap =>
    simp only [sliD] at hx
    split at hx
    · rename_i hc
      simp only [Option.some.injEq] at hx
      subst hx
      rw [sli_run hu hi (by simp) lo hi' kl kh (by omega) (by simp only [Int.natCast_zero]; omega) (by simp only [Int.natCast_zero]; omega)]
      refine OK.pure h (v := .slice (some a) 0 cap) ?_ (.e _ _ _)
      simp [hc.1, hc.2, Addr.add]
    · simp at hx
  | s0 _ E =>
    simp only [sliD] at hx
    split at hx
    · rename_i hc
      simp only [Option.some.injEq] at hx
      subst hx
      simp only [List.length_nil] at hc
      obtain ⟨rfl, h0, h1, h2⟩ := hc
      rw [sli_run hu hi (by simp) lo hi' kl kh h0 h1 h2]
      have e : lo.getD 0 = 0 := by simp only [Int.natCast_zero] at h1 h2; omega
      refine OK.pure h (v := .slice none 0 0) ?_ ?_
      · have e2 : hi'.getD ((0 : Nat) : Int) = 0 := by simp only [Int.natCast_zero] at h1 h2 ⊢; omega
        simp only [e, e2]
        simp
      · simpa using VR.s0 (w := w) (K := K) r i.size
    · simp at hx
  | s _ E rows a cap vs hcap hk hl hc1 hc2 =>
    simp only [sliD] at hx
    split at hx
    · rename_i hc
      simp only [Option.some.injEq] at hx
      subst hx
      obtain ⟨rfl, h0, h1, h2⟩ := hc
      rw [sli_run hu hi hcap lo hi' kl kh h0 h1 h2]
      generalize lo.getD 0 = l at *
      generalize hi'.getD (rows.length : Int) = hh at *
      have hlen : ((rows.drop l.toNat).take (hh - l).toNat).length = hh.toNat - l.toNat := by simp; omega
      have hget : ∀ (k : Nat) (row : List DV), ((rows.drop l.toNat).take (hh - l).toNat)[k]? = some row → rows[l.toNat + k]? = some row := by
        intro k row hk
        rw [List.getElem?_take] at hk
        split at hk
        · rwa [List.getElem?_drop] at hk
        · simp at hk
      by_cases hnil : ((rows.drop l.toNat).take (hh - l).toNat) = []
      · rw [hnil]
        have := VR.s (w := w) (K := K) r i.size [] (if cap = l.toNat then a else a.add (l.toNat * i.size)) (cap - l.toNat) vs (by simp) (fun h => absurd rfl h) (fun i row hi => by simp at hi) (fun i row j d hi => by simp at hi) (fun i row j d hi => by simp at hi)
        rw [hnil] at hlen
        refine OK.pure h rfl ?_
        rw [← hlen]
        split
        · rename_i e; rw [if_pos e] at this; exact this
        · rename_i e; rw [if_neg e] at this; exact this
      · have hne : rows ≠ [] := by intro e; rw [e] at hnil; simp at hnil
        obtain ⟨b, c, sp⟩ := a
        have ha := (hk hne).1
        simp only at ha
        subst ha
        have hpos : 0 < ((rows.drop l.toNat).take (hh - l).toNat).length := List.length_pos_iff.2 hnil
        rw [if_neg (by omega)]
        have := VR.s (w := w) (K := K) r i.size ((rows.drop l.toNat).take (hh - l).toNat) ⟨b, c + l.toNat * i.size, none⟩ (cap - l.toNat) (fun k j => vs (l.toNat + k) j) (by rw [hlen]; omega)
          (fun _ => ⟨rfl, (hk hne).2⟩) (fun k row hk => hl _ row (hget k row hk))
          (fun k row j d hk hj => by
            obtain ⟨h3, h4⟩ := hc1 _ row j d (hget k row hk) hj
            exact ⟨h3, by rw [← h4]; congr 2; simp only [Nat.add_mul]; omega⟩) (fun k row j d hk hj => hc2 _ row j d (hget k row hk) hj)
        refine OK.pure h rfl ?_
        rw [hlen] at this
        simpa [add_flat] using this
    · simp at hx
  | o _ n ver off len pl a hp ha =>
    simp only [sliD] at hx
    cases hb : H.look n ver with
    | none => simp [hb] at hx
    | some blk =>
      simp only [hb, Option.bind_some] at hx
      split at hx
      · rename_i hc
        simp only [Option.some.injEq] at hx
        subst hx
        obtain ⟨hE, hle, h0, h1, h2⟩ := hc
        have hl := h.get (Heap.look_some hb) hp
        have hcl := hl.len
        rw [sli_run hu hi (by omega) lo hi' kl kh h0 h1 h2]
        generalize lo.getD 0 = l at *
        generalize hi'.getD (len : Int) = hh at *
        have := VR.o (w := w) (K := K) r n ver (off + l.toNat) (hh - l).toNat pl (if pl.cap - off = l.toNat then a else a.add (l.toNat * i.size)) hp (fun hpos => by
          rw [if_neg (by omega), ha (by omega), add_flat, Nat.add_mul, hl.E, hE, Nat.add_assoc])
        refine OK.pure h rfl ?_
        rw [show hh.toNat - l.toNat = (hh - l).toNat by omega, show pl.cap - off - l.toNat = pl.cap - (off + l.toNat) by omega]
        split
        · rename_i e; rw [if_pos e] at this; exact this
        · rename_i e; rw [if_neg e] at this; exact this
      · simp at hx
  | _ => simp [sliD] at hx

/-- s[:0:0]. -/
theorem sli0_ok (h : HR B K r H w) {t elem : TypeId} {i : TypeInfo} (hu : P.underlying t = some (.slice elem)) (hi : P.info? elem = some i) {a : Option Addr} {len cap : Nat} (kh km : IntKind) :
    OK B K r w ((Instr.sliceAt t (.slice a len cap) none (some (.int kh 0)) (some (.int km 0))).run P w) (.z false) H := by
  refine OK.pure h (v := .slice a 0 0) ?_ (.ze _ _)
  simp [Instr.sliceAt, run_underlying hu, Instr.slice, Instr.sliceBounds, Instr.sliceBound, asIntOf, run_sizeOf_of hi]

end Go.Proofs.Ytjbcgjgomhbmgaa

/-  Data values: numbers, comparisons, parts of values; new slices; copy. -/
namespace Go.Proofs.Ytjbcgjgomhbmgaa
open Go.RowKit
set_option linter.unusedVariables false
set_option linter.constructorNameAsVariable false

variable {P : Program} {w w' : World} {K K' : Nat → Prop} {r r' : Rho} {H H' : Heap} {B : Nat}

def val? {α : Type} : Sem α → Option α
  | .pure v => some v
  | _ => none
theorem val?_run {α : Type} {s : Sem α} {v : α} (h : val? s = some v) : s.run P w = .ok v w := by
  cases s <;> simp [val?] at h
  subst h
  rfl

/-! ### numbers -/

def binV (op : BinOp) : Value → Value → Option Value
  | .int k a, .int k' b => val? (binOp op 0 (.int k a) (.int k' b))
  | .float k a, .float k' b => val? (binOp op 0 (.float k a) (.float k' b))
  | .complex k a b, .complex k' c d => val? (binOp op 0 (.complex k a b) (.complex k' c d))
  | .string a, .string b => val? (binOp op 0 (.string a) (.string b))
  | _, _ => none

theorem binOp_int (op : BinOp) (t : TypeId) (k k' : IntKind) (a b : Int) : binOp op t (.int k a) (.int k' b) = binOp op 0 (.int k a) (.int k' b) := by cases op <;> rfl
theorem binOp_float (op : BinOp) (t : TypeId) (k k' : FloatKind) (a b : Nat) : binOp op t (.float k a) (.float k' b) = binOp op 0 (.float k a) (.float k' b) := by cases op <;> rfl
theorem binOp_complex (op : BinOp) (t : TypeId) (k k' : FloatKind) (a b c d : Nat) : binOp op t (.complex k a b) (.complex k' c d) = binOp op 0 (.complex k a b) (.complex k' c d) := by cases op <;> rfl
theorem binOp_string (op : BinOp) (t : TypeId) (a b : ByteArray) : binOp op t (.string a) (.string b) = binOp op 0 (.string a) (.string b) := by cases op <;> rfl

theorem eqGuard_run {op : BinOp} {t : TypeId} {x y : Operand} {a b : Value} (ha : a.oneCell' = true) (hn : a = .nilIface → b ≠ .nilIface) : (eqGuard op t x y a b).run P w = .ok () w := by
  have h2 : ∀ (op : BinOp), (eqGuard op t x y a b).run P w = .ok () w := by
    intro op
    cases op <;> first | rfl | (cases a <;> first | rfl | (simp [Value.oneCell'] at ha; done) | (cases b <;> first | rfl | exact absurd rfl (hn rfl)))
  exact h2 op

theorem run_equal_bool {t : TypeId} (hu : P.underlying t = some .bool) (p q : Bool) : (Op.equal t (.bool p) (.bool q)).run P w = .ok (p == q) w := by
  have h : ∀ d : Nat, (Op.equalIn (d + 1) t (.bool p) (.bool q)).run P w = .ok (p == q) w := fun d => by simp [Op.equalIn, run_underlying hu]
  simp [Op.equal, Op.maxDepth, h 9999]
theorem run_equal_slnil {t e : TypeId} (hu : P.underlying t = some (.slice e)) (a : Option Addr) (n c : Nat) : (Op.equal t (.slice a n c) (.slice none 0 0)).run P w = .ok a.isNone w := by
  have h : ∀ d : Nat, (Op.equalIn (d + 1) t (.slice a n c) (.slice none 0 0)).run P w = .ok a.isNone w := fun d => by cases a <;> simp [Op.equalIn, run_underlying hu]
  simp [Op.equal, Op.maxDepth, h 9999]
theorem run_equal_ifnil {t : TypeId} {ms : Array (String × TypeId)} (hu : P.underlying t = some (.interface ms)) (u : TypeId) (v : Value) : (Op.equal t (.iface u v) .nilIface).run P w = .ok false w := by
  have h : ∀ d : Nat, (Op.equalIn (d + 1) t (.iface u v) .nilIface).run P w = .ok false w := fun d => by simp [Op.equalIn, run_underlying hu]
  simp [Op.equal, Op.maxDepth, h 9999]
theorem run_equal_ifnn {t : TypeId} {ms : Array (String × TypeId)} (hu : P.underlying t = some (.interface ms)) : (Op.equal t .nilIface .nilIface).run P w = .ok true w := by
  have h : ∀ d : Nat, (Op.equalIn (d + 1) t .nilIface .nilIface).run P w = .ok true w := fun d => by simp [Op.equalIn, run_underlying hu]
  simp [Op.equal, Op.maxDepth, h 9999]

theorem bin_ok {op : BinOp} {t : TypeId} {x y : Operand} {a b c : Value} (h : binV op a b = some c) :
    ((do eqGuard op t x y a b; binOp op t a b : Sem Value)).run P w = .ok c w := by
  have hg : (eqGuard op t x y a b).run P w = .ok () w := by
    refine eqGuard_run ?_ (fun e => ?_)
    · cases a <;> cases b <;> first | rfl | simp [binV] at h
    · subst e; cases b <;> simp [binV] at h
  simp only [Sem.run_bind, hg, Result.andThen_ok]
  cases a with
  | int k a => cases b <;> simp only [binV] at h <;> first | (cases h; done) | (rw [binOp_int]; exact val?_run h)
  | float k a => cases b <;> simp only [binV] at h <;> first | (cases h; done) | (rw [binOp_float]; exact val?_run h)
  | complex k a a' => cases b <;> simp only [binV] at h <;> first | (cases h; done) | (rw [binOp_complex]; exact val?_run h)
  | string a => cases b <;> simp only [binV] at h <;> first | (cases h; done) | (rw [binOp_string]; exact val?_run h)
  | _ => simp [binV] at h

theorem eqb_ok {t : TypeId} (hu : P.underlying t = some .bool) {x y : Operand} {p q : Bool} (neg : Bool) :
    ((do eqGuard (if neg then .neq else .eql) t x y (.bool p) (.bool q); binOp (if neg then .neq else .eql) t (.bool p) (.bool q) : Sem Value)).run P w = .ok (.bool (if neg then p != q else p == q)) w := by
  have hg := eqGuard_run (P := P) (w := w) (op := if neg then .neq else .eql) (t := t) (x := x) (y := y) (a := .bool p) (b := .bool q) rfl (fun e => by cases e)
  simp only [Sem.run_bind, hg, Result.andThen_ok]
  cases neg with
  | true =>
    show (do pure (.bool (!(← Op.equal t (.bool p) (.bool q)))) : Sem Value).run P w = _
    simp only [Sem.run_bind, run_equal_bool hu, Result.andThen_ok]
    rfl
  | false =>
    show (do pure (.bool (← Op.equal t (.bool p) (.bool q))) : Sem Value).run P w = _
    simp [run_equal_bool hu]

/-- A slice against nil. -/
def nilD : DV → Option Bool
  | .z true => some true
  | .s _ (_ :: _) => some false
  | .o _ _ _ _ => some false
  | .e => some false
  | _ => none

theorem nil_ok {d : DV} {v : Value} (hv : VR w K r d v) {b : Bool} (h : nilD d = some b) : ∃ a len cap, v = .slice a len cap ∧ a.isNone = b := by
  cases hv with
  | zn => simp [nilD] at h; subst h; exact ⟨_, _, _, rfl, rfl⟩
  | s _ E rows a cap vs => cases rows <;> simp [nilD] at h; subst h; exact ⟨_, _, _, rfl, rfl⟩
  | o => simp [nilD] at h; subst h; exact ⟨_, _, _, rfl, rfl⟩
  | e => simp [nilD] at h; subst h; exact ⟨_, _, _, rfl, rfl⟩
  | _ => simp [nilD] at h

theorem eqnil_run {t e : TypeId} (hu : P.underlying t = some (.slice e)) {x y : Operand} {a : Option Addr} {len cap : Nat} (neg : Bool) :
    ((do eqGuard (if neg then .neq else .eql) t x y (.slice a len cap) (.slice none 0 0); binOp (if neg then .neq else .eql) t (.slice a len cap) (.slice none 0 0) : Sem Value)).run P w = .ok (.bool (if neg then !a.isNone else a.isNone)) w := by
  have hg := eqGuard_run (P := P) (w := w) (op := if neg then .neq else .eql) (t := t) (x := x) (y := y) (a := .slice a len cap) (b := .slice none 0 0) rfl (fun e => by cases e)
  simp only [Sem.run_bind, hg, Result.andThen_ok]
  cases neg with
  | true =>
    show (do pure (.bool (!(← Op.equal t (.slice a len cap) (.slice none 0 0)))) : Sem Value).run P w = _
    simp [run_equal_slnil hu]
  | false =>
    show (do pure (.bool (← Op.equal t (.slice a len cap) (.slice none 0 0))) : Sem Value).run P w = _
    simp [run_equal_slnil hu]

/-- An interface value against nil. -/
def ifnilD : DV → Option Bool
  | .x .nilIface => some true
  | .i _ _ => some false
  | _ => none
theorem ifnil_run {t : TypeId} {ms : Array (String × TypeId)} (hu : P.underlying t = some (.interface ms)) {x : Operand} {c : Value} {d : DV} {v : Value} (hv : VR w K r d v) {b : Bool} (h : ifnilD d = some b) (neg : Bool) :
    ((do eqGuard (if neg then .neq else .eql) t x (.const c) v .nilIface; binOp (if neg then .neq else .eql) t v .nilIface : Sem Value)).run P w = .ok (.bool (if neg then !b else b)) w := by
  cases hv with
  | x _ v =>
    cases v <;> simp [ifnilD] at h
    subst h
    have hg : ∀ op : BinOp, (eqGuard op t x (.const c) .nilIface .nilIface).run P w = .ok () w := fun op => by cases op <;> cases x <;> rfl
    simp only [Sem.run_bind, hg, Result.andThen_ok]
    cases neg with
    | true =>
      show (do pure (.bool (!(← Op.equal t .nilIface .nilIface))) : Sem Value).run P w = _
      simp [run_equal_ifnn hu]
    | false =>
      show (do pure (.bool (← Op.equal t .nilIface .nilIface)) : Sem Value).run P w = _
      simp [run_equal_ifnn hu]
  | i _ t' d v hd =>
    simp [ifnilD] at h
    subst h
    have hg := eqGuard_run (P := P) (w := w) (op := if neg then .neq else .eql) (t := t) (x := x) (y := .const c) (a := .iface t' v) (b := .nilIface) rfl (fun e => by cases e)
    simp only [Sem.run_bind, hg, Result.andThen_ok]
    cases neg with
    | true =>
      show (do pure (.bool (!(← Op.equal t (.iface t' v) .nilIface))) : Sem Value).run P w = _
      simp [run_equal_ifnil hu]
    | false =>
      show (do pure (.bool (← Op.equal t (.iface t' v) .nilIface)) : Sem Value).run P w = _
      simp [run_equal_ifnil hu]
  | _ => simp [ifnilD] at h

def unV (op : UnOp) (x : Value) : Option Value := val? (Op.unary op x)

/-! ### conversions -/

def convV (D : TypeDesc) (x : Value) : Option Value :=
  match D, x with
  | .int k, .int _ n => val? (Conv.intToInt k n)
  | .float k, .int _ n => val? (Conv.intToFloat k n)
  | .int k, .float s b => val? (Conv.floatToInt s b k)
  | _, _ => none
theorem conv_ok {src dst : TypeId} {S D : TypeDesc} (hs : P.underlying src = some S) (hd : P.underlying dst = some D) {x v : Value} (h : convV D x = some v) :
    (convert src dst x).run P w = .ok v w := by
  unfold convV at h
  split at h
  · simp only [convert, Sem.run_bind, run_underlying hs, run_underlying hd, Result.andThen_ok]
    exact val?_run h
  · simp only [convert, Sem.run_bind, run_underlying hs, run_underlying hd, Result.andThen_ok]
    exact val?_run h
  · simp only [convert, Sem.run_bind, run_underlying hs, run_underlying hd, Result.andThen_ok]
    exact val?_run h
  · simp at h

/-! ### lengths -/

def lenD : DV → Option Int
  | .z _ => some 0
  | .s _ rows => some rows.length
  | .o _ _ _ len => some len
  | .e => some 0
  | _ => none
def lensD : DV → Option Int
  | .x (.string s) => some s.size
  | _ => none

theorem len_ok {t ty e : TypeId} (hu : P.underlying t = some (.slice e)) {d : DV} {v : Value} (hv : VR w K r d v) {n : Int} (h : lenD d = some n) : (Builtin.len_ #[t] ty #[v]).run P w = .ok (.int .i64 n) w := by
  have hsl : ∀ a len cap, (Builtin.len_ #[t] ty #[.slice a len cap]).run P w = .ok (.int .i64 len) w := by
    intro a len cap
    simp [Builtin.len_, run_underlying hu, goInt]
  cases hv with
  | zn => simp [lenD] at h; subst h; exact hsl _ _ _
  | ze => simp [lenD] at h; subst h; exact hsl _ _ _
  | e => simp [lenD] at h; subst h; exact hsl _ _ _
  | s0 => simp [lenD] at h; subst h; exact hsl _ _ _
  | s => simp [lenD] at h; subst h; exact hsl _ _ _
  | o => simp [lenD] at h; subst h; exact hsl _ _ _
  | _ => simp [lenD] at h
theorem lens_ok {t ty : TypeId} (hu : P.underlying t = some .string) {d : DV} {v : Value} (hv : VR w K r d v) {n : Int} (h : lensD d = some n) : (Builtin.len_ #[t] ty #[v]).run P w = .ok (.int .i64 n) w := by
  cases hv with
  | x _ v => cases v <;> simp [lensD] at h; subst h; simp [Builtin.len_, run_underlying hu, goInt]
  | _ => simp [lensD] at h

/-! ### parts -/

theorem ext_ok {x : DV} {v : Value} {vs : List DV} (hv : VR w K r (.t vs) v) {k : Nat} (h : vs[k]? = some x) : ∃ u, (Instr.extract v k).run P w = .ok u w ∧ VR w K r x u := by
  cases hv with
  | t _ _ arr hs hc =>
    have hk : k < arr.size := by rw [hs]; exact (List.getElem?_eq_some_iff.1 h).1
    refine ⟨arr[k], by simp [Instr.extract, hk], ?_⟩
    have := hc k x h
    simpa [Array.getD, hk] using this

/-- A part of a struct's or an array's value. -/
def partD (cs : List DV) (off size : Nat) (agg : Bool) : Option DV :=
  if agg then (if off + size ≤ cs.length then some (.g ((cs.drop off).take size)) else none) else cs[off]?

theorem part_ok {t : TypeId} {D : TypeDesc} {i : TypeInfo} (hu : P.underlying t = some D) (hi : P.info? t = some i) {cs : List DV} {arr : Array Value} (hv : VR w K r (.g cs) (.agg arr)) {off : Nat} {x : DV}
    (h : partD cs off i.size (isAggD D) = some x) : ∃ u, (part t arr off).run P w = .ok u w ∧ VR w K r x u := by
  cases hv with
  | g _ _ _ hs h1 h2 =>
    unfold partD at h
    unfold part
    simp only [Sem.run_bind, run_isAgg_of hu, Result.andThen_ok]
    cases ha : isAggD D with
    | true =>
      rw [ha] at h
      simp only [if_true] at h ⊢
      split at h
      · rename_i hc
        simp only [Option.some.injEq] at h
        subst h
        refine ⟨_, by simp [run_sizeOf_of hi]; rfl, ?_⟩
        have hget : ∀ (j : Nat) (d : DV), ((cs.drop off).take i.size)[j]? = some d → j < i.size ∧ cs[off + j]? = some d := by
          intro j d hj
          rw [List.getElem?_take] at hj
          split at hj
          · rw [List.getElem?_drop] at hj; exact ⟨by assumption, hj⟩
          · simp at hj
        refine .g _ _ _ (by simp; omega) (fun j d hj => h1 _ d (hget j d hj).2) (fun j d hj => ?_)
        obtain ⟨h3, h4⟩ := hget j d hj
        have h5 := h2 _ d h4
        have h6 : off + j < arr.size := by rw [hs]; exact (List.getElem?_eq_some_iff.1 h4).1
        have h7 : j < (arr.extract off (off + i.size)).size := by simp; omega
        simp only [Array.getD, h6, dif_pos] at h5
        simp only [Array.getD, h7, dif_pos]
        simpa using h5
      · simp at h
    | false =>
      rw [ha] at h
      simp only [Bool.false_eq_true, if_false] at h ⊢
      have h6 : off < arr.size := by rw [hs]; exact (List.getElem?_eq_some_iff.1 h).1
      have h5 := h2 _ x h
      simp only [Array.getD, h6, dif_pos] at h5
      exact ⟨arr[off], by simp [h6], by simpa using h5⟩

theorem field_ok {t : TypeId} {fs : Array Field} {k : Nat} {f : Field} {D : TypeDesc} {i : TypeInfo} (hs : P.underlying t = some (.struct fs)) (hf : fs[k]? = some f) (hu : P.underlying f.type = some D) (hi : P.info? f.type = some i)
    {cs : List DV} {v : Value} (hv : VR w K r (.g cs) v) {x : DV} (h : partD cs f.offset i.size (isAggD D) = some x) : ∃ u, (Instr.field t v k).run P w = .ok u w ∧ VR w K r x u := by
  cases hv with
  | g _ _ arr hz h1 h2 =>
    obtain ⟨u, h3, h4⟩ := part_ok hu hi (.g _ _ arr hz h1 h2) h
    refine ⟨u, ?_, h4⟩
    simp [Instr.field, run_underlying hs, hf, asAgg, h3]

theorem index_ok {t elem : TypeId} {n : Nat} {D : TypeDesc} {i : TypeInfo} (hs : P.underlying t = some (.array n elem)) (hu : P.underlying elem = some D) (hi : P.info? elem = some i)
    {cs : List DV} {v : Value} {kd : IntKind} {j : Int} (h0 : 0 ≤ j) (h1 : j < n) (hv : VR w K r (.g cs) v) {x : DV} (h : partD cs (j.toNat * i.size) i.size (isAggD D) = some x) : ∃ u, (Instr.index t v (.int kd j)).run P w = .ok u w ∧ VR w K r x u := by
  cases hv with
  | g _ _ arr hz h1' h2 =>
    obtain ⟨u, h3, h4⟩ := part_ok hu hi (.g _ _ arr hz h1' h2) h
    refine ⟨u, ?_, h4⟩
    simp [Instr.index, asIntOf, run_underlying hs, h0, h1, run_sizeOf_of hi, h3]

theorem indexs_ok {t : TypeId} (hs : P.underlying t = some .string) {s : ByteArray} {kd : IntKind} {j : Int} (h0 : 0 ≤ j) (h1 : j.toNat < s.size) :
    (Instr.index t (.string s) (.int kd j)).run P w = .ok (.int .u8 (s[j.toNat]'h1).toNat) w := by
  simp [Instr.index, asIntOf, run_underlying hs, h0, h1]

end Go.Proofs.Ytjbcgjgomhbmgaa

/-  Data values: structs compared; structs and slices made of parts; make, copy; interface values. -/
namespace Go.Proofs.Ytjbcgjgomhbmgaa
open Go.RowKit
set_option linter.unusedVariables false
set_option linter.constructorNameAsVariable false
set_option linter.unusedSimpArgs false

variable {P : Program} {w w' : World} {K K' : Nat → Prop} {r r' : Rho} {H H' : Heap} {B : Nat}

/-! ### structs compared -/

inductive Sh where
  | lb | li | ls | nil
  | cons (off size : Nat) (agg : Bool) (s rest : Sh)

def eqSh : Sh → DV → DV → Option Bool
  | .lb, .x (.bool a), .x (.bool b) => some (a == b)
  | .li, .x (.int k a), .x (.int k' b) => if k = k' then some (a == b) else none
  | .ls, .x (.string a), .x (.string b) => some (a == b)
  | .nil, .g _, .g _ => some true
  | .cons off size agg s rest, .g cs, .g ds => (partD cs off size agg).bind fun x => (partD ds off size agg).bind fun y => (eqSh s x y).bind fun b => if b then eqSh rest (.g cs) (.g ds) else some false
  | _, _, _ => none

def shapeOf (P : Program) : Nat → TypeId → Option Sh
  | 0, _ => none
  | d + 1, t =>
    match P.underlying t with
    | some .bool => some .lb
    | some (.int _) => some .li
    | some .string => some .ls
    | some (.struct fs) => if P.stoodInHeld t then none else
        fs.toList.foldr (fun f acc => if f.name = "_" then none else acc.bind fun rest => (P.info? f.type).bind fun i => (P.underlying f.type).bind fun D => (shapeOf P d f.type).map fun s => .cons f.offset i.size (isAggD D) s rest) (some .nil)
    | _ => none

theorem eqFields_ok {d : Nat} {cs ds : List DV} {xs ys : Array Value} (hx : VR w K r (.g cs) (.agg xs)) (hy : VR w K r (.g ds) (.agg ys))
    (ih : ∀ (t : TypeId) (s : Sh) (a b : DV) (u v : Value) (x : Bool), shapeOf P d t = some s → VR w K r a u → VR w K r b v → eqSh s a b = some x → ∀ n, (Op.equalIn (n + d) t u v).run P w = .ok x w) (n : Nat) :
    ∀ (fs : List Field) (s : Sh) (x : Bool), fs.foldr (fun f acc => if f.name = "_" then none else acc.bind fun rest => (P.info? f.type).bind fun i => (P.underlying f.type).bind fun D => (shapeOf P d f.type).map fun s => Sh.cons f.offset i.size (isAggD D) s rest) (some .nil) = some s →
      eqSh s (.g cs) (.g ds) = some x → (Op.eqFields (n + d) xs ys fs).run P w = .ok x w
  | [], s, x, h, hs => by
    simp at h
    subst h
    simp [eqSh] at hs
    subst hs
    rfl
  | f :: fs, s, x, h, hs => by
    simp only [List.foldr_cons] at h
    split at h
    · simp at h
    · rename_i hne
      simp only [Option.bind_eq_some_iff, Option.map_eq_some_iff] at h
      obtain ⟨rest, hrest, i, hi, D, hD, s', hs', rfl⟩ := h
      simp only [eqSh, Option.bind_eq_some_iff] at hs
      obtain ⟨a, ha, b, hb, y, hy', hs⟩ := hs
      obtain ⟨u, hu1, hu2⟩ := part_ok (P := P) hD hi hx ha
      obtain ⟨v, hv1, hv2⟩ := part_ok (P := P) hD hi hy hb
      have he := ih _ _ _ _ _ _ _ hs' hu2 hv2 hy' n
      simp only [Op.eqFields, ne_eq, hne, not_false_eq_true, if_true, Sem.run_bind, hu1, hv1, he, Result.andThen_ok]
      cases y with
      | false => simp at hs; subst hs; simp
      | true =>
        simp only [if_true] at hs
        simp only [Bool.not_true, Bool.false_eq_true, if_false]
        exact eqFields_ok hx hy ih n fs rest x hrest hs

theorem eqSh_ok : ∀ (d : Nat) (t : TypeId) (s : Sh) (a b : DV) (u v : Value) (x : Bool), shapeOf P d t = some s → VR w K r a u → VR w K r b v → eqSh s a b = some x → ∀ n, (Op.equalIn (n + d) t u v).run P w = .ok x w
  | 0, t, s, a, b, u, v, x, hs, _, _, _ => by simp [shapeOf] at hs
  | d + 1, t, s, a, b, u, v, x, hs, ha, hb, h => by
    intro n
    unfold shapeOf at hs
    split at hs
    · rename_i hu
      simp at hs
      subst hs
      cases a <;> cases b <;> try (simp [eqSh] at h; done)
      cases ha; cases hb
      cases u <;> cases v <;> simp [eqSh] at h
      subst h
      simp [Op.equalIn, run_underlying hu]
    · rename_i k hu
      simp at hs
      subst hs
      cases a <;> cases b <;> try (simp [eqSh] at h; done)
      cases ha; cases hb
      cases u <;> cases v <;> simp [eqSh] at h
      obtain ⟨rfl, rfl⟩ := h
      simp [Op.equalIn, run_underlying hu]
    · rename_i hu
      simp at hs
      subst hs
      cases a <;> cases b <;> try (simp [eqSh] at h; done)
      cases ha; cases hb
      cases u <;> cases v <;> simp [eqSh] at h
      subst h
      simp [Op.equalIn, run_underlying hu]
    · rename_i fs hu
      split at hs
      · simp at hs
      · rename_i hst
        have hst' : P.stoodInHeld t = false := by simpa using hst
        have hfs : P.fieldsOf t = fs := by simp [Program.fieldsOf, hu]
        have hg : ∃ cs ds, a = .g cs ∧ b = .g ds := by
          cases s with
          | lb | li | ls =>
            exfalso
            cases hl : fs.toList with
            | nil => rw [hl] at hs; simp at hs
            | cons f l =>
              rw [hl] at hs
              simp only [List.foldr_cons] at hs
              split at hs
              · simp at hs
              · simp [Option.bind_eq_some_iff] at hs
          | nil => cases a <;> cases b <;> simp [eqSh] at h; exact ⟨_, _, rfl, rfl⟩
          | cons => cases a <;> cases b <;> simp [eqSh] at h; exact ⟨_, _, rfl, rfl⟩
        obtain ⟨cs, ds, rfl, rfl⟩ := hg
        cases ha with
        | g _ _ xs h1 h2 h3 =>
          cases hb with
          | g _ _ ys h4 h5 h6 =>
            rw [show n + (d + 1) = (n + d) + 1 from rfl, run_equalIn_struct w (n + d) t xs ys (by rw [hfs]; exact hu) hst', hfs]
            exact eqFields_ok (.g _ _ xs h1 h2 h3) (.g _ _ ys h4 h5 h6) (fun t s a b u v x => eqSh_ok d t s a b u v x) n _ s x hs h
    · simp at hs

theorem eqagg_ok {d : Nat} {t : TypeId} {s : Sh} (hs : shapeOf P d t = some s) (hd : d ≤ 10000) (hg : P.eqGuardType P.depth t = false) {x y : Operand} {cs ds : List DV} {u v : Value} {b : Bool} (ha : VR w K r (.g cs) u) (hb : VR w K r (.g ds) v)
    (h : eqSh s (.g cs) (.g ds) = some b) (neg : Bool) :
    ((do eqGuard (if neg then .neq else .eql) t x y u v; binOp (if neg then .neq else .eql) t u v : Sem Value)).run P w = .ok (.bool (if neg then !b else b)) w := by
  have he := eqSh_ok d t s _ _ u v b hs ha hb h (10000 - d)
  rw [show 10000 - d + d = 10000 by omega] at he
  have he' : (Op.equal t u v).run P w = .ok b w := he
  cases ha with
  | g _ _ xs =>
    cases hb with
    | g _ _ ys =>
      have hgr : ∀ op : BinOp, (eqGuard op t x y (.agg xs) (.agg ys)).run P w = .ok () w := fun op => by
        cases op <;> first | rfl | simp [eqGuard, hg]
      simp only [Sem.run_bind, hgr, Result.andThen_ok]
      cases neg with
      | true =>
        show (do pure (.bool (!(← Op.equal t (.agg xs) (.agg ys)))) : Sem Value).run P w = _
        simp [he']
      | false =>
        show (do pure (.bool (← Op.equal t (.agg xs) (.agg ys))) : Sem Value).run P w = _
        simp [he']

/-! ### a struct of its parts -/

def splice (cs : List DV) (off : Nat) (xs : List DV) : List DV := cs.take off ++ (xs ++ cs.drop (off + xs.length))

def fillD (cs : List DV) : List (Nat × Nat × DV) → Option (List DV)
  | [] => some cs
  | (off, size, x) :: rest => if (cellsOf x).length = size ∧ (cellsOf x).all (·.one) = true ∧ off + size ≤ cs.length then fillD (splice cs off (cellsOf x)) rest else none

/-- Cells, one for one. -/
def Each (w : World) (K : Nat → Prop) (r : Rho) (cs : List DV) (arr : Array Value) : Prop :=
  arr.size = cs.length ∧ ∀ (j : Nat) (d : DV), cs[j]? = some d → d.one = true ∧ ∃ v, arr[j]? = some v ∧ VR w K r d v

theorem Each.agg {cs : List DV} {arr : Array Value} (h : Each w K r cs arr) : VR w K r (.g cs) (.agg arr) :=
  .g _ _ _ h.1 (fun j d hj => (h.2 j d hj).1) (fun j d hj => by
    obtain ⟨v, hv, hd⟩ := (h.2 j d hj).2
    have := (Array.getElem?_eq_some_iff.1 hv)
    obtain ⟨hl, he⟩ := this
    simpa [Array.getD, hl, he] using hd)

theorem foldl_splice (off : Nat) : ∀ (vs : List Value) (k : Nat) (arr : Array Value), (((vs.zipIdx k).foldl (fun cs (c, j) => cs.setIfInBounds (off + j) c) arr).size = arr.size) ∧
    ∀ i : Nat, ((vs.zipIdx k).foldl (fun cs (c, j) => cs.setIfInBounds (off + j) c) arr)[i]? = if off + k ≤ i ∧ i < off + k + vs.length ∧ i < arr.size then vs[i - (off + k)]? else arr[i]?
  | [], k, arr => ⟨rfl, fun i => by simp; omega⟩
  | v :: vs, k, arr => by
    obtain ⟨h1, h2⟩ := foldl_splice off vs (k + 1) (arr.setIfInBounds (off + k) v)
    simp only [List.zipIdx_cons, List.foldl_cons]
    refine ⟨by rw [h1]; simp, fun i => ?_⟩
    rw [h2 i]
    simp only [Array.size_setIfInBounds, List.length_cons]
    by_cases he : i = off + k
    · subst he
      rw [if_neg (by omega)]
      by_cases hl : off + k < arr.size
      · rw [if_pos (by omega)]; simp [hl]
      · rw [if_neg (by omega)]; simp [hl]
    · rw [Array.getElem?_setIfInBounds_ne (Ne.symm he)]
      by_cases hc : off + (k + 1) ≤ i ∧ i < off + (k + 1) + vs.length ∧ i < arr.size
      · rw [if_pos hc, if_pos (by omega), show i - (off + k) = (i - (off + (k + 1))) + 1 by omega]; simp
      · rw [if_neg hc, if_neg (by omega)]

theorem Each.splice {cs : List DV} {arr : Array Value} (h : Each w K r cs arr) {off : Nat} {x : DV} {v : Value} (hv : VR w K r x v) (ho : (cellsOf x).all (·.one) = true) (hfit : off + (cellsOf x).length ≤ cs.length) :
    Each w K r (splice cs off (cellsOf x)) (v.cells.zipIdx.foldl (fun cs (c, j) => cs.setIfInBounds (off + j) c) arr) := by
  obtain ⟨hs, hc⟩ := cells_of_VR hv ho
  obtain ⟨h1, h2⟩ := foldl_splice off v.cells.toList 0 arr
  have hz : v.cells.zipIdx.foldl (fun cs (c, j) => cs.setIfInBounds (off + j) c) arr = (v.cells.toList.zipIdx 0).foldl (fun cs (c, j) => cs.setIfInBounds (off + j) c) arr := by
    rw [← Array.foldl_toList, Array.toList_zipIdx]
  rw [hz]
  have hlen : (Go.Proofs.Ytjbcgjgomhbmgaa.splice cs off (cellsOf x)).length = cs.length := by simp [Go.Proofs.Ytjbcgjgomhbmgaa.splice]; omega
  refine ⟨by rw [h1, h.1, hlen], fun j d hj => ?_⟩
  rw [h2 j]
  have hsp := getElem?_splice cs (cellsOf x) off hfit j
  unfold Go.Proofs.Ytjbcgjgomhbmgaa.splice at hj
  rw [hsp] at hj
  have hl : v.cells.toList.length = (cellsOf x).length := by simpa using hs
  split at hj
  · rename_i hin
    obtain ⟨u, h3, _, h5⟩ := hc _ d hj
    rw [if_pos (by rw [hl, h.1]; omega)]
    exact ⟨List.all_eq_true.1 ho d (List.mem_of_getElem? hj), u, by simpa using h3, h5⟩
  · rename_i hout
    rw [if_neg (by rw [hl]; omega)]
    exact h.2 j d hj

/-- The parts' data stand to the parts' values, and the places are as they are told. -/
def Parts (w : World) (K : Nat → Prop) (r : Rho) (place : Nat → Option (Nat × Nat)) : List (Nat × Nat × DV) → List (Nat × Value) → Prop
  | [], [] => True
  | (off, size, x) :: ds, (k, v) :: vs => place k = some (off, size) ∧ VR w K r x v ∧ Parts w K r place ds vs
  | _, _ => False

theorem fill_ok {place : Nat → Option (Nat × Nat)} : ∀ (ds : List (Nat × Nat × DV)) (vs : List (Nat × Value)) (cs cs' : List DV) (arr : Array Value), Parts w K r place ds vs → Each w K r cs arr → fillD cs ds = some cs' →
    ∃ arr', Instr.fill place arr vs = some arr' ∧ Each w K r cs' arr'
  | [], [], cs, cs', arr, _, he, h => by simp [fillD] at h; subst h; exact ⟨arr, rfl, he⟩
  | [], _ :: _, _, _, _, hp, _, _ => hp.elim
  | _ :: _, [], _, _, _, hp, _, _ => by simp [Parts] at hp
  | (off, size, x) :: ds, (k, v) :: vs, cs, cs', arr, hp, he, h => by
    obtain ⟨h1, h2, h3⟩ := hp
    simp only [fillD] at h
    split at h
    · rename_i hc
      obtain ⟨hl, ho, hfit⟩ := hc
      have hs := (cells_of_VR h2 ho).1
      obtain ⟨arr', h4, h5⟩ := fill_ok ds vs _ cs' _ h3 (he.splice h2 ho (by rw [hl]; exact hfit)) h
      refine ⟨arr', ?_, h5⟩
      have hcond : ¬ ((v.cells.size ≠ size || decide (off + v.cells.size > arr.size)) = true) := by
        simp [hs, hl, he.1]
        omega
      simp only [Instr.fill, h1, hcond, if_false]
      exact h4
    · simp at h

theorem build_ok {t : TypeId} {fs : Array Field} {i : TypeInfo} {z : Value} (hu : P.underlying t = some (.struct fs)) (hi : P.info? t = some i) (hz : i.zero = some z) {zs cs : List DV} (hze : Each w K r zs z.cells)
    {places : Array (Nat × Nat)} (hpl : (fs.mapM fun f => do pure (f.offset, ← sizeOf f.type) : Sem (Array (Nat × Nat))).run P w = .ok places w)
    {ds : List (Nat × Nat × DV)} {parts : Array (Nat × Value)} (hp : Parts w K r (places[·]?) ds parts.toList) (h : fillD zs ds = some cs) :
    ∃ v, (Instr.build t parts).run P w = .ok v w ∧ VR w K r (.g cs) v := by
  obtain ⟨arr, h1, h2⟩ := fill_ok _ _ _ _ _ hp hze h
  refine ⟨.agg arr, ?_, h2.agg⟩
  have hzv : (zeroValue t).run P w = .ok z w := by simp [zeroValue, typeInfo, hi, hz]
  simp only [Instr.build, Sem.run_bind, hzv, run_underlying hu, Result.andThen_ok, hpl, h1]
  rfl

/-! ### new slices -/

def zeroRows (n : Nat) (zs : List DV) : List (List DV) := List.replicate n zs

theorem zeroRows_each {zs : List DV} {z : Array Value} (hze : Each w K r zs z) (n : Nat) : Each w K r (zeroRows n zs).flatten ((Array.range (n * z.size)).map (z[· % z.size]!)) := by
  have hw : RowsOf zs.length (zeroRows n zs) := fun i row hi => by
    simp only [zeroRows, List.getElem?_replicate] at hi
    split at hi
    · simp at hi; rw [← hi]
    · simp at hi
  refine ⟨by rw [flat_length hw]; simp [zeroRows, hze.1], fun k d hk => ?_⟩
  obtain ⟨i, j, row, rfl, hj, hi, hd⟩ := flat_inv hw hk
  have hrow : row = zs ∧ i < n := by
    simp only [zeroRows, List.getElem?_replicate] at hi
    split at hi
    · simp at hi; exact ⟨hi.symm, by assumption⟩
    · simp at hi
  obtain ⟨rfl, hin⟩ := hrow
  obtain ⟨h1, v, h2, h3⟩ := hze.2 j d hd
  have hjz : j < z.size := by rw [hze.1]; exact hj
  refine ⟨h1, v, ?_, h3⟩
  have hlt : i * row.length + j < n * z.size := by
    rw [hze.1]
    have : (i + 1) * row.length ≤ n * row.length := Nat.mul_le_mul_right _ hin
    rw [Nat.succ_mul] at this
    omega
  have hmod : (i * row.length + j) % z.size = j := by rw [← hze.1, Nat.mul_comm, Nat.mul_add_mod, Nat.mod_eq_of_lt hjz]
  rw [Array.getElem?_map, Array.getElem?_range, if_pos hlt]
  simp only [Option.map_some, hmod]
  rw [← h2]
  simp [hjz]

theorem mksl_ok (h : HR B K r H w) (n : Path) {t elem : TypeId} {i : TypeInfo} {z : Value} (hu : P.underlying t = some (.slice elem)) (hi : P.info? elem = some i) (hz : i.zero = some z) (hzs : z.cells.size = i.size) {zs : List DV} (hze : Each w K r zs z.cells)
    {l c : Int} {kl kc : IntKind} (hl : 0 ≤ l) (hlc : l ≤ c) (hc : c ≤ 9223372036854775807) (hb : (i.bytes : Int) * c ≤ 281474976710656) {d : DV}
    (hd : d = if c = 0 then .z false else (sliceNewD H n i.size (zeroRows l.toNat zs)).1) (hH : H' = if c = 0 then H else (sliceNewD H n i.size (zeroRows l.toNat zs)).2) :
    OK B K r w ((Instr.makeSlice t (.int kl l) (.int kc c)).run P w) d H' := by
  have hwl : IntKind.i64.wrap l = l := IntWalk.i64_in l (by omega)
  have hwc : IntKind.i64.wrap c = c := IntWalk.i64_in c (by omega)
  have hti : (typeInfo elem).run P w = .ok i w := by simp [typeInfo, hi]
  have hzv : (zeroValue elem).run P w = .ok z w := by simp [zeroValue, typeInfo, hi, hz]
  have e1 : ¬ c < 0 := by omega
  have e2 : ¬ l < 0 := by omega
  have e3 : ¬ c < l := by omega
  have e4 : ¬ (281474976710656 : Int) < (i.bytes : Int) * c := by omega
  have hrun : (Instr.makeSlice t (.int kl l) (.int kc c)).run P w = .ok (.slice (some ⟨w.heap.size, 0, none⟩) l.toNat c.toNat) (w.alloc (.cells ((Array.range (c.toNat * z.cells.size)).map (z.cells[· % z.cells.size]!)) elem)) := by
    have he0 : ∀ f : Nat → Value, (Array.range 0).map f = #[] := fun f => by apply Array.eq_empty_of_size_eq_zero; simp
    by_cases h0 : c.toNat * i.size = 0
    · simp [he0, Instr.makeSlice, run_underlying hu, asInt, asIntOf, hti, hwl, hwc, e1, e2, e3, e4, run_sizeOf_of hi, h0, run_newRow, hzs]
    · simp [Instr.makeSlice, run_underlying hu, asInt, asIntOf, hti, hwl, hwc, e1, e2, e3, e4, run_sizeOf_of hi, h0, run_newRow, hzs, hzv]
  rw [hrun]
  by_cases h0 : c = 0
  · rw [if_pos h0] at hd hH
    subst hd; subst hH; subst h0
    have hl0 : l = 0 := by omega
    subst hl0
    exact ⟨_, _, K, r, rfl, Ch.same (Rho.le_refl _) (nx_alloc _ h.lo), by
      refine ⟨fun b hb => Nat.lt_of_lt_of_le (h.there b hb) (by simp), Nat.le_trans h.base (by simp), fun m v b hm => ?_, h.apart, h.old, h.fin⟩
      obtain ⟨p, h1, h2⟩ := h.live m v b hm
      exact ⟨p, h1, h2.mono (Below.heap_alloc _ _ _ h2.lt) (by simp) (nx_alloc (K := K) _ h.there).block (fun _ h => h) (Rho.le_refl _) h2.ro⟩, .ze _ _⟩
  · rw [if_neg h0] at hd hH
    subst hd; subst hH
    have hrows := zeroRows_each hze l.toNat
    have hcap := zeroRows_each hze c.toNat
    have hw : RowsOf i.size (zeroRows l.toNat zs) := fun k row hk => by
      simp only [zeroRows, List.getElem?_replicate] at hk
      split at hk
      · simp at hk; rw [← hk, ← hze.1, hzs]
      · simp at hk
    have := sliceNew_ok h n (cap := c.toNat) elem (c := (Array.range (c.toNat * z.cells.size)).map (z.cells[· % z.cells.size]!)) hw (by simp [zeroRows]; omega) (by simp [hzs]) (fun k d hk => by
      refine hcap.2 k d ?_
      have hkl := (List.getElem?_eq_some_iff.1 hk).1
      have hsub : (zeroRows c.toNat zs).flatten = (zeroRows l.toNat zs).flatten ++ (zeroRows (c.toNat - l.toNat) zs).flatten := by
        rw [← List.flatten_append]
        congr 1
        simp only [zeroRows, List.replicate_append_replicate]
        congr 1
        omega
      rw [hsub, List.getElem?_append, if_pos hkl]
      exact hk)
    rw [show (zeroRows l.toNat zs).length = l.toNat by simp [zeroRows]] at this
    exact this

theorem Parts.mono_slice {place place' : Nat → Option (Nat × Nat)} (h : ∀ k, place k = place' k) : ∀ {ds : List (Nat × Nat × DV)} {vs : List (Nat × Value)}, Parts w K r place ds vs → Parts w K r place' ds vs
  | [], [], _ => trivial
  | (_, _, _) :: _, (_, _) :: _, ⟨h1, h2, h3⟩ => ⟨by rw [← h]; exact h1, h2, Parts.mono_slice h h3⟩

/-- Cells in rows of one length. -/
def rowsOfFlat (E : Nat) : Nat → List DV → List (List DV)
  | 0, _ => []
  | n + 1, cs => cs.take E :: rowsOfFlat E n (cs.drop E)
theorem rowsOfFlat_ok (E : Nat) : ∀ (n : Nat) (cs : List DV), cs.length = n * E → RowsOf E (rowsOfFlat E n cs) ∧ (rowsOfFlat E n cs).flatten = cs ∧ (rowsOfFlat E n cs).length = n
  | 0, cs, h => ⟨fun i row hi => by simp [rowsOfFlat] at hi, by simp at h; simp [rowsOfFlat, h], rfl⟩
  | n + 1, cs, h => by
    rw [Nat.succ_mul] at h
    obtain ⟨h1, h2, h3⟩ := rowsOfFlat_ok E n (cs.drop E) (by simp; omega)
    refine ⟨fun i row hi => ?_, by simp [rowsOfFlat, h2], by simp [rowsOfFlat, h3]⟩
    cases i with
    | zero => simp [rowsOfFlat] at hi; rw [← hi]; simp; omega
    | succ i => exact h1 i row (by simpa [rowsOfFlat] using hi)

theorem bslice_ok (h : HR B K r H w) (n : Path) {t elem : TypeId} {i : TypeInfo} {z : Value} (hu : P.underlying t = some (.slice elem)) (hi : P.info? elem = some i) (hz : i.zero = some z) (hzs : z.cells.size = i.size) {zs cs : List DV} (hze : Each w K r zs z.cells)
    {len : Nat} (hlim : len * i.size ≤ 16777216) {ds : List (Nat × Nat × DV)} {parts : Array (Nat × Value)} (hp : Parts w K r (fun k => some (k * i.size, i.size)) ds parts.toList) (hf : fillD (zeroRows len zs).flatten ds = some cs) {d : DV}
    (hd : d = if len = 0 then .z false else (sliceNewD H n i.size (rowsOfFlat i.size len cs)).1) (hH : H' = if len = 0 then H else (sliceNewD H n i.size (rowsOfFlat i.size len cs)).2) :
    OK B K r w ((Instr.buildSlice t len parts).run P w) d H' := by
  have hzv : (zeroValue elem).run P w = .ok z w := by simp [zeroValue, typeInfo, hi, hz]
  obtain ⟨arr, h1, h2⟩ := fill_ok _ _ _ _ _ hp (zeroRows_each hze len) hf
  have hzl : zs.length = i.size := by rw [← hze.1, hzs]
  have hlen : ∀ (ds : List (Nat × Nat × DV)) (a b : List DV), fillD a ds = some b → b.length = a.length := by
    intro ds
    induction ds with
    | nil => intro a b h; simp [fillD] at h; rw [h]
    | cons x ds ih =>
      intro a b h
      obtain ⟨off, size, y⟩ := x
      simp only [fillD] at h
      split at h
      · rename_i hc
        rw [ih _ _ h]
        simp [splice]
        omega
      · simp at h
  have hw : RowsOf i.size (zeroRows len zs) := fun k row hk => by
    simp only [zeroRows, List.getElem?_replicate] at hk
    split at hk
    · simp at hk; rw [← hk, hzl]
    · simp at hk
  have hcl : cs.length = len * i.size := by rw [hlen _ _ _ hf, flat_length hw]; simp [zeroRows]
  have hrun : (Instr.buildSlice t len parts).run P w = .ok (.slice (some ⟨w.heap.size, 0, none⟩) len len) (w.alloc (.cells arr elem)) := by
    have e1 : ¬ 16777216 < len * i.size := by omega
    rw [hzs] at h1
    by_cases h0 : len * i.size = 0
    · have he : (Array.range (len * i.size)).map (z.cells[· % i.size]!) = #[] := by apply Array.eq_empty_of_size_eq_zero; simpa using h0
      have he2 : (Array.range 0).map (fun x => ((#[] : Array Value)[x % (#[] : Array Value).size]!)) = #[] := by apply Array.eq_empty_of_size_eq_zero; simp
      rw [he] at h1
      simp only [Instr.buildSlice, Sem.run_bind, run_underlying hu, run_sizeOf_of hi, Result.andThen_ok, gt_iff_lt, e1, if_false, h0, if_true, Sem.run_pure, he2, h1, run_newRow, Sem.run_bind, show ¬ (2 ^ 24 < 0) by omega]
    · simp only [Instr.buildSlice, Sem.run_bind, run_underlying hu, run_sizeOf_of hi, Result.andThen_ok, gt_iff_lt, show ¬ (2 ^ 24 < len * i.size) by omega, if_false, h0, Sem.run_pure, hzv, hzs, h1, run_newRow]
  rw [hrun]
  by_cases h0 : len = 0
  · rw [if_pos h0] at hd hH
    subst hd; subst hH; subst h0
    exact ⟨_, _, K, r, rfl, Ch.same (Rho.le_refl _) (nx_alloc _ h.lo), by
      refine ⟨fun b hb => Nat.lt_of_lt_of_le (h.there b hb) (by simp), Nat.le_trans h.base (by simp), fun m v b hm => ?_, h.apart, h.old, h.fin⟩
      obtain ⟨p, h1, h2⟩ := h.live m v b hm
      exact ⟨p, h1, h2.mono (Below.heap_alloc _ _ _ h2.lt) (by simp) (nx_alloc (K := K) _ h.there).block (fun _ h => h) (Rho.le_refl _) h2.ro⟩, .ze _ _⟩
  · rw [if_neg h0] at hd hH
    subst hd; subst hH
    obtain ⟨g1, g2, g3⟩ := rowsOfFlat_ok i.size len cs hcl
    have := sliceNew_ok h n (cap := len) elem (c := arr) g1 (by rw [g3]; exact Nat.le_refl _) (by rw [h2.1, hcl]; exact Nat.le_refl _) (fun k d hk => h2.2 k d (by rwa [g2] at hk))
    rw [g3] at this
    exact this

/-! ### copy -/

def copyD (H : Heap) (E : Nat) (x y : DV) : Option (Int × Heap) :=
  (rowsOf H E y).bind fun ys =>
    match x with
    | .z _ => some (0, H)
    | .o m ver off len => (H.look m ver).bind fun b =>
        if b.E = E ∧ b.ro = false ∧ off + len ≤ b.rows.length then
          some ((min ys.length len : Nat), H.set m (ver, some ⟨E, false, b.rows.take off ++ (ys.take len ++ b.rows.drop (off + min ys.length len))⟩))
        else none
    | _ => none

end Go.Proofs.Ytjbcgjgomhbmgaa

/-  Data values: copy; values of functions and interfaces; the rest of the operations. -/
namespace Go.Proofs.Ytjbcgjgomhbmgaa
open Go.RowKit
set_option linter.unusedVariables false
set_option linter.constructorNameAsVariable false
set_option linter.unusedSimpArgs false

variable {P : Program} {w w' : World} {K K' : Nat → Prop} {r r' : Rho} {H H' : Heap} {B : Nat}

theorem rowsplice_get (rows ys : List (List DV)) (off n : Nat) (h : off + n ≤ rows.length) (hy : ys.length = n) (i : Nat) :
    (rows.take off ++ (ys ++ rows.drop (off + n)))[i]? = if off ≤ i ∧ i < off + n then ys[i - off]? else rows[i]? := by
  have h1 : (rows.take off).length = off := by simp; omega
  rw [List.getElem?_append]
  split
  · rw [List.getElem?_take, if_pos (by omega), if_neg (by omega)]
  · rw [List.getElem?_append]
    split
    · rw [if_pos (by omega), h1]
    · rw [if_neg (by omega), List.getElem?_drop, h1]
      congr 1
      omega

theorem copy_ok (h : HR B K r H w) {dT sT ty elem : TypeId} {i : TypeInfo} (hu : P.underlying dT = some (.slice elem)) (hi : P.info? elem = some i) {x y : DV} {vx vy : Value} (hx : VR w K r x vx) (hy : VR w K r y vy)
    {n : Int} (hd : copyD H i.size x y = some (n, H')) : OK B K r w ((Builtin.copy_ #[dT, sT] ty #[vx, vy]).run P w) (.x (.int .i64 n)) H' := by
  unfold copyD at hd
  cases hys : rowsOf H i.size y with
  | none => simp [hys] at hd
  | some ys =>
    simp only [hys, Option.bind_some] at hd
    obtain ⟨a, cap, rfl, hcap, hwf, hh⟩ := rowsOf_holds h hy hys
    have hempty : ∀ ba : Option Addr, (Builtin.copy_ #[dT, sT] ty #[.slice ba 0 0, .slice a ys.length cap]).run P w = .ok (.int .i64 0) w := by
      intro ba
      have h0 : Nat.min ys.length 0 = 0 := by simp [Nat.min_def]
      cases ba <;> cases a <;> simp [Builtin.copy_, run_underlying hu, Builtin.lenOf, h0, run_sizeOf_of hi, Builtin.firstCells, loadCells, loadCellsFrom, storeCells, goInt]
    cases hx with
    | zn =>
      replace hd : some ((0 : Int), H) = some (n, H') := hd
      cases hd
      exact OK.pure h (hempty none) (.x _ _)
    | ze _ ba =>
      replace hd : some ((0 : Int), H) = some (n, H') := hd
      cases hd
      exact OK.pure h (hempty ba) (.x _ _)
    | o _ m ver off len pl a' hp ha' =>
      replace hd : ((H.look m ver).bind fun b => if b.E = i.size ∧ b.ro = false ∧ off + len ≤ b.rows.length then
          some (((min ys.length len : Nat) : Int), H.set m (ver, some ⟨i.size, false, b.rows.take off ++ (ys.take len ++ b.rows.drop (off + min ys.length len))⟩)) else none) = some (n, H') := hd
      cases hb : H.look m ver with
      | none => simp [hb] at hd
      | some blk =>
        simp only [hb, Option.bind_some] at hd
        split at hd
        · rename_i hc
          obtain ⟨hE, hro, hfit⟩ := hc
          simp only [Option.some.injEq, Prod.mk.injEq] at hd
          obtain ⟨rfl, rfl⟩ := hd
          have hn := Heap.look_some hb
          have hl := h.get hn hp
          have hlc := hl.len
          have hlE := hl.E
          have htl : (ys.take len).length = min ys.length len := by simp [Nat.min_comm]
          have hwt := hwf.take len
          obtain ⟨vs, h1, h2, h3⟩ := run_firstCells (P := P) (w := w) (K := K) (r := r) (rows := ys.take len) (a := a) (len := ys.length) (cap := cap) hwt (fun hne => by
            obtain ⟨b, c, us, e1, e2⟩ := hh (by intro e; rw [e] at hne; simp at hne)
            refine ⟨b, c, us.take (ys.take len).flatten.length, e1, ?_⟩
            have hsub : ys.flatten = (ys.take len).flatten ++ (ys.drop len).flatten := by rw [← List.flatten_append, List.take_append_drop]
            have hle : (ys.take len).flatten.length ≤ ys.flatten.length := by rw [hsub]; simp
            refine ⟨by rw [List.length_take, e2.1]; omega, fun j d v hj hv => ?_⟩
            rw [List.getElem?_take] at hv
            split at hv
            · refine e2.2 j d v ?_ hv
              rw [hsub, List.getElem?_append, if_pos (by assumption)]
              exact hj
            · simp at hv)
          rw [htl] at h1 h2
          have hcapE : off * pl.E + vs.toList.length ≤ pl.cap * pl.E := by
            simp only [Array.length_toList, h2]
            have : (off + min ys.length len) * pl.E ≤ pl.cap * pl.E := Nat.mul_le_mul_right _ (by omega)
            rw [Nat.add_mul] at this
            rw [hlE, hE] at this ⊢
            omega
          have hone := all_one (w := w) (K := K) (r := r) (rows := ys.take len) (by rw [h2, htl]) hwt h3
          have hrun : (Builtin.copy_ #[dT, sT] ty #[.slice (some a') len (pl.cap - off), .slice a ys.length cap]).run P w = .ok (.int .i64 ((min ys.length len : Nat) : Int)) (w.setCells pl.b (pl.o + off * pl.E) vs.toList) := by
            have hmin : Nat.min ys.length len = min ys.length len := rfl
            by_cases hz0 : min ys.length len = 0
            · have hv0 : vs = #[] := by apply Array.eq_empty_of_size_eq_zero; rw [h2, hz0]; simp
              subst hv0
              rw [hz0] at h1
              simp [Builtin.copy_, run_underlying hu, Builtin.lenOf, hmin, hz0, run_sizeOf_of hi, h1, storeCells, goInt, World.setCells]
            · have hst := run_storeCells_cells (P := P) pl.b (pl.o + off * pl.E) vs.toList 0 w
                (fun j hj => by
                  obtain ⟨y, hy⟩ := hl.room (off * pl.E + j) (by omega)
                  rw [show pl.o + off * pl.E + 0 + j = pl.o + (off * pl.E + j) by omega, hy]
                  rfl)
                (fun j _ => hl.free _) hone
              simp only [Nat.add_zero] at hst
              rw [ha' (by omega)]
              simp [Builtin.copy_, run_underlying hu, Builtin.lenOf, hmin, run_sizeOf_of hi, h1, hst, goInt]
          rw [hrun]
          refine ⟨_, _, K, r, rfl, Ch.same (Rho.le_refl _) (nx_setCells _ (hl.lo hro) _ _ _), ?_, .x _ _⟩
          have hwr := h.write hn hp hro (off * pl.E) vs.toList hcapE ver pl ⟨i.size, false, blk.rows.take off ++ (ys.take len ++ blk.rows.drop (off + min ys.length len))⟩ (Nat.le_refl _) (Rho.le_refl _) hp (fun m v p e => .inl e) rfl (by rw [hlE, hE])
            (fun k row hk => by
              rw [rowsplice_get _ _ _ _ (by omega) htl] at hk
              split at hk
              · exact hwt _ _ hk
              · rw [← hE]; exact hl.wf _ _ hk) (by simp; omega) (fun k hk => by omega) rfl
            (fun k row j d hk hj => by
              simp only [] at hk
              rw [rowsplice_get _ _ _ _ (by omega) htl] at hk
              split at hk
              · rename_i hin
                have hjE : j < i.size := by have := hwt _ _ hk; have := (List.getElem?_eq_some_iff.1 hj).1; omega
                have hf := flat_get hwt (k - off) j hjE
                rw [hk, Option.bind_some, hj] at hf
                obtain ⟨v, g1, g2, _, g3⟩ := h3 _ d hf
                refine ⟨g2, v, ?_, g3⟩
                have := cell?_setCells_in' pl.b vs.toList (pl.o + off * pl.E) w (fun j hj => by
                  obtain ⟨y, hy⟩ := hl.room (off * pl.E + j) (by omega)
                  exact ⟨y, by rw [show pl.o + off * pl.E + j = pl.o + (off * pl.E + j) by omega]; exact hy⟩) _ v (by simpa using g1)
                have e1 : k * pl.E = (k - off) * pl.E + off * pl.E := by rw [← Nat.add_mul]; congr 1; omega
                rw [show pl.o + (k * pl.E + j) = pl.o + off * pl.E + ((k - off) * i.size + j) by rw [e1, hlE, hE]; omega]
                exact this
              · rename_i hout
                obtain ⟨g1, v, g2, g3⟩ := hl.cell k row j d hk hj
                refine ⟨g1, v, ?_, g3⟩
                have hjE : j < pl.E := by have := hl.wf _ _ hk; have := (List.getElem?_eq_some_iff.1 hj).1; omega
                rw [World.cell?_setCells_out _ _ _ _ _ ?_]
                · exact g2
                · simp only [Array.length_toList, h2]
                  intro _ _
                  rcases Nat.lt_or_ge k off with hlt | hge
                  · left
                    have : (k + 1) * pl.E ≤ off * pl.E := Nat.mul_le_mul_right _ hlt
                    rw [Nat.succ_mul] at this
                    omega
                  · right
                    have : (off + min ys.length len) * pl.E ≤ k * pl.E := Nat.mul_le_mul_right _ (by omega)
                    rw [Nat.add_mul] at this
                    rw [hlE, hE] at this ⊢
                    omega)
          exact hwr
        · simp at hd
    | _ => simp at hd

/-! ### values of functions and of interfaces -/

theorem mkfn_ok {fn : Fn} {fs cs : List DV} {fa ca : Array Value} (h1 : fa.size = fs.length) (h2 : ca.size = cs.length) (h3 : ∀ (j : Nat) (d : DV), fs[j]? = some d → VR w K r d (fa.getD j undef)) (h4 : ∀ (j : Nat) (d : DV), cs[j]? = some d → VR w K r d (ca.getD j undef)) :
    ∃ v, (Instr.makeFunc fn fa ca).run P w = .ok v w ∧ VR w K r (.f fn fs cs) v := ⟨_, rfl, .f _ _ _ _ _ _ h1 h2 h3 h4⟩

theorem mkif_ok {t : TypeId} {D : TypeDesc} (hu : P.underlying t = some D) (hD : ∀ ms, D ≠ .interface ms) {d : DV} {v : Value} (hv : VR w K r d v) :
    ∃ u, (Instr.makeInterface t v).run P w = .ok u w ∧ VR w K r (.i t d) u := by
  refine ⟨.iface t v, ?_, .i _ _ _ _ hv⟩
  simp only [Instr.makeInterface, Sem.run_bind, run_underlying hu, Result.andThen_ok]
  cases D <;> first | rfl | exact absurd rfl (hD _)

/-- x.(T), T no interface, with the second result. -/
theorem ta_ok {t xT asserted : TypeId} {D : TypeDesc} {i : TypeInfo} {z : Value} (hu : P.underlying asserted = some D) (hD : ∀ ms, D ≠ .interface ms) (hi : P.info? asserted = some i) (hz : i.zero = some z) {zd : DV} (hzd : VR w K r zd z) {d : DV} {v : Value} (hv : VR w K r (.i t d) v) :
    ∃ u, (Instr.typeAssert v xT asserted true).run P w = .ok u w ∧ VR w K r (if t = asserted then .t [d, .x (.bool true)] else .t [zd, .x (.bool false)]) u := by
  have two : ∀ (a b : DV) (u v : Value), VR w K r a u → VR w K r b v → VR w K r (.t [a, b]) (.tuple #[u, v]) := fun a b u v h1 h2 =>
    .t _ _ _ rfl (fun j d hj => by
      cases j with
      | zero => simp at hj; subst hj; exact h1
      | succ j => cases j with
        | zero => simp at hj; subst hj; exact h2
        | succ j => simp at hj)
  cases hv with
  | i _ _ _ v hd =>
    have hzv : (zeroValue asserted).run P w = .ok z w := by simp [zeroValue, typeInfo, hi, hz]
    by_cases e : t = asserted
    · rw [if_pos e]
      refine ⟨.tuple #[v, .bool true], ?_, two _ _ _ _ hd (.x _ _)⟩
      simp only [Instr.typeAssert, Sem.run_bind, run_underlying hu, Result.andThen_ok]
      cases D <;> first | (simp [e]; done) | exact absurd rfl (hD _)
    · rw [if_neg e]
      refine ⟨.tuple #[z, .bool false], ?_, two _ _ _ _ hzd (.x _ _)⟩
      simp only [Instr.typeAssert, Sem.run_bind, run_underlying hu, Result.andThen_ok]
      cases D <;> first | (simp [e, hzv]; done) | exact absurd rfl (hD _)

/-! ### min, max, parts of complex numbers -/

def blV (b : Builtin) (ty : TypeId) (vs : List Value) : Option Value :=
  match b with
  | .min => val? (Builtin.min_ #[] ty vs.toArray)
  | .max => val? (Builtin.max_ #[] ty vs.toArray)
  | .complex => val? (Builtin.complex_ #[] ty vs.toArray)
  | .real => val? (Builtin.real_ #[] ty vs.toArray)
  | .imag => val? (Builtin.imag_ #[] ty vs.toArray)
  | _ => none

end Go.Proofs.Ytjbcgjgomhbmgaa

/-  Data values: the operations as functions on data; an operation of the model turned into one; that it does so. -/
namespace Go.Proofs.Ytjbcgjgomhbmgaa
open Go.RowKit
set_option linter.unusedVariables false
set_option linter.constructorNameAsVariable false
set_option linter.unusedSimpArgs false

variable {P : Program} {w w' : World} {K K' : Nat → Prop} {r r' : Rho} {H H' : Heap} {B : Nat}

abbrev Env := Nat → DV
def Env.upd (e : Env) (t : Nat) (d : DV) : Env := fun u => if u = t then d else e u
theorem Env.upd_eq (e : Env) (t : Nat) (d : DV) : e.upd t d t = d := by simp [Env.upd]
theorem Env.upd_ne (e : Env) {t u : Nat} (d : DV) (h : u ≠ t) : e.upd t d u = e u := by simp [Env.upd, h]

inductive Opd where
  | t (n : Nat)
  | c (d : DV)
  | f (k : FuncId)

def Opd.ev (e : Env) : Opd → DV
  | .t n => e n
  | .c d => d
  | .f k => .f (.func k) [] []

inductive DOp where
  | mv (x : Opd)
  | pick (c a b : Opd)
  | box (x : Opd)
  | build (zero : List DV) (parts : List (Nat × Nat × Opd))
  | bsl (E len : Nat) (zero : List DV) (parts : List (Nat × Nat × Opd))
  | load (E : Nat) (agg : Bool) (a : Opd)
  | store (E : Nat) (a x : Opd)
  | nck (x : Opd)
  | bin (op : BinOp) (x y : Opd)
  | eqb (neg : Bool) (x y : Opd)
  | eqa (neg : Bool) (s : Sh) (x y : Opd)
  | eqn (neg : Bool) (x : Opd)
  | eqi (neg : Bool) (x : Opd)
  | un (op : UnOp) (x : Opd)
  | conv (D : TypeDesc) (x : Opd)
  | mkfn (fn : Fn) (first captured : List Opd)
  | mksl (E bytes : Nat) (zero : List DV) (l c : Opd)
  | sli (E : Nat) (x : Opd) (lo hi : Option Opd)
  | sli0 (x : Opd)
  | fad (off : Nat) (a : Opd)
  | fld (off size : Nat) (agg : Bool) (x : Opd)
  | iad (E : Nat) (x i : Opd)
  | iarr (E n : Nat) (a i : Opd)
  | idx (size : Nat) (agg : Bool) (n : Nat) (x i : Opd)
  | idxs (x i : Opd)
  | len (x : Opd)
  | lens (x : Opd)
  | app (E bytes : Nat) (x y : Opd)
  | cpy (E : Nat) (x y : Opd)
  | bl (b : Builtin) (xs : List Opd)
  | ext (x : Opd) (k : Nat)
  | mkif (t : TypeId) (x : Opd)
  | ta (t : TypeId) (zero : DV) (x : Opd)

def scalar : DV → Option Value
  | .x v => some v
  | _ => none
def intD : DV → Option Int
  | .x (.int _ n) => some n
  | _ => none
def boundD (e : Env) : Option Opd → Option (Option Int)
  | none => some none
  | some x => (intD (x.ev e)).map some
def scalars (e : Env) : List Opd → Option (List Value)
  | [] => some []
  | x :: xs => (scalar (x.ev e)).bind fun v => (scalars e xs).map (v :: ·)
def partsD (e : Env) (l : List (Nat × Nat × Opd)) : List (Nat × Nat × DV) := l.map fun p => (p.1, p.2.1, p.2.2.ev e)
def isSlice : DV → Bool
  | .z _ | .s _ _ | .o _ _ _ _ | .e => true
  | _ => false

/-- What the operation yields, and the heap behind it. `n`: the name that new memory gets. -/
def stepD (n : Path) (e : Env) (H : Heap) : DOp → Option (DV × Heap)
  | .mv x => some (x.ev e, H)
  | .pick c a b => match c.ev e with | .x (.bool t) => some (if t then a.ev e else b.ev e, H) | _ => none
  | .box x => boxD H n (x.ev e)
  | .build zero parts => (fillD zero (partsD e parts)).map fun cs => (.g cs, H)
  | .bsl E len zero parts => (fillD (zeroRows len zero).flatten (partsD e parts)).map fun cs => if len = 0 then (.z false, H) else sliceNewD H n E (rowsOfFlat E len cs)
  | .load E agg a => (ldD H E agg (a.ev e)).map (·, H)
  | .store E a x => (stD H E (a.ev e) (x.ev e)).map (.x undef, ·)
  | .nck x => match x.ev e with | .p n v a b => some (.p n v a b, H) | .q a b => some (.q a b, H) | .f (.func k) a b => some (.f (.func k) a b, H) | _ => none
  | .bin op x y => (scalar (x.ev e)).bind fun a => (scalar (y.ev e)).bind fun b => (binV op a b).map fun c => (.x c, H)
  | .eqb neg x y => match x.ev e, y.ev e with | .x (.bool p), .x (.bool q) => some (.x (.bool (if neg then p != q else p == q)), H) | _, _ => none
  | .eqa neg s x y => match x.ev e, y.ev e with | .g cs, .g ds => (eqSh s (.g cs) (.g ds)).map fun b => (.x (.bool (if neg then !b else b)), H) | _, _ => none
  | .eqn neg x => (nilD (x.ev e)).map fun b => (.x (.bool (if neg then !b else b)), H)
  | .eqi neg x => (ifnilD (x.ev e)).map fun b => (.x (.bool (if neg then !b else b)), H)
  | .un op x => (scalar (x.ev e)).bind fun a => (unV op a).map fun c => (.x c, H)
  | .conv D x => (scalar (x.ev e)).bind fun a => (convV D a).map fun c => (.x c, H)
  | .mkfn fn first captured => some (.f fn (first.map (·.ev e)) (captured.map (·.ev e)), H)
  | .mksl E bytes zero l c => (intD (l.ev e)).bind fun l => (intD (c.ev e)).bind fun c =>
      if 0 ≤ l ∧ l ≤ c ∧ c ≤ 9223372036854775807 ∧ (bytes : Int) * c ≤ 281474976710656 then some (if c = 0 then (.z false, H) else sliceNewD H n E (zeroRows l.toNat zero)) else none
  | .sli E x lo hi => (boundD e lo).bind fun lo => (boundD e hi).bind fun hi => (sliD H E (x.ev e) lo hi).map (·, H)
  | .sli0 x => if isSlice (x.ev e) then some (.z false, H) else none
  | .fad off a => (fadD off (a.ev e)).map (·, H)
  | .fld off size agg x => match x.ev e with | .g cs => (partD cs off size agg).map (·, H) | _ => none
  | .iad E x i => (intD (i.ev e)).bind fun i => (iadD H E (x.ev e) i).map (·, H)
  | .iarr E n a i => (intD (i.ev e)).bind fun i => if 0 ≤ i ∧ i < n then (fadD (i.toNat * E) (a.ev e)).map (·, H) else none
  | .idx size agg n x i => (intD (i.ev e)).bind fun i => match x.ev e with | .g cs => if 0 ≤ i ∧ i < n then (partD cs (i.toNat * size) size agg).map (·, H) else none | _ => none
  | .idxs x i => (intD (i.ev e)).bind fun i => match x.ev e with | .x (.string s) => if h : 0 ≤ i ∧ i.toNat < s.size then some (.x (.int .u8 (s[i.toNat]'h.2).toNat), H) else none | _ => none
  | .len x => (lenD (x.ev e)).map fun n => (.x (.int .i64 n), H)
  | .lens x => (lensD (x.ev e)).map fun n => (.x (.int .i64 n), H)
  | .app E bytes x y => appD H n E bytes (x.ev e) (y.ev e)
  | .cpy E x y => (copyD H E (x.ev e) (y.ev e)).map fun p => (.x (.int .i64 p.1), p.2)
  | .bl b xs => (scalars e xs).bind fun vs => (blV b 0 vs).map fun v => (.x v, H)
  | .ext x k => match x.ev e with | .t vs => (vs[k]?).map (·, H) | _ => none
  | .mkif t x => some (.i t (x.ev e), H)
  | .ta t zero x => match x.ev e with | .i u d => some (if u = t then .t [d, .x (.bool true)] else .t [zero, .x (.bool false)], H) | _ => none

/-! ### Turning the model's operations -/

def toD1 : Value → DV
  | .slice none 0 0 => .z true
  | v => .x v
def toD : Value → DV
  | .agg cs => .g (cs.toList.map toD1)
  | v => toD1 v
def okConst : Value → Bool
  | .agg cs => cs.all (·.oneCell')
  | v => v.oneCell'

theorem toD1_VR (v : Value) : VR w K r (toD1 v) v := by
  unfold toD1
  split
  · exact .zn _
  · exact .x _ _
theorem toD1_one {v : Value} (h : v.oneCell' = true) : (toD1 v).one = true := by
  unfold toD1
  split
  · rfl
  · exact h
theorem each_toD {cs : Array Value} (h : cs.all (·.oneCell') = true) : Each w K r (cs.toList.map toD1) cs := by
  refine ⟨by simp, fun j d hj => ?_⟩
  simp only [List.getElem?_map, Option.map_eq_some_iff] at hj
  obtain ⟨v, hv, rfl⟩ := hj
  have hv' : cs[j]? = some v := by simpa using hv
  have hm : v ∈ cs := Array.mem_of_getElem? hv'
  exact ⟨toD1_one (by have := Array.all_eq_true_iff_forall_mem.1 h v hm; exact this), v, hv', toD1_VR v⟩
theorem toD_VR {v : Value} (h : okConst v = true) : VR w K r (toD v) v := by
  unfold toD
  split
  · exact (each_toD h).agg
  · exact toD1_VR _

def turnOpd : Operand → Option Opd
  | .tmp t => some (.t t)
  | .const v => if okConst v then some (.c (toD v)) else none
  | .func f => some (.f f)
  | .global _ => none

structure TR (w : World) (K : Nat → Prop) (r : Rho) (e : Env) (a : Act) : Prop where
  tmp : ∀ t, VR w K r (e t) (a.tmps.getD t undef)

theorem opd_ok {e : Env} {a : Act} (h : TR w K r e a) {x : Operand} {y : Opd} (hx : turnOpd x = some y) : VR w K r (y.ev e) (a.eval x) := by
  cases x with
  | tmp t => simp [turnOpd] at hx; subst hx; exact h.tmp t
  | const v =>
    simp only [turnOpd] at hx
    split at hx
    · rename_i ho
      simp at hx
      subst hx
      exact toD_VR ho
    · simp at hx
  | func f => simp [turnOpd] at hx; subst hx; exact .f _ _ _ _ _ _ rfl rfl (fun j d h => by simp at h) (fun j d h => by simp at h)
  | global g => simp [turnOpd] at hx

/-- A type's size, whether it is a struct or an array, and its zero's cells. -/
def tsz (P : Program) (t : TypeId) : Option (Nat × Bool) := (P.info? t).bind fun i => (P.underlying t).map fun D => (i.size, isAggD D)
def tzero (P : Program) (t : TypeId) : Option (List DV) := (P.info? t).bind fun i => i.zero.bind fun z => if z.cells.all (·.oneCell') ∧ z.cells.size = i.size then some (z.cells.toList.map toD1) else none
def elemOfSlice (P : Program) (t : TypeId) : Option (TypeId × Nat × Nat) := match P.underlying t with | some (.slice e) => (P.info? e).map fun i => (e, i.size, i.bytes) | _ => none

def turnOpds (l : List Operand) : Option (List Opd) := l.mapM turnOpd
def isIface (P : Program) (t : TypeId) : Bool := match P.underlying t with | some (.interface _) => true | _ => false

def placesOf (P : Program) (fs : Array Field) : Option (Array (Nat × Nat)) := fs.mapM fun f => (P.info? f.type).map fun i => (f.offset, i.size)

theorem places_run {fs : Array Field} {pl : Array (Nat × Nat)} (h : placesOf P fs = some pl) : (fs.mapM fun f => do pure (f.offset, ← sizeOf f.type) : Sem (Array (Nat × Nat))).run P w = .ok pl w := by
  unfold placesOf at h
  rw [← Array.toArray_toList (xs := fs)] at h ⊢
  generalize fs.toList = l at h ⊢
  rw [List.mapM_toArray] at h ⊢
  simp only [Option.map_eq_map, Option.map_eq_some_iff] at h
  obtain ⟨q, hq, rfl⟩ := h
  simp only [Sem.run_map]
  have : (l.mapM fun f => do pure (f.offset, ← sizeOf f.type) : Sem (List (Nat × Nat))).run P w = .ok q w := by
    clear fs
    induction l generalizing q with
    | nil => simp at hq; subst hq; rfl
    | cons f l ih =>
      simp only [List.mapM_cons, Option.bind_eq_bind, Option.bind_eq_some_iff, Option.map_eq_some_iff] at hq
      obtain ⟨x, ⟨i, hi, rfl⟩, q', hq', hq⟩ := hq
      simp at hq
      subst hq
      have := ih q' hq'
      simp only [List.mapM_cons, Sem.run_bind, run_sizeOf_of hi, Result.andThen_ok, Sem.run_pure, this]
  rw [this]
  rfl

def turnParts (place : Nat → Option (Nat × Nat)) (parts : Array (Nat × Operand)) : Option (List (Nat × Nat × Opd)) :=
  parts.toList.mapM fun p => (place p.1).bind fun q => (turnOpd p.2).map fun x => (q.1, q.2, x)

theorem parts_ok {e : Env} {a : Act} (h : TR w K r e a) {place : Nat → Option (Nat × Nat)} {parts : Array (Nat × Operand)} {l : List (Nat × Nat × Opd)} (hl : turnParts place parts = some l) :
    Parts w K r place (partsD e l) (parts.map fun (i, x) => (i, a.eval x)).toList := by
  unfold turnParts at hl
  rw [Array.toList_map]
  generalize parts.toList = ps at hl ⊢
  induction ps generalizing l with
  | nil => simp at hl; subst hl; trivial
  | cons p ps ih =>
    simp only [List.mapM_cons, Option.bind_eq_bind, Option.bind_eq_some_iff, Option.map_eq_some_iff] at hl
    obtain ⟨x, ⟨q, hq, y, hy, rfl⟩, l', hl', hl⟩ := hl
    simp at hl
    subst hl
    exact ⟨hq, opd_ok h hy, ih hl'⟩

def turnCall (P : Program) (ty : TypeId) (c : Call) : Option DOp :=
  match c.callee with
  | .builtin .len => match c.args.toList, c.argTypes.toList with
    | [x], [t] => match P.underlying t with
      | some .string => (turnOpd x).map .lens
      | some (.slice _) => (turnOpd x).map .len
      | _ => none
    | _, _ => none
  | .builtin .append => match c.args.toList, c.argTypes.toList with
    | [x, y], [t, u] => match P.underlying t, P.underlying u with
      | some (.slice e), some (.slice _) => (tzero P e).bind fun _ => (P.info? e).bind fun i => (turnOpd x).bind fun x => (turnOpd y).map fun y => .app i.size i.bytes x y
      | _, _ => none
    | _, _ => none
  | .builtin .copy => match c.args.toList, c.argTypes.toList with
    | [x, y], [t, u] => match P.underlying t, P.underlying u with
      | some (.slice e), some (.slice _) => (P.info? e).bind fun i => (turnOpd x).bind fun x => (turnOpd y).map fun y => .cpy i.size x y
      | _, _ => none
    | _, _ => none
  | .builtin .min => (turnOpds c.args.toList).map (.bl .min)
  | .builtin .max => (turnOpds c.args.toList).map (.bl .max)
  | .builtin .complex => (turnOpds c.args.toList).map (.bl .complex)
  | .builtin .real => (turnOpds c.args.toList).map (.bl .real)
  | .builtin .imag => (turnOpds c.args.toList).map (.bl .imag)
  | _ => none

def isCmp : BinOp → Bool
  | .eql | .neq => true
  | _ => false
def isNeq : BinOp → Bool
  | .neq => true
  | _ => false
theorem isCmp_op {op : BinOp} (h : isCmp op = true) : op = if isNeq op = true then .neq else .eql := by cases op <;> simp [isCmp] at h <;> rfl

def turnOp (P : Program) (o : Oper) : Option DOp :=
  match o.op with
  | .move x | .assign x => (turnOpd x).map .mv
  | .pick c a b => (turnOpd c).bind fun c => (turnOpd a).bind fun a => (turnOpd b).map fun b => .pick c a b
  | .alloc t => (P.info? t).bind fun i => i.zero.bind fun z => if okConst z then some (.box (.c (toD z))) else none
  | .box _ x => (turnOpd x).map .box
  | .build t parts => match P.underlying t with
    | some (.struct fs) => (tzero P t).bind fun z => (placesOf P fs).bind fun pl => (turnParts (pl[·]?) parts).map fun ps => .build z ps
    | _ => none
  | .buildSlice t n parts => (elemOfSlice P t).bind fun e => (tzero P e.1).bind fun z => if n * e.2.1 ≤ 16777216 then (turnParts (fun k => some (k * e.2.1, e.2.1)) parts).map fun ps => .bsl e.2.1 n z ps else none
  | .load t a => (tsz P t).bind fun s => (turnOpd a).map fun a => .load s.1 s.2 a
  | .store t a x => (tsz P t).bind fun s => (turnOpd a).bind fun a => (turnOpd x).map fun x => .store s.1 a x
  | .nilCheck x => (turnOpd x).map .nck
  | .binOp op t x y _ =>
    match P.underlying t with
    | some (.slice _) => match isCmp op, y with | true, .const (.slice none 0 0) => (turnOpd x).map (.eqn (isNeq op)) | _, _ => none
    | some (.interface _) => match isCmp op, y with | true, .const .nilIface => (turnOpd x).map (.eqi (isNeq op)) | _, _ => none
    | some (.struct _) => if isCmp op = true ∧ P.eqGuardType P.depth t = false then (shapeOf P 100 t).bind fun s => (turnOpd x).bind fun x => (turnOpd y).map fun y => .eqa (isNeq op) s x y else none
    | some .bool => if isCmp op = true then (turnOpd x).bind fun x => (turnOpd y).map fun y => .eqb (isNeq op) x y else none
    | some (.int _) | some (.float _) | some (.complex _) | some .string => (turnOpd x).bind fun x => (turnOpd y).map fun y => .bin op x y
    | _ => none
  | .unOp op _ x => (turnOpd x).map (.un op)
  | .convert s d x => (P.underlying s).bind fun _ => (P.underlying d).bind fun D => (turnOpd x).map (.conv D)
  | .makeInterface t x => (P.underlying t).bind fun _ => if isIface P t then none else (turnOpd x).map (.mkif t)
  | .makeFunc fn first captured => (turnOpds first.toList).bind fun a => (turnOpds captured.toList).map fun b => .mkfn fn a b
  | .makeSlice t l c => (elemOfSlice P t).bind fun e => (tzero P e.1).bind fun z => (turnOpd l).bind fun l => (turnOpd c).map fun c => .mksl e.2.1 e.2.2 z l c
  | .slice t x lo hi mx => (elemOfSlice P t).bind fun e => (turnOpd x).bind fun x =>
      match lo, hi, mx with
      | none, none, none => some (.sli e.2.1 x none none)
      | some l, none, none => (turnOpd l).map fun l => .sli e.2.1 x (some l) none
      | none, some h, none => (turnOpd h).map fun h => .sli e.2.1 x none (some h)
      | some l, some h, none => (turnOpd l).bind fun l => (turnOpd h).map fun h => .sli e.2.1 x (some l) (some h)
      | none, some (.const (.int _ 0)), some (.const (.int _ 0)) => some (.sli0 x)
      | _, _, _ => none
  | .fieldAddr t x k => match P.underlying t with
    | some (.struct fs) => (fs[k]?).bind fun f => (P.info? f.type).bind fun i => if i.size = 0 then none else (turnOpd x).map (.fad f.offset)
    | _ => none
  | .field t x k => match P.underlying t with
    | some (.struct fs) => (fs[k]?).bind fun f => (tsz P f.type).bind fun s => (turnOpd x).map (.fld f.offset s.1 s.2)
    | _ => none
  | .indexAddr t x i => match P.underlying t with
    | some (.slice e) => (P.info? e).bind fun s => (turnOpd x).bind fun x => (turnOpd i).map fun i => .iad s.size x i
    | some (.array n e) => (P.info? e).bind fun s => (turnOpd x).bind fun x => (turnOpd i).map fun i => .iarr s.size n x i
    | _ => none
  | .index t x i => match P.underlying t with
    | some (.array n e) => (tsz P e).bind fun s => (turnOpd x).bind fun x => (turnOpd i).map fun i => .idx s.1 s.2 n x i
    | some .string => (turnOpd x).bind fun x => (turnOpd i).map fun i => .idxs x i
    | _ => none
  | .typeAssert x _ t ok => (P.underlying t).bind fun _ => (P.info? t).bind fun i => i.zero.bind fun z => if ok ∧ okConst z ∧ ¬ isIface P t then (turnOpd x).map (.ta t (toD z)) else none
  | .extract x k => (turnOpd x).map (.ext · k)
  | .call c => turnCall P o.type c
  | _ => none

/-- As `OK`, of what an operation of the machine hands on. -/
def OKX (B : Nat) (K : Nat → Prop) (r : Rho) (w : World) (x : Result Next) (d : DV) (H' : Heap) : Prop :=
  ∃ v w' K' r', (x = .ok (.value v) w' ∨ (x = .ok .skip w' ∧ v = undef)) ∧ Ch B K r w K' r' w' ∧ HR B K' r' H' w' ∧ VR w' K' r' d v

theorem OK.x {s : Sem Value} {d : DV} (h : OK B K r w (s.run P w) d H') : OKX B K r w ((do Pure.pure (Next.value (← s)) : Sem Next).run P w) d H' := by
  obtain ⟨v, w', K', r', h1, h2⟩ := h
  exact ⟨v, w', K', r', .inl (by simp [h1]), h2⟩
theorem OKX.pure (h : HR B K r H w) {x : Result Next} {v : Value} {d : DV} (hx : x = .ok (.value v) w) (hv : VR w K r d v) : OKX B K r w x d H :=
  ⟨v, w, K, r, .inl hx, Ch.refl _ _ _ _, h, hv⟩

end Go.Proofs.Ytjbcgjgomhbmgaa

/-  Data values: an operation that was turned does on memory what it does on data. -/
namespace Go.Proofs.Ytjbcgjgomhbmgaa
open Go.RowKit
set_option linter.unusedVariables false
set_option linter.constructorNameAsVariable false
set_option linter.unusedSimpArgs false

variable {P : Program} {w w' : World} {K K' : Nat → Prop} {r r' : Rho} {H H' : Heap} {B : Nat}

theorem scalar_VR {d : DV} {v u : Value} (h : VR w K r d v) (hs : scalar d = some u) : v = u := by
  cases h <;> simp [scalar] at hs
  exact hs
theorem intD_VR {d : DV} {v : Value} {n : Int} (h : VR w K r d v) (hs : intD d = some n) : ∃ k, v = .int k n := by
  cases h with
  | x _ v => cases v <;> simp [intD] at hs; subst hs; exact ⟨_, rfl⟩
  | _ => simp [intD] at hs
theorem isSlice_VR {d : DV} {v : Value} (h : VR w K r d v) (hs : isSlice d = true) : ∃ a n c, v = .slice a n c := by
  cases h <;> first | exact ⟨_, _, _, rfl⟩ | simp [isSlice] at hs

theorem opds_ok {e : Env} {a : Act} (h : TR w K r e a) : ∀ {xs : List Operand} {ys : List Opd}, turnOpds xs = some ys → ys.length = xs.length ∧ ∀ (j : Nat) (y : Opd), ys[j]? = some y → ∃ x, xs[j]? = some x ∧ VR w K r (y.ev e) (a.eval x)
  | [], ys, hy => by simp [turnOpds] at hy; subst hy; exact ⟨rfl, fun j y h => by simp at h⟩
  | x :: xs, ys, hy => by
    simp only [turnOpds, List.mapM_cons, Option.bind_eq_bind, Option.bind_eq_some_iff] at hy
    obtain ⟨y, hy1, ys', hy2, hy3⟩ := hy
    simp at hy3
    subst hy3
    obtain ⟨h1, h2⟩ := opds_ok h (xs := xs) (ys := ys') hy2
    refine ⟨by simp [h1], fun j z hz => ?_⟩
    cases j with
    | zero => simp at hz; subst hz; exact ⟨x, by simp, opd_ok h hy1⟩
    | succ j => obtain ⟨x', h3, h4⟩ := h2 j z (by simpa using hz); exact ⟨x', by simpa using h3, h4⟩

theorem scalars_ok {e : Env} {a : Act} (h : TR w K r e a) : ∀ {xs : List Operand} {ys : List Opd} {vs : List Value}, turnOpds xs = some ys → scalars e ys = some vs → xs.map a.eval = vs
  | [], ys, vs, hy, hv => by simp [turnOpds] at hy; subst hy; simp [scalars] at hv; subst hv; rfl
  | x :: xs, ys, vs, hy, hv => by
    simp only [turnOpds, List.mapM_cons, Option.bind_eq_bind, Option.bind_eq_some_iff] at hy
    obtain ⟨y, hy1, ys', hy2, hy3⟩ := hy
    simp at hy3
    subst hy3
    simp only [scalars, Option.bind_eq_some_iff, Option.map_eq_some_iff] at hv
    obtain ⟨v, hv1, vs', hv2, rfl⟩ := hv
    rw [List.map_cons, scalars_ok h (xs := xs) hy2 hv2, scalar_VR (opd_ok h hy1) hv1]

theorem tzero_each {t : TypeId} {z : List DV} (h : tzero P t = some z) : ∃ i v, P.info? t = some i ∧ i.zero = some v ∧ v.cells.size = i.size ∧ ∀ (w : World) (K : Nat → Prop) (r : Rho), Each w K r z v.cells := by
  unfold tzero at h
  simp only [Option.bind_eq_some_iff] at h
  obtain ⟨i, hi, v, hv, h⟩ := h
  split at h
  · rename_i hc
    simp at h
    subst h
    exact ⟨i, v, hi, hv, hc.2, fun _ _ _ => each_toD hc.1⟩
  · simp at h

theorem elem_ok {t : TypeId} {e : TypeId × Nat × Nat} (h : elemOfSlice P t = some e) : ∃ i, P.underlying t = some (.slice e.1) ∧ P.info? e.1 = some i ∧ e.2.1 = i.size ∧ e.2.2 = i.bytes := by
  unfold elemOfSlice at h
  split at h
  · rename_i u hu
    simp only [Option.map_eq_some_iff] at h
    obtain ⟨i, hi, rfl⟩ := h
    exact ⟨i, hu, hi, rfl, rfl⟩
  · simp at h

theorem bound_ok {e : Env} {a : Act} (h : TR w K r e a) {x : Operand} {y : Opd} (hx : turnOpd x = some y) {o : Option Int} (hb : boundD e (some y) = some o) : ∃ k n, a.eval x = .int k n ∧ o = some n := by
  simp only [boundD, Option.map_eq_some_iff] at hb
  obtain ⟨n, hn, rfl⟩ := hb
  obtain ⟨k, hk⟩ := intD_VR (opd_ok h hx) hn
  exact ⟨k, n, hk, rfl⟩

theorem tsz_ok {t : TypeId} {s : Nat × Bool} (h : tsz P t = some s) : ∃ i D, P.info? t = some i ∧ P.underlying t = some D ∧ s.1 = i.size ∧ s.2 = isAggD D := by
  simp only [tsz, Option.bind_eq_some_iff, Option.map_eq_some_iff] at h
  obtain ⟨i, hi, D, hD, rfl⟩ := h
  exact ⟨i, D, hi, hD, rfl, rfl⟩

theorem call_ok (h : HR B K r H w) {e : Env} {a : Act} (ht : TR w K r e a) (n : Path) {ty : TypeId} {c : Call} {d : DOp} (hd : turnCall P ty c = some d) {x : DV} (hx : stepD n e H d = some (x, H')) :
    OKX B K r w ((do let d ← resolve a.eval c ty; invoke d.target d.args : Sem Next).run P w) x H' := by
  obtain ⟨callee, args, argTypes⟩ := c
  unfold turnCall at hd
  split at hd
  · -- len
    rename_i hc
    simp only at hc
    subst hc
    split at hd
    · rename_i x' t hxa hta
      have hargs : args = #[x'] := by apply Array.ext'; simpa using hxa
      have hats : argTypes = #[t] := by apply Array.ext'; simpa using hta
      subst hargs; subst hats
      have hcall : (do let d ← resolve a.eval { callee := .builtin .len, args := #[x'], argTypes := #[t] } ty; invoke d.target d.args : Sem Next) = (do Pure.pure (Next.value (← Builtin.len_ #[t] ty #[a.eval x'])) : Sem Next) := by
        show (do Pure.pure (Next.value (← Builtin.len_ #[t] ty (#[x'].map a.eval))) : Sem Next) = _
        rw [show #[x'].map a.eval = #[a.eval x'] by simp]
      rw [hcall]
      split at hd
      · rename_i hu
        simp only [Option.map_eq_some_iff] at hd
        obtain ⟨y, hy, rfl⟩ := hd
        simp only [stepD, Option.map_eq_some_iff] at hx
        obtain ⟨m, hm, hx⟩ := hx
        simp only [Prod.mk.injEq] at hx
        obtain ⟨rfl, rfl⟩ := hx
        exact (OK.pure h (lens_ok hu (opd_ok ht hy) hm) (.x _ _)).x
      · rename_i e hu
        simp only [Option.map_eq_some_iff] at hd
        obtain ⟨y, hy, rfl⟩ := hd
        simp only [stepD, Option.map_eq_some_iff] at hx
        obtain ⟨m, hm, hx⟩ := hx
        simp only [Prod.mk.injEq] at hx
        obtain ⟨rfl, rfl⟩ := hx
        exact (OK.pure h (len_ok hu (opd_ok ht hy) hm) (.x _ _)).x
      · simp at hd
    · simp at hd
  · -- append
    rename_i hc
    simp only at hc
    subst hc
    split at hd
    · rename_i x' y' t u hxa hta
      have hargs : args = #[x', y'] := by apply Array.ext'; simpa using hxa
      have hats : argTypes = #[t, u] := by apply Array.ext'; simpa using hta
      subst hargs; subst hats
      have hcall : (do let d ← resolve a.eval { callee := .builtin .append, args := #[x', y'], argTypes := #[t, u] } ty; invoke d.target d.args : Sem Next) = (do Pure.pure (Next.value (← Builtin.append_ #[t, u] ty #[a.eval x', a.eval y'])) : Sem Next) := by
        show (do Pure.pure (Next.value (← Builtin.append_ #[t, u] ty (#[x', y'].map a.eval))) : Sem Next) = _
        rw [show #[x', y'].map a.eval = #[a.eval x', a.eval y'] by simp]
      rw [hcall]
      split at hd
      · rename_i el eu hu hu2
        simp only [Option.bind_eq_some_iff, Option.map_eq_some_iff] at hd
        obtain ⟨z, hz, i, hi, x1, hx1, y1, hy1, rfl⟩ := hd
        obtain ⟨i', zv, hi', hzv, hzs, _⟩ := tzero_each hz
        rw [hi] at hi'
        cases hi'
        exact (app_ok h n hu hu2 hi hzv hzs (opd_ok ht hx1) (opd_ok ht hy1) hx).x
      · simp at hd
    · simp at hd
  · -- copy
    rename_i hc
    simp only at hc
    subst hc
    split at hd
    · rename_i x' y' t u hxa hta
      have hargs : args = #[x', y'] := by apply Array.ext'; simpa using hxa
      have hats : argTypes = #[t, u] := by apply Array.ext'; simpa using hta
      subst hargs; subst hats
      have hcall : (do let d ← resolve a.eval { callee := .builtin .copy, args := #[x', y'], argTypes := #[t, u] } ty; invoke d.target d.args : Sem Next) = (do Pure.pure (Next.value (← Builtin.copy_ #[t, u] ty #[a.eval x', a.eval y'])) : Sem Next) := by
        show (do Pure.pure (Next.value (← Builtin.copy_ #[t, u] ty (#[x', y'].map a.eval))) : Sem Next) = _
        rw [show #[x', y'].map a.eval = #[a.eval x', a.eval y'] by simp]
      rw [hcall]
      split at hd
      · rename_i el eu hu hu2
        simp only [Option.bind_eq_some_iff, Option.map_eq_some_iff] at hd
        obtain ⟨i, hi, x1, hx1, y1, hy1, rfl⟩ := hd
        simp only [stepD, Option.map_eq_some_iff] at hx
        obtain ⟨⟨m, H1⟩, hm, hx⟩ := hx
        simp only [Prod.mk.injEq] at hx
        obtain ⟨rfl, rfl⟩ := hx
        exact (copy_ok h hu hi (opd_ok ht hx1) (opd_ok ht hy1) hm).x
      · simp at hd
    · simp at hd
  all_goals
    try (simp at hd; done)
  all_goals
    rename_i hc
    simp only at hc
    subst hc
    simp only [Option.map_eq_some_iff] at hd
    obtain ⟨ys, hys, rfl⟩ := hd
    simp only [stepD, Option.bind_eq_some_iff, Option.map_eq_some_iff] at hx
    obtain ⟨vs, hvs, v, hv, hx⟩ := hx
    simp only [Prod.mk.injEq] at hx
    obtain ⟨rfl, rfl⟩ := hx
    have hmap : args.map a.eval = vs.toArray := by
      apply Array.ext'
      rw [Array.toList_map]
      exact scalars_ok ht hys hvs
    simp only [blV] at hv
    have hv' := val?_run (P := P) (w := w) hv
    refine OKX.pure h (v := v) ?_ (.x _ _)
  · show ((do Pure.pure (Next.value (← Builtin.min_ argTypes ty (args.map a.eval))) : Sem Next)).run P w = _
    rw [hmap, show Builtin.min_ argTypes ty vs.toArray = Builtin.min_ #[] 0 vs.toArray from rfl]
    simp [hv']
  · show ((do Pure.pure (Next.value (← Builtin.max_ argTypes ty (args.map a.eval))) : Sem Next)).run P w = _
    rw [hmap, show Builtin.max_ argTypes ty vs.toArray = Builtin.max_ #[] 0 vs.toArray from rfl]
    simp [hv']
  · show ((do Pure.pure (Next.value (← Builtin.complex_ argTypes ty (args.map a.eval))) : Sem Next)).run P w = _
    rw [hmap, show Builtin.complex_ argTypes ty vs.toArray = Builtin.complex_ #[] 0 vs.toArray from rfl]
    simp [hv']
  · show ((do Pure.pure (Next.value (← Builtin.real_ argTypes ty (args.map a.eval))) : Sem Next)).run P w = _
    rw [hmap, show Builtin.real_ argTypes ty vs.toArray = Builtin.real_ #[] 0 vs.toArray from rfl]
    simp [hv']
  · show ((do Pure.pure (Next.value (← Builtin.imag_ argTypes ty (args.map a.eval))) : Sem Next)).run P w = _
    rw [hmap, show Builtin.imag_ argTypes ty vs.toArray = Builtin.imag_ #[] 0 vs.toArray from rfl]
    simp [hv']

theorem store_x {s : Sem Unit} {d : DV} (h : ∃ w', s.run P w = .ok () w' ∧ Nx (Lo B K) w w' ∧ HR B K r H' w') : OKX B K r w ((do s; Pure.pure Next.skip : Sem Next).run P w) (.x undef) H' := by
  obtain ⟨w', h1, h2, h3⟩ := h
  exact ⟨undef, w', K, r, .inr ⟨by simp [h1], rfl⟩, Ch.same (Rho.le_refl _) h2, h3, .x _ _⟩

theorem OK.val {s : Sem Value} {v : Value} {d : DV} (h : HR B K r H w) (hs : s.run P w = .ok v w) (hv : VR w K r d v) : OKX B K r w ((do Pure.pure (Next.value (← s)) : Sem Next).run P w) d H :=
  OKX.pure h (v := v) (by simp [hs]) hv

theorem parts_same {place place' : Nat → Option (Nat × Nat)} (h : ∀ k, place k = place' k) {ds : List (Nat × Nat × DV)} {vs : List (Nat × Value)} (hp : Parts w K r place ds vs) : Parts w K r place' ds vs := hp.mono_slice h

theorem step_ok (h : HR B K r H w) {e : Env} {a : Act} (ht : TR w K r e a) (n : Path) {o : Oper} {d : DOp} (hd : turnOp P o = some d) {x : DV} (hx : stepD n e H d = some (x, H')) :
    OKX B K r w ((execOp a.eval o).run P w) x H' := by
  obtain ⟨dst, op, ty, pos, after, guard⟩ := o
  unfold turnOp at hd
  simp only at hd
  cases op with
  | move y =>
    simp only [Option.map_eq_some_iff] at hd
    obtain ⟨z, hz, rfl⟩ := hd
    simp only [stepD, Option.some.injEq, Prod.mk.injEq] at hx
    obtain ⟨rfl, rfl⟩ := hx
    exact OKX.pure h rfl (opd_ok ht hz)
  | assign y =>
    simp only [Option.map_eq_some_iff] at hd
    obtain ⟨z, hz, rfl⟩ := hd
    simp only [stepD, Option.some.injEq, Prod.mk.injEq] at hx
    obtain ⟨rfl, rfl⟩ := hx
    exact OKX.pure h rfl (opd_ok ht hz)
  | pick c p q =>
    simp only [Option.bind_eq_some_iff, Option.map_eq_some_iff] at hd
    obtain ⟨c', hc, p', hp, q', hq, rfl⟩ := hd
    simp only [stepD] at hx
    have hcv := opd_ok ht hc
    split at hx
    · rename_i t hct
      rw [hct] at hcv
      simp only [Option.some.injEq, Prod.mk.injEq] at hx
      obtain ⟨rfl, rfl⟩ := hx
      generalize hv : a.eval c = v at hcv
      cases hcv
      refine OKX.pure h (v := if t then a.eval p else a.eval q) ?_ ?_
      · simp [execOp, hv, asBool]
      · cases t
        · simpa using opd_ok ht hq
        · simpa using opd_ok ht hp
    · simp at hx
  | alloc t =>
    simp only [Option.bind_eq_some_iff] at hd
    obtain ⟨i, hi, z, hz, hd⟩ := hd
    split at hd
    · rename_i ho
      simp only [Option.some.injEq] at hd
      subst hd
      simp only [stepD, Opd.ev] at hx
      have hb := box_ok (P := P) h n t (toD_VR ho) hx
      have hrun : (execOp a.eval ⟨dst, .alloc t, ty, pos, after, guard⟩).run P w = ((do Pure.pure (Next.value (← Instr.box t z)) : Sem Next)).run P w := by
        have hzv : (zeroValue t).run P w = .ok z w := by simp [zeroValue, typeInfo, hi, hz]
        simp [execOp, Instr.alloc, hzv, Instr.box]
      rw [hrun]
      exact hb.x
    · simp at hd
  | box t y =>
    simp only [Option.map_eq_some_iff] at hd
    obtain ⟨z, hz, rfl⟩ := hd
    simp only [stepD] at hx
    exact (box_ok (P := P) h n t (opd_ok ht hz) hx).x
  | build t parts =>
    dsimp only at hd
    split at hd
    · rename_i fs hu
      simp only [Option.bind_eq_some_iff, Option.map_eq_some_iff] at hd
      obtain ⟨z, hz, pl, hpl, ps, hps, rfl⟩ := hd
      simp only [stepD, Option.map_eq_some_iff, Prod.mk.injEq] at hx
      obtain ⟨cs, hcs, rfl, rfl⟩ := hx
      obtain ⟨i, v, hi, hv, _, he⟩ := tzero_each hz
      obtain ⟨u, hu1, hu2⟩ := build_ok (P := P) hu hi hv (he w K r) (places_run hpl) (parts_ok ht hps) hcs
      exact OK.val h hu1 hu2
    · simp at hd
  | buildSlice t m parts =>
    simp only [Option.bind_eq_some_iff] at hd
    obtain ⟨e', he', z, hz, hd⟩ := hd
    split at hd
    · rename_i hlim
      simp only [Option.map_eq_some_iff] at hd
      obtain ⟨ps, hps, rfl⟩ := hd
      simp only [stepD, Option.map_eq_some_iff] at hx
      obtain ⟨cs, hcs, hx⟩ := hx
      obtain ⟨i, hu, hi, h1, h2⟩ := elem_ok he'
      obtain ⟨i', v, hi', hv, hvs, he⟩ := tzero_each hz
      rw [hi] at hi'
      cases hi'
      rw [h1] at hlim hx
      refine (bslice_ok (P := P) h n hu hi hv hvs (he w K r) hlim (parts_same (fun k => by rw [h1]) (parts_ok ht hps)) hcs (d := x) ?_ ?_).x
      · split at hx <;> rename_i h0
        · rw [if_pos h0]; cases hx; rfl
        · rw [if_neg h0, hx]
      · split at hx <;> rename_i h0
        · rw [if_pos h0]; cases hx; rfl
        · rw [if_neg h0, hx]
    · simp at hd
  | load t y =>
    simp only [Option.bind_eq_some_iff, Option.map_eq_some_iff] at hd
    obtain ⟨s, hs, z, hz, rfl⟩ := hd
    simp only [stepD, Option.map_eq_some_iff, Prod.mk.injEq] at hx
    obtain ⟨x', hx', rfl, rfl⟩ := hx
    obtain ⟨i, D, hi, hD, h1, h2⟩ := tsz_ok hs
    rw [h1, h2] at hx'
    exact (ld_ok h hD hi (opd_ok ht hz) hx').x
  | store t y u =>
    simp only [Option.bind_eq_some_iff, Option.map_eq_some_iff] at hd
    obtain ⟨s, hs, z, hz, u', hu', rfl⟩ := hd
    simp only [stepD, Option.map_eq_some_iff, Prod.mk.injEq] at hx
    obtain ⟨H1, hH1, rfl, rfl⟩ := hx
    obtain ⟨i, D, hi, hD, h1, h2⟩ := tsz_ok hs
    rw [h1] at hH1
    exact store_x (d := .x undef) (st_ok h hi (opd_ok ht hz) (opd_ok ht hu') hH1)
  | nilCheck y =>
    simp only [Option.map_eq_some_iff] at hd
    obtain ⟨z, hz, rfl⟩ := hd
    simp only [stepD] at hx
    have hv := opd_ok ht hz
    generalize hu : a.eval y = u at hv
    split at hx
    · rename_i e1
      rw [e1] at hv
      simp only [Option.some.injEq, Prod.mk.injEq] at hx
      obtain ⟨rfl, rfl⟩ := hx
      refine OKX.pure h (v := u) ?_ hv
      cases hv
      simp [execOp, hu]
    · rename_i e1
      rw [e1] at hv
      simp only [Option.some.injEq, Prod.mk.injEq] at hx
      obtain ⟨rfl, rfl⟩ := hx
      refine OKX.pure h (v := u) ?_ hv
      cases hv
      simp [execOp, hu]
    · rename_i e1
      rw [e1] at hv
      simp only [Option.some.injEq, Prod.mk.injEq] at hx
      obtain ⟨rfl, rfl⟩ := hx
      refine OKX.pure h (v := u) ?_ hv
      cases hv
      simp [execOp, hu]
    · simp at hx
  | binOp op t y z yT =>
    dsimp only at hd
    split at hd
    · rename_i el hu
      split at hd
      · rename_i hc
        simp only [Option.map_eq_some_iff] at hd
        obtain ⟨y', hy, rfl⟩ := hd
        simp only [stepD, Option.map_eq_some_iff, Prod.mk.injEq] at hx
        obtain ⟨b, hb, rfl, rfl⟩ := hx
        obtain ⟨a', len, cap, hav, hab⟩ := nil_ok (opd_ok ht hy) hb
        have := eqnil_run (P := P) (w := w) hu (x := y) (y := .const (.slice none 0 0)) (a := a') (len := len) (cap := cap) (isNeq op)
        refine OK.val (s := do eqGuard op t y (.const (.slice none 0 0)) (a.eval y) (.slice none 0 0); Go.binOp op t (a.eval y) (.slice none 0 0)) h (v := .bool (if isNeq op = true then !b else b)) ?_ (.x _ _)
        rw [← isCmp_op hc] at this
        rw [hav, this, hab]
      · simp at hd
    · rename_i ms hu
      split at hd
      · rename_i hc
        simp only [Option.map_eq_some_iff] at hd
        obtain ⟨y', hy, rfl⟩ := hd
        simp only [stepD, Option.map_eq_some_iff, Prod.mk.injEq] at hx
        obtain ⟨b, hb, rfl, rfl⟩ := hx
        have := ifnil_run (P := P) (w := w) hu (x := y) (c := .nilIface) (opd_ok ht hy) hb (isNeq op)
        refine OK.val (s := do eqGuard op t y (.const .nilIface) (a.eval y) .nilIface; Go.binOp op t (a.eval y) .nilIface) h (v := .bool (if isNeq op = true then !b else b)) ?_ (.x _ _)
        rw [← isCmp_op hc] at this
        rw [this]
      · simp at hd
    · rename_i fs hu
      split at hd
      · rename_i hc
        simp only [Option.bind_eq_some_iff, Option.map_eq_some_iff] at hd
        obtain ⟨sh, hsh, y', hy, z', hz, rfl⟩ := hd
        simp only [stepD] at hx
        have hvy := opd_ok ht hy
        have hvz := opd_ok ht hz
        split at hx
        · rename_i cs ds hcs hds
          rw [hcs] at hvy
          rw [hds] at hvz
          simp only [Option.map_eq_some_iff, Prod.mk.injEq] at hx
          obtain ⟨b, hb, rfl, rfl⟩ := hx
          have := eqagg_ok (P := P) (w := w) hsh (by omega) hc.2 (x := y) (y := z) hvy hvz hb (isNeq op)
          refine OK.val (s := do eqGuard op t y z (a.eval y) (a.eval z); Go.binOp op t (a.eval y) (a.eval z)) h (v := .bool (if isNeq op = true then !b else b)) ?_ (.x _ _)
          rw [← isCmp_op hc.1] at this
          rw [this]
        · simp at hx
      · simp at hd
    · rename_i hu
      split at hd
      · rename_i hc
        simp only [Option.bind_eq_some_iff, Option.map_eq_some_iff] at hd
        obtain ⟨y', hy, z', hz, rfl⟩ := hd
        simp only [stepD] at hx
        have hvy := opd_ok ht hy
        have hvz := opd_ok ht hz
        split at hx
        · rename_i p q hp hq
          rw [hp] at hvy
          rw [hq] at hvz
          simp only [Option.some.injEq, Prod.mk.injEq] at hx
          obtain ⟨rfl, rfl⟩ := hx
          have := eqb_ok (P := P) (w := w) hu (x := y) (y := z) (p := p) (q := q) (isNeq op)
          rw [← isCmp_op hc] at this
          have e1 : a.eval y = .bool p := by generalize a.eval y = v at hvy; cases hvy; rfl
          have e2 : a.eval z = .bool q := by generalize a.eval z = v at hvz; cases hvz; rfl
          refine OK.val (s := do eqGuard op t y z (a.eval y) (a.eval z); Go.binOp op t (a.eval y) (a.eval z)) h (v := .bool (if isNeq op = true then p != q else p == q)) ?_ (.x _ _)
          rw [e1, e2, this]
        · simp at hx
      · simp at hd
    all_goals try (simp at hd; done)
    all_goals
      simp only [Option.bind_eq_some_iff, Option.map_eq_some_iff] at hd
      obtain ⟨y', hy, z', hz, rfl⟩ := hd
      simp only [stepD, Option.bind_eq_some_iff, Option.map_eq_some_iff, Prod.mk.injEq] at hx
      obtain ⟨p, hp, q, hq, c, hc, rfl, rfl⟩ := hx
      have e1 := scalar_VR (opd_ok ht hy) hp
      have e2 := scalar_VR (opd_ok ht hz) hq
      refine OK.val (s := do eqGuard op t y z (a.eval y) (a.eval z); Go.binOp op t (a.eval y) (a.eval z)) h (v := c) ?_ (.x _ _)
      rw [e1, e2]
      exact bin_ok hc
  | unOp op t y =>
    simp only [Option.map_eq_some_iff] at hd
    obtain ⟨y', hy, rfl⟩ := hd
    simp only [stepD, Option.bind_eq_some_iff, Option.map_eq_some_iff, Prod.mk.injEq] at hx
    obtain ⟨p, hp, c, hc, rfl, rfl⟩ := hx
    have e1 := scalar_VR (opd_ok ht hy) hp
    refine OK.val (s := Op.unary op (a.eval y)) h (v := c) ?_ (.x _ _)
    rw [e1]
    exact val?_run hc
  | convert s t y =>
    simp only [Option.bind_eq_some_iff, Option.map_eq_some_iff] at hd
    obtain ⟨S, hS, D, hD, y', hy, rfl⟩ := hd
    simp only [stepD, Option.bind_eq_some_iff, Option.map_eq_some_iff, Prod.mk.injEq] at hx
    obtain ⟨p, hp, c, hc, rfl, rfl⟩ := hx
    have e1 := scalar_VR (opd_ok ht hy) hp
    refine OK.val (s := Go.convert s t (a.eval y)) h (v := c) ?_ (.x _ _)
    rw [e1]
    exact conv_ok hS hD hc
  | makeInterface t y =>
    simp only [Option.bind_eq_some_iff] at hd
    obtain ⟨D, hD, hd⟩ := hd
    split at hd
    · simp at hd
    · rename_i hi
      simp only [Option.map_eq_some_iff] at hd
      obtain ⟨y', hy, rfl⟩ := hd
      simp only [stepD, Option.some.injEq, Prod.mk.injEq] at hx
      obtain ⟨rfl, rfl⟩ := hx
      obtain ⟨u, h1, h2⟩ := mkif_ok (P := P) (w := w) hD (fun ms e => by subst e; simp [isIface, hD] at hi) (opd_ok ht hy)
      exact OK.val h h1 h2
  | makeFunc fn fs cs =>
    simp only [Option.bind_eq_some_iff, Option.map_eq_some_iff] at hd
    obtain ⟨fs', hfs, cs', hcs, rfl⟩ := hd
    simp only [stepD, Option.some.injEq, Prod.mk.injEq] at hx
    obtain ⟨rfl, rfl⟩ := hx
    obtain ⟨l1, g1⟩ := opds_ok ht hfs
    obtain ⟨l2, g2⟩ := opds_ok ht hcs
    have each : ∀ {xs : Array Operand} {ys : List Opd}, ys.length = xs.toList.length → (∀ (j : Nat) (y : Opd), ys[j]? = some y → ∃ x, xs.toList[j]? = some x ∧ VR w K r (y.ev e) (a.eval x)) → ∀ (j : Nat) (d : DV), (ys.map (·.ev e))[j]? = some d → VR w K r d ((xs.map a.eval).getD j undef) := by
      intro xs ys hl hg j d hj
      simp only [List.getElem?_map, Option.map_eq_some_iff] at hj
      obtain ⟨y, hy, rfl⟩ := hj
      obtain ⟨x, hx, hv⟩ := hg j y hy
      have hxs : xs[j]? = some x := by simpa using hx
      have hlt := (Array.getElem?_eq_some_iff.1 hxs).1
      have he := (Array.getElem?_eq_some_iff.1 hxs).2
      simpa [Array.getD, hlt, he] using hv
    obtain ⟨v, h1, h2⟩ := mkfn_ok (P := P) (w := w) (K := K) (r := r) (fn := fn) (fs := fs'.map (·.ev e)) (cs := cs'.map (·.ev e)) (fa := fs.map a.eval) (ca := cs.map a.eval) (by simp [l1]) (by simp [l2]) (each (by simpa using l1) g1) (each (by simpa using l2) g2)
    exact OK.val h h1 h2
  | makeSlice t y z =>
    simp only [Option.bind_eq_some_iff, Option.map_eq_some_iff] at hd
    obtain ⟨e', he', zz, hz, y', hy, z', hz', rfl⟩ := hd
    simp only [stepD, Option.bind_eq_some_iff] at hx
    obtain ⟨l, hl, c, hc, hx⟩ := hx
    split at hx
    · rename_i hcond
      obtain ⟨c1, c2, c3, c4⟩ := hcond
      obtain ⟨i, hu, hi, h1, h2⟩ := elem_ok he'
      obtain ⟨i', v, hi', hv, hvs, he⟩ := tzero_each hz
      rw [hi] at hi'
      cases hi'
      obtain ⟨k1, e1⟩ := intD_VR (opd_ok ht hy) hl
      obtain ⟨k2, e2⟩ := intD_VR (opd_ok ht hz') hc
      simp only [Option.some.injEq] at hx
      rw [h1] at hx
      rw [h2] at c4
      have := mksl_ok (P := P) h n hu hi hv hvs (he w K r) (kl := k1) (kc := k2) c1 c2 c3 c4 (d := x) (H' := H')
        (by split at hx <;> rename_i h0
            · rw [if_pos h0]; cases hx; rfl
            · rw [if_neg h0, hx])
        (by split at hx <;> rename_i h0
            · rw [if_pos h0]; cases hx; rfl
            · rw [if_neg h0, hx])
      rw [← e1, ← e2] at this
      exact this.x
    · simp at hx
  | slice t y lo hi mx =>
    simp only [Option.bind_eq_some_iff] at hd
    obtain ⟨e', he', y', hy, hd⟩ := hd
    obtain ⟨i, hu, hi', h1, h2⟩ := elem_ok he'
    have main : ∀ (lo' hi'' : Option Opd) (ol oh : Option Int) (kl kh : IntKind), d = .sli e'.2.1 y' lo' hi'' → boundD e lo' = some ol → boundD e hi'' = some oh → lo.map a.eval = ol.map (.int kl) → hi.map a.eval = oh.map (.int kh) → mx = none →
        OKX B K r w ((execOp a.eval ⟨dst, .slice t y lo hi mx, ty, pos, after, guard⟩).run P w) x H' := by
      intro lo' hi'' ol oh kl kh e1 e2 e3 e4 e5 e6
      subst e1
      simp only [stepD, e2, e3, Option.bind_some, Option.map_eq_some_iff, Prod.mk.injEq] at hx
      obtain ⟨x', hx', rfl, rfl⟩ := hx
      rw [h1] at hx'
      have := sli_ok (P := P) h hu hi' ol oh kl kh (opd_ok ht hy) hx'
      rw [← e4, ← e5] at this
      subst e6
      exact this.x
    split at hd
    · simp only [Option.some.injEq] at hd
      exact main none none none none .i64 .i64 hd.symm rfl rfl rfl rfl rfl
    · simp only [Option.map_eq_some_iff] at hd
      obtain ⟨l, hl, hd⟩ := hd
      cases hb : boundD e (some l) with
      | none => subst hd; simp [stepD, hb] at hx
      | some ol =>
        obtain ⟨k, m, g1, g2⟩ := bound_ok ht hl hb
        exact main (some l) none ol none k .i64 hd.symm hb rfl (by simp [g1, g2]) rfl rfl
    · simp only [Option.map_eq_some_iff] at hd
      obtain ⟨l, hl, hd⟩ := hd
      cases hb : boundD e (some l) with
      | none => subst hd; simp only [stepD, hb, Option.bind_none, Option.bind_some] at hx; simp [boundD] at hx
      | some ol =>
        obtain ⟨k, m, g1, g2⟩ := bound_ok ht hl hb
        exact main none (some l) none ol .i64 k hd.symm rfl hb rfl (by simp [g1, g2]) rfl
    · simp only [Option.bind_eq_some_iff, Option.map_eq_some_iff] at hd
      obtain ⟨l, hl, l2, hl2, hd⟩ := hd
      cases hb : boundD e (some l) with
      | none => subst hd; simp [stepD, hb] at hx
      | some ol =>
        cases hb2 : boundD e (some l2) with
        | none => subst hd; simp [stepD, hb, hb2] at hx
        | some oh =>
          obtain ⟨k, m, g1, g2⟩ := bound_ok ht hl hb
          obtain ⟨k2, m2, g3, g4⟩ := bound_ok ht hl2 hb2
          exact main (some l) (some l2) ol oh k k2 hd.symm hb hb2 (by simp [g1, g2]) (by simp [g3, g4]) rfl
    · simp only [Option.some.injEq] at hd
      subst hd
      simp only [stepD] at hx
      split at hx
      · rename_i hs
        simp only [Option.some.injEq, Prod.mk.injEq] at hx
        obtain ⟨rfl, rfl⟩ := hx
        obtain ⟨a', m, c, hv⟩ := isSlice_VR (opd_ok ht hy) hs
        have := sli0_ok (P := P) h hu hi' (a := a') (len := m) (cap := c) (by assumption) (by assumption)
        rw [← hv] at this
        exact this.x
      · simp at hx
    · simp at hd
  | fieldAddr t y k =>
    dsimp only at hd
    split at hd
    · rename_i fs hu
      simp only [Option.bind_eq_some_iff] at hd
      obtain ⟨f, hf, i, hi, hd⟩ := hd
      split at hd
      · simp at hd
      · rename_i hs
        simp only [Option.map_eq_some_iff] at hd
        obtain ⟨y', hy, rfl⟩ := hd
        simp only [stepD, Option.map_eq_some_iff, Prod.mk.injEq] at hx
        obtain ⟨x', hx', rfl, rfl⟩ := hx
        exact (fad_ok (P := P) h hu hf hi hs (opd_ok ht hy) hx').x
    · simp at hd
  | field t y k =>
    dsimp only at hd
    split at hd
    · rename_i fs hu
      simp only [Option.bind_eq_some_iff, Option.map_eq_some_iff] at hd
      obtain ⟨f, hf, s, hs, y', hy, rfl⟩ := hd
      obtain ⟨i, D, hi, hD, h1, h2⟩ := tsz_ok hs
      simp only [stepD] at hx
      have hv := opd_ok ht hy
      split at hx
      · rename_i cs hcs
        rw [hcs] at hv
        simp only [Option.map_eq_some_iff, Prod.mk.injEq] at hx
        obtain ⟨x', hx', rfl, rfl⟩ := hx
        rw [h1, h2] at hx'
        obtain ⟨u, g1, g2⟩ := field_ok (P := P) hu hf hD hi hv hx'
        exact OK.val h g1 g2
      · simp at hx
    · simp at hd
  | indexAddr t y j =>
    dsimp only at hd
    split at hd
    · rename_i el hu
      simp only [Option.bind_eq_some_iff, Option.map_eq_some_iff] at hd
      obtain ⟨i, hi, y', hy, j', hj, rfl⟩ := hd
      simp only [stepD, Option.bind_eq_some_iff, Option.map_eq_some_iff, Prod.mk.injEq] at hx
      obtain ⟨m, hm, x', hx', rfl, rfl⟩ := hx
      obtain ⟨k, hk⟩ := intD_VR (opd_ok ht hj) hm
      have := iad_ok (P := P) h hu hi (kd := k) (opd_ok ht hy) hx'
      rw [← hk] at this
      exact this.x
    · rename_i cnt el hu
      simp only [Option.bind_eq_some_iff, Option.map_eq_some_iff] at hd
      obtain ⟨i, hi, y', hy, j', hj, rfl⟩ := hd
      simp only [stepD, Option.bind_eq_some_iff] at hx
      obtain ⟨m, hm, hx⟩ := hx
      split at hx
      · rename_i hc
        simp only [Option.map_eq_some_iff, Prod.mk.injEq] at hx
        obtain ⟨x', hx', rfl, rfl⟩ := hx
        obtain ⟨k, hk⟩ := intD_VR (opd_ok ht hj) hm
        have := iarr_ok (P := P) h hu hi (kd := k) hc.1 hc.2 (opd_ok ht hy) hx'
        rw [← hk] at this
        exact this.x
      · simp at hx
    · simp at hd
  | index t y j =>
    dsimp only at hd
    split at hd
    · rename_i cnt el hu
      simp only [Option.bind_eq_some_iff, Option.map_eq_some_iff] at hd
      obtain ⟨s, hs, y', hy, j', hj, rfl⟩ := hd
      obtain ⟨i, D, hi, hD, h1, h2⟩ := tsz_ok hs
      simp only [stepD, Option.bind_eq_some_iff] at hx
      obtain ⟨m, hm, hx⟩ := hx
      have hv := opd_ok ht hy
      split at hx
      · rename_i cs hcs
        rw [hcs] at hv
        split at hx
        · rename_i hc
          simp only [Option.map_eq_some_iff, Prod.mk.injEq] at hx
          obtain ⟨x', hx', rfl, rfl⟩ := hx
          rw [h1, h2] at hx'
          obtain ⟨k, hk⟩ := intD_VR (opd_ok ht hj) hm
          obtain ⟨u, g1, g2⟩ := index_ok (P := P) hu hD hi (kd := k) hc.1 hc.2 hv hx'
          rw [← hk] at g1
          exact OK.val h g1 g2
        · simp at hx
      · simp at hx
    · rename_i hu
      simp only [Option.bind_eq_some_iff, Option.map_eq_some_iff] at hd
      obtain ⟨y', hy, j', hj, rfl⟩ := hd
      simp only [stepD, Option.bind_eq_some_iff] at hx
      obtain ⟨m, hm, hx⟩ := hx
      have hv := opd_ok ht hy
      split at hx
      · rename_i s hs
        rw [hs] at hv
        split at hx
        · rename_i hc
          simp only [Option.some.injEq, Prod.mk.injEq] at hx
          obtain ⟨rfl, rfl⟩ := hx
          obtain ⟨k, hk⟩ := intD_VR (opd_ok ht hj) hm
          have g1 := indexs_ok (P := P) (w := w) hu (kd := k) hc.1 hc.2
          rw [← hk] at g1
          generalize hav : a.eval y = av at hv
          cases hv
          rw [← hav] at g1
          exact OK.val h g1 (.x _ _)
        · simp at hx
      · simp at hx
    · simp at hd
  | typeAssert y xT t ok =>
    simp only [Option.bind_eq_some_iff] at hd
    obtain ⟨D, hD, i, hi, z, hz, hd⟩ := hd
    split at hd
    · rename_i hc
      obtain ⟨rfl, ho, hni⟩ := hc
      simp only [Option.map_eq_some_iff] at hd
      obtain ⟨y', hy, rfl⟩ := hd
      simp only [stepD] at hx
      have hv := opd_ok ht hy
      split at hx
      · rename_i u d' hd'
        rw [hd'] at hv
        simp only [Option.some.injEq, Prod.mk.injEq] at hx
        obtain ⟨rfl, rfl⟩ := hx
        obtain ⟨v, g1, g2⟩ := ta_ok (P := P) (w := w) (xT := xT) hD (fun ms e => by subst e; simp [isIface, hD] at hni) hi hz (toD_VR ho) hv
        exact OK.val h g1 g2
      · simp at hx
    · simp at hd
  | extract y k =>
    simp only [Option.map_eq_some_iff] at hd
    obtain ⟨y', hy, rfl⟩ := hd
    simp only [stepD] at hx
    have hv := opd_ok ht hy
    split at hx
    · rename_i vs hvs
      rw [hvs] at hv
      simp only [Option.map_eq_some_iff, Prod.mk.injEq] at hx
      obtain ⟨x', hx', rfl, rfl⟩ := hx
      obtain ⟨u, g1, g2⟩ := ext_ok (P := P) hv hx'
      exact OK.val h g1 g2
    · simp at hx
  | call c => exact call_ok h ht n hd hx
  | _ => simp at hd

end Go.Proofs.Ytjbcgjgomhbmgaa

/-  Data values: instructions, one behind the other; what a call may be said to do. -/
namespace Go.Proofs.Ytjbcgjgomhbmgaa
open Go.RowKit
set_option linter.unusedVariables false
set_option linter.constructorNameAsVariable false
set_option linter.unusedSimpArgs false

variable {P : Program} {w w' : World} {K K' : Nat → Prop} {r r' : Rho} {H H' : Heap} {B : Nat}

inductive DEnd where
  | ret (d : DV)
  | pan (d : DV)

def EndR (w : World) (K : Nat → Prop) (r : Rho) : DEnd → Ending → Prop
  | .ret d, .returned v => VR w K r d v
  | .pan d, .panicked chain => ∃ v, chain = [{ v, recovered := false }] ∧ VR w K r d v
  | _, _ => False

/-- Values, one for one. -/
def VRs (w : World) (K : Nat → Prop) (r : Rho) (ds : List DV) (vs : Array Value) : Prop :=
  vs.size = ds.length ∧ ∀ (j : Nat) (d : DV), ds[j]? = some d → VR w K r d (vs.getD j undef)

/-- What a call does, by data: with these arguments, and this memory of the caller's own, it ends so. -/
def SpecH (P : Program) (f : FuncId) (args : List DV) (H : Heap) (R : DEnd → Heap → Prop) : Prop :=
  ∀ (B : Nat) (K : Nat → Prop) (r : Rho) (w : World) (vs : Array Value), HR B K r H w → VRs w K r args vs →
    Calls P f vs w fun e w' => ∃ d H' K' r', R d H' ∧ Ch B K r w K' r' w' ∧ HR B K' r' H' w' ∧ EndR w' K' r' d e

theorem SpecH.mono {f : FuncId} {args : List DV} {R R' : DEnd → Heap → Prop} (h : SpecH P f args H R) (hr : ∀ d H', R d H' → R' d H') : SpecH P f args H R' :=
  fun B K r w vs h1 h2 => (h B K r w vs h1 h2).mono fun _ _ ⟨d, H', K', r', g1, g2⟩ => ⟨d, H', K', r', hr _ _ g1, g2⟩

inductive DX where
  | normal
  | exit (id : Nat)
  | goto (l : Nat)
  | ret
  | pan (d : DV)

def XR (w : World) (K : Nat → Prop) (r : Rho) : DX → Exit → Prop
  | .normal, .normal => True
  | .exit i, .exit j => i = j
  | .goto i, .goto j => i = j
  | .ret, .ret => True
  | .pan d, .panic chain => ∃ v, chain = [{ v, recovered := false }] ∧ VR w K r d v
  | _, _ => False

/-- The state by data. -/
structure SR (B N : Nat) (K : Nat → Prop) (r : Rho) (e : Env) (H : Heap) (a : Act) (w : World) : Prop where
  size : a.tmps.size = N
  tr : TR w K r e a
  hr : HR B K r H w

/-- The machine's exit stands to the data's, from a world on. -/
def LQ (B N : Nat) (K : Nat → Prop) (r : Rho) (w : World) (ds : List Deferred) (Q : DX → Env → Heap → Prop) : Exit → Act → World → Prop := fun ex a' w' =>
  ∃ x e' H' K' r', XR w' K' r' x ex ∧ Q x e' H' ∧ a'.defers = ds ∧ SR B N K' r' e' H' a' w' ∧ Ch B K r w K' r' w'

theorem LQ.trans {N : Nat} {ds : List Deferred} {Q : DX → Env → Heap → Prop} {ex : Exit} {a' : Act} {w0 w w' : World} {K0 : Nat → Prop} {r0 : Rho} (c : Ch B K0 r0 w0 K r w) (h : LQ B N K r w ds Q ex a' w') : LQ B N K0 r0 w0 ds Q ex a' w' := by
  obtain ⟨x, e', H', K', r', h1, h2, h3, h4, h5⟩ := h
  exact ⟨x, e', H', K', r', h1, h2, h3, h4, c.trans h5⟩

def Env.put (e : Env) (dst : Option Nat) (d : DV) : Env :=
  match dst with
  | some t => e.upd t d
  | none => e

inductive DK where
  | op (o : DOp)
  | call (f : FuncId) (args : List Opd)
  | callv (x : Opd) (args : List Opd)
  | panic (x : Opd)

structure DI where
  dst : Option Nat
  guard : Option (Nat × Bool)
  k : DK

def callable (P : Program) (f : FuncId) : Bool :=
  match P.funcs[f]? with
  | some fn => fn.name != "runtime.NumGoroutine" && fn.body.isSome
  | none => false

theorem callFunc_run {f : FuncId} (h : callable P f = true) (args : Array Value) : (callFunc f args).run P w = .ok (.enter f args) w := by
  unfold callable at h
  split at h
  · rename_i fn hf
    simp only [Bool.and_eq_true, bne_iff_ne, ne_eq] at h
    obtain ⟨h1, h2⟩ := h
    have h3 : fn.body ≠ none := by intro e; simp [e] at h2
    simp [callFunc, hf, h1, h3]
  · simp at h

/-- What follows a call. -/
def afterCall (Q : DX → Env → Heap → Prop) (e : Env) (k : DV → Heap → Prop) : DEnd → Heap → Prop
  | .ret d, H => k d H
  | .pan d, H => Q (.pan d) e H

/-- One instruction: what must hold ahead of it. -/
def runK (P : Program) (n : Path) (Q : DX → Env → Heap → Prop) (e : Env) (H : Heap) (next : DV → Heap → Prop) : DK → Prop
  | .op o => match stepD n e H o with
    | some (d, H') => next d H'
    | none => False
  | .call f args => callable P f = true ∧ SpecH P f (args.map (·.ev e)) H (afterCall Q e next)
  | .callv x args => match x.ev e with
    | .f (.func f) first cap => callable P f = true ∧ SpecH P f (first ++ args.map (·.ev e) ++ cap) H (afterCall Q e next)
    | _ => False
  | .panic x => match x.ev e with
    | .i t d => Q (.pan (.i t d)) e H
    | _ => False

def guardP (e : Env) (g : Option (Nat × Bool)) (run skip : Prop) : Prop :=
  match g with
  | none => run
  | some (s, want) => match e s with
    | .x (.bool b) => if b = want then run else skip
    | .x (.tuple _) => skip
    | _ => False

/-- Instructions in their order: what must hold ahead of them. -/
def wpI (P : Program) (n : Path) (Q : DX → Env → Heap → Prop) : List DI → Env → Heap → Prop
  | [], e, H => Q .normal e H
  | i :: is, e, H => guardP e i.guard (runK P (i.dst.getD 0 :: n) Q e H (fun d H' => wpI P n Q is (e.put i.dst d) H') i.k) (wpI P n Q is (e.put i.dst (.x undef)) H)

def turnK (P : Program) (o : Oper) : Option DK :=
  match o.op with
  | .call c => match c.callee with
    | .value (.func f) => (turnOpds c.args.toList).map (.call f)
    | .value x => (turnOpd x).bind fun x => (turnOpds c.args.toList).map (.callv x)
    | _ => (turnOp P o).map .op
  | .panic x => (turnOpd x).map .panic
  | _ => (turnOp P o).map .op

def dstOk (N : Nat) : Option Nat → Bool
  | some t => decide (t < N)
  | none => true

def turnI (P : Program) (N : Nat) (ops : Array Oper) (o : Oper) : Option DI :=
  if dstOk N o.dst = true then
    (turnK P o).bind fun k =>
      match o.guard with
      | none => some ⟨o.dst, none, k⟩
      | some (j, want) => ((ops[j]?).bind (·.dst)).bind fun s => if s < N then some ⟨o.dst, some (s, want), k⟩ else none
  else none

theorem TR.put {e : Env} {a : Act} (h : TR w K r e a) {N : Nat} (hs : a.tmps.size = N) {dst : Option Nat} (hd : dstOk N dst = true) {d : DV} {v : Value} (hv : VR w K r d v) :
    TR w K r (e.put dst d) (a.put dst v) ∧ (a.put dst v).tmps.size = N ∧ (a.put dst v).defers = a.defers := by
  cases dst with
  | none => exact ⟨h, hs, rfl⟩
  | some t =>
    have ht : t < a.tmps.size := by rw [hs]; simpa [dstOk] using hd
    refine ⟨⟨fun u => ?_⟩, by simp [Act.put, hs], rfl⟩
    simp only [Env.put, Env.upd, Act.put]
    by_cases e' : u = t
    · subst e'
      simp [Array.getD, ht, hv]
    · simp only [e', if_false]
      have := h.tmp u
      have h2 : (a.tmps.setIfInBounds t v).getD u undef = a.tmps.getD u undef := by
        simp only [Array.getD_eq_getD_getElem?]
        rw [Array.getElem?_setIfInBounds_ne (Ne.symm e')]
      rw [h2]
      exact this

theorem TR.ch {e : Env} {a : Act} (h : TR w K r e a) (c : Ch B K r w K' r' w') : TR w' K' r' e a :=
  ⟨fun t => (h.tmp t).ch c⟩

theorem args_ok {e : Env} {a : Act} (h : TR w K r e a) {xs : Array Operand} {ys : List Opd} (hy : turnOpds xs.toList = some ys) : VRs w K r (ys.map (·.ev e)) (xs.map a.eval) := by
  obtain ⟨h1, h2⟩ := opds_ok h hy
  refine ⟨by simp [h1], fun j d hj => ?_⟩
  simp only [List.getElem?_map, Option.map_eq_some_iff] at hj
  obtain ⟨y, hy, rfl⟩ := hj
  obtain ⟨x, hx, hv⟩ := h2 j y hy
  have hxs : xs[j]? = some x := by simpa using hx
  have hlt := (Array.getElem?_eq_some_iff.1 hxs).1
  have he := (Array.getElem?_eq_some_iff.1 hxs).2
  simpa [Array.getD, hlt, he] using hv

theorem VRs.append {as bs : List DV} {xs ys : Array Value} (h1 : VRs w K r as xs) (h2 : VRs w K r bs ys) : VRs w K r (as ++ bs) (xs ++ ys) := by
  refine ⟨by simp [h1.1, h2.1], fun j d hj => ?_⟩
  rw [List.getElem?_append] at hj
  simp only [Array.getD_eq_getD_getElem?, Array.getElem?_append]
  have hl := h1.1
  split at hj
  · rw [if_pos (by omega), ← Array.getD_eq_getD_getElem?]; exact h1.2 j d hj
  · rw [if_neg (by omega), hl, ← Array.getD_eq_getD_getElem?]; exact h2.2 _ d hj

theorem guard_wanted {e : Env} {a : Act} (h : TR w K r e a) {ops : Array Oper} {o : Oper} {j s : Nat} {want : Bool} (hg : o.guard = some (j, want)) (hs : (ops[j]?).bind (·.dst) = some s) (hsz : s < a.tmps.size) :
    (∀ b, e s = .x (.bool b) → Region.wanted o (yielded ops a.tmps) = (b == want)) ∧ (∀ vs, e s = .x (.tuple vs) → Region.wanted o (yielded ops a.tmps) = false) := by
  have hv := h.tmp s
  have hgd : a.tmps.getD s undef = a.tmps[s] := by simp [Array.getD, hsz]
  rw [hgd] at hv
  have hq : a.tmps[s]? = some a.tmps[s] := Array.getElem?_eq_getElem hsz
  constructor
  · intro b he
    rw [he] at hv
    generalize hu : a.tmps[s] = u at hv hq
    cases hv
    simp only [Region.wanted, hg, yielded, hs, Option.bind_some, hq]
    cases b <;> cases want <;> rfl
  · intro vs he
    rw [he] at hv
    generalize hu : a.tmps[s] = u at hv hq
    cases hv
    simp only [Region.wanted, hg, yielded, hs, Option.bind_some, hq]
    cases want <;> rfl

theorem turnK_ok {e : Env} {a : Act} {N : Nat} {ds : List Deferred} {n : Path} {ops : Array Oper} {o : Oper} {k : DK} (hk : turnK P o = some k) (hs : SR B N K r e H a w) (hd : a.defers = ds)
    (hdst : dstOk N o.dst = true) {Q : DX → Env → Heap → Prop} {next : DV → Heap → Prop} {K0 : Nat → Prop} {r0 : Rho} {w0 : World} (c : Ch B K0 r0 w0 K r w) {KR : Act → World → Prop}
    (hnext : ∀ d H' K' r' w' v, next d H' → SR B N K' r' (e.put o.dst d) H' (a.put o.dst v) w' → (a.put o.dst v).defers = ds → Ch B K0 r0 w0 K' r' w' → KR (a.put o.dst v) w')
    (hrun : runK P n Q e H next k) :
    o.wp P a w KR (LQ B N K0 r0 w0 ds Q) := by
  -- an operation
  have op : ∀ p, turnOp P o = some p → (match stepD n e H p with | some (d, H') => next d H' | none => False) → o.wp P a w KR (LQ B N K0 r0 w0 ds Q) := by
    intro p hp hrun
    split at hrun
    · rename_i d H' hst
      obtain ⟨v, w', K', r', h1, h2, h5, h6⟩ := step_ok hs.hr hs.tr n hp hst
      have ht := (hs.tr.ch h2).put hs.size hdst h6
      have hn := hnext d H' K' r' w' v hrun ⟨ht.2.1, ht.1, h5⟩ (by rw [ht.2.2, hd]) (c.trans h2)
      unfold Oper.wp
      rcases h1 with h1 | ⟨h1, rfl⟩
      · rw [h1]; exact hn
      · rw [h1]; exact hn
    · exact hrun.elim
  -- a call
  have call : ∀ (f : FuncId) (args : List DV) (vs : Array Value) (x : Result Next), callable P f = true → x = .ok (.enter f vs) w → (execOp a.eval o).run P w = x → VRs w K r args vs → SpecH P f args H (afterCall Q e next) → o.wp P a w KR (LQ B N K0 r0 w0 ds Q) := by
    intro f args vs x hc hx hxx hv hsp
    unfold Oper.wp
    rw [hxx, hx]
    simp only [Oper.upon]
    refine (hsp B K r w vs hs.hr hv).mono ?_
    rintro en w' ⟨d, H', K', r', h1, h2, h5, h6⟩
    cases d with
    | ret d =>
      cases en with
      | returned v =>
        have ht := (hs.tr.ch h2).put hs.size hdst h6
        exact hnext d H' K' r' w' v h1 ⟨ht.2.1, ht.1, h5⟩ (by rw [ht.2.2, hd]) (c.trans h2)
      | panicked => exact h6.elim
      | outgrown => exact h6.elim
    | pan d =>
      cases en with
      | returned v => exact h6.elim
      | panicked chain => exact ⟨.pan d, e, H', K', r', h6, h1, hd, ⟨hs.size, hs.tr.ch h2, h5⟩, c.trans h2⟩
      | outgrown => exact h6.elim
  obtain ⟨dst, opx, ty, pos, after, guard⟩ := o
  unfold turnK at hk
  simp only at hk
  have other : (turnOp P ⟨dst, opx, ty, pos, after, guard⟩).map DK.op = some k → Oper.wp P ⟨dst, opx, ty, pos, after, guard⟩ a w KR (LQ B N K0 r0 w0 ds Q) := by
    intro hk
    simp only [Option.map_eq_some_iff] at hk
    obtain ⟨p, hp, rfl⟩ := hk
    exact op p hp hrun
  cases opx with
  | call c =>
    obtain ⟨callee, args, argTypes⟩ := c
    dsimp only at hk
    cases callee with
    | value f =>
      have callvv : ∀ x, turnOpd f = some x → ∀ args', turnOpds args.toList = some args' → k = .callv x args' → Oper.wp P ⟨dst, .call ⟨.value f, args, argTypes⟩, ty, pos, after, guard⟩ a w KR (LQ B N K0 r0 w0 ds Q) := by
        intro x hx args' ha e1
        subst e1
        simp only [runK] at hrun
        have hv := opd_ok hs.tr hx
        split at hrun
        · rename_i fid first cap hxe
          rw [hxe] at hv
          generalize hav : a.eval f = u at hv
          cases hv with
          | f _ _ _ _ fa ca h1 h2 h3 h4 =>
            refine call fid _ (fa ++ args.map a.eval ++ ca) _ hrun.1 rfl ?_ (VRs.append (VRs.append ⟨h1, h3⟩ (args_ok hs.tr ha)) ⟨h2, h4⟩) hrun.2
            have := callFunc_run (w := w) hrun.1 (fa ++ args.map a.eval ++ ca)
            simpa [execOp, resolve, hav, Deferred.ofValue, invoke] using this
        · exact hrun.elim
      cases f with
      | func fid =>
        dsimp only at hk
        simp only [Option.map_eq_some_iff] at hk
        obtain ⟨args', ha, rfl⟩ := hk
        refine call fid _ (args.map a.eval) _ hrun.1 rfl ?_ (args_ok hs.tr ha) hrun.2
        have := callFunc_run (w := w) hrun.1 (args.map a.eval)
        simpa [execOp, resolve, Act.eval, Deferred.ofValue, invoke] using this
      | tmp t =>
        dsimp only at hk
        simp only [Option.bind_eq_some_iff, Option.map_eq_some_iff] at hk
        obtain ⟨x, hx, args', ha, rfl⟩ := hk
        exact callvv x hx args' ha rfl
      | const v =>
        dsimp only at hk
        simp only [Option.bind_eq_some_iff, Option.map_eq_some_iff] at hk
        obtain ⟨x, hx, args', ha, rfl⟩ := hk
        exact callvv x hx args' ha rfl
      | global g =>
        dsimp only at hk
        simp only [Option.bind_eq_some_iff, Option.map_eq_some_iff] at hk
        obtain ⟨x, hx, args', ha, rfl⟩ := hk
        exact callvv x hx args' ha rfl
    | invoke rv m => exact other hk
    | builtin b => exact other hk
  | panic y =>
    dsimp only at hk
    simp only [Option.map_eq_some_iff] at hk
    obtain ⟨x, hx, rfl⟩ := hk
    simp only [runK] at hrun
    have hv := opd_ok hs.tr hx
    split at hrun
    · rename_i t d hxe
      rw [hxe] at hv
      generalize hav : a.eval y = u at hv
      cases hv with
      | i _ _ _ v hd' =>
        unfold Oper.wp
        have hr : (execOp a.eval ⟨dst, .panic y, ty, pos, after, guard⟩).run P w = .halt (.panic (.iface t v)) w := by simp [execOp, hav, Instr.panic]
        rw [hr]
        exact ⟨.pan (.i t d), e, H, K, r, ⟨_, rfl, .i _ _ _ _ hd'⟩, hrun, hd, hs, c⟩
    · exact hrun.elim
  | _ => exact other hk

theorem wpI_ok {N : Nat} {n : Path} {ops : Array Oper} {Q : DX → Env → Heap → Prop} {ds : List Deferred} {K0 : Nat → Prop} {r0 : Rho} {w0 : World} : ∀ (l : List Nat) (is : List DI), l.mapM (fun i => (ops[i]?).bind (turnI P N ops)) = some is →
    ∀ (e : Env) (H : Heap) (K : Nat → Prop) (r : Rho) (a : Act) (w : World), SR B N K r e H a w → a.defers = ds → Ch B K0 r0 w0 K r w → wpI P n Q is e H → wpOps P ops (LQ B N K0 r0 w0 ds Q) l a w
  | [], is, hi, e, H, K, r, a, w, hs, hd, c, h => by
    simp at hi
    subst hi
    exact ⟨.normal, e, H, K, r, trivial, h, hd, hs, c⟩
  | i :: l, is, hi, e, H, K, r, a, w, hs, hd, c, h => by
    simp only [List.mapM_cons, Option.bind_eq_bind, Option.bind_eq_some_iff] at hi
    obtain ⟨di, ⟨o, ho, hdi⟩, is', hi', hi⟩ := hi
    simp at hi
    subst hi
    have ih := wpI_ok (N := N) (n := n) (ops := ops) (Q := Q) (ds := ds) (K0 := K0) (r0 := r0) (w0 := w0) l is' hi'
    unfold turnI at hdi
    split at hdi
    · rename_i hdst'
      simp only [Option.bind_eq_some_iff] at hdi
      obtain ⟨k, hk, hdi⟩ := hdi
      simp only [wpOps, ho]
      have skip : wpI P n Q is' (e.put o.dst (.x undef)) H → wpOps P ops (LQ B N K0 r0 w0 ds Q) l (a.put o.dst undef) w := by
        intro hh
        have ht := hs.tr.put hs.size hdst' (d := .x undef) (v := undef) (.x _ _)
        exact ih _ _ K r _ _ ⟨ht.2.1, ht.1, hs.hr⟩ (by rw [ht.2.2, hd]) c hh
      have go : runK P (o.dst.getD 0 :: n) Q e H (fun d H' => wpI P n Q is' (e.put o.dst d) H') k → o.wp P a w (wpOps P ops (LQ B N K0 r0 w0 ds Q) l) (LQ B N K0 r0 w0 ds Q) := by
        intro g
        exact turnK_ok (n := o.dst.getD 0 :: n) (ops := ops) hk hs hd hdst' (next := fun d H' => wpI P n Q is' (e.put o.dst d) H') c
          (fun d H' K' r' w' v hn hs' hd' c' => ih _ _ K' r' _ _ hs' hd' c' hn) g
      cases hg : o.guard with
      | none =>
        rw [hg] at hdi
        simp only [Option.some.injEq] at hdi
        subst hdi
        rw [if_pos (by simp [Region.wanted, hg])]
        exact .inl (go (by simpa [wpI, guardP] using h))
      | some jw =>
        obtain ⟨j, want⟩ := jw
        rw [hg] at hdi
        simp only [Option.bind_eq_some_iff] at hdi
        obtain ⟨s, hsl, hdi⟩ := hdi
        split at hdi
        · rename_i hsN
          simp only [Option.some.injEq] at hdi
          subst hdi
          have hw := guard_wanted hs.tr hg (by simpa [Option.bind_eq_some_iff] using hsl) (by rw [hs.size]; exact hsN)
          simp only [wpI, guardP] at h
          split at h
          · rename_i b he
            rw [hw.1 b he]
            split at h
            · rename_i hb
              rw [if_pos (by simp [hb])]
              exact .inl (go h)
            · rename_i hb
              rw [if_neg (by simp [hb])]
              exact skip h
          · rename_i vs he
            rw [hw.2 vs he, if_neg (by simp)]
            exact skip h
          · exact h.elim
        · simp at hdi
    · simp at hdi

end Go.Proofs.Ytjbcgjgomhbmgaa
