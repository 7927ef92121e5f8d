/- What the functions of the program tell. -/
import Derived.Test.YtjbcgjgomhbmgaaProg
import Derived.Shelf.Sort.Plain
import Derived.Shelf.SlIterI.Sorted
import Derived.Shelf.Slices.In.SortNone
import Derived.KernelRfl
import Derived.RangeFuncKeeps
import Derived.WalkKit
import Derived.OwnWalkIn
import Derived.TacticsInMore
import Derived.RegionIn
import Derived.LoopNIn
import Derived.LoopIn
import Derived.Test.YtjbcgjgomhbmgaaPa
import Derived.Test.YtjbcgjgomhbmgaaDb
import Derived.Test.YtjbcgjgomhbmgaaRows

/-  slices.Sort and slices.Sorted, as the library's structures have them. -/
namespace Go.Proofs.Ytjbcgjgomhbmgaa
open Go.RowKit
def sortLaysRen : Go.Shelf.Ren := ⟨(fun x => match x with | 189 => 36 | 125 => 42 | 257 => 41 | 128 => 52 | 129 => 53 | 294 => 43 | 295 => 44 | 296 => 45 | 297 => 46 | 298 => 47 | 299 => 48 | 216 => 49 | 300 => 50 | 301 => 51 | 328 => 54 | 329 => 55 | 330 => 56 | 331 => 57 | 332 => 58 | 215 => 59 | 343 => 60 | n => n), (fun x => match x with | 28 => 35 | 3 => 3 | 46 => 85 | 0 => 0 | 51 => 96 | 53 => 98 | 4 => 4 | 183 => 88 | 182 => 87 | 131 => 93 | 5 => 5 | 9 => 9 | 218 => 99 | 222 => 103 | 228 => 105 | 229 => 106 | n => n), fun x => x⟩
theorem sortLays : Lays.n189 Try.prog sortLaysRen where
  mixed := by kernel_rfl
  f125 := by kernel_rfl
  f128 := by kernel_rfl
  f129 := by kernel_rfl
  f189 := by kernel_rfl
  f215 := by kernel_rfl
  f216 := by kernel_rfl
  f257 := by kernel_rfl
  f294 := by kernel_rfl
  f295 := by kernel_rfl
  f296 := by kernel_rfl
  f297 := by kernel_rfl
  f298 := by kernel_rfl
  f299 := by kernel_rfl
  f300 := by kernel_rfl
  f301 := by kernel_rfl
  f328 := by kernel_rfl
  f329 := by kernel_rfl
  f330 := by kernel_rfl
  f331 := by kernel_rfl
  f332 := by kernel_rfl
  f343 := by kernel_rfl
  t0 := by kernel_rfl
  a0 := Try.isAgg0
  z0 := Try.sizeOf0
  v0 := Try.zeroValue0
  t3 := by kernel_rfl
  a3 := Try.isAgg3
  z3 := Try.sizeOf3
  v3 := Try.zeroValue3
  t4 := by kernel_rfl
  a4 := Try.isAgg4
  z4 := Try.sizeOf4
  v4 := Try.zeroValue4
  t5 := by kernel_rfl
  a5 := Try.isAgg5
  z5 := Try.sizeOf5
  v5 := Try.zeroValue5
  t9 := by kernel_rfl
  a9 := Try.isAgg9
  z9 := Try.sizeOf9
  v9 := Try.zeroValue9
  t28 := by kernel_rfl
  a28 := Try.isAgg35
  z28 := Try.sizeOf35
  v28 := Try.zeroValue35
  t46 := by kernel_rfl
  a46 := Try.isAgg85
  z46 := Try.sizeOf85
  v46 := Try.zeroValue85
  t51 := by kernel_rfl
  a51 := Try.isAgg96
  z51 := Try.sizeOf96
  v51 := Try.zeroValue96
  t53 := by kernel_rfl
  a53 := Try.isAgg98
  z53 := Try.sizeOf98
  v53 := Try.zeroValue98
  t131 := by kernel_rfl
  a131 := Try.isAgg93
  z131 := Try.sizeOf93
  v131 := Try.zeroValue93
  t182 := by kernel_rfl
  a182 := Try.isAgg87
  z182 := Try.sizeOf87
  v182 := Try.zeroValue87
  t183 := by kernel_rfl
  a183 := Try.isAgg88
  z183 := Try.sizeOf88
  v183 := Try.zeroValue88
  t218 := by kernel_rfl
  a218 := Try.isAgg99
  z218 := Try.sizeOf99
  v218 := Try.zeroValue99
  t222 := by kernel_rfl
  a222 := Try.isAgg103
  z222 := Try.sizeOf103
  v222 := Try.zeroValue103
  t228 := by kernel_rfl
  a228 := Try.isAgg105
  z228 := Try.sizeOf105
  v228 := Try.zeroValue105
  t229 := by kernel_rfl
  a229 := Try.isAgg106
  z229 := Try.sizeOf106
  v229 := Try.zeroValue106

def sortedLaysRen : Go.Shelf.Ren := ⟨(fun x => match x with | 6 => 28 | 8 => 35 | 9 => 36 | 11 => 40 | n => n), (fun x => match x with | 26 => 3 | 28 => 73 | 24 => 35 | 0 => 0 | 33 => 80 | n => n), fun x => x⟩
theorem sortedLays : SlLaysZI.n6 Try.prog sortedLaysRen where
  mixed := by kernel_rfl
  f6 := ⟨(Try.f28).name, by kernel_rfl, by kernel_rfl⟩
  f8 := ⟨(Try.f35).name, by kernel_rfl, by kernel_rfl⟩
  f11 := ⟨(Try.f40).name, by kernel_rfl, by kernel_rfl⟩
  t0 := by kernel_rfl
  a0 := Try.isAgg0
  z0 := Try.sizeOf0
  v0 := Try.zeroValue0
  t24 := by kernel_rfl
  a24 := Try.isAgg35
  z24 := Try.sizeOf35
  v24 := Try.zeroValue35
  t26 := by kernel_rfl
  a26 := Try.isAgg3
  z26 := Try.sizeOf3
  v26 := Try.zeroValue3
  t28 := by kernel_rfl
  a28 := Try.isAgg73
  z28 := Try.sizeOf73
  v28 := Try.zeroValue73
  i26 := by kernel_rfl

end Go.Proofs.Ytjbcgjgomhbmgaa

/-  slices.Values's iterator over numbers, for every loop body that leaves the numbers alone. -/
namespace Go.Proofs.Ytjbcgjgomhbmgaa
open Go.RowKit Go.Sort
set_option linter.unusedVariables false
set_option linter.unusedSimpArgs false

set_option maxRecDepth 100000 in
set_option maxHeartbeats 1000000 in
theorem values1 (n n0 l Bm co : Nat) (p : Option Addr) (cap : Nat) (zs : List Int) (hz : zs.length < 4611686018427387904) (J Jx : List Int → World → Prop) (W : World)
    (hBm : Bm < n0) (hc : W.cell? ⟨Bm, co, none⟩ = some (.slice p zs.length cap))
    (hp : ∀ k, (h : k < zs.length) → ∃ b o, p = some ⟨b, o, none⟩ ∧ b < n0 ∧ W.cell? ⟨b, o + k, none⟩ = some (.int .i64 zs[k]))
    (hY : ∀ pre x W1, J pre W1 → pre.length < zs.length → YieldAt Fence.wide n Try.prog l #[.int .i64 x] W1 fun e W' => (e = .returned (.bool true) ∧ J (pre ++ [x]) W' ∧ Below n0 W1 W') ∨ (e = .returned (.bool false) ∧ Jx (pre ++ [x]) W'))
    (h0 : J [] W) :
    CallsIn Fence.wide (n + 1) Try.prog 37 #[.func (.yield l) #[] #[], .pointer (some ⟨Bm, co, none⟩)] W fun e W' => (∃ v, e = .returned v) ∧ ((∃ xs, xs = zs ∧ J xs W') ∨ (∃ pre, True ∧ Jx pre W')) := by
  refine callsIn_of_wp Try.func37 rfl trivial ?_ rfl
  simp only [Try.ntmps37, List.size_toArray, List.length_cons, List.length_nil, Nat.reduceAdd, Nat.reduceSub, Array.replicate_succ, Array.replicate_zero, List.push_toArray, List.append_toArray, List.nil_append, List.cons_append]
  gi_wp2_with fail
  try go_frame
  gi_loopw [7] (fun i wr => ∃ k : Nat, k ≤ zs.length ∧ i = .int .i64 k ∧ J (zs.take k) wr ∧ Below n0 W wr) (fun i _ => zs.length - (Lib.intOf i).toNat)
  case atStart => exact ⟨0, Nat.zero_le _, rfl, by simpa using h0, Below.refl _ _⟩
  case round =>
    obtain ⟨k, hk, rfl, hJ, hb⟩ := hrel
    by_cases hlt : k < zs.length
    · obtain ⟨b, o, rfl, hbn, hcell⟩ := hp k hlt
      have hcell' := (hb.cell (p := ⟨b, o + k, none⟩) hbn).trans hcell
      have hpl : (zs.take k).length < zs.length := by simp; omega
      have htk : zs.take k ++ [zs[k]] = zs.take (k + 1) := by simp
      obtain ⟨fn, tmps, assign, body, hy, hR⟩ := hY (zs.take k) zs[k] wr hJ hpl
      rw [htk] at hR
      clear hY hp htk hpl
      gi_wp2_with fail
      refine hR.mono ?_
      rintro e W3 (⟨rfl, hJ3, hb3⟩ | ⟨rfl, hJ3⟩)
      · gi_wp2_with fail
        go_roundw
        case rel => exact ⟨k + 1, by omega, by go_num, hJ3, hb.trans hb3⟩
        case measure => simp [Lib.intOf]; omega
      · gi_wp2_with fail
        exact bodyPost_ret (results_none rfl _ _ _) rfl ⟨⟨_, rfl⟩, .inr ⟨_, trivial, hJ3⟩⟩
    · have hke : zs.take k = zs := List.take_of_length_le (by omega)
      rw [hke] at hJ
      gi_wp2_with fail
      try go_end0
      exact ⟨⟨_, rfl⟩, .inl ⟨_, rfl, hJ⟩⟩

theorem values_stops (n n0 Bm co : Nat) (p : Option Addr) (cap : Nat) (zs : List Int) (hz : zs.length < 4611686018427387904) (w : World) (hn0 : n0 ≤ w.heap.size)
    (hBm : Bm < n0) (hc : w.cell? ⟨Bm, co, none⟩ = some (.slice p zs.length cap))
    (hp : ∀ k, (h : k < zs.length) → ∃ b o, p = some ⟨b, o, none⟩ ∧ b < n0 ∧ w.cell? ⟨b, o + k, none⟩ = some (.int .i64 zs[k])) :
    SeqStopsK Fence.wide (n + 1) Try.prog 37 #[.pointer (some ⟨Bm, co, none⟩)] (fun x : Int => #[.int .i64 x]) (Below n0) (fun xs => xs = zs) (fun _ => True) zs.length w := by
  intro l J Jx W hW _ _ hY h0
  refine values1 n n0 l Bm co p cap zs hz J Jx W hBm ((hW.cell (p := ⟨Bm, co, none⟩) (by show Bm < _; omega)).trans hc) (fun k h => ?_) hY h0
  obtain ⟨b, o, h1, h2, h3⟩ := hp k h
  exact ⟨b, o, h1, h2, (hW.cell (p := ⟨b, o + k, none⟩) (by show b < _; omega)).trans h3⟩
end Go.Proofs.Ytjbcgjgomhbmgaa

/-  slices.Sorted of slices.Values: the numbers, sorted. -/
namespace Go.Proofs.Ytjbcgjgomhbmgaa
open Go.RowKit Go.Sort Go.Shelf Go.Maps
set_option linter.unusedVariables false
set_option linter.unusedSimpArgs false

abbrev int' (n : Int) : Value := .int .i64 n

theorem below_between {n0 : Nat} {w a b : World} (h : Below n0 w a) (k : Below n0 w b) (hs : a.heap.size ≤ b.heap.size) : Below n0 a b :=
  ⟨k.os.trans h.os.symm, k.tape.trans h.tape.symm, k.output.trans h.output.symm, hs, fun i hi => (k.block i hi).trans (h.block i hi).symm⟩

/-- What a call of the iterator with the loop's yield comes to. -/
def IterAt (n : Nat) (P : Program) (g : Nat) (lb : Array Value) (w : World) (zs : List Int) : Prop :=
  ∀ (l : Nat) (J : List Int → World → Prop) (W : World), Below w.heap.size w W →
    (∀ pre x W1, J pre W1 → pre.length < zs.length → YieldAt Fence.wide n P l #[encZ x] W1 fun e W' => e = .returned (.bool true) ∧ J (pre ++ [x]) W' ∧ Below w.heap.size W1 W') → J [] W →
    CallsIn Fence.wide (n + 1) P g (#[.func (.yield l) #[] #[]] ++ lb) W fun e W' => (∃ v, e = .returned v) ∧ J zs W'

theorem values_iter (n Bm co : Nat) (p : Option Addr) (cap : Nat) (zs : List Int) (hz : zs.length < 4611686018427387904) (w : World) (hBm : Bm < w.heap.size) (hc : w.cell? ⟨Bm, co, none⟩ = some (.slice p zs.length cap))
    (hp : ∀ k, (h : k < zs.length) → ∃ b o, p = some ⟨b, o, none⟩ ∧ b < w.heap.size ∧ w.cell? ⟨b, o + k, none⟩ = some (.int .i64 zs[k])) :
    IterAt n Try.prog 37 #[.pointer (some ⟨Bm, co, none⟩)] w zs := by
  intro l J W hW hY h0
  refine CallsIn.mono (values1 n w.heap.size l Bm co p cap zs hz J (fun _ _ => False) W hBm ((hW.cell (p := ⟨Bm, co, none⟩) hBm).trans hc) (fun k h => ?_) (fun pre x W1 hJ hl => ?_) h0) ?_
  · obtain ⟨b, o, h1, h2, h3⟩ := hp k h
    exact ⟨b, o, h1, h2, (hW.cell (p := ⟨b, o + k, none⟩) h2).trans h3⟩
  · obtain ⟨fn, tmps, assign, body, hy, hR⟩ := hY pre x W1 hJ hl
    exact ⟨fn, tmps, assign, body, hy, hR.mono (fun _ _ h => .inl h)⟩
  · rintro e W' ⟨h1, ⟨xs, rfl, h2⟩ | ⟨pre, _, h2⟩⟩
    · exact ⟨h1, h2⟩
    · exact h2.elim

section
variable {P : Program} {ρ : Ren}
set_option maxRecDepth 100000 in
set_option maxHeartbeats 2000000 in
theorem appendSeq_at (L : SlLaysZI.n11 P ρ) (n : Nat) (g : Nat) (lb : Array Value) (eg : ∀ args w, (callFunc g args).run P w = .ok (.enter g args) w) (zs : List Int) (hN : zs.length * 8 ≤ 140737488355328) (w : World) (hseq : IterAt n P g lb w zs) :
    CallsIn Fence.wide (n + 2) P (ρ.f 11) #[.slice none 0 0, .func (.func g) #[] lb] w fun e w' => ∃ v, e = .returned v ∧ w'.ownsRow w.heap.size (ρ.t 26) 1 v zs.length (zs.map encZ) ∧ Below w.heap.size w w' := by
  have mixed := L.mixed; have t0 := L.t0; have a0 := L.a0; have z0 := L.z0; have v0 := L.v0; have t24 := L.t24; have a24 := L.a24; have z24 := L.z24; have v24 := L.v24; have t26 := L.t26; have a26 := L.a26; have z26 := L.z26; have v26 := L.v26; have t28 := L.t28; have a28 := L.a28; have z28 := L.z28; have v28 := L.v28
  have hne : ρ.t 24 ≠ ρ.t 26 := fun e => by have h := L.t24; rw [e, L.t26] at h; cases h
  have u0 := run_underlying L.t0; have u24 := run_underlying L.t24; have u26 := run_underlying L.t26; have u28 := run_underlying L.t28
  obtain ⟨_, _, FG⟩ := L.f11
  refine callsIn_of_wp_marks FG rfl trivial ?_ rfl
  simp only [SlBodyZ.n11_ntmps ρ, List.size_toArray, List.length_cons, List.length_nil, Nat.reduceAdd, Nat.reduceSub, Array.replicate_succ, Array.replicate_zero, List.push_toArray, List.append_toArray, List.nil_append, List.cons_append]
  gi_wp2
  refine wpIn_rangeFunc (fun fn hfn => ?_)
  generalize hW0 : w.alloc (.cells #[.slice none 0 0] (ρ.t 24)) = W0
  have hs0 : W0.heap.size = w.heap.size + 1 := by rw [← hW0]; simp
  have hv0 : W0.heap[w.heap.size]? = some (.cells #[.slice none 0 0] (ρ.t 24) (0, 0)) := by rw [← hW0]; exact World.alloc_heap_new w _
  have hb0 : Below w.heap.size w W0 := by rw [← hW0]; exact (Below.refl _ w).alloc (Nat.le_refl _) _
  generalize hW1 : (W0.alloc (.deferred (some []))).alloc (.loop (AnyZI.apRec ρ fn (.func (.func g) #[] lb) w.heap.size W0.heap.size .ready none)) = W1
  have hold : ∀ k, k < W0.heap.size → W1.heap[k]? = W0.heap[k]? := fun k hk => by
    rw [← hW1]; exact (Below.heap_alloc _ _ k (by simp; omega)).trans (Below.heap_alloc _ _ k hk)
  have hb1 : Below w.heap.size w W1 := by rw [← hW1]; exact (hb0.alloc hb0.size _).alloc (by have := hb0.size; simp; omega) _
  have hs1 : W1.heap.size = W0.heap.size + 2 := by rw [← hW1]; simp
  have hM : AnyZI.ApAt ρ w fn (.func (.func g) #[] lb) w.heap.size (W0.heap.size + 1) W0.heap.size [] W1 :=
    ⟨⟨_, (hold w.heap.size (by omega)).trans hv0, ⟨rfl, .inl ⟨rfl, rfl⟩⟩, by simp⟩,
     by rw [← hW1]; have := World.alloc_heap_new (W0.alloc (.deferred (some []))) (.loop (AnyZI.apRec ρ fn (.func (.func g) #[] lb) w.heap.size W0.heap.size .ready none)); rwa [World.size_alloc] at this,
     by rw [← hW1]; exact (Below.heap_alloc _ _ _ (by simp)).trans (World.alloc_heap_new W0 _), hb1⟩
  refine ⟨W0.heap.size + 1, [{ target := .collected W0.heap.size, args := #[] }], W1, { target := .fn (.func g) lb, args := #[.func (.yield (W0.heap.size + 1)) #[] #[]] }, W1, g,
    #[.func (.yield (W0.heap.size + 1)) #[] #[]] ++ lb, W1, ?_, ?_, fun _ _ => trivial, ?_, fun _ => by omega, ?_⟩
  · rw [← hW1]; exact run_enterLoop_outer _ _ _ _ _
  · simp [resolve, go_sem]
  · simp [invoke, go_sem, eg]
  refine (hseq (W0.heap.size + 1) (AnyZI.ApAt ρ w fn (.func (.func g) #[] lb) w.heap.size (W0.heap.size + 1) W0.heap.size) W1 hb1 (fun pre x W hJ hl => ?_) hM).mono ?_
  · obtain ⟨fn', tmps, assign, body, hy, hR⟩ := AnyZI.apYield L Fence.wide n w fn trivial (.func (.func g) #[] lb) w.heap.size (W0.heap.size + 1) W0.heap.size (by omega) (by omega) (by omega) (Nat.le_refl _) (by omega) zs.length (by unfold maxLen; omega) hN pre x W hJ hl
    exact ⟨fn', tmps, assign, body, hy, hR.mono (fun e W' h => ⟨h.1, h.2.1, below_between hJ.below h.2.1.below h.2.2.size⟩)⟩
  · rintro e W2 ⟨⟨v0, rfl⟩, h2⟩
    obtain ⟨v, hv, hrow, hnil⟩ := h2.box
    have hend := run_endLoop (P := P) h2.L (by simp [AnyZI.apRec])
    generalize hW3 : W2.putObj (W0.heap.size + 1) (.loop { AnyZI.apRec ρ fn (.func (.func g) #[] lb) w.heap.size W0.heap.size .ready none with state := .exhausted }) = W3 at hend
    have hg3 : W2.grownBy W3 (some (W0.heap.size + 1)) := by rw [← hW3]; exact grownBy_putObj' _ _ _
    have hv3 : W3.heap[w.heap.size]? = some (.cells #[v] (ρ.t 24) (0, 0)) := by rw [← hW3]; exact (World.putObj_heap_other (by omega)).trans hv
    have hK3 : W3.heap[W0.heap.size]? = some (.deferred (some [])) := by rw [← hW3]; exact (World.putObj_heap_other (by omega)).trans h2.K
    have hrow3 := hrow.kept hg3 (ownsRow_ne_a hrow h2.L (fun cur e => by first | cases e | exact hne (Obj.cells.inj e).2.1))
    have hb3 : Below w.heap.size w W3 := h2.below.grown hg3 h2.below.size (fun k e => by cases e; omega)
    obtain ⟨hc3, hf3⟩ := cell_of_box_a hv3
    clear hW3
    refine ⟨none, W3, hend, ?_⟩
    gi_wp2
    rw [← hs0]
    refine ⟨by simp, .inl ⟨_, _, rfl, run_takeDeferred hK3, ?_⟩⟩
    exact ⟨_, results_tmp rfl _ _ _, v, rfl, hrow3.kept (grownBy_putObj' _ _ _) (ownsRow_ne_a hrow3 hK3 (fun cur e => by first | cases e | exact hne (Obj.cells.inj e).2.1)), hb3.grown (grownBy_putObj' _ _ _) hb3.size (fun k e => by cases e; omega)⟩

set_option maxRecDepth 100000 in
set_option maxHeartbeats 1000000 in
theorem collect_at (L : SlLaysZI.n8 P ρ) (n : Nat) (g : Nat) (lb : Array Value) (eg : ∀ args w, (callFunc g args).run P w = .ok (.enter g args) w) (zs : List Int) (hN : zs.length * 8 ≤ 140737488355328) (w : World) (hseq : IterAt n P g lb w zs) :
    CallsIn Fence.wide (n + 3) P (ρ.f 8) #[.func (.func g) #[] lb] w fun e w' => ∃ v, e = .returned v ∧ w'.ownsRow w.heap.size (ρ.t 26) 1 v zs.length (zs.map encZ) ∧ Below w.heap.size w w' := by
  have h11 : Fence.wide.fn (ρ.f 11) := trivial
  have e11 : ∀ args w, (callFunc (ρ.f 11) args).run P w = .ok (.enter (ρ.f 11) args) w := L.f11.enters rfl
  have mixed := L.mixed; have t0 := L.t0; have a0 := L.a0; have z0 := L.z0; have v0 := L.v0; have t24 := L.t24; have a24 := L.a24; have z24 := L.z24; have v24 := L.v24; have t26 := L.t26; have a26 := L.a26; have z26 := L.z26; have v26 := L.v26; have t28 := L.t28; have a28 := L.a28; have z28 := L.z28; have v28 := L.v28
  have u0 := run_underlying L.t0; have u24 := run_underlying L.t24; have u26 := run_underlying L.t26; have u28 := run_underlying L.t28
  obtain ⟨_, _, FG⟩ := L.f8
  refine callsIn_of_wp FG rfl trivial ?_ rfl
  simp only [SlBodyZ.n8_ntmps ρ, List.size_toArray, List.length_cons, List.length_nil, Nat.reduceAdd, Nat.reduceSub, Array.replicate_succ, Array.replicate_zero, List.push_toArray, List.append_toArray, List.nil_append, List.cons_append]
  gi_wp2_with (gi_at_fn (ρ.f 11); refine (appendSeq_at { L with } n g lb eg zs hN _ hseq).mono ?_; rintro e w' ⟨v, rfl, hrow, hb⟩)
  go_ret
  exact ⟨v, rfl, hrow, hb⟩

set_option maxRecDepth 100000 in
set_option maxHeartbeats 2000000 in
theorem sorted_at (L : SlLaysZI.n6 P ρ) (n : Nat) (hsort : AnyZI.SortsIn P ρ Fence.wide (n + 3)) (e9 : ∀ args w, (callFunc (ρ.f 9) args).run P w = .ok (.enter (ρ.f 9) args) w) (g : Nat) (lb : Array Value) (eg : ∀ args w, (callFunc g args).run P w = .ok (.enter g args) w) (zs : List Int) (hN : zs.length * 8 ≤ 140737488355328) (w : World) (hseq : IterAt n P g lb w zs) :
    CallsIn Fence.wide (n + 4) P (ρ.f 6) #[.func (.func g) #[] lb] w fun e w' => ∃ v, e = .returned v ∧ w'.ownsRow w.heap.size (ρ.t 26) 1 v zs.length ((zs.mergeSort (fun x y => decide (x ≤ y))).map encZ) ∧ Below w.heap.size w w' := by
  have h8 : Fence.wide.fn (ρ.f 8) := trivial
  have h9 : Fence.wide.fn (ρ.f 9) := trivial
  have e8 : ∀ args w, (callFunc (ρ.f 8) args).run P w = .ok (.enter (ρ.f 8) args) w := L.f8.enters rfl
  have mixed := L.mixed; have t0 := L.t0; have a0 := L.a0; have z0 := L.z0; have v0 := L.v0; have t24 := L.t24; have a24 := L.a24; have z24 := L.z24; have v24 := L.v24; have t26 := L.t26; have a26 := L.a26; have z26 := L.z26; have v26 := L.v26; have t28 := L.t28; have a28 := L.a28; have z28 := L.z28; have v28 := L.v28
  have u0 := run_underlying L.t0; have u24 := run_underlying L.t24; have u26 := run_underlying L.t26; have u28 := run_underlying L.t28
  obtain ⟨_, _, FG⟩ := L.f6
  refine callsIn_of_wp FG rfl trivial ?_ rfl
  simp only [SlBodyZ.n6_ntmps ρ, List.size_toArray, List.length_cons, List.length_nil, Nat.reduceAdd, Nat.reduceSub, Array.replicate_succ, Array.replicate_zero, List.push_toArray, List.append_toArray, List.nil_append, List.cons_append]
  gi_wp2_with (gi_at_fn (ρ.f 8); refine (collect_at { L with } n g lb eg zs hN _ hseq).mono ?_; rintro e W ⟨v, rfl, hrow, hb⟩)
  rcases hrow.2 with ⟨rfl, hz⟩ | ⟨gb, cap, cur, rfl, hbase, hgb, r1, r2, r3, r4⟩
  · have hss : zs = [] := List.eq_nil_of_length_eq_zero hz
    subst hss
    gi_wp2_with (gi_at_fn (ρ.f 9); refine (hsort.2 none 0 W).mono ?_; rintro e w' ⟨rfl, rfl⟩)
    go_ret
    exact ⟨.slice none 0 0, rfl, by simpa using hrow, hb⟩
  · have hH : Go.Sort.Holds encZ W gb 0 zs.toArray := holds_of_block_i hgb (by simpa using r4)
    have hgl : gb < W.heap.size := (Array.getElem?_eq_some_iff.1 hgb).1
    have hsz : zs.length < 4611686018427387904 := by omega
    have cS := hsort.1 gb 0 cap zs W hH hgl hsz
    gi_wp2_with (gi_at_fn (ρ.f 9); refine cS.mono ?_; rintro e w' ⟨rfl, nn, os, rfl⟩)
    go_ret
    exact ⟨_, rfl, ownsRow_sorted_i (by simp) hbase hgb r1 r2 r3, hb.grown (grownBy_sorted_i _) hb.size (fun j hj => by cases hj; exact hbase)⟩
end

theorem sortsIn (m : Nat) : AnyZI.SortsIn Try.prog sortedLaysRen Fence.wide m :=
  ⟨fun blk off cap ss W h1 h2 h3 => callsIn_wide.2 (Any.slices_Sort_int sortLays blk off cap ss W h1 h2 h3), fun p cap W => callsIn_wide.2 (Any.slices_Sort_int_none sortLays p cap W)⟩

/-- slices.Sorted(slices.Values(l)). -/
theorem sortedSpec : SortedSpec := by
  intro l hl w S vs hS hv
  obtain ⟨hsz, hget⟩ := hv
  have h0 := hget 0 _ rfl
  have hvs : vs = #[vs.getD 0 undef] := by
    apply Array.ext
    · simp [hsz]
    · intro i h1 h2
      have : i = 0 := by simp at h2; omega
      subst this
      simp [Array.getD, h1]
  rw [hvs]
  generalize vs.getD 0 undef = f at h0
  cases h0 with
  | f _ _ _ _ fa ca h1 h2 h3 h4 =>
    have hfa : fa = #[] := Array.eq_empty_of_size_eq_zero h1
    subst hfa
    have h5 := h4 0 _ rfl
    have hca : ca = #[ca.getD 0 undef] := by
      apply Array.ext
      · simp [h2]
      · intro i h1 h2'
        have : i = 0 := by simp at h2'; omega
        subst this
        simp [Array.getD, h1]
    rw [hca]
    generalize ca.getD 0 undef = pv at h5
    cases h5 with
    | q _ _ _ b c us hk hcell hval =>
      have g1 := (hcell 0 _ rfl).2
      have g2 := hval 0 _ rfl
      have hbl := hS b hk
      simp only [Nat.add_zero] at g1 ⊢
      generalize hR : l.map irow = rows at g2
      have hnum : ∀ {p : Option Addr} {cap : Nat}, us 0 = .slice p l.length cap → (∀ k, (h : k < l.length) → ∃ b o, p = some ⟨b, o, none⟩ ∧ b < w.heap.size ∧ w.cell? ⟨b, o + k, none⟩ = some (.int .i64 l[k])) →
          Calls Try.prog 28 #[.func (.func 37) #[] #[.pointer (some ⟨b, c, none⟩)]] w fun e w' => ∃ v, e = .returned v ∧ w'.ownsRow w.heap.size (sortedLaysRen.t 26) 1 v l.length ((sortI l).map encZ) ∧ Below w.heap.size w w' := by
        intro p cap hu hp
        rw [hu] at g1
        exact callsIn_wide.1 (sorted_at sortedLays 0 (sortsIn _) (fun args w => callFunc_run (by kernel_rfl) args) 37 _ (fun args w => callFunc_run (by kernel_rfl) args) l (by omega) w (values_iter 0 b c p cap l (by omega) w hbl g1 hp))
      have key : Calls Try.prog 28 #[.func (.func 37) #[] #[.pointer (some ⟨b, c, none⟩)]] w fun e w' => ∃ v, e = .returned v ∧ w'.ownsRow w.heap.size (sortedLaysRen.t 26) 1 v l.length ((sortI l).map encZ) ∧ Below w.heap.size w w' := by
        generalize us 0 = u at g2 hnum g1
        cases g2 with
        | s _ _ _ a cap ws e1 e2 e3 e4 e5 =>
          subst hR
          simp only [List.length_map] at hnum
          refine hnum (p := some a) (cap := cap) rfl (fun k hk' => ?_)
          have hne : l.map irow ≠ [] := by intro e; simp at e; subst e; simp at hk'
          obtain ⟨s1, s2⟩ := e2 hne
          have q1 := (e4 k (irow l[k]) 0 (int l[k]) (by simp [hk']) rfl).2
          have q2 := e5 k (irow l[k]) 0 (int l[k]) (by simp [hk']) rfl
          generalize ws k 0 = x at q1 q2
          cases q2
          refine ⟨a.block, a.off, ?_, hS _ s2, by simpa using q1⟩
          obtain ⟨ab, ao, asp⟩ := a
          simp only at s1
          rw [s1]
        | s0 =>
          have hl0 : l = [] := by simpa using hR
          subst hl0
          exact hnum (p := none) (cap := 0) rfl (fun k hk' => by simp at hk')
      refine key.mono ?_
      rintro e w' ⟨v, rfl, hrow, hb⟩
      refine ⟨v, rfl, hb, ?_⟩
      rcases hrow.2 with ⟨rfl, hz⟩ | ⟨gb, cap, cur, rfl, hbase, hgb, r1, r2, r3, r4⟩
      · have hl0 : l = [] := List.eq_nil_of_length_eq_zero hz
        subst hl0
        have : sortI [] = [] := by simp [sortI]
        rw [this]
        exact .s0 _ _
      · have hlen : (sortI l).length = l.length := List.length_mergeSort _
        have hget : ∀ k, (h : k < (sortI l).length) → w'.cell? ⟨gb, 0 + k, none⟩ = some (int' (sortI l)[k]) := by
          intro k h
          simp only [Nat.mul_one] at r4
          have h2 : cur.toList[k]? = some (int' (sortI l)[k]) := by
            have : (cur.toList.take l.length)[k]? = ((sortI l).map encZ)[k]? := by rw [r4]
            rw [List.getElem?_take, if_pos (by omega)] at this
            rw [this]
            simp [h, encZ, int']
          simp only [World.cell?, hgb, Nat.zero_add]
          simpa using h2
        have := VR.s (w := w') (K := Top S w w') Rho.nil 1 ((sortI l).map irow) ⟨gb, 0, none⟩ cap (fun i j => int' ((sortI l)[i]?.getD 0)) (by simp [hlen]; omega) (fun _ => ⟨rfl, .inr ⟨hbase, (Array.getElem?_eq_some_iff.1 hgb).1⟩⟩)
          (fun i row hi => by
            simp only [List.getElem?_map, Option.map_eq_some_iff] at hi
            obtain ⟨x, _, rfl⟩ := hi
            rfl)
          (fun i row j d hi hj => by
            simp only [List.getElem?_map, Option.map_eq_some_iff] at hi
            obtain ⟨x, hx, rfl⟩ := hi
            obtain ⟨hi', rfl⟩ := List.getElem?_eq_some_iff.1 hx
            cases j with
            | zero =>
              simp [irow] at hj
              subst hj
              exact ⟨rfl, by simpa [hi'] using hget i hi'⟩
            | succ j => simp [irow] at hj)
          (fun i row j d hi hj => by
            simp only [List.getElem?_map, Option.map_eq_some_iff] at hi
            obtain ⟨x, hx, rfl⟩ := hi
            rw [hx]
            cases j with
            | zero =>
              simp [irow] at hj
              subst hj
              exact .x _ _
            | succ j => simp [irow] at hj)
        rw [List.length_map, hlen] at this
        exact this
end Go.Proofs.Ytjbcgjgomhbmgaa

/-  law 12: what the fixed calls come to. -/
namespace Go.Proofs.Ytjbcgjgomhbmgaa
open Go.RowKit
set_option linter.unusedVariables false
set_option linter.unusedSimpArgs false

def fr (n : Int) : Frame := { zeroFrame with fn := n }
def p0 : Pen := ⟨[], [], 2⟩
def pA : Pen := ⟨[⟨0, true, fr 1⟩], [], 2⟩
def pB : Pen := ⟨[⟨0, true, fr 1⟩, ⟨0, true, fr 2⟩], [], 2⟩
def pQ : Pen := ⟨[⟨1, false, zeroFrame⟩, ⟨0, true, fr 2⟩], [0], 2⟩
def pS : Pen := ⟨[⟨1, true, fr 2⟩, ⟨0, true, fr 2⟩], [], 2⟩
def pT : Pen := ⟨[⟨1, true, fr 2⟩, ⟨0, true, fr 1⟩], [], 2⟩
theorem mayA : p0.may = true ∧ pA.may = true ∧ pB.may = true ∧ pQ.may = true ∧ pS.may = true ∧ pT.may = true ∧ (⟨[], [], 0⟩ : Pen).may = false := by
  simp [p0, pA, pB, pQ, pS, pT, Pen.may, unused, sortI]
theorem lay1 : p0.lay (fr 1) = (pA, ⟨0, 0⟩, 0) := by simp [Pen.lay, mayA]; simp [p0, pA]
theorem lay2 : pA.lay (fr 2) = (pB, ⟨1, 0⟩, 0) := by simp [Pen.lay, mayA]; simp [pA, pB]
theorem lay3 : pB.lay (fr 1) = (pB, ⟨0, 0⟩, 120) := by simp [Pen.lay, mayA]; simp [pB]
theorem drop1 : pB.drop ⟨0, 0⟩ = (pQ, 0) := by simp [Pen.drop, mayA]; simp [pB, pQ, Pen.held]
theorem held1 : pQ.held ⟨0, 0⟩ = false := by simp [pQ, Pen.held]
theorem lay4 : pQ.lay (fr 2) = (pS, ⟨0, 1⟩, 0) := by simp [Pen.lay, mayA]; simp [pQ, pS]
theorem set1 : pS.set ⟨0, 0⟩ (fr 1) = (pS, 121) := by simp [Pen.set, mayA]; simp [pS, Pen.held]
theorem set2 : pS.set ⟨1, 0⟩ (fr 1) = (pT, 0) := by simp [Pen.set, mayA]; simp [pS, pT, Pen.held]
theorem held2 : pT.held ⟨1, 0⟩ = true := by simp [pT, Pen.held]
theorem get2 : pT.get ⟨1, 0⟩ = fr 1 := by simp [Pen.get, mayA, held2]; simp [pT]
theorem drop2 : (⟨[], [], 0⟩ : Pen).drop ⟨0, 0⟩ = (⟨[], [], 0⟩, 1) := by simp [Pen.drop, mayA]
theorem refs2 : pT.refs = [⟨0, 1⟩, ⟨1, 0⟩] := by simp [Pen.refs, mayA]; simp [pT, used]
theorem same2 : ¬ pS = pT := by simp [pS, pT, fr, zeroFrame]

def df_l12fixed : DF := (.mk 197 (.seq (.reg [(.mk (some 0) none (.op (.mv (.c (.x (.bool false))))))]) (.seq (.reg [(.mk (some 30) none (.call 7 [(.c (.x (.int .i64 2)))])), (.mk (some 29) none (.op (.mv (.t 30)))), (.mk (some 31) none (.op (.ext (.t 29) 0))), (.mk (some 32) none (.op (.ext (.t 29) 1))), (.mk (some 1) none (.op (.box (.c (.g [(.z true), (.z true), (.x (.int .i64 0))]))))), (.mk none none (.op (.store 3 (.t 1) (.t 31)))), (.mk (some 2) none (.op (.mv (.t 32))))]) (.seq (.reg [(.mk (some 34) none (.call 7 [(.c (.x (.int .i64 1025)))])), (.mk (some 33) none (.op (.mv (.t 34)))), (.mk (some 35) none (.op (.ext (.t 33) 0))), (.mk (some 36) none (.op (.ext (.t 33) 1))), (.mk (some 3) none (.op (.box (.c (.g [(.z true), (.z true), (.x (.int .i64 0))]))))), (.mk none none (.op (.store 3 (.t 3) (.t 35)))), (.mk (some 4) none (.op (.mv (.t 36))))]) (.seq (.reg [(.mk (some 37) none (.op (.build [(.x (.int .i64 0)), (.x (.int .i64 0)), (.z true), (.z true), (.z true), (.x (.int .i64 0)), (.x (.int .i64 0)), (.x (.int .i64 0)), (.x (.int .i64 0)), (.x (.int .i64 0)), (.x (.int .i64 0)), (.x (.int .i64 0)), (.x (.int .i64 0)), (.x (.int .i64 0)), (.x (.int .i64 0)), (.x (.int .i64 0))] [(0, (1, (.c (.x (.int .i64 1)))))]))), (.mk (some 38) none (.op (.build [(.x (.int .i64 0)), (.x (.int .i64 0)), (.z true), (.z true), (.z true), (.x (.int .i64 0)), (.x (.int .i64 0)), (.x (.int .i64 0)), (.x (.int .i64 0)), (.x (.int .i64 0)), (.x (.int .i64 0)), (.x (.int .i64 0)), (.x (.int .i64 0)), (.x (.int .i64 0)), (.x (.int .i64 0)), (.x (.int .i64 0))] [(0, (1, (.c (.x (.int .i64 2)))))]))), (.mk (some 5) none (.op (.box (.c (.g [(.x (.int .i64 0)), (.x (.int .i64 0)), (.z true), (.z true), (.z true), (.x (.int .i64 0)), (.x (.int .i64 0)), (.x (.int .i64 0)), (.x (.int .i64 0)), (.x (.int .i64 0)), (.x (.int .i64 0)), (.x (.int .i64 0)), (.x (.int .i64 0)), (.x (.int .i64 0)), (.x (.int .i64 0)), (.x (.int .i64 0))]))))), (.mk (some 6) none (.op (.box (.c (.g [(.x (.int .i64 0)), (.x (.int .i64 0)), (.z true), (.z true), (.z true), (.x (.int .i64 0)), (.x (.int .i64 0)), (.x (.int .i64 0)), (.x (.int .i64 0)), (.x (.int .i64 0)), (.x (.int .i64 0)), (.x (.int .i64 0)), (.x (.int .i64 0)), (.x (.int .i64 0)), (.x (.int .i64 0)), (.x (.int .i64 0))]))))), (.mk none none (.op (.store 16 (.t 5) (.t 37)))), (.mk none none (.op (.store 16 (.t 6) (.t 38))))]) (.seq (.reg [(.mk (some 40) none (.op (.load 3 true (.t 1)))), (.mk (some 41) none (.op (.load 16 true (.t 5)))), (.mk (some 42) none (.call 8 [(.t 40), (.t 41)])), (.mk (some 39) none (.op (.mv (.t 42)))), (.mk (some 43) none (.op (.ext (.t 39) 0))), (.mk (some 44) none (.op (.ext (.t 39) 1))), (.mk (some 45) none (.op (.ext (.t 39) 2))), (.mk (some 7) none (.op (.box (.c (.g [(.x (.int .i64 0)), (.x (.int .i64 0))]))))), (.mk none none (.op (.store 3 (.t 1) (.t 43)))), (.mk none none (.op (.store 2 (.t 7) (.t 44)))), (.mk (some 8) none (.op (.mv (.t 45))))]) (.seq (.reg [(.mk (some 47) none (.op (.load 3 true (.t 1)))), (.mk (some 48) none (.op (.load 16 true (.t 6)))), (.mk (some 49) none (.call 8 [(.t 47), (.t 48)])), (.mk (some 46) none (.op (.mv (.t 49)))), (.mk (some 50) none (.op (.ext (.t 46) 0))), (.mk (some 51) none (.op (.ext (.t 46) 1))), (.mk (some 52) none (.op (.ext (.t 46) 2))), (.mk (some 9) none (.op (.box (.c (.g [(.x (.int .i64 0)), (.x (.int .i64 0))]))))), (.mk none none (.op (.store 3 (.t 1) (.t 50)))), (.mk none none (.op (.store 2 (.t 9) (.t 51)))), (.mk (some 10) none (.op (.mv (.t 52))))]) (.seq (.reg [(.mk (some 54) none (.op (.load 3 true (.t 1)))), (.mk (some 55) none (.op (.load 16 true (.t 5)))), (.mk (some 56) none (.call 8 [(.t 54), (.t 55)])), (.mk (some 53) none (.op (.mv (.t 56)))), (.mk (some 57) none (.op (.ext (.t 53) 0))), (.mk (some 58) none (.op (.ext (.t 53) 1))), (.mk (some 59) none (.op (.ext (.t 53) 2))), (.mk (some 11) none (.op (.box (.c (.g [(.z true), (.z true), (.x (.int .i64 0))]))))), (.mk (some 12) none (.op (.box (.c (.g [(.x (.int .i64 0)), (.x (.int .i64 0))]))))), (.mk none none (.op (.store 3 (.t 11) (.t 57)))), (.mk none none (.op (.store 2 (.t 12) (.t 58)))), (.mk (some 13) none (.op (.mv (.t 59))))]) (.seq (.reg [(.mk (some 61) none (.op (.load 3 true (.t 1)))), (.mk (some 62) none (.op (.load 2 true (.t 7)))), (.mk (some 63) none (.call 11 [(.t 61), (.t 62)])), (.mk (some 60) none (.op (.mv (.t 63)))), (.mk (some 64) none (.op (.ext (.t 60) 0))), (.mk (some 65) none (.op (.ext (.t 60) 1))), (.mk (some 14) none (.op (.box (.c (.g [(.z true), (.z true), (.x (.int .i64 0))]))))), (.mk none none (.op (.store 3 (.t 14) (.t 64)))), (.mk (some 15) none (.op (.mv (.t 65))))]) (.seq (.reg [(.mk (some 67) none (.op (.load 3 true (.t 14)))), (.mk (some 68) none (.op (.load 2 true (.t 7)))), (.mk (some 69) none (.call 9 [(.t 67), (.t 68)])), (.mk (some 66) none (.op (.mv (.t 69)))), (.mk (some 70) none (.op (.ext (.t 66) 0))), (.mk (some 71) none (.op (.ext (.t 66) 1))), (.mk (some 16) none (.op (.box (.c (.g [(.x (.int .i64 0)), (.x (.int .i64 0)), (.z true), (.z true), (.z true), (.x (.int .i64 0)), (.x (.int .i64 0)), (.x (.int .i64 0)), (.x (.int .i64 0)), (.x (.int .i64 0)), (.x (.int .i64 0)), (.x (.int .i64 0)), (.x (.int .i64 0)), (.x (.int .i64 0)), (.x (.int .i64 0)), (.x (.int .i64 0))]))))), (.mk none none (.op (.store 16 (.t 16) (.t 70)))), (.mk (some 17) none (.op (.mv (.t 71))))]) (.seq (.reg [(.mk (some 73) none (.op (.load 3 true (.t 14)))), (.mk (some 74) none (.op (.load 16 true (.t 6)))), (.mk (some 75) none (.call 8 [(.t 73), (.t 74)])), (.mk (some 72) none (.op (.mv (.t 75)))), (.mk (some 76) none (.op (.ext (.t 72) 0))), (.mk (some 77) none (.op (.ext (.t 72) 1))), (.mk (some 78) none (.op (.ext (.t 72) 2))), (.mk (some 18) none (.op (.box (.c (.g [(.z true), (.z true), (.x (.int .i64 0))]))))), (.mk (some 19) none (.op (.box (.c (.g [(.x (.int .i64 0)), (.x (.int .i64 0))]))))), (.mk none none (.op (.store 3 (.t 18) (.t 76)))), (.mk none none (.op (.store 2 (.t 19) (.t 77)))), (.mk (some 20) none (.op (.mv (.t 78))))]) (.seq (.reg [(.mk (some 80) none (.op (.load 3 true (.t 18)))), (.mk (some 81) none (.op (.load 2 true (.t 7)))), (.mk (some 82) none (.op (.load 16 true (.t 5)))), (.mk (some 83) none (.call 16 [(.t 80), (.t 81), (.t 82)])), (.mk (some 79) none (.op (.mv (.t 83)))), (.mk (some 84) none (.op (.ext (.t 79) 0))), (.mk (some 85) none (.op (.ext (.t 79) 1))), (.mk (some 21) none (.op (.box (.c (.g [(.z true), (.z true), (.x (.int .i64 0))]))))), (.mk none none (.op (.store 3 (.t 21) (.t 84)))), (.mk (some 22) none (.op (.mv (.t 85))))]) (.seq (.reg [(.mk (some 87) none (.op (.load 3 true (.t 18)))), (.mk (some 88) none (.op (.load 2 true (.t 9)))), (.mk (some 89) none (.op (.load 16 true (.t 5)))), (.mk (some 90) none (.call 16 [(.t 87), (.t 88), (.t 89)])), (.mk (some 86) none (.op (.mv (.t 90)))), (.mk (some 91) none (.op (.ext (.t 86) 0))), (.mk (some 92) none (.op (.ext (.t 86) 1))), (.mk (some 23) none (.op (.box (.c (.g [(.z true), (.z true), (.x (.int .i64 0))]))))), (.mk none none (.op (.store 3 (.t 23) (.t 91)))), (.mk (some 24) none (.op (.mv (.t 92))))]) (.seq (.reg [(.mk (some 94) none (.op (.load 3 true (.t 23)))), (.mk (some 95) none (.op (.load 2 true (.t 9)))), (.mk (some 96) none (.call 9 [(.t 94), (.t 95)])), (.mk (some 93) none (.op (.mv (.t 96)))), (.mk (some 97) none (.op (.ext (.t 93) 0))), (.mk (some 98) none (.op (.ext (.t 93) 1))), (.mk (some 25) none (.op (.box (.c (.g [(.x (.int .i64 0)), (.x (.int .i64 0)), (.z true), (.z true), (.z true), (.x (.int .i64 0)), (.x (.int .i64 0)), (.x (.int .i64 0)), (.x (.int .i64 0)), (.x (.int .i64 0)), (.x (.int .i64 0)), (.x (.int .i64 0)), (.x (.int .i64 0)), (.x (.int .i64 0)), (.x (.int .i64 0)), (.x (.int .i64 0))]))))), (.mk none none (.op (.store 16 (.t 25) (.t 97)))), (.mk (some 26) none (.op (.mv (.t 98))))]) (.seq (.reg [(.mk (some 100) none (.op (.build [(.z true), (.z true), (.x (.int .i64 0))] []))), (.mk (some 101) none (.op (.load 2 true (.t 7)))), (.mk (some 102) none (.call 11 [(.t 100), (.t 101)])), (.mk (some 99) none (.op (.mv (.t 102)))), (.mk (some 103) none (.op (.ext (.t 99) 0))), (.mk (some 104) none (.op (.ext (.t 99) 1))), (.mk (some 27) none (.op (.box (.c (.g [(.z true), (.z true), (.x (.int .i64 0))]))))), (.mk none none (.op (.store 3 (.t 27) (.t 103)))), (.mk (some 28) none (.op (.mv (.t 104))))]) (.seq (.drw [((.mk (some 105) none (.op (.mv (.t 2)))), []), ((.mk (some 106) none (.op (.mv (.t 105)))), [0]), ((.mk (some 107) (some (106, true)) (.op (.mv (.t 4)))), [1]), ((.mk (some 108) (some (106, true)) (.op (.un .not (.t 107)))), [1, 2]), ((.mk (some 109) none (.op (.pick (.t 106) (.t 108) (.c (.x (.bool false)))))), [1, 3]), ((.mk (some 110) none (.op (.mv (.t 109)))), [4]), ((.mk (some 111) (some (110, true)) (.op (.mv (.t 8)))), [5]), ((.mk (some 112) (some (110, true)) (.op (.bin .eql (.t 111) (.c (.x (.int .i64 0)))))), [5, 6]), ((.mk (some 113) none (.op (.pick (.t 110) (.t 112) (.c (.x (.bool false)))))), [5, 7]), ((.mk (some 114) none (.op (.mv (.t 113)))), [8]), ((.mk (some 115) (some (114, true)) (.op (.load 2 true (.t 7)))), [9]), ((.mk (some 116) (some (114, true)) (.op (.build [(.x (.int .i64 0)), (.x (.int .i64 0))] []))), [9]), ((.mk (some 117) (some (114, true)) (.op (.eqa false (.cons 0 1 false .li (.cons 1 1 false .li .nil)) (.t 115) (.t 116)))), [9, 10, 11]), ((.mk (some 118) none (.op (.pick (.t 114) (.t 117) (.c (.x (.bool false)))))), [9, 12]), ((.mk (some 119) none (.op (.mv (.t 118)))), [13]), ((.mk (some 120) (some (119, true)) (.op (.mv (.t 10)))), [14]), ((.mk (some 121) (some (119, true)) (.op (.bin .eql (.t 120) (.c (.x (.int .i64 0)))))), [14, 15]), ((.mk (some 122) none (.op (.pick (.t 119) (.t 121) (.c (.x (.bool false)))))), [14, 16]), ((.mk (some 123) none (.op (.mv (.t 122)))), [17]), ((.mk (some 124) (some (123, true)) (.op (.load 2 true (.t 9)))), [10, 18]), ((.mk (some 125) (some (123, true)) (.op (.build [(.x (.int .i64 0)), (.x (.int .i64 0))] [(0, (1, (.c (.x (.int .i64 1)))))]))), [18]), ((.mk (some 126) (some (123, true)) (.op (.eqa false (.cons 0 1 false .li (.cons 1 1 false .li .nil)) (.t 124) (.t 125)))), [18, 19, 20]), ((.mk (some 127) none (.op (.pick (.t 123) (.t 126) (.c (.x (.bool false)))))), [18, 21]), ((.mk (some 128) none (.op (.mv (.t 127)))), [22]), ((.mk (some 129) (some (128, true)) (.op (.mv (.t 13)))), [23]), ((.mk (some 130) (some (128, true)) (.op (.bin .eql (.t 129) (.c (.x (.int .i64 120)))))), [23, 24]), ((.mk (some 131) none (.op (.pick (.t 128) (.t 130) (.c (.x (.bool false)))))), [23, 25]), ((.mk (some 132) none (.op (.mv (.t 131)))), [26]), ((.mk (some 133) (some (132, true)) (.op (.mv (.t 15)))), [27]), ((.mk (some 134) (some (132, true)) (.op (.bin .eql (.t 133) (.c (.x (.int .i64 0)))))), [27, 28]), ((.mk (some 135) none (.op (.pick (.t 132) (.t 134) (.c (.x (.bool false)))))), [27, 29]), ((.mk (some 136) none (.op (.mv (.t 135)))), [30]), ((.mk (some 137) (some (136, true)) (.op (.mv (.t 17)))), [31]), ((.mk (some 138) (some (136, true)) (.op (.un .not (.t 137)))), [31, 32]), ((.mk (some 139) none (.op (.pick (.t 136) (.t 138) (.c (.x (.bool false)))))), [31, 33]), ((.mk (some 140) none (.op (.mv (.t 139)))), [34]), ((.mk (some 141) (some (140, true)) (.op (.mv (.t 20)))), [35]), ((.mk (some 142) (some (140, true)) (.op (.bin .eql (.t 141) (.c (.x (.int .i64 0)))))), [35, 36]), ((.mk (some 143) none (.op (.pick (.t 140) (.t 142) (.c (.x (.bool false)))))), [35, 37]), ((.mk (some 144) none (.op (.mv (.t 143)))), [38]), ((.mk (some 145) (some (144, true)) (.op (.load 2 true (.t 19)))), [10, 19, 39]), ((.mk (some 146) (some (144, true)) (.op (.build [(.x (.int .i64 0)), (.x (.int .i64 0))] [(1, (1, (.c (.x (.int .i64 1)))))]))), [39]), ((.mk (some 147) (some (144, true)) (.op (.eqa false (.cons 0 1 false .li (.cons 1 1 false .li .nil)) (.t 145) (.t 146)))), [39, 40, 41]), ((.mk (some 148) none (.op (.pick (.t 144) (.t 147) (.c (.x (.bool false)))))), [39, 42]), ((.mk (some 149) none (.op (.mv (.t 148)))), [43]), ((.mk (some 150) (some (149, true)) (.op (.mv (.t 22)))), [44]), ((.mk (some 151) (some (149, true)) (.op (.bin .eql (.t 150) (.c (.x (.int .i64 121)))))), [44, 45]), ((.mk (some 152) none (.op (.pick (.t 149) (.t 151) (.c (.x (.bool false)))))), [44, 46]), ((.mk (some 153) none (.op (.mv (.t 152)))), [47]), ((.mk (some 154) (some (153, true)) (.op (.mv (.t 24)))), [48]), ((.mk (some 155) (some (153, true)) (.op (.bin .eql (.t 154) (.c (.x (.int .i64 0)))))), [48, 49]), ((.mk (some 156) none (.op (.pick (.t 153) (.t 155) (.c (.x (.bool false)))))), [48, 50]), ((.mk (some 157) none (.op (.mv (.t 156)))), [51]), ((.mk (some 158) (some (157, true)) (.op (.mv (.t 26)))), [52]), ((.mk (some 159) none (.op (.pick (.t 157) (.t 158) (.c (.x (.bool false)))))), [52, 53]), ((.mk (some 160) none (.op (.mv (.t 159)))), [54]), ((.mk (some 161) (some (160, true)) (.op (.fad 0 (.t 25)))), [55]), ((.mk (some 162) (some (160, true)) (.op (.load 1 false (.t 161)))), [10, 19, 40, 55, 56]), ((.mk (some 163) (some (160, true)) (.op (.bin .eql (.t 162) (.c (.x (.int .i64 1)))))), [55, 57]), ((.mk (some 164) none (.op (.pick (.t 160) (.t 163) (.c (.x (.bool false)))))), [55, 58]), ((.mk (some 165) none (.op (.mv (.t 164)))), [59]), ((.mk (some 166) (some (165, true)) (.op (.mv (.t 28)))), [60]), ((.mk (some 167) (some (165, true)) (.op (.bin .eql (.t 166) (.c (.x (.int .i64 1)))))), [60, 61]), ((.mk (some 168) none (.op (.pick (.t 165) (.t 167) (.c (.x (.bool false)))))), [60, 62]), ((.mk (some 169) none (.op (.mv (.t 168)))), [63]), ((.mk (some 170) (some (169, true)) (.op (.load 3 true (.t 23)))), [10, 19, 40, 57, 64]), ((.mk (some 171) (some (169, true)) (.call 12 [(.t 170)])), [10, 19, 40, 57, 64, 65]), ((.mk (some 172) (some (169, true)) (.op (.load 2 true (.t 19)))), [10, 19, 40, 57, 64]), ((.mk (some 173) (some (169, true)) (.op (.load 2 true (.t 9)))), [10, 19, 40, 57, 64]), ((.mk (some 174) (some (169, true)) (.op (.bsl 2 2 [(.x (.int .i64 0)), (.x (.int .i64 0))] [(0, (2, (.t 172))), (2, (2, (.t 173)))]))), [10, 19, 40, 57, 64, 67, 68]), ((.mk (some 175) (some (169, true)) (.call 15 [(.t 171), (.t 174)])), [10, 19, 40, 57, 64, 65, 66, 67, 68, 69]), ((.mk (some 176) none (.op (.pick (.t 169) (.t 175) (.c (.x (.bool false)))))), [64, 70]), ((.mk (some 177) none (.op (.mv (.t 176)))), [71]), ((.mk (some 178) (some (177, true)) (.op (.load 3 true (.t 23)))), [10, 19, 40, 57, 65, 66, 67, 68, 69, 70, 72]), ((.mk (some 179) (some (177, true)) (.call 17 [(.t 178)])), [10, 19, 40, 57, 65, 66, 67, 68, 69, 70, 72, 73]), ((.mk (some 180) none (.op (.pick (.t 177) (.t 179) (.c (.x (.bool false)))))), [72, 74]), ((.mk (some 181) none (.op (.mv (.t 180)))), [75]), ((.mk (some 182) (some (181, true)) (.op (.build [(.z true), (.z true), (.x (.int .i64 0))] []))), [76]), ((.mk (some 183) (some (181, true)) (.call 17 [(.t 182)])), [10, 19, 40, 57, 65, 66, 67, 68, 69, 70, 73, 74, 76, 77]), ((.mk (some 184) (some (181, true)) (.op (.un .not (.t 183)))), [76, 78]), ((.mk (some 185) none (.op (.pick (.t 181) (.t 184) (.c (.x (.bool false)))))), [76, 79]), ((.mk (some 186) none (.op (.mv (.t 185)))), [80]), ((.mk (some 187) (some (186, true)) (.op (.load 3 true (.t 23)))), [10, 19, 40, 57, 65, 66, 67, 68, 69, 70, 73, 74, 78, 81]), ((.mk (some 188) (some (186, true)) (.op (.load 3 true (.t 23)))), [10, 19, 40, 57, 65, 66, 67, 68, 69, 70, 73, 74, 78, 81]), ((.mk (some 189) (some (186, true)) (.call 18 [(.t 187), (.t 188)])), [10, 19, 40, 57, 65, 66, 67, 68, 69, 70, 73, 74, 78, 81, 82, 83]), ((.mk (some 190) none (.op (.pick (.t 186) (.t 189) (.c (.x (.bool false)))))), [81, 84]), ((.mk (some 191) none (.op (.mv (.t 190)))), [85]), ((.mk (some 192) (some (191, true)) (.op (.load 3 true (.t 18)))), [10, 19, 40, 57, 65, 66, 67, 68, 69, 70, 73, 74, 78, 82, 83, 84, 86]), ((.mk (some 193) (some (191, true)) (.op (.load 3 true (.t 23)))), [10, 19, 40, 57, 65, 66, 67, 68, 69, 70, 73, 74, 78, 82, 83, 84, 86]), ((.mk (some 194) (some (191, true)) (.call 18 [(.t 192), (.t 193)])), [10, 19, 40, 57, 65, 66, 67, 68, 69, 70, 73, 74, 78, 82, 83, 84, 86, 87, 88]), ((.mk (some 195) (some (191, true)) (.op (.un .not (.t 194)))), [86, 89]), ((.mk (some 196) none (.op (.pick (.t 191) (.t 195) (.c (.x (.bool false)))))), [86, 90]), ((.mk (some 0) none (.op (.mv (.t 196)))), [91])]) .ret))))))))))))))) [(.tmp 0)])
theorem tu_l12fixed : turnF Try.prog Try.f5 = some df_l12fixed := by kernel_rfl

theorem ca_penNew : callable Try.prog 7 = true := by kernel_rfl
theorem ca_l12fixed : callable Try.prog 5 = true := by kernel_rfl
def rawFr (n : Int) : DV := .g [int n, int 0, .z true, .z true, .z true, int 0, int 0, int 0, int 0, int 0, int 0, int 0, int 0, int 0, int 0, int 0]
theorem rawFr_frq (n : Int) : frq 12 H0 (rawFr n) (.g (fr n).row) := by simp [rawFr, L2, frq, fr, zeroFrame, Frame.row]
theorem rawPen_frq : frq 12 H0 (.g [.z true, .z true, int 0]) (.g (⟨[], [], 0⟩ : Pen).row) := by simp [L2, frq, Pen.row]
theorem okT : pT.ok := by simp [pT, Pen.ok, Frame.ok, fr, zeroFrame]
theorem okS : pS.ok := by simp [pS, Pen.ok, Frame.ok, fr, zeroFrame]
theorem s_l12fixed (hS : SortedSpec) : SpecP Try.prog 5 [] (bool true) := by
  refine .body mixed Try.func5 tu_l12fixed (Nat.le_of_ble_eq_true rfl) ?_
  simp -implicitDefEqProofs only [df_l12fixed, SS, ↓reduceIte, Nat.reduceEqDiff, Nat.reduceAdd, eq_self, reduceCtorEq, Nat.reduceLeDiff, Nat.reduceSub, Nat.reduceMul, forall_const, implies_true, Int.reduceLE, Int.reduceLT, Int.reduceToNat, Int.reduceEq, Int.reduceBEq, Int.reduceBNe, Nat.reduceLT]
  have a1 := s_penNew 2
  rw [if_pos (by decide), show (decide ((1:Int) ≤ 2 ∧ (2:Int) ≤ 1024)) = true by decide] at a1
  have a2 := s_penNew 1025
  rw [if_neg (by decide), show (decide ((1:Int) ≤ 1025 ∧ (1025:Int) ≤ 1024)) = false by decide] at a2
  have a3 := s_penLay hS p0 (fr 1) (by decide) (by decide)
  rw [lay1] at a3
  have a4 := s_penLay hS pA (fr 2) (by decide) (by decide)
  rw [lay2] at a4
  have a5 := s_penLay hS pB (fr 1) (by decide) (by decide)
  rw [lay3] at a5
  have a6 := s_penDrop hS pB ⟨0, 0⟩ (by decide) (by decide)
  rw [drop1] at a6
  have a7 := s_penGet hS pQ ⟨0, 0⟩ (by decide) (by decide)
  rw [held1, Bool.and_false] at a7
  have a8 := s_penLay hS pQ (fr 2) (by decide) (by decide)
  rw [lay4] at a8
  have a9 := s_penSet hS pS ⟨0, 0⟩ (fr 1) (by decide) (by decide)
  rw [set1] at a9
  have a10 := s_penSet hS pS ⟨1, 0⟩ (fr 1) (by decide) (by decide)
  rw [set2] at a10
  have a11 := s_penGet hS pT ⟨1, 0⟩ (by decide) (by decide)
  rw [get2, held2, mayA.2.2.2.2.2.1, Bool.and_self] at a11
  have a12 := s_penDrop hS ⟨[], [], 0⟩ ⟨0, 0⟩ (by decide) (by decide)
  rw [drop2] at a12
  refine ⟨ca_penNew, SpecH.of_pure a1 L2.refl rfl ?_⟩
  simp -implicitDefEqProofs only [SS, ↓reduceIte, Nat.reduceEqDiff, Nat.reduceAdd, eq_self, reduceCtorEq, Nat.reduceLeDiff, Nat.reduceSub, Nat.reduceMul, forall_const, implies_true, Int.reduceLE, Int.reduceLT, Int.reduceToNat, Int.reduceEq, Int.reduceBEq, Int.reduceBNe, Nat.reduceLT, EE]
  refine ⟨ca_penNew, SpecH.of_pure a2 L2.refl rfl ?_⟩
  simp -implicitDefEqProofs only [SS, ↓reduceIte, Nat.reduceEqDiff, Nat.reduceAdd, eq_self, reduceCtorEq, Nat.reduceLeDiff, Nat.reduceSub, Nat.reduceMul, forall_const, implies_true, Int.reduceLE, Int.reduceLT, Int.reduceToNat, Int.reduceEq, Int.reduceBEq, Int.reduceBNe, Nat.reduceLT, EE]
  refine ⟨ca_penLay, SpecH.of_pure a3 ⟨frq.refl, rawFr_frq 1, trivial⟩ rfl ?_⟩
  simp -implicitDefEqProofs only [SS, ↓reduceIte, Nat.reduceEqDiff, Nat.reduceAdd, eq_self, reduceCtorEq, Nat.reduceLeDiff, Nat.reduceSub, Nat.reduceMul, forall_const, implies_true, Int.reduceLE, Int.reduceLT, Int.reduceToNat, Int.reduceEq, Int.reduceBEq, Int.reduceBNe, Nat.reduceLT, EE]
  refine ⟨ca_penLay, SpecH.of_pure a4 ⟨frq.refl, rawFr_frq 2, trivial⟩ rfl ?_⟩
  simp -implicitDefEqProofs only [SS, ↓reduceIte, Nat.reduceEqDiff, Nat.reduceAdd, eq_self, reduceCtorEq, Nat.reduceLeDiff, Nat.reduceSub, Nat.reduceMul, forall_const, implies_true, Int.reduceLE, Int.reduceLT, Int.reduceToNat, Int.reduceEq, Int.reduceBEq, Int.reduceBNe, Nat.reduceLT, EE]
  refine ⟨ca_penLay, SpecH.of_pure a5 ⟨frq.refl, rawFr_frq 1, trivial⟩ rfl ?_⟩
  simp -implicitDefEqProofs only [SS, ↓reduceIte, Nat.reduceEqDiff, Nat.reduceAdd, eq_self, reduceCtorEq, Nat.reduceLeDiff, Nat.reduceSub, Nat.reduceMul, forall_const, implies_true, Int.reduceLE, Int.reduceLT, Int.reduceToNat, Int.reduceEq, Int.reduceBEq, Int.reduceBNe, Nat.reduceLT, EE]
  refine ⟨ca_penDrop, SpecH.of_pure a6 L2.refl rfl ?_⟩
  simp -implicitDefEqProofs only [SS, ↓reduceIte, Nat.reduceEqDiff, Nat.reduceAdd, eq_self, reduceCtorEq, Nat.reduceLeDiff, Nat.reduceSub, Nat.reduceMul, forall_const, implies_true, Int.reduceLE, Int.reduceLT, Int.reduceToNat, Int.reduceEq, Int.reduceBEq, Int.reduceBNe, Nat.reduceLT, EE]
  refine ⟨ca_penGet, SpecH.of_pure a7 L2.refl rfl ?_⟩
  simp -implicitDefEqProofs only [SS, ↓reduceIte, Nat.reduceEqDiff, Nat.reduceAdd, eq_self, reduceCtorEq, Nat.reduceLeDiff, Nat.reduceSub, Nat.reduceMul, forall_const, implies_true, Int.reduceLE, Int.reduceLT, Int.reduceToNat, Int.reduceEq, Int.reduceBEq, Int.reduceBNe, Nat.reduceLT, EE]
  refine ⟨ca_penLay, SpecH.of_pure a8 ⟨frq.refl, rawFr_frq 2, trivial⟩ rfl ?_⟩
  simp -implicitDefEqProofs only [SS, ↓reduceIte, Nat.reduceEqDiff, Nat.reduceAdd, eq_self, reduceCtorEq, Nat.reduceLeDiff, Nat.reduceSub, Nat.reduceMul, forall_const, implies_true, Int.reduceLE, Int.reduceLT, Int.reduceToNat, Int.reduceEq, Int.reduceBEq, Int.reduceBNe, Nat.reduceLT, EE]
  refine ⟨ca_penSet, SpecH.of_pure a9 ⟨frq.refl, frq.refl, rawFr_frq 1, trivial⟩ rfl ?_⟩
  simp -implicitDefEqProofs only [SS, ↓reduceIte, Nat.reduceEqDiff, Nat.reduceAdd, eq_self, reduceCtorEq, Nat.reduceLeDiff, Nat.reduceSub, Nat.reduceMul, forall_const, implies_true, Int.reduceLE, Int.reduceLT, Int.reduceToNat, Int.reduceEq, Int.reduceBEq, Int.reduceBNe, Nat.reduceLT, EE]
  refine ⟨ca_penSet, SpecH.of_pure a10 ⟨frq.refl, frq.refl, rawFr_frq 1, trivial⟩ rfl ?_⟩
  simp -implicitDefEqProofs only [SS, ↓reduceIte, Nat.reduceEqDiff, Nat.reduceAdd, eq_self, reduceCtorEq, Nat.reduceLeDiff, Nat.reduceSub, Nat.reduceMul, forall_const, implies_true, Int.reduceLE, Int.reduceLT, Int.reduceToNat, Int.reduceEq, Int.reduceBEq, Int.reduceBNe, Nat.reduceLT, EE]
  refine ⟨ca_penGet, SpecH.of_pure a11 L2.refl rfl ?_⟩
  simp -implicitDefEqProofs only [SS, ↓reduceIte, Nat.reduceEqDiff, Nat.reduceAdd, eq_self, reduceCtorEq, Nat.reduceLeDiff, Nat.reduceSub, Nat.reduceMul, forall_const, implies_true, Int.reduceLE, Int.reduceLT, Int.reduceToNat, Int.reduceEq, Int.reduceBEq, Int.reduceBNe, Nat.reduceLT, EE]
  refine ⟨ca_penDrop, SpecH.of_pure a12 ⟨rawPen_frq, frq.refl, trivial⟩ rfl ?_⟩
  simp -implicitDefEqProofs only [SS, ↓reduceIte, Nat.reduceEqDiff, Nat.reduceAdd, eq_self, reduceCtorEq, Nat.reduceLeDiff, Nat.reduceSub, Nat.reduceMul, forall_const, implies_true, Int.reduceLE, Int.reduceLT, Int.reduceToNat, Int.reduceEq, Int.reduceBEq, Int.reduceBNe, Nat.reduceLT, EE]
  have b1 := s_penRefs hS pT (by decide) (by decide)
  rw [refs2] at b1
  have b2 := s_r11Refs [⟨0, 1⟩, ⟨1, 0⟩] [⟨0, 1⟩, ⟨1, 0⟩] (by decide)
  have b3 := s_penMay hS pT (by decide)
  rw [mayA.2.2.2.2.2.1] at b3
  have b4 := s_penMay hS ⟨[], [], 0⟩ (by decide)
  rw [mayA.2.2.2.2.2.2] at b4
  have b5 := s_penSame pT pT okT
  have b6 := s_penSame pS pT okS
  rw [decide_eq_false same2] at b6
  rw [decide_eq_true rfl] at b2 b5
  simp -implicitDefEqProofs only [SS, ↓reduceIte, Nat.reduceEqDiff, Nat.reduceAdd, eq_self, reduceCtorEq, Nat.reduceLeDiff, Nat.reduceSub, Nat.reduceMul, forall_const, implies_true, Int.reduceLE, Int.reduceLT, Int.reduceToNat, Int.reduceEq, Int.reduceBEq, Int.reduceBNe, Nat.reduceLT, EE, eqSh_ints2, decide_true, Bool.and_self, fr]
  refine callL_pure ca_penRefs b1 L2.refl rfl ?_
  simp -implicitDefEqProofs only [SS, ↓reduceIte, Nat.reduceEqDiff, Nat.reduceAdd, eq_self, reduceCtorEq, Nat.reduceLeDiff, Nat.reduceSub, Nat.reduceMul, forall_const, implies_true, Int.reduceLE, Int.reduceLT, Int.reduceToNat, Int.reduceEq, Int.reduceBEq, Int.reduceBNe, Nat.reduceLT, EE, decide_true]
  refine callL_flat [[174]] ca_r11Refs b2 (fun H1 h1 => ⟨frq.refl, frq_own ((h1 _ (by simp)).trans (by simp [set_at]; rfl)) (by simp) rfl (rows_refs Ref.row_refs _), trivial⟩) rfl rfl ?_ ?_
  · simp -implicitDefEqProofs only [SS, ↓reduceIte, Nat.reduceEqDiff, Nat.reduceAdd, eq_self, reduceCtorEq, Nat.reduceLeDiff, Nat.reduceSub, Nat.reduceMul, forall_const, implies_true, Int.reduceLE, Int.reduceLT, Int.reduceToNat, Int.reduceEq, Int.reduceBEq, Int.reduceBNe, Nat.reduceLT]
    done
  simp -implicitDefEqProofs only [SS, ↓reduceIte, Nat.reduceEqDiff, Nat.reduceAdd, eq_self, reduceCtorEq, Nat.reduceLeDiff, Nat.reduceSub, Nat.reduceMul, forall_const, implies_true, Int.reduceLE, Int.reduceLT, Int.reduceToNat, Int.reduceEq, Int.reduceBEq, Int.reduceBNe, Nat.reduceLT, EE]
  refine callL_pure ca_penMay b3 L2.refl rfl ?_
  simp -implicitDefEqProofs only [SS, ↓reduceIte, Nat.reduceEqDiff, Nat.reduceAdd, eq_self, reduceCtorEq, Nat.reduceLeDiff, Nat.reduceSub, Nat.reduceMul, forall_const, implies_true, Int.reduceLE, Int.reduceLT, Int.reduceToNat, Int.reduceEq, Int.reduceBEq, Int.reduceBNe, Nat.reduceLT, EE]
  refine callL_pure ca_penMay b4 ⟨rawPen_frq, trivial⟩ rfl ?_
  simp -implicitDefEqProofs only [SS, ↓reduceIte, Nat.reduceEqDiff, Nat.reduceAdd, eq_self, reduceCtorEq, Nat.reduceLeDiff, Nat.reduceSub, Nat.reduceMul, forall_const, implies_true, Int.reduceLE, Int.reduceLT, Int.reduceToNat, Int.reduceEq, Int.reduceBEq, Int.reduceBNe, Nat.reduceLT, EE]
  refine callL_pure ca_penSame b5 L2.refl rfl ?_
  simp -implicitDefEqProofs only [SS, ↓reduceIte, Nat.reduceEqDiff, Nat.reduceAdd, eq_self, reduceCtorEq, Nat.reduceLeDiff, Nat.reduceSub, Nat.reduceMul, forall_const, implies_true, Int.reduceLE, Int.reduceLT, Int.reduceToNat, Int.reduceEq, Int.reduceBEq, Int.reduceBNe, Nat.reduceLT, EE]
  refine callL_pure ca_penSame b6 L2.refl rfl ?_
  simp -implicitDefEqProofs only [SS, ↓reduceIte, Nat.reduceEqDiff, Nat.reduceAdd, eq_self, reduceCtorEq, Nat.reduceLeDiff, Nat.reduceSub, Nat.reduceMul, forall_const, implies_true, Int.reduceLE, Int.reduceLT, Int.reduceToNat, Int.reduceEq, Int.reduceBEq, Int.reduceBNe, Nat.reduceLT, EE]
  exact ⟨frq.refl, rfl⟩

end Go.Proofs.Ytjbcgjgomhbmgaa

/-  The program's types, as far as a law's arguments have them. -/
namespace Go.Proofs.Ytjbcgjgomhbmgaa
open Go.RowKit
set_option linter.unusedVariables false
set_option linter.unusedSimpArgs false

def I64 (n : Int) : Prop := -9223372036854775808 ≤ n ∧ n ≤ 9223372036854775807
def Lim (n : Nat) : Prop := n ≤ 140737488351232

theorem fit_int {d : DV} (h : Fit .int d) : ∃ n, d = int n ∧ I64 n := by
  simp only [Fit] at h
  obtain ⟨n, rfl, h⟩ := h
  exact ⟨n, rfl, h⟩
theorem fit_bool {d : DV} (h : Fit .bool d) : ∃ b, d = bool b := by simpa only [Fit] using h
theorem fit_rows {α : Type} {f : α → List DV} {wf : α → Prop} {P : List DV → Prop} (hf : ∀ row, P row → ∃ x, row = f x ∧ wf x) : ∀ {rows : List (List DV)}, (∀ row ∈ rows, P row) → ∃ l : List α, rows = l.map f ∧ ∀ x ∈ l, wf x
  | [], _ => ⟨[], rfl, by simp⟩
  | r :: rows, h => by
    obtain ⟨x, h1, h2⟩ := hf r (h r (by simp))
    obtain ⟨l, h3, h4⟩ := fit_rows hf (rows := rows) (fun row hr => h row (by simp [hr]))
    exact ⟨x :: l, by simp [h1, h3], by simpa using ⟨h2, h4⟩⟩
theorem fit_sl {α : Type} {f : α → List DV} {wf : α → Prop} {ts : List TS} (hf : ∀ row, FitL ts row → ∃ x, row = f x ∧ wf x) {d : DV} (h : Fit (.sl ts) d) : ∃ l : List α, d = .s ts.length (l.map f) ∧ Lim l.length ∧ ∀ x ∈ l, wf x := by
  simp only [Fit] at h
  obtain ⟨rows, rfl, h1, h2⟩ := h
  obtain ⟨l, rfl, h3⟩ := fit_rows hf h2
  exact ⟨l, rfl, by simpa [Lim] using h1, h3⟩
theorem fitL_cons {t : TS} {ts : List TS} {ds : List DV} (h : FitL (t :: ts) ds) : ∃ d ds', ds = d :: ds' ∧ Fit t d ∧ FitL ts ds' := by simpa only [FitL] using h
theorem fitL_nil {ds : List DV} (h : FitL [] ds) : ds = [] := by simpa only [FitL] using h

def irowTs : List TS := [.int]
theorem irow_fit {row : List DV} (h : FitL irowTs row) : ∃ x, row = irow x ∧ I64 x := by
  obtain ⟨d1, r1, rfl, h1, g1⟩ := fitL_cons h
  obtain ⟨n1, rfl, w1⟩ := fit_int h1
  cases fitL_nil g1
  exact ⟨n1, rfl, w1⟩

def Val.ts : List TS := [.int, .int]
def Val.wf (v : Val) : Prop := I64 v.re ∧ I64 v.im
theorem Val.fit {row : List DV} (h : FitL Val.ts row) : ∃ v : Val, row = v.row ∧ v.wf := by
  obtain ⟨d1, r1, rfl, h1, g1⟩ := fitL_cons h
  obtain ⟨d2, r2, rfl, h2, g2⟩ := fitL_cons g1
  obtain ⟨n1, rfl, w1⟩ := fit_int h1
  obtain ⟨n2, rfl, w2⟩ := fit_int h2
  cases fitL_nil g2
  exact ⟨⟨n1, n2⟩, rfl, w1, w2⟩
def Ref.wf (v : Ref) : Prop := I64 v.at' ∧ I64 v.gen
theorem Ref.fit {row : List DV} (h : FitL Val.ts row) : ∃ v : Ref, row = v.row ∧ v.wf := by
  obtain ⟨v, rfl, hw⟩ := Val.fit h
  exact ⟨⟨v.re, v.im⟩, rfl, hw⟩
def Slot.ts : List TS := [.int, .int, .int, .int, .int, .int]
def Slot.wf (s : Slot) : Prop := I64 s.state ∧ s.kid.wf ∧ I64 s.out.trap ∧ s.out.v.wf
theorem Slot.fit {row : List DV} (h : FitL Slot.ts row) : ∃ s : Slot, row = s.row ∧ s.wf := by
  obtain ⟨d1, r1, rfl, h1, g1⟩ := fitL_cons h
  obtain ⟨d2, r2, rfl, h2, g2⟩ := fitL_cons g1
  obtain ⟨d3, r3, rfl, h3, g3⟩ := fitL_cons g2
  obtain ⟨d4, r4, rfl, h4, g4⟩ := fitL_cons g3
  obtain ⟨d5, r5, rfl, h5, g5⟩ := fitL_cons g4
  obtain ⟨d6, r6, rfl, h6, g6⟩ := fitL_cons g5
  obtain ⟨n1, rfl, w1⟩ := fit_int h1
  obtain ⟨n2, rfl, w2⟩ := fit_int h2
  obtain ⟨n3, rfl, w3⟩ := fit_int h3
  obtain ⟨n4, rfl, w4⟩ := fit_int h4
  obtain ⟨n5, rfl, w5⟩ := fit_int h5
  obtain ⟨n6, rfl, w6⟩ := fit_int h6
  cases fitL_nil g6
  exact ⟨⟨n1, ⟨n2, n3⟩, ⟨n4, ⟨n5, n6⟩⟩⟩, rfl, w1, ⟨w2, w3⟩, w4, w5, w6⟩

def Frame.ts : List TS := [.int, .int, .sl Val.ts, .sl Val.ts, .sl Slot.ts, .int, .int, .int, .int, .int, .int, .int, .int, .int, .int, .int]
structure Frame.wf (f : Frame) : Prop where
  fn : I64 f.fn
  pc : I64 f.pc
  stack : Lim f.stack.length ∧ ∀ x ∈ f.stack, x.wf
  locals : Lim f.locals.length ∧ ∀ x ∈ f.locals, x.wf
  slots : Lim f.slots.length ∧ ∀ x ∈ f.slots, x.wf
  seed : I64 f.seed
  spawned : I64 f.spawned
  draws : I64 f.draws
  state : I64 f.state
  wait : I64 f.wait
  trap : I64 f.out.trap
  val : f.out.v.wf
  up : f.up.wf
  upSlot : I64 f.upSlot
theorem Frame.fit {row : List DV} (h : FitL Frame.ts row) : ∃ f : Frame, row = f.row ∧ f.wf := by
  obtain ⟨d1, r1, rfl, h1, g1⟩ := fitL_cons h
  obtain ⟨d2, r2, rfl, h2, g2⟩ := fitL_cons g1
  obtain ⟨d3, r3, rfl, h3, g3⟩ := fitL_cons g2
  obtain ⟨d4, r4, rfl, h4, g4⟩ := fitL_cons g3
  obtain ⟨d5, r5, rfl, h5, g5⟩ := fitL_cons g4
  obtain ⟨d6, r6, rfl, h6, g6⟩ := fitL_cons g5
  obtain ⟨d7, r7, rfl, h7, g7⟩ := fitL_cons g6
  obtain ⟨d8, r8, rfl, h8, g8⟩ := fitL_cons g7
  obtain ⟨d9, r9, rfl, h9, g9⟩ := fitL_cons g8
  obtain ⟨d10, r10, rfl, h10, g10⟩ := fitL_cons g9
  obtain ⟨d11, r11, rfl, h11, g11⟩ := fitL_cons g10
  obtain ⟨d12, r12, rfl, h12, g12⟩ := fitL_cons g11
  obtain ⟨d13, r13, rfl, h13, g13⟩ := fitL_cons g12
  obtain ⟨d14, r14, rfl, h14, g14⟩ := fitL_cons g13
  obtain ⟨d15, r15, rfl, h15, g15⟩ := fitL_cons g14
  obtain ⟨d16, r16, rfl, h16, g16⟩ := fitL_cons g15
  obtain ⟨n1, rfl, w1⟩ := fit_int h1
  obtain ⟨n2, rfl, w2⟩ := fit_int h2
  obtain ⟨l3, rfl, w3⟩ := fit_sl (f := Val.row) (wf := Val.wf) (fun _ h => Val.fit h) h3
  obtain ⟨l4, rfl, w4⟩ := fit_sl (f := Val.row) (wf := Val.wf) (fun _ h => Val.fit h) h4
  obtain ⟨l5, rfl, w5⟩ := fit_sl (f := Slot.row) (wf := Slot.wf) (fun _ h => Slot.fit h) h5
  obtain ⟨n6, rfl, w6⟩ := fit_int h6
  obtain ⟨n7, rfl, w7⟩ := fit_int h7
  obtain ⟨n8, rfl, w8⟩ := fit_int h8
  obtain ⟨n9, rfl, w9⟩ := fit_int h9
  obtain ⟨n10, rfl, w10⟩ := fit_int h10
  obtain ⟨n11, rfl, w11⟩ := fit_int h11
  obtain ⟨n12, rfl, w12⟩ := fit_int h12
  obtain ⟨n13, rfl, w13⟩ := fit_int h13
  obtain ⟨n14, rfl, w14⟩ := fit_int h14
  obtain ⟨n15, rfl, w15⟩ := fit_int h15
  obtain ⟨n16, rfl, w16⟩ := fit_int h16
  cases fitL_nil g16
  exact ⟨⟨n1, n2, l3, l4, l5, n6, n7, n8, n9, n10, ⟨n11, ⟨n12, n13⟩⟩, ⟨n14, n15⟩, n16⟩, rfl, ⟨w1, w2, w3, w4, w5, w6, w7, w8, w9, w10, w11, ⟨w12, w13⟩, ⟨w14, w15⟩, w16⟩⟩

def Cell.ts : List TS := .int :: .bool :: Frame.ts
def Cell.wf (c : Cell) : Prop := I64 c.gen ∧ c.frame.wf
theorem Cell.fit {row : List DV} (h : FitL Cell.ts row) : ∃ c : Cell, row = c.row ∧ c.wf := by
  obtain ⟨d1, r1, rfl, h1, g1⟩ := fitL_cons h
  obtain ⟨d2, r2, rfl, h2, g2⟩ := fitL_cons g1
  obtain ⟨n1, rfl, w1⟩ := fit_int h1
  obtain ⟨b, rfl⟩ := fit_bool h2
  obtain ⟨f, rfl, w⟩ := Frame.fit g2
  exact ⟨⟨n1, b, f⟩, rfl, w1, w⟩
def Pen.ts : List TS := [.sl Cell.ts, .sl irowTs, .int]
structure Pen.wf (p : Pen) : Prop where
  cells : Lim p.cells.length ∧ ∀ c ∈ p.cells, c.wf
  free : Lim p.free.length ∧ ∀ x ∈ p.free, I64 x
  most : I64 p.most
theorem Pen.fit {row : List DV} (h : FitL Pen.ts row) : ∃ p : Pen, row = p.row ∧ p.wf := by
  obtain ⟨d1, r1, rfl, h1, g1⟩ := fitL_cons h
  obtain ⟨d2, r2, rfl, h2, g2⟩ := fitL_cons g1
  obtain ⟨d3, r3, rfl, h3, g3⟩ := fitL_cons g2
  obtain ⟨l1, rfl, w1⟩ := fit_sl (f := Cell.row) (wf := Cell.wf) (fun _ h => Cell.fit h) h1
  obtain ⟨l2, rfl, w2⟩ := fit_sl (f := irow) (wf := I64) (fun _ h => irow_fit h) h2
  obtain ⟨n3, rfl, w3⟩ := fit_int h3
  cases fitL_nil g3
  exact ⟨⟨l1, l2, n3⟩, rfl, ⟨w1, w2, w3⟩⟩

end Go.Proofs.Ytjbcgjgomhbmgaa

/-  What all rows of the seat lean on. -/
namespace Go.Proofs.Ytjbcgjgomhbmgaa
open Go.RowKit
theorem own : ownKnob Try.prog.godebug = none := by kernel_rfl
theorem laidOut : laidOutB Try.prog = true := by kernel_rfl
end Go.Proofs.Ytjbcgjgomhbmgaa
