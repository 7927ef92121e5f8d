/- PenGens: for every input the law returns true, and each argument reads afterwards as it read before. No conditions. -/
import Derived.Test.YtjbcgjgomhbmgaaPb
import Derived.Test.YtjbcgjgomhbmgaaRows

/-  PenGens: a cell that is dropped and laid as often as one likes is told by another ref each time. -/
namespace Go.Proofs.Ytjbcgjgomhbmgaa
open Go.RowKit
set_option linter.unusedVariables false
set_option linter.unusedSimpArgs false

def gensPen (i : Nat) : Pen := if i = 0 then ⟨[], [], 1⟩ else ⟨[⟨i, false, zeroFrame⟩], [0], 1⟩
def gensLaid (i : Nat) (f : Frame) : Pen := ⟨[⟨i, true, f⟩], [], 1⟩
def oldRefs (i : Nat) : List Ref := (List.range i).map fun (k : Nat) => ⟨0, (k : Int)⟩
theorem gens_may {i : Nat} (h : i ≤ 41) : (gensPen i).may = true := by
  unfold gensPen
  split <;> simp [Pen.may, unused, sortI]
  omega
theorem gens_lay {i : Nat} (h : i ≤ 41) (f : Frame) : (gensPen i).lay f = (gensLaid i f, ⟨0, i⟩, 0) := by
  by_cases e : i = 0
  · subst e
    simp only [Pen.lay, gens_may h, if_true]
    simp [gensPen, gensLaid]
  · simp only [Pen.lay, gens_may h, if_true]
    simp [gensPen, gensLaid, e]
theorem gens_may2 {i : Nat} (h : i ≤ 41) (f : Frame) : (gensLaid i f).may = true := by
  simp [gensLaid, Pen.may, unused, sortI]
  omega
theorem gens_held {i : Nat} (f : Frame) : (gensLaid i f).held ⟨0, i⟩ = true := by simp [gensLaid, Pen.held]
theorem gens_gone {i k : Nat} (f : Frame) (h : k ≠ i) : (gensLaid i f).held ⟨0, k⟩ = false := by
  simp [gensLaid, Pen.held]
  omega
theorem gens_get {i : Nat} (h : i ≤ 41) (f : Frame) : (gensLaid i f).get ⟨0, i⟩ = f := by
  simp only [Pen.get, gens_may2 h, gens_held, Bool.and_self, if_true]
  simp [gensLaid]
theorem gens_drop {i : Nat} (h : i ≤ 40) (f : Frame) : (gensLaid i f).drop ⟨0, i⟩ = (gensPen (i + 1), 0) := by
  have e : ((i : Int) + 1) % 4294967296 = i + 1 := by omega
  simp [Pen.drop, gens_may2 (show i ≤ 41 by omega), gens_held, gensPen, e]
  simp [gensLaid]
theorem gens_refs {i : Nat} (h : i ≤ 40) : (gensPen (i + 1)).refs = [] := by
  simp only [Pen.refs, gens_may (show i + 1 ≤ 41 by omega), if_true]
  simp [gensPen, used]
theorem oldRefs_succ (i : Nat) : oldRefs (i + 1) = oldRefs i ++ [⟨0, i⟩] := by simp [oldRefs, List.range_succ]
theorem oldRefs_get {i k : Nat} (h : k < i) : (oldRefs i)[k]? = some ⟨0, k⟩ := by simp [oldRefs, h]
theorem oldRefs_len (i : Nat) : (oldRefs i).length = i := by simp [oldRefs]
theorem frq_zf {f : Frame} : frq 12 H0 (.g f.row) (.g f.row) := frq.refl

/-- Ahead of each turn. -/
def GensOut (n : Nat) (f : Frame) (m : Nat) (e : Env) (H : Heap) : Prop := ∃ (i : Nat) (rs : List Ref), i ≤ n ∧ m = n - i ∧ e 1 = int n ∧ e 2 = .p [2] 1 0 0 ∧ e 5 = .p [5] 1 0 0 ∧ e 8 = int i ∧ H [2] = (1, some ⟨16, false, [f.row]⟩) ∧
  H [5] = (1, some ⟨3, false, [(gensPen i).row]⟩) ∧ rs = oldRefs i ∧ Grow [100] 2 (rs.map Ref.row) (e 7) H
/-- Ahead of each older ref. -/
def GensIn (n i : Nat) (f : Frame) (d7 : DV) (rs : List Ref) (m : Nat) (e' : Env) (H' : Heap) : Prop := ∃ k : Nat, k ≤ i ∧ m = i - k ∧ e' 14 = int k ∧ e' 1 = int n ∧ e' 2 = .p [2] 1 0 0 ∧ e' 5 = .p [5] 1 0 0 ∧ e' 8 = int i ∧ e' 7 = d7 ∧
  (∃ v9, e' 9 = .p [9] v9 0 0 ∧ H' [9] = (v9, some ⟨3, false, [(gensLaid i f).row]⟩)) ∧ (∃ v10, e' 10 = .p [10] v10 0 0 ∧ H' [10] = (v10, some ⟨2, false, [[int 0, int i]]⟩)) ∧
  H' [2] = (1, some ⟨16, false, [f.row]⟩) ∧ H' [5] = (1, some ⟨3, false, [(gensPen i).row]⟩) ∧ Grow [100] 2 (rs.map Ref.row) d7 H'

def df_l12PenGens : DF := (.mk 122 (.seq (.reg [(.mk (some 2) none (.op (.box (.t 0)))), (.mk (some 4) none (.op (.mv (.c (.x (.bool false))))))]) (.seq (.seq (.reg [(.mk (some 19) none (.call 5 [])), (.mk (some 20) none (.op (.un .not (.t 19)))), (.mk (some 21) none (.op (.mv (.t 20)))), (.mk (some 22) (some (21, false)) (.op (.load 16 true (.t 2)))), (.mk (some 23) (some (21, false)) (.call 6 [(.t 22)])), (.mk (some 24) (some (21, false)) (.op (.un .not (.t 23)))), (.mk (some 25) none (.op (.pick (.t 21) (.c (.x (.bool true))) (.t 24)))), (.mk (some 26) none (.op (.mv (.t 25)))), (.mk (some 27) (some (26, false)) (.op (.mv (.t 1)))), (.mk (some 28) (some (26, false)) (.op (.bin .lss (.t 27) (.c (.x (.int .i64 0)))))), (.mk (some 29) none (.op (.pick (.t 26) (.c (.x (.bool true))) (.t 28)))), (.mk (some 30) none (.op (.mv (.t 29)))), (.mk (some 31) (some (30, false)) (.op (.mv (.t 1)))), (.mk (some 32) (some (30, false)) (.op (.bin .gtr (.t 31) (.c (.x (.int .i64 40)))))), (.mk (some 33) none (.op (.pick (.t 30) (.c (.x (.bool true))) (.t 32))))]) (.cond (.t 33) (.seq (.reg [(.mk (some 34) none (.call 5 [])), (.mk (some 4) none (.op (.mv (.t 34))))]) .ret) .skip)) (.seq (.reg [(.mk (some 36) none (.call 7 [(.c (.x (.int .i64 1)))])), (.mk (some 35) none (.op (.mv (.t 36)))), (.mk (some 37) none (.op (.ext (.t 35) 0))), (.mk (some 38) none (.op (.ext (.t 35) 1))), (.mk (some 5) none (.op (.box (.c (.g [(.z true), (.z true), (.x (.int .i64 0))]))))), (.mk none none (.op (.store 3 (.t 5) (.t 37)))), (.mk (some 6) none (.op (.mv (.t 38))))]) (.seq (.reg [(.mk (some 39) none (.op (.bsl 2 0 [(.x (.int .i64 0)), (.x (.int .i64 0))] []))), (.mk (some 7) none (.op (.mv (.t 39))))]) (.seq (.seq (.reg [(.mk (some 8) none (.op (.mv (.c (.x (.int .i64 0))))))]) (.block 0 (.loop (.seq (.seq (.reg [(.mk (some 40) none (.op (.mv (.t 8)))), (.mk (some 41) none (.op (.mv (.t 1)))), (.mk (some 42) none (.op (.bin .lss (.t 40) (.t 41))))]) (.cond (.t 42) .skip (.exit 0))) (.seq (.block 1 (.seq (.reg [(.mk (some 46) none (.op (.load 3 true (.t 5)))), (.mk (some 47) none (.op (.load 16 true (.t 2)))), (.mk (some 48) none (.call 8 [(.t 46), (.t 47)])), (.mk (some 45) none (.op (.mv (.t 48)))), (.mk (some 49) none (.op (.ext (.t 45) 0))), (.mk (some 50) none (.op (.ext (.t 45) 1))), (.mk (some 51) none (.op (.ext (.t 45) 2))), (.mk (some 9) none (.op (.box (.c (.g [(.z true), (.z true), (.x (.int .i64 0))]))))), (.mk (some 10) none (.op (.box (.c (.g [(.x (.int .i64 0)), (.x (.int .i64 0))]))))), (.mk none none (.op (.store 3 (.t 9) (.t 49)))), (.mk none none (.op (.store 2 (.t 10) (.t 50)))), (.mk (some 11) none (.op (.mv (.t 51))))]) (.seq (.reg [(.mk (some 53) none (.op (.load 3 true (.t 9)))), (.mk (some 54) none (.op (.load 2 true (.t 10)))), (.mk (some 55) none (.call 9 [(.t 53), (.t 54)])), (.mk (some 52) none (.op (.mv (.t 55)))), (.mk (some 56) none (.op (.ext (.t 52) 0))), (.mk (some 57) none (.op (.ext (.t 52) 1))), (.mk (some 12) none (.op (.box (.c (.g [(.x (.int .i64 0)), (.x (.int .i64 0)), (.z true), (.z true), (.z true), (.x (.int .i64 0)), (.x (.int .i64 0)), (.x (.int .i64 0)), (.x (.int .i64 0)), (.x (.int .i64 0)), (.x (.int .i64 0)), (.x (.int .i64 0)), (.x (.int .i64 0)), (.x (.int .i64 0)), (.x (.int .i64 0)), (.x (.int .i64 0))]))))), (.mk none none (.op (.store 16 (.t 12) (.t 56)))), (.mk (some 13) none (.op (.mv (.t 57))))]) (.seq (.seq (.reg [(.mk (some 58) none (.op (.mv (.t 11)))), (.mk (some 59) none (.op (.bin .neq (.t 58) (.c (.x (.int .i64 0)))))), (.mk (some 60) none (.op (.mv (.t 59)))), (.mk (some 61) (some (60, false)) (.op (.mv (.t 13)))), (.mk (some 62) (some (60, false)) (.op (.un .not (.t 61)))), (.mk (some 63) none (.op (.pick (.t 60) (.c (.x (.bool true))) (.t 62)))), (.mk (some 64) none (.op (.mv (.t 63)))), (.mk (some 65) (some (64, false)) (.op (.load 16 true (.t 2)))), (.mk (some 66) (some (64, false)) (.op (.load 16 true (.t 12)))), (.mk (some 67) (some (64, false)) (.call 10 [(.t 65), (.t 66)])), (.mk (some 68) (some (64, false)) (.op (.un .not (.t 67)))), (.mk (some 69) none (.op (.pick (.t 64) (.c (.x (.bool true))) (.t 68)))), (.mk (some 70) none (.op (.mv (.t 69)))), (.mk (some 71) (some (70, false)) (.op (.fad 0 (.t 10)))), (.mk (some 72) (some (70, false)) (.op (.load 1 false (.t 71)))), (.mk (some 73) (some (70, false)) (.op (.bin .neq (.t 72) (.c (.x (.int .i64 0)))))), (.mk (some 74) none (.op (.pick (.t 70) (.c (.x (.bool true))) (.t 73)))), (.mk (some 75) none (.op (.mv (.t 74)))), (.mk (some 76) (some (75, false)) (.op (.fad 1 (.t 10)))), (.mk (some 77) (some (75, false)) (.op (.load 1 false (.t 76)))), (.mk (some 78) (some (75, false)) (.op (.mv (.t 8)))), (.mk (some 79) (some (75, false)) (.op (.bin .neq (.t 77) (.t 78)))), (.mk (some 80) none (.op (.pick (.t 75) (.c (.x (.bool true))) (.t 79))))]) (.cond (.t 80) (.seq (.reg [(.mk (some 4) none (.op (.mv (.c (.x (.bool false))))))]) .ret) .skip)) (.seq (.seq (.reg [(.mk (some 14) none (.op (.mv (.c (.x (.int .i64 0))))))]) (.block 2 (.loop (.seq (.seq (.reg [(.mk (some 81) none (.op (.mv (.t 14)))), (.mk (some 82) none (.op (.mv (.t 7)))), (.mk (some 83) none (.op (.len (.t 82)))), (.mk (some 84) none (.op (.bin .lss (.t 81) (.t 83))))]) (.cond (.t 84) .skip (.exit 2))) (.seq (.block 3 (.seq (.drw [((.mk (some 88) none (.op (.load 3 true (.t 9)))), []), ((.mk (some 89) none (.op (.mv (.t 7)))), []), ((.mk (some 90) none (.op (.mv (.t 14)))), []), ((.mk (some 91) none (.op (.iad 2 (.t 89) (.t 90)))), [1, 2]), ((.mk (some 92) none (.op (.load 2 true (.t 91)))), [3]), ((.mk (some 93) none (.call 9 [(.t 88), (.t 92)])), [0, 4]), ((.mk (some 87) none (.op (.mv (.t 93)))), [5]), ((.mk (some 94) none (.op (.ext (.t 87) 0))), [6]), ((.mk (some 95) none (.op (.ext (.t 87) 1))), [6]), ((.mk (some 15) none (.op (.box (.c (.g [(.x (.int .i64 0)), (.x (.int .i64 0)), (.z true), (.z true), (.z true), (.x (.int .i64 0)), (.x (.int .i64 0)), (.x (.int .i64 0)), (.x (.int .i64 0)), (.x (.int .i64 0)), (.x (.int .i64 0)), (.x (.int .i64 0)), (.x (.int .i64 0)), (.x (.int .i64 0)), (.x (.int .i64 0)), (.x (.int .i64 0))]))))), []), ((.mk none none (.op (.store 16 (.t 15) (.t 94)))), [9, 7, 5, 0, 1, 2, 3, 4, 5, 6, 7, 9]), ((.mk (some 16) none (.op (.mv (.t 95)))), [8, 10, 0, 1, 2, 3, 4, 5, 6, 7, 8, 9, 10])]) (.seq (.reg [(.mk (some 96) none (.op (.mv (.t 16))))]) (.cond (.t 96) (.seq (.reg [(.mk (some 4) none (.op (.mv (.c (.x (.bool false))))))]) .ret) .skip)))) (.reg [(.mk (some 85) none (.op (.mv (.t 14)))), (.mk (some 86) none (.op (.bin .add (.t 85) (.c (.x (.int .i64 1)))))), (.mk (some 14) none (.op (.mv (.t 86))))])))))) (.seq (.reg [(.mk (some 97) none (.op (.mv (.t 7)))), (.mk (some 98) none (.op (.load 2 true (.t 10)))), (.mk (some 99) none (.op (.bsl 2 1 [(.x (.int .i64 0)), (.x (.int .i64 0))] [(0, (2, (.t 98)))]))), (.mk (some 100) none (.op (.app 2 16 (.t 97) (.t 99)))), (.mk (some 7) none (.op (.mv (.t 100))))]) (.seq (.reg [(.mk (some 102) none (.op (.load 3 true (.t 9)))), (.mk (some 103) none (.op (.load 2 true (.t 10)))), (.mk (some 104) none (.call 11 [(.t 102), (.t 103)])), (.mk (some 101) none (.op (.mv (.t 104)))), (.mk (some 105) none (.op (.ext (.t 101) 0))), (.mk (some 106) none (.op (.ext (.t 101) 1))), (.mk (some 17) none (.op (.box (.c (.g [(.z true), (.z true), (.x (.int .i64 0))]))))), (.mk none none (.op (.store 3 (.t 17) (.t 105)))), (.mk (some 18) none (.op (.mv (.t 106))))]) (.seq (.seq (.reg [(.mk (some 107) none (.op (.mv (.t 18)))), (.mk (some 108) none (.op (.bin .neq (.t 107) (.c (.x (.int .i64 0)))))), (.mk (some 109) none (.op (.mv (.t 108)))), (.mk (some 110) (some (109, false)) (.op (.load 3 true (.t 17)))), (.mk (some 111) (some (109, false)) (.call 12 [(.t 110)])), (.mk (some 112) (some (109, false)) (.op (.len (.t 111)))), (.mk (some 113) (some (109, false)) (.op (.bin .neq (.t 112) (.c (.x (.int .i64 0)))))), (.mk (some 114) none (.op (.pick (.t 109) (.c (.x (.bool true))) (.t 113)))), (.mk (some 115) none (.op (.mv (.t 114)))), (.mk (some 116) (some (115, false)) (.op (.fad 0 (.t 17)))), (.mk (some 117) (some (115, false)) (.op (.load 1 false (.t 116)))), (.mk (some 118) (some (115, false)) (.op (.len (.t 117)))), (.mk (some 119) (some (115, false)) (.op (.bin .neq (.t 118) (.c (.x (.int .i64 1)))))), (.mk (some 120) none (.op (.pick (.t 115) (.c (.x (.bool true))) (.t 119))))]) (.cond (.t 120) (.seq (.reg [(.mk (some 4) none (.op (.mv (.c (.x (.bool false))))))]) .ret) .skip)) (.reg [(.mk (some 121) none (.op (.load 3 true (.t 17)))), (.mk none none (.op (.store 3 (.t 5) (.t 121))))]))))))))) (.reg [(.mk (some 43) none (.op (.mv (.t 8)))), (.mk (some 44) none (.op (.bin .add (.t 43) (.c (.x (.int .i64 1)))))), (.mk (some 8) none (.op (.mv (.t 44))))])))))) (.seq (.reg [(.mk (some 4) none (.op (.mv (.c (.x (.bool true))))))]) .ret)))))) [(.tmp 4)])
theorem tu_l12PenGens : turnF Try.prog Try.f3 = some df_l12PenGens := by kernel_rfl

theorem s_l12PenGens (hS : SortedSpec) (f : Frame) (turns : Int) : SpecP Try.prog 3 [.g f.row, int turns] (bool true) := by
  refine .body mixed Try.func3 tu_l12PenGens (Nat.le_of_ble_eq_true rfl) ?_
  simp -implicitDefEqProofs only [df_l12PenGens, SS, ↓reduceIte, Nat.reduceEqDiff, Nat.reduceAdd, eq_self, reduceCtorEq, Nat.reduceLeDiff, Nat.reduceSub, Nat.reduceMul, forall_const, implies_true, Int.reduceLE, Int.reduceLT, Int.reduceToNat, Int.reduceEq, Int.reduceBEq, Int.reduceBNe, Nat.reduceLT, EE]
  refine ⟨ca_l12fixed, SpecH.of_pure (s_l12fixed hS) L2.refl rfl ?_⟩
  simp -implicitDefEqProofs only [SS, ↓reduceIte, Nat.reduceEqDiff, Nat.reduceAdd, eq_self, reduceCtorEq, Nat.reduceLeDiff, Nat.reduceSub, Nat.reduceMul, forall_const, implies_true, Int.reduceLE, Int.reduceLT, Int.reduceToNat, Int.reduceEq, Int.reduceBEq, Int.reduceBNe, Nat.reduceLT, EE]
  refine ⟨ca_r9Small, SpecH.of_pure (s_r9Small f) L2.refl rfl ?_⟩
  simp -implicitDefEqProofs only [SS, ↓reduceIte, Nat.reduceEqDiff, Nat.reduceAdd, eq_self, reduceCtorEq, Nat.reduceLeDiff, Nat.reduceSub, Nat.reduceMul, forall_const, implies_true, Int.reduceLE, Int.reduceLT, Int.reduceToNat, Int.reduceEq, Int.reduceBEq, Int.reduceBNe, Nat.reduceLT, EE]
  repeat' (first
    | (refine gdI_split (fun h => ?_) (fun h => ?_) <;> (try simp only [Bool.not_eq_true', Bool.not_eq_false'] at h) <;> simp -implicitDefEqProofs only [SS, ↓reduceIte, Nat.reduceEqDiff, Nat.reduceAdd, eq_self, reduceCtorEq, Nat.reduceLeDiff, Nat.reduceSub, Nat.reduceMul, forall_const, implies_true, Int.reduceLE, Int.reduceLT, Int.reduceToNat, Int.reduceEq, Int.reduceBEq, Int.reduceBNe, Nat.reduceLT, EE, h])
    | (refine condD_split (fun h => ?_) (fun h => ?_) <;> (try simp only [Bool.not_eq_true', Bool.not_eq_false'] at h) <;> simp -implicitDefEqProofs only [SS, ↓reduceIte, Nat.reduceEqDiff, Nat.reduceAdd, eq_self, reduceCtorEq, Nat.reduceLeDiff, Nat.reduceSub, Nat.reduceMul, forall_const, implies_true, Int.reduceLE, Int.reduceLT, Int.reduceToNat, Int.reduceEq, Int.reduceBEq, Int.reduceBNe, Nat.reduceLT, EE, h])
    | (refine gdL_split (fun h => ?_) (fun h => ?_) <;> (try simp only [Bool.not_eq_true', Bool.not_eq_false'] at h) <;> simp -implicitDefEqProofs only [SS, ↓reduceIte, Nat.reduceEqDiff, Nat.reduceAdd, eq_self, reduceCtorEq, Nat.reduceLeDiff, Nat.reduceSub, Nat.reduceMul, forall_const, implies_true, Int.reduceLE, Int.reduceLT, Int.reduceToNat, Int.reduceEq, Int.reduceBEq, Int.reduceBNe, Nat.reduceLT, EE, h])
    | (refine ⟨ca_l12fixed, SpecH.of_pure (s_l12fixed hS) L2.refl rfl ?_⟩; simp -implicitDefEqProofs only [SS, ↓reduceIte, Nat.reduceEqDiff, Nat.reduceAdd, eq_self, reduceCtorEq, Nat.reduceLeDiff, Nat.reduceSub, Nat.reduceMul, forall_const, implies_true, Int.reduceLE, Int.reduceLT, Int.reduceToNat, Int.reduceEq, Int.reduceBEq, Int.reduceBNe, Nat.reduceLT, EE])
    | (refine callL_pure ca_l12fixed (s_l12fixed hS) L2.refl rfl ?_; simp -implicitDefEqProofs only [SS, ↓reduceIte, Nat.reduceEqDiff, Nat.reduceAdd, eq_self, reduceCtorEq, Nat.reduceLeDiff, Nat.reduceSub, Nat.reduceMul, forall_const, implies_true, Int.reduceLE, Int.reduceLT, Int.reduceToNat, Int.reduceEq, Int.reduceBEq, Int.reduceBNe, Nat.reduceLT, EE]))
  all_goals first | (simp [pureQ, frq, refs, refsL, L2, LL2]; done) | skip
  rename_i hs g1
  have g2 := h
  clear h
  have h0 : 0 ≤ turns := by simpa using g1
  have h1 : turns ≤ 40 := by simpa using g2
  obtain ⟨n, rfl⟩ : ∃ n : Nat, turns = n := ⟨turns.toNat, by omega⟩
  refine ⟨ca_penNew, SpecH.of_pure (s_penNew 1) L2.refl rfl ?_⟩
  simp -implicitDefEqProofs only [SS, ↓reduceIte, Nat.reduceEqDiff, Nat.reduceAdd, eq_self, reduceCtorEq, Nat.reduceLeDiff, Nat.reduceSub, Nat.reduceMul, forall_const, implies_true, Int.reduceLE, Int.reduceLT, Int.reduceToNat, Int.reduceEq, Int.reduceBEq, Int.reduceBNe, Nat.reduceLT, EE, List.map_nil]
  refine wpD_loop (GensOut n f) n ⟨0, oldRefs 0, by simp [SS, ↓reduceIte, Nat.reduceEqDiff, Nat.reduceAdd, eq_self, reduceCtorEq, Nat.reduceLeDiff, Nat.reduceSub, Nat.reduceMul, forall_const, implies_true, Int.reduceLE, Int.reduceLT, Int.reduceToNat, Int.reduceEq, Int.reduceBEq, Int.reduceBNe, Nat.reduceLT, EE, Grow.nil, gensPen, oldRefs]⟩ ?_
  rintro m e H ⟨i, rs, hi, rfl, e1, e2, e5, e8, H2, H5, hrefs, hg⟩
  simp -implicitDefEqProofs only [SS, ↓reduceIte, Nat.reduceEqDiff, Nat.reduceAdd, eq_self, reduceCtorEq, Nat.reduceLeDiff, Nat.reduceSub, Nat.reduceMul, forall_const, implies_true, Int.reduceLE, Int.reduceLT, Int.reduceToNat, Int.reduceEq, Int.reduceBEq, Int.reduceBNe, Nat.reduceLT, e1, e2, e5, e8]
  refine condD_split (fun h => ?_) (fun h => ?_)
  rotate_left
  · simp -implicitDefEqProofs only [SS, ↓reduceIte, Nat.reduceEqDiff, Nat.reduceAdd, eq_self, reduceCtorEq, Nat.reduceLeDiff, Nat.reduceSub, Nat.reduceMul, forall_const, implies_true, Int.reduceLE, Int.reduceLT, Int.reduceToNat, Int.reduceEq, Int.reduceBEq, Int.reduceBNe, Nat.reduceLT]
    simp [pureQ, frq, refs, refsL, L2, LL2]
  have hin : i < n := by simpa using h
  have hi41 : i ≤ 41 := by omega
  have a1 := s_penLay hS (gensPen i) f (by unfold gensPen; split <;> simp) (by unfold gensPen; split <;> simp)
  rw [gens_lay hi41] at a1
  have a2 := s_penGet hS (gensLaid i f) ⟨0, i⟩ (by simp [gensLaid]) (by simp [gensLaid])
  rw [gens_get hi41, gens_may2 hi41, gens_held, Bool.and_self] at a2
  simp -implicitDefEqProofs only [SS, ↓reduceIte, Nat.reduceEqDiff, Nat.reduceAdd, eq_self, reduceCtorEq, Nat.reduceLeDiff, Nat.reduceSub, Nat.reduceMul, forall_const, implies_true, Int.reduceLE, Int.reduceLT, Int.reduceToNat, Int.reduceEq, Int.reduceBEq, Int.reduceBNe, Nat.reduceLT, EE, e1, e2, e5, e8, H2, H5]
  refine ⟨ca_penLay, SpecH.of_pure a1 L2.refl rfl ?_⟩
  simp -implicitDefEqProofs only [SS, ↓reduceIte, Nat.reduceEqDiff, Nat.reduceAdd, eq_self, reduceCtorEq, Nat.reduceLeDiff, Nat.reduceSub, Nat.reduceMul, forall_const, implies_true, Int.reduceLE, Int.reduceLT, Int.reduceToNat, Int.reduceEq, Int.reduceBEq, Int.reduceBNe, Nat.reduceLT, EE, e1, e2, e5, e8, H2, H5]
  refine ⟨ca_penGet, SpecH.of_pure a2 L2.refl rfl ?_⟩
  simp -implicitDefEqProofs only [SS, ↓reduceIte, Nat.reduceEqDiff, Nat.reduceAdd, eq_self, reduceCtorEq, Nat.reduceLeDiff, Nat.reduceSub, Nat.reduceMul, forall_const, implies_true, Int.reduceLE, Int.reduceLT, Int.reduceToNat, Int.reduceEq, Int.reduceBEq, Int.reduceBNe, Nat.reduceLT, EE, e1, e2, e5, e8, H2, H5]
  have fok : f.ok := by simp [Frame.small] at hs; simp only [Frame.ok]; omega
  have a3 := s_r9Same f f fok
  rw [decide_eq_true rfl] at a3
  refine ⟨ca_r9Same, SpecH.of_pure a3 L2.refl rfl ?_⟩
  have eii : ((i : Int) != i) = false := by simp
  simp -implicitDefEqProofs only [SS, ↓reduceIte, Nat.reduceEqDiff, Nat.reduceAdd, eq_self, reduceCtorEq, Nat.reduceLeDiff, Nat.reduceSub, Nat.reduceMul, forall_const, implies_true, Int.reduceLE, Int.reduceLT, Int.reduceToNat, Int.reduceEq, Int.reduceBEq, Int.reduceBNe, Nat.reduceLT, EE, e1, e2, e5, e8, H2, H5, eii]
  refine wpD_loop (GensIn n i f (e 7) rs) i ?_ ?_
  · refine ⟨0, Nat.zero_le _, rfl, ?_⟩
    simp -implicitDefEqProofs only [SS, ↓reduceIte, Nat.reduceEqDiff, Nat.reduceAdd, eq_self, reduceCtorEq, Nat.reduceLeDiff, Nat.reduceSub, Nat.reduceMul, forall_const, implies_true, Int.reduceLE, Int.reduceLT, Int.reduceToNat, Int.reduceEq, Int.reduceBEq, Int.reduceBNe, Nat.reduceLT, EE, e1, e2, e5, e8, H2, H5, gensLaid]
    refine ⟨rfl, ⟨_, rfl, rfl⟩, ⟨_, rfl, rfl⟩, hg.same (by simp [set_at])⟩
  rintro m e' H' ⟨k, hk, rfl, f14, f1, f2, f5, f8, f7, ⟨v9, f9, H9⟩, ⟨v10, f10, H10⟩, H2', H5', hg'⟩
  have hl : lenD (e 7) = some (i : Int) := by have := hg'.len; rw [List.length_map, hrefs, oldRefs_len] at this; exact this
  simp -implicitDefEqProofs only [SS, ↓reduceIte, Nat.reduceEqDiff, Nat.reduceAdd, eq_self, reduceCtorEq, Nat.reduceLeDiff, Nat.reduceSub, Nat.reduceMul, forall_const, implies_true, Int.reduceLE, Int.reduceLT, Int.reduceToNat, Int.reduceEq, Int.reduceBEq, Int.reduceBNe, Nat.reduceLT, f14, f7, hl]
  refine condD_split (fun h => ?_) (fun h => ?_)
  · have hki : k < i := by simpa using h
    have a4 := s_penGet hS (gensLaid i f) ⟨0, k⟩ (by simp [gensLaid]) (by simp [gensLaid])
    rw [gens_gone f (by omega), Bool.and_false] at a4
    rcases hg' with ⟨hn, _⟩ | ⟨v7, _, h7, H7⟩
    · rw [List.map_eq_nil_iff, hrefs] at hn
      have := oldRefs_len i
      rw [hn] at this
      simp at this; omega
    rw [List.length_map, hrefs, oldRefs_len] at h7
    have c1 : ((k : Int) < (i : Int)) := by omega
    have c2 : (0 : Int) ≤ k := by omega
    have hrow : (rs.map Ref.row)[k]? = some [int 0, int k] := by rw [List.getElem?_map, hrefs, oldRefs_get hki]; rfl
    have hlen : rs.length = i := by rw [hrefs, oldRefs_len]
    simp -implicitDefEqProofs only [SS, ↓reduceIte, Nat.reduceEqDiff, Nat.reduceAdd, eq_self, reduceCtorEq, Nat.reduceLeDiff, Nat.reduceSub, Nat.reduceMul, forall_const, implies_true, Int.reduceLE, Int.reduceLT, Int.reduceToNat, Int.reduceEq, Int.reduceBEq, Int.reduceBNe, Nat.reduceLT, EE, f14, f7, h7, f9, H9, H7, c1, c2, hrow, hlen]
    refine callL_pure ca_penGet a4 L2.refl rfl ?_
    simp -implicitDefEqProofs only [SS, ↓reduceIte, Nat.reduceEqDiff, Nat.reduceAdd, eq_self, reduceCtorEq, Nat.reduceLeDiff, Nat.reduceSub, Nat.reduceMul, forall_const, implies_true, Int.reduceLE, Int.reduceLT, Int.reduceToNat, Int.reduceEq, Int.reduceBEq, Int.reduceBNe, Nat.reduceLT, EE, f14, f7, h7, f9, H9, H7, c1, c2, hrow, hlen]
    rw [w64_in (by omega)]
    refine ⟨i - (k + 1), by omega, k + 1, by omega, rfl, ?_⟩
    simp -implicitDefEqProofs only [SS, ↓reduceIte, Nat.reduceEqDiff, Nat.reduceAdd, eq_self, reduceCtorEq, Nat.reduceLeDiff, Nat.reduceSub, Nat.reduceMul, forall_const, implies_true, Int.reduceLE, Int.reduceLT, Int.reduceToNat, Int.reduceEq, Int.reduceBEq, Int.reduceBNe, Nat.reduceLT, f1, f2, f5, f8, f7, h7, f9, f10]
    refine ⟨by simp, ⟨_, rfl, ?_⟩, ⟨_, rfl, ?_⟩, ?_, ?_, .inr ⟨v7, by assumption, by rw [List.length_map, hlen], ?_⟩⟩ <;> simp [set_at, H9, H10, H2', H5', H7]
  · simp -implicitDefEqProofs only [SS, ↓reduceIte, Nat.reduceEqDiff, Nat.reduceAdd, eq_self, reduceCtorEq, Nat.reduceLeDiff, Nat.reduceSub, Nat.reduceMul, forall_const, implies_true, Int.reduceLE, Int.reduceLT, Int.reduceToNat, Int.reduceEq, Int.reduceBEq, Int.reduceBNe, Nat.reduceLT, EE, f7, f10, H10]
    have hlen : rs.length = i := by rw [hrefs, oldRefs_len]
    refine aftI_app hg' (by simp [set_at]) (rowsOf_own (by simp [set_at]; rfl) rfl) (by simp) (by simp [hlen]; omega) (by simp [hlen]; omega) (fun d2 H2x hg2 hk2 => ?_)
    have k2 := hk2 [2] (by simp)
    have k5 := hk2 [5] (by simp)
    have k9 := hk2 [9] (by simp)
    have k10 := hk2 [10] (by simp)
    simp -implicitDefEqProofs only [SS, ↓reduceIte, Nat.reduceEqDiff, Nat.reduceAdd, eq_self, reduceCtorEq, Nat.reduceLeDiff, Nat.reduceSub, Nat.reduceMul, forall_const, implies_true, Int.reduceLE, Int.reduceLT, Int.reduceToNat, Int.reduceEq, Int.reduceBEq, Int.reduceBNe, Nat.reduceLT, H2', H5', H9, H10] at k2 k5 k9 k10
    have a5 := s_penDrop hS (gensLaid i f) ⟨0, i⟩ (by simp [gensLaid]) (by simp [gensLaid])
    rw [gens_drop (by omega)] at a5
    have a6 := s_penRefs hS (gensPen (i + 1)) (by simp [gensPen]) (by simp [gensPen])
    rw [gens_refs (by omega)] at a6
    simp -implicitDefEqProofs only [SS, ↓reduceIte, Nat.reduceEqDiff, Nat.reduceAdd, eq_self, reduceCtorEq, Nat.reduceLeDiff, Nat.reduceSub, Nat.reduceMul, forall_const, implies_true, Int.reduceLE, Int.reduceLT, Int.reduceToNat, Int.reduceEq, Int.reduceBEq, Int.reduceBNe, Nat.reduceLT, EE, f9, f10, k9, k10]
    refine ⟨ca_penDrop, SpecH.of_pure a5 L2.refl rfl ?_⟩
    simp -implicitDefEqProofs only [SS, ↓reduceIte, Nat.reduceEqDiff, Nat.reduceAdd, eq_self, reduceCtorEq, Nat.reduceLeDiff, Nat.reduceSub, Nat.reduceMul, forall_const, implies_true, Int.reduceLE, Int.reduceLT, Int.reduceToNat, Int.reduceEq, Int.reduceBEq, Int.reduceBNe, Nat.reduceLT, EE]
    refine ⟨ca_penRefs, SpecH.of_pure a6 L2.refl rfl ?_⟩
    have ecl : (gensPen (i + 1)).cells.length = 1 := by simp [gensPen]
    have z0 : (((0 : Nat) : Int) != 0) = false := rfl
    have z1 : (((1 : Nat) : Int) != 1) = false := rfl
    simp -implicitDefEqProofs only [SS, ↓reduceIte, Nat.reduceEqDiff, Nat.reduceAdd, eq_self, reduceCtorEq, Nat.reduceLeDiff, Nat.reduceSub, Nat.reduceMul, forall_const, implies_true, Int.reduceLE, Int.reduceLT, Int.reduceToNat, Int.reduceEq, Int.reduceBEq, Int.reduceBNe, Nat.reduceLT, EE, f1, f2, f5, f8, k5, ecl, z0, z1]
    rw [w64_in (by omega)]
    refine ⟨n - (i + 1), by omega, i + 1, oldRefs (i + 1), by omega, rfl, ?_⟩
    simp -implicitDefEqProofs only [SS, ↓reduceIte, Nat.reduceEqDiff, Nat.reduceAdd, eq_self, reduceCtorEq, Nat.reduceLeDiff, Nat.reduceSub, Nat.reduceMul, forall_const, implies_true, Int.reduceLE, Int.reduceLT, Int.reduceToNat, Int.reduceEq, Int.reduceBEq, Int.reduceBNe, Nat.reduceLT, f1, f2, f5, k2]
    rw [oldRefs_succ, List.map_append, ← hrefs]
    exact ⟨by simp, rfl, hg2.same (by simp [set_at])⟩

end Go.Proofs.Ytjbcgjgomhbmgaa

/-  The row of PenGens. -/
namespace Go.Proofs.Ytjbcgjgomhbmgaa
open Go.RowKit
set_option linter.unusedVariables false
set_option linter.unusedSimpArgs false
theorem own : ownKnob Try.prog.godebug = none := by kernel_rfl
theorem laidOut : laidOutB Try.prog = true := by kernel_rfl

theorem pars_l12PenGens : parsTS Try.prog Try.f3.params.toList = some [(true, Frame.ts), (false, [.int])] := by kernel_rfl
set_option maxRecDepth 100000 in
theorem lifted_PenGens (h : ∀ (f : Frame) (turns : Int), f.wf → I64 turns → SpecP Try.prog 3 [.g f.row, int turns] (bool true)) (os : Os) (started : os.Started) (H : Type) (enc : TypeId × Value → H) :
    ReturnsInHanded {} Try.checked os 3 .any (Rows.penGensSpec.pre6 enc Try.prog Try.f3 Rows.penGensRow.domain false) (Rows.penGensSpec.post enc Try.prog Try.f3 false true false false) :=
  law_lifted (C := Try.checked) own laidOut started (by kernel_rfl) Try.func3 rfl rfl rfl Try.underlying4 pars_l12PenGens (by kernel_rfl)
      (fun ds hd => by
        match ds, hd with
        | [d1, d2], _ => rfl)
      (ChangeSpec.witness6 (enc := enc) (C := Try.checked) false ⟨#[], #[.agg #[.int .i64 0, .int .i64 0, .slice none 0 0, .slice none 0 0, .slice none 0 0, .int .i64 0, .int .i64 0, .int .i64 0, .int .i64 0, .int .i64 0, .int .i64 0, .int .i64 0, .int .i64 0, .int .i64 0, .int .i64 0, .int .i64 0], .int .i64 0], []⟩ 8 (by kernel_rfl) (by kernel_rfl) (by kernel_rfl) (by kernel_rfl))
      (fun args ha => by
        obtain ⟨d1, r1, rfl, h1, d2, r2, rfl, h2, rfl⟩ := ha
        simp only [if_true] at h1
        obtain ⟨cs, rfl, h1⟩ := h1
        obtain ⟨f, rfl, wf⟩ := Frame.fit h1
        simp only [Bool.false_eq_true, if_false] at h2
        obtain ⟨d, r, e, h2, h3⟩ := fitL_cons h2
        cases fitL_nil h3
        cases e
        obtain ⟨n, rfl, wn⟩ := fit_int h2
        exact h f n wf wn)
theorem penGens_of (h : ∀ (f : Frame) (turns : Int), f.wf → I64 turns → SpecP Try.prog 3 [.g f.row, int turns] (bool true)) : Rows.PenGensSaid :=
  OpenClaim.holds_of_wide 3 Try.f3 rfl rfl rfl rfl rfl rfl rfl ⟨rfl, rfl, rfl, rfl, rfl⟩ rfl rfl rfl rfl rfl (by kernel_rfl) Try.func3 (by kernel_rfl)
    (of_decide_eq_true (by kernel_rfl)) (by unfold Func.isWrapper; first | (rw [if_pos (by decide +kernel)]; kernel_rfl) | (rw [if_neg (by decide +kernel)]; exact ⟨rfl, rfl⟩))
    (fun os started H enc _ => lifted_PenGens h os started H enc)
end Go.Proofs.Ytjbcgjgomhbmgaa

/- PenGens: for every input the law returns true, and each argument reads afterwards as it read before. No conditions. -/
namespace Go.Proofs.Ytjbcgjgomhbmgaa
theorem penGens_holds : Rows.PenGensSaid := penGens_of (fun f turns _ _ => s_l12PenGens sortedSpec f turns)
#print axioms penGens_holds
end Go.Proofs.Ytjbcgjgomhbmgaa
