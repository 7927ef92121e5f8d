/- PenOrder: for every input the law returns true, and each argument reads afterwards as it read before. No conditions. -/
import Derived.Test.YtjbcgjgomhbmgaaPb
import Derived.Test.YtjbcgjgomhbmgaaPa

/-  PenOrder: who is dropped is told no more among all refs, which else stay, in order; who is laid stands at the place of its number. -/
namespace Go.Proofs.Ytjbcgjgomhbmgaa
open Go.RowKit
set_option linter.unusedVariables false
set_option linter.unusedSimpArgs false

/-- Ahead of each ref that is passed over. -/
def OrdInv (p : Pen) (r : Ref) (l l1 : List Ref) (at_ : Int) (dr : DV) (m : Nat) (e : Env) (H : Heap) : Prop := ∃ k : Nat, k ≤ l1.length ∧ m = l1.length - k ∧ e 2 = int at_ ∧ e 3 = .p [3] 1 0 0 ∧ e 7 = .s 2 (l.map Ref.row) ∧ e 9 = .p [9] 1 0 0 ∧ e 11 = dr ∧ e 12 = int k ∧
  H [3] = (1, some ⟨3, false, [p.row]⟩) ∧ H [9] = (1, some ⟨2, false, [r.row]⟩)
/-- Behind them. -/
def OrdMid (p : Pen) (r : Ref) (l l1 : List Ref) (at_ : Int) (dr : DV) (e : Env) (H : Heap) : Prop := e 2 = int at_ ∧ e 3 = .p [3] 1 0 0 ∧ e 7 = .s 2 (l.map Ref.row) ∧ e 9 = .p [9] 1 0 0 ∧ e 11 = dr ∧ e 12 = int l1.length ∧
  H [3] = (1, some ⟨3, false, [p.row]⟩) ∧ H [9] = (1, some ⟨2, false, [r.row]⟩)
/-- Behind the frame that is laid. -/
def OrdEnd (p : Pen) (l : List Ref) (at_ : Int) (e : Env) (H : Heap) : Prop := e 2 = int at_ ∧ e 3 = .p [3] 1 0 0 ∧ e 7 = .s 2 (l.map Ref.row) ∧ H [3] = (1, some ⟨3, false, [p.row]⟩)

def df_l12PenOrder : DF := (.mk 113 (.seq (.reg [(.mk (some 3) none (.op (.box (.t 0)))), (.mk (some 4) none (.op (.box (.t 1)))), (.mk (some 6) none (.op (.mv (.c (.x (.bool false))))))]) (.seq (.seq (.reg [(.mk (some 16) none (.call 5 [])), (.mk (some 17) none (.op (.un .not (.t 16)))), (.mk (some 18) none (.op (.mv (.t 17)))), (.mk (some 19) (some (18, false)) (.op (.load 3 true (.t 3)))), (.mk (some 20) (some (18, false)) (.call 13 [(.t 19), (.c (.x (.int .i64 30)))])), (.mk (some 21) (some (18, false)) (.op (.un .not (.t 20)))), (.mk (some 22) none (.op (.pick (.t 18) (.c (.x (.bool true))) (.t 21)))), (.mk (some 23) none (.op (.mv (.t 22)))), (.mk (some 24) (some (23, false)) (.op (.load 16 true (.t 4)))), (.mk (some 25) (some (23, false)) (.call 6 [(.t 24)])), (.mk (some 26) (some (23, false)) (.op (.un .not (.t 25)))), (.mk (some 27) none (.op (.pick (.t 23) (.c (.x (.bool true))) (.t 26)))), (.mk (some 28) none (.op (.mv (.t 27)))), (.mk (some 29) (some (28, false)) (.op (.load 3 true (.t 3)))), (.mk (some 30) (some (28, false)) (.call 14 [(.t 29)])), (.mk (some 31) (some (28, false)) (.op (.un .not (.t 30)))), (.mk (some 32) none (.op (.pick (.t 28) (.c (.x (.bool true))) (.t 31))))]) (.cond (.t 32) (.seq (.reg [(.mk (some 33) none (.call 5 [])), (.mk (some 6) none (.op (.mv (.t 33))))]) .ret) .skip)) (.seq (.reg [(.mk (some 34) none (.op (.load 3 true (.t 3)))), (.mk (some 35) none (.call 12 [(.t 34)])), (.mk (some 7) none (.op (.mv (.t 35))))]) (.seq (.reg [(.mk (some 37) none (.op (.load 3 true (.t 3)))), (.mk (some 38) none (.op (.load 16 true (.t 4)))), (.mk (some 39) none (.call 8 [(.t 37), (.t 38)])), (.mk (some 36) none (.op (.mv (.t 39)))), (.mk (some 40) none (.op (.ext (.t 36) 0))), (.mk (some 41) none (.op (.ext (.t 36) 1))), (.mk (some 42) none (.op (.ext (.t 36) 2))), (.mk (some 8) none (.op (.box (.c (.g [(.z true), (.z true), (.x (.int .i64 0))]))))), (.mk (some 9) none (.op (.box (.c (.g [(.x (.int .i64 0)), (.x (.int .i64 0))]))))), (.mk none none (.op (.store 3 (.t 8) (.t 40)))), (.mk none none (.op (.store 2 (.t 9) (.t 41)))), (.mk (some 10) none (.op (.mv (.t 42))))]) (.seq (.seq (.reg [(.mk (some 43) none (.op (.mv (.t 10)))), (.mk (some 44) none (.op (.bin .eql (.t 43) (.c (.x (.int .i64 0))))))]) (.cond (.t 44) (.seq (.reg [(.mk (some 45) none (.op (.load 3 true (.t 8)))), (.mk (some 46) none (.call 12 [(.t 45)])), (.mk (some 11) none (.op (.mv (.t 46))))]) (.seq (.reg [(.mk (some 12) none (.op (.mv (.c (.x (.int .i64 0))))))]) (.seq (.block 0 (.loop (.seq (.seq (.drw [((.mk (some 47) none (.op (.mv (.t 12)))), []), ((.mk (some 48) none (.op (.mv (.t 7)))), []), ((.mk (some 49) none (.op (.len (.t 48)))), [1]), ((.mk (some 50) none (.op (.bin .lss (.t 47) (.t 49)))), [0, 2]), ((.mk (some 51) none (.op (.mv (.t 50)))), [3]), ((.mk (some 52) (some (51, true)) (.op (.mv (.t 7)))), [4]), ((.mk (some 53) (some (51, true)) (.op (.mv (.t 12)))), [4]), ((.mk (some 54) (some (51, true)) (.op (.iad 2 (.t 52) (.t 53)))), [4, 5, 6]), ((.mk (some 55) (some (51, true)) (.op (.fad 0 (.t 54)))), [4, 7]), ((.mk (some 56) (some (51, true)) (.op (.load 1 false (.t 55)))), [4, 7, 8]), ((.mk (some 57) (some (51, true)) (.op (.fad 0 (.t 9)))), [4]), ((.mk (some 58) (some (51, true)) (.op (.load 1 false (.t 57)))), [4, 10]), ((.mk (some 59) (some (51, true)) (.op (.bin .lss (.t 56) (.t 58)))), [4, 9, 11]), ((.mk (some 60) none (.op (.pick (.t 51) (.t 59) (.c (.x (.bool false)))))), [4, 12])]) (.cond (.t 60) .skip (.exit 0))) (.block 1 (.reg [(.mk (some 61) none (.op (.mv (.t 12)))), (.mk (some 62) none (.op (.bin .add (.t 61) (.c (.x (.int .i64 1)))))), (.mk (some 12) none (.op (.mv (.t 62))))]))))) (.seq (.drw [((.mk (some 63) none (.op (.bsl 2 0 [(.x (.int .i64 0)), (.x (.int .i64 0))] []))), []), ((.mk (some 64) none (.op (.mv (.t 7)))), []), ((.mk (some 65) none (.op (.mv (.t 12)))), []), ((.mk (some 66) none (.op (.sli 2 (.t 64) none (some (.t 65))))), [1, 2]), ((.mk (some 67) none (.op (.app 2 16 (.t 63) (.t 66)))), [0, 3]), ((.mk (some 68) none (.op (.load 2 true (.t 9)))), []), ((.mk (some 69) none (.op (.bsl 2 1 [(.x (.int .i64 0)), (.x (.int .i64 0))] [(0, (2, (.t 68)))]))), [5]), ((.mk (some 70) none (.op (.app 2 16 (.t 67) (.t 69)))), [0, 3, 4, 5, 6]), ((.mk (some 71) none (.op (.mv (.t 7)))), []), ((.mk (some 72) none (.op (.mv (.t 12)))), []), ((.mk (some 73) none (.op (.sli 2 (.t 71) (some (.t 72)) none))), [8, 9]), ((.mk (some 74) none (.op (.app 2 16 (.t 70) (.t 73)))), [0, 3, 4, 5, 6, 7, 10]), ((.mk (some 13) none (.op (.mv (.t 74)))), [11])]) (.seq (.reg [(.mk (some 75) none (.op (.mv (.t 11)))), (.mk (some 76) none (.op (.mv (.t 13)))), (.mk (some 77) none (.call 15 [(.t 75), (.t 76)])), (.mk (some 78) none (.op (.un .not (.t 77))))]) (.cond (.t 78) (.seq (.reg [(.mk (some 6) none (.op (.mv (.c (.x (.bool false))))))]) .ret) .skip)))))) .skip)) (.seq (.seq (.reg [(.mk (some 79) none (.op (.mv (.t 2)))), (.mk (some 80) none (.op (.bin .lss (.t 79) (.c (.x (.int .i64 0)))))), (.mk (some 81) none (.op (.mv (.t 80)))), (.mk (some 82) (some (81, false)) (.op (.mv (.t 2)))), (.mk (some 83) (some (81, false)) (.op (.mv (.t 7)))), (.mk (some 84) (some (81, false)) (.op (.len (.t 83)))), (.mk (some 85) (some (81, false)) (.op (.bin .geq (.t 82) (.t 84)))), (.mk (some 86) none (.op (.pick (.t 81) (.c (.x (.bool true))) (.t 85))))]) (.cond (.t 86) (.seq (.reg [(.mk (some 6) none (.op (.mv (.c (.x (.bool true))))))]) .ret) .skip)) (.seq (.drw [((.mk (some 88) none (.op (.load 3 true (.t 3)))), []), ((.mk (some 89) none (.op (.mv (.t 7)))), []), ((.mk (some 90) none (.op (.mv (.t 2)))), []), ((.mk (some 91) none (.op (.iad 2 (.t 89) (.t 90)))), [1, 2]), ((.mk (some 92) none (.op (.load 2 true (.t 91)))), [3]), ((.mk (some 93) none (.call 11 [(.t 88), (.t 92)])), [0, 3, 4]), ((.mk (some 87) none (.op (.mv (.t 93)))), [5]), ((.mk (some 94) none (.op (.ext (.t 87) 0))), [6]), ((.mk (some 95) none (.op (.ext (.t 87) 1))), [6]), ((.mk (some 14) none (.op (.box (.c (.g [(.z true), (.z true), (.x (.int .i64 0))]))))), []), ((.mk none none (.op (.store 3 (.t 14) (.t 94)))), [0, 3, 4, 5, 7, 9]), ((.mk (some 15) none (.op (.mv (.t 95)))), [8])]) (.seq (.drw [((.mk (some 96) none (.op (.mv (.t 15)))), []), ((.mk (some 97) none (.op (.bin .eql (.t 96) (.c (.x (.int .i64 0)))))), [0]), ((.mk (some 98) none (.op (.mv (.t 97)))), [1]), ((.mk (some 99) (some (98, true)) (.op (.load 3 true (.t 14)))), [2]), ((.mk (some 100) (some (98, true)) (.call 12 [(.t 99)])), [2, 3]), ((.mk (some 101) (some (98, true)) (.op (.bsl 2 0 [(.x (.int .i64 0)), (.x (.int .i64 0))] []))), [2]), ((.mk (some 102) (some (98, true)) (.op (.mv (.t 7)))), [2]), ((.mk (some 103) (some (98, true)) (.op (.mv (.t 2)))), [2]), ((.mk (some 104) (some (98, true)) (.op (.sli 2 (.t 102) none (some (.t 103))))), [2, 6, 7]), ((.mk (some 105) (some (98, true)) (.op (.app 2 16 (.t 101) (.t 104)))), [2, 3, 4, 5, 8]), ((.mk (some 106) (some (98, true)) (.op (.mv (.t 7)))), [2]), ((.mk (some 107) (some (98, true)) (.op (.mv (.t 2)))), [2]), ((.mk (some 108) (some (98, true)) (.op (.bin .add (.t 107) (.c (.x (.int .i64 1)))))), [2, 11]), ((.mk (some 109) (some (98, true)) (.op (.sli 2 (.t 106) (some (.t 108)) none))), [2, 10, 12]), ((.mk (some 110) (some (98, true)) (.op (.app 2 16 (.t 105) (.t 109)))), [2, 3, 4, 5, 8, 9, 13]), ((.mk (some 111) (some (98, true)) (.call 15 [(.t 100), (.t 110)])), [2, 3, 4, 5, 8, 9, 13, 14]), ((.mk (some 112) none (.op (.pick (.t 98) (.t 111) (.c (.x (.bool false)))))), [2, 15]), ((.mk (some 6) none (.op (.mv (.t 112)))), [16])]) .ret)))))))) [(.tmp 6)])
theorem tu_l12PenOrder : turnF Try.prog Try.f4 = some df_l12PenOrder := by kernel_rfl

set_option maxHeartbeats 1000000 in
theorem s_l12PenOrder (hS : SortedSpec) (p : Pen) (f : Frame) (at_ : Int) (hp : p.wf) : SpecP Try.prog 4 [.g p.row, .g f.row, int at_] (bool true) := by
  refine .body mixed Try.func4 tu_l12PenOrder (Nat.le_of_ble_eq_true rfl) ?_
  simp -implicitDefEqProofs only [df_l12PenOrder, SS, ↓reduceIte, Nat.reduceEqDiff, Nat.reduceAdd, eq_self, reduceCtorEq, Nat.reduceLeDiff, Nat.reduceSub, Nat.reduceMul, forall_const, implies_true, Int.reduceLE, Int.reduceLT, Int.reduceToNat, Int.reduceEq, Int.reduceBEq, Int.reduceBNe, Nat.reduceLT, EE]
  refine ⟨ca_l12fixed, SpecH.of_pure (s_l12fixed hS) L2.refl rfl ?_⟩
  simp -implicitDefEqProofs only [SS, ↓reduceIte, Nat.reduceEqDiff, Nat.reduceAdd, eq_self, reduceCtorEq, Nat.reduceLeDiff, Nat.reduceSub, Nat.reduceMul, forall_const, implies_true, Int.reduceLE, Int.reduceLT, Int.reduceToNat, Int.reduceEq, Int.reduceBEq, Int.reduceBNe, Nat.reduceLT, EE]
  refine ⟨ca_r12Small, SpecH.of_pure (s_r12Small p 30 (by decide)) L2.refl rfl ?_⟩
  simp -implicitDefEqProofs only [SS, ↓reduceIte, Nat.reduceEqDiff, Nat.reduceAdd, eq_self, reduceCtorEq, Nat.reduceLeDiff, Nat.reduceSub, Nat.reduceMul, forall_const, implies_true, Int.reduceLE, Int.reduceLT, Int.reduceToNat, Int.reduceEq, Int.reduceBEq, Int.reduceBNe, Nat.reduceLT, EE]
  by_cases hsm : p.small 30 = true
  rotate_left
  · have hsm' : p.small 30 = false := by simpa using hsm
    simp -implicitDefEqProofs only [SS, ↓reduceIte, Nat.reduceEqDiff, Nat.reduceAdd, eq_self, reduceCtorEq, Nat.reduceLeDiff, Nat.reduceSub, Nat.reduceMul, forall_const, implies_true, Int.reduceLE, Int.reduceLT, Int.reduceToNat, Int.reduceEq, Int.reduceBEq, Int.reduceBNe, Nat.reduceLT, EE, hsm']
    repeat' (first
      | (refine gdI_split (fun h => ?_) (fun h => ?_) <;> (try simp only [Bool.not_eq_true', Bool.not_eq_false'] at h) <;> simp -implicitDefEqProofs only [SS, ↓reduceIte, Nat.reduceEqDiff, Nat.reduceAdd, eq_self, reduceCtorEq, Nat.reduceLeDiff, Nat.reduceSub, Nat.reduceMul, forall_const, implies_true, Int.reduceLE, Int.reduceLT, Int.reduceToNat, Int.reduceEq, Int.reduceBEq, Int.reduceBNe, Nat.reduceLT, EE, h])
      | (refine condD_split (fun h => ?_) (fun h => ?_) <;> (try simp only [Bool.not_eq_true', Bool.not_eq_false'] at h) <;> simp -implicitDefEqProofs only [SS, ↓reduceIte, Nat.reduceEqDiff, Nat.reduceAdd, eq_self, reduceCtorEq, Nat.reduceLeDiff, Nat.reduceSub, Nat.reduceMul, forall_const, implies_true, Int.reduceLE, Int.reduceLT, Int.reduceToNat, Int.reduceEq, Int.reduceBEq, Int.reduceBNe, Nat.reduceLT, EE, h])
      | (refine gdL_split (fun h => ?_) (fun h => ?_) <;> (try simp only [Bool.not_eq_true', Bool.not_eq_false'] at h) <;> simp -implicitDefEqProofs only [SS, ↓reduceIte, Nat.reduceEqDiff, Nat.reduceAdd, eq_self, reduceCtorEq, Nat.reduceLeDiff, Nat.reduceSub, Nat.reduceMul, forall_const, implies_true, Int.reduceLE, Int.reduceLT, Int.reduceToNat, Int.reduceEq, Int.reduceBEq, Int.reduceBNe, Nat.reduceLT, EE, h])
      | (refine ⟨ca_l12fixed, SpecH.of_pure (s_l12fixed hS) L2.refl rfl ?_⟩; simp -implicitDefEqProofs only [SS, ↓reduceIte, Nat.reduceEqDiff, Nat.reduceAdd, eq_self, reduceCtorEq, Nat.reduceLeDiff, Nat.reduceSub, Nat.reduceMul, forall_const, implies_true, Int.reduceLE, Int.reduceLT, Int.reduceToNat, Int.reduceEq, Int.reduceBEq, Int.reduceBNe, Nat.reduceLT, EE])
      | (refine callL_pure ca_l12fixed (s_l12fixed hS) L2.refl rfl ?_; simp -implicitDefEqProofs only [SS, ↓reduceIte, Nat.reduceEqDiff, Nat.reduceAdd, eq_self, reduceCtorEq, Nat.reduceLeDiff, Nat.reduceSub, Nat.reduceMul, forall_const, implies_true, Int.reduceLE, Int.reduceLT, Int.reduceToNat, Int.reduceEq, Int.reduceBEq, Int.reduceBNe, Nat.reduceLT, EE]))
    all_goals first | done | simp [pureQ, frq, refs, refsL, L2, LL2]
  have hb : p.cells.length ≤ 30 ∧ p.free.length ≤ 30 ∧ ∀ c ∈ p.cells, c.frame.small = true := by
    simp only [Pen.small, Bool.and_eq_true, decide_eq_true_eq, List.all_eq_true] at hsm
    exact ⟨by omega, by omega, hsm.2⟩
  obtain ⟨hb1, hb2, hb3⟩ := hb
  simp -implicitDefEqProofs only [SS, ↓reduceIte, Nat.reduceEqDiff, Nat.reduceAdd, eq_self, reduceCtorEq, Nat.reduceLeDiff, Nat.reduceSub, Nat.reduceMul, forall_const, implies_true, Int.reduceLE, Int.reduceLT, Int.reduceToNat, Int.reduceEq, Int.reduceBEq, Int.reduceBNe, Nat.reduceLT, EE, hsm]
  refine ⟨ca_r9Small, SpecH.of_pure (s_r9Small f) L2.refl rfl ?_⟩
  simp -implicitDefEqProofs only [SS, ↓reduceIte, Nat.reduceEqDiff, Nat.reduceAdd, eq_self, reduceCtorEq, Nat.reduceLeDiff, Nat.reduceSub, Nat.reduceMul, forall_const, implies_true, Int.reduceLE, Int.reduceLT, Int.reduceToNat, Int.reduceEq, Int.reduceBEq, Int.reduceBNe, Nat.reduceLT, EE]
  by_cases hfm : f.small = true
  rotate_left
  · have hfm' : f.small = false := by simpa using hfm
    simp -implicitDefEqProofs only [SS, ↓reduceIte, Nat.reduceEqDiff, Nat.reduceAdd, eq_self, reduceCtorEq, Nat.reduceLeDiff, Nat.reduceSub, Nat.reduceMul, forall_const, implies_true, Int.reduceLE, Int.reduceLT, Int.reduceToNat, Int.reduceEq, Int.reduceBEq, Int.reduceBNe, Nat.reduceLT, EE, hfm']
    repeat' (first
      | (refine gdI_split (fun h => ?_) (fun h => ?_) <;> (try simp only [Bool.not_eq_true', Bool.not_eq_false'] at h) <;> simp -implicitDefEqProofs only [SS, ↓reduceIte, Nat.reduceEqDiff, Nat.reduceAdd, eq_self, reduceCtorEq, Nat.reduceLeDiff, Nat.reduceSub, Nat.reduceMul, forall_const, implies_true, Int.reduceLE, Int.reduceLT, Int.reduceToNat, Int.reduceEq, Int.reduceBEq, Int.reduceBNe, Nat.reduceLT, EE, h])
      | (refine condD_split (fun h => ?_) (fun h => ?_) <;> (try simp only [Bool.not_eq_true', Bool.not_eq_false'] at h) <;> simp -implicitDefEqProofs only [SS, ↓reduceIte, Nat.reduceEqDiff, Nat.reduceAdd, eq_self, reduceCtorEq, Nat.reduceLeDiff, Nat.reduceSub, Nat.reduceMul, forall_const, implies_true, Int.reduceLE, Int.reduceLT, Int.reduceToNat, Int.reduceEq, Int.reduceBEq, Int.reduceBNe, Nat.reduceLT, EE, h])
      | (refine gdL_split (fun h => ?_) (fun h => ?_) <;> (try simp only [Bool.not_eq_true', Bool.not_eq_false'] at h) <;> simp -implicitDefEqProofs only [SS, ↓reduceIte, Nat.reduceEqDiff, Nat.reduceAdd, eq_self, reduceCtorEq, Nat.reduceLeDiff, Nat.reduceSub, Nat.reduceMul, forall_const, implies_true, Int.reduceLE, Int.reduceLT, Int.reduceToNat, Int.reduceEq, Int.reduceBEq, Int.reduceBNe, Nat.reduceLT, EE, h])
      | (refine ⟨ca_l12fixed, SpecH.of_pure (s_l12fixed hS) L2.refl rfl ?_⟩; simp -implicitDefEqProofs only [SS, ↓reduceIte, Nat.reduceEqDiff, Nat.reduceAdd, eq_self, reduceCtorEq, Nat.reduceLeDiff, Nat.reduceSub, Nat.reduceMul, forall_const, implies_true, Int.reduceLE, Int.reduceLT, Int.reduceToNat, Int.reduceEq, Int.reduceBEq, Int.reduceBNe, Nat.reduceLT, EE])
      | (refine callL_pure ca_l12fixed (s_l12fixed hS) L2.refl rfl ?_; simp -implicitDefEqProofs only [SS, ↓reduceIte, Nat.reduceEqDiff, Nat.reduceAdd, eq_self, reduceCtorEq, Nat.reduceLeDiff, Nat.reduceSub, Nat.reduceMul, forall_const, implies_true, Int.reduceLE, Int.reduceLT, Int.reduceToNat, Int.reduceEq, Int.reduceBEq, Int.reduceBNe, Nat.reduceLT, EE]))
    all_goals first | done | simp [pureQ, frq, refs, refsL, L2, LL2]
  simp -implicitDefEqProofs only [SS, ↓reduceIte, Nat.reduceEqDiff, Nat.reduceAdd, eq_self, reduceCtorEq, Nat.reduceLeDiff, Nat.reduceSub, Nat.reduceMul, forall_const, implies_true, Int.reduceLE, Int.reduceLT, Int.reduceToNat, Int.reduceEq, Int.reduceBEq, Int.reduceBNe, Nat.reduceLT, EE, hfm]
  have m2 := s_r12May p (by omega)
  rw [Pen.may2_eq] at m2
  refine ⟨ca_r12May, SpecH.of_pure m2 L2.refl rfl ?_⟩
  simp -implicitDefEqProofs only [SS, ↓reduceIte, Nat.reduceEqDiff, Nat.reduceAdd, eq_self, reduceCtorEq, Nat.reduceLeDiff, Nat.reduceSub, Nat.reduceMul, forall_const, implies_true, Int.reduceLE, Int.reduceLT, Int.reduceToNat, Int.reduceEq, Int.reduceBEq, Int.reduceBNe, Nat.reduceLT, EE]
  by_cases hmay : p.may = true
  rotate_left
  · have hmay' : p.may = false := by simpa using hmay
    simp -implicitDefEqProofs only [SS, ↓reduceIte, Nat.reduceEqDiff, Nat.reduceAdd, eq_self, reduceCtorEq, Nat.reduceLeDiff, Nat.reduceSub, Nat.reduceMul, forall_const, implies_true, Int.reduceLE, Int.reduceLT, Int.reduceToNat, Int.reduceEq, Int.reduceBEq, Int.reduceBNe, Nat.reduceLT, EE, hmay']
    repeat' (first
      | (refine gdI_split (fun h => ?_) (fun h => ?_) <;> (try simp only [Bool.not_eq_true', Bool.not_eq_false'] at h) <;> simp -implicitDefEqProofs only [SS, ↓reduceIte, Nat.reduceEqDiff, Nat.reduceAdd, eq_self, reduceCtorEq, Nat.reduceLeDiff, Nat.reduceSub, Nat.reduceMul, forall_const, implies_true, Int.reduceLE, Int.reduceLT, Int.reduceToNat, Int.reduceEq, Int.reduceBEq, Int.reduceBNe, Nat.reduceLT, EE, h])
      | (refine condD_split (fun h => ?_) (fun h => ?_) <;> (try simp only [Bool.not_eq_true', Bool.not_eq_false'] at h) <;> simp -implicitDefEqProofs only [SS, ↓reduceIte, Nat.reduceEqDiff, Nat.reduceAdd, eq_self, reduceCtorEq, Nat.reduceLeDiff, Nat.reduceSub, Nat.reduceMul, forall_const, implies_true, Int.reduceLE, Int.reduceLT, Int.reduceToNat, Int.reduceEq, Int.reduceBEq, Int.reduceBNe, Nat.reduceLT, EE, h])
      | (refine gdL_split (fun h => ?_) (fun h => ?_) <;> (try simp only [Bool.not_eq_true', Bool.not_eq_false'] at h) <;> simp -implicitDefEqProofs only [SS, ↓reduceIte, Nat.reduceEqDiff, Nat.reduceAdd, eq_self, reduceCtorEq, Nat.reduceLeDiff, Nat.reduceSub, Nat.reduceMul, forall_const, implies_true, Int.reduceLE, Int.reduceLT, Int.reduceToNat, Int.reduceEq, Int.reduceBEq, Int.reduceBNe, Nat.reduceLT, EE, h])
      | (refine ⟨ca_l12fixed, SpecH.of_pure (s_l12fixed hS) L2.refl rfl ?_⟩; simp -implicitDefEqProofs only [SS, ↓reduceIte, Nat.reduceEqDiff, Nat.reduceAdd, eq_self, reduceCtorEq, Nat.reduceLeDiff, Nat.reduceSub, Nat.reduceMul, forall_const, implies_true, Int.reduceLE, Int.reduceLT, Int.reduceToNat, Int.reduceEq, Int.reduceBEq, Int.reduceBNe, Nat.reduceLT, EE])
      | (refine callL_pure ca_l12fixed (s_l12fixed hS) L2.refl rfl ?_; simp -implicitDefEqProofs only [SS, ↓reduceIte, Nat.reduceEqDiff, Nat.reduceAdd, eq_self, reduceCtorEq, Nat.reduceLeDiff, Nat.reduceSub, Nat.reduceMul, forall_const, implies_true, Int.reduceLE, Int.reduceLT, Int.reduceToNat, Int.reduceEq, Int.reduceBEq, Int.reduceBNe, Nat.reduceLT, EE]))
    all_goals first | done | simp [pureQ, frq, refs, refsL, L2, LL2]
  have a1 := s_penRefs hS p (by omega) (by omega)
  rw [show p.refs = used p.cells 0 by simp [Pen.refs, hmay]] at a1
  simp -implicitDefEqProofs only [SS, ↓reduceIte, Nat.reduceEqDiff, Nat.reduceAdd, eq_self, reduceCtorEq, Nat.reduceLeDiff, Nat.reduceSub, Nat.reduceMul, forall_const, implies_true, Int.reduceLE, Int.reduceLT, Int.reduceToNat, Int.reduceEq, Int.reduceBEq, Int.reduceBNe, Nat.reduceLT, EE, hmay]
  refine ⟨ca_penRefs, SpecH.of_pure a1 L2.refl rfl ?_⟩
  simp -implicitDefEqProofs only [SS, ↓reduceIte, Nat.reduceEqDiff, Nat.reduceAdd, eq_self, reduceCtorEq, Nat.reduceLeDiff, Nat.reduceSub, Nat.reduceMul, forall_const, implies_true, Int.reduceLE, Int.reduceLT, Int.reduceToNat, Int.reduceEq, Int.reduceBEq, Int.reduceBNe, Nat.reduceLT, EE]
  refine ⟨ca_penLay, SpecH.of_pure (s_penLay hS p f (by omega) (by omega)) L2.refl rfl ?_⟩
  simp -implicitDefEqProofs only [SS, ↓reduceIte, Nat.reduceEqDiff, Nat.reduceAdd, eq_self, reduceCtorEq, Nat.reduceLeDiff, Nat.reduceSub, Nat.reduceMul, forall_const, implies_true, Int.reduceLE, Int.reduceLT, Int.reduceToNat, Int.reduceEq, Int.reduceBEq, Int.reduceBNe, Nat.reduceLT, EE]
  have hlen : (used p.cells 0).length ≤ 30 := by have := used_length p.cells 0; omega
  generalize hl : used p.cells 0 = l at *
  refine condD_cut (OrdEnd p l at_) ?_ ?_
  · refine condD_split (fun he => ?_) (fun he => ?_)
    rotate_left
    · simp -implicitDefEqProofs only [SS, ↓reduceIte, Nat.reduceEqDiff, Nat.reduceAdd, eq_self, reduceCtorEq, Nat.reduceLeDiff, Nat.reduceSub, Nat.reduceMul, forall_const, implies_true, Int.reduceLE, Int.reduceLT, Int.reduceToNat, Int.reduceEq, Int.reduceBEq, Int.reduceBNe, Nat.reduceLT, OrdEnd, EE]
    have he0 : (p.lay f).2.2 = 0 := by simpa using he
    obtain ⟨amay, l1, l2, hl12, hl', h1, h2⟩ := Pen.lay_may hmay f he0
    rw [hl] at hl12
    have hal : (p.lay f).1.cells.length ≤ 1024 := by have h1 := ((Pen.may_iff _).1 amay).room; have h2 := ((Pen.may_iff _).1 amay).most; omega
    have haf : (p.lay f).1.free.length ≤ 1024 := by
      have h1 := ((Pen.may_iff _).1 amay).free.length_eq
      have h2 := unused_length (p.lay f).1.cells 0
      omega
    generalize hA : (p.lay f).1 = a at *
    generalize hR : (p.lay f).2.1 = r at *
    have a2 := s_penRefs hS a (by omega) (by omega)
    rw [show a.refs = l1 ++ r :: l2 by simp [Pen.refs, amay, hl']] at a2
    have hll : l.length = l1.length + l2.length := by rw [hl12]; simp
    simp -implicitDefEqProofs only [SS, ↓reduceIte, Nat.reduceEqDiff, Nat.reduceAdd, eq_self, reduceCtorEq, Nat.reduceLeDiff, Nat.reduceSub, Nat.reduceMul, forall_const, implies_true, Int.reduceLE, Int.reduceLT, Int.reduceToNat, Int.reduceEq, Int.reduceBEq, Int.reduceBNe, Nat.reduceLT, EE]
    refine ⟨ca_penRefs, SpecH.of_pure a2 L2.refl rfl ?_⟩
    simp -implicitDefEqProofs only [SS, ↓reduceIte, Nat.reduceEqDiff, Nat.reduceAdd, eq_self, reduceCtorEq, Nat.reduceLeDiff, Nat.reduceSub, Nat.reduceMul, forall_const, implies_true, Int.reduceLE, Int.reduceLT, Int.reduceToNat, Int.reduceEq, Int.reduceBEq, Int.reduceBNe, Nat.reduceLT, EE]
    refine loopD_cut (OrdMid p r l l1 at_ (.s 2 ((l1 ++ r :: l2).map Ref.row))) ?_ ?_
    · refine wpD_loop (OrdInv p r l l1 at_ (.s 2 ((l1 ++ r :: l2).map Ref.row))) l1.length ⟨0, Nat.zero_le _, rfl, ?_⟩ ?_
      · simp -implicitDefEqProofs only [SS, ↓reduceIte, Nat.reduceEqDiff, Nat.reduceAdd, eq_self, reduceCtorEq, Nat.reduceLeDiff, Nat.reduceSub, Nat.reduceMul, forall_const, implies_true, Int.reduceLE, Int.reduceLT, Int.reduceToNat, Int.reduceEq, Int.reduceBEq, Int.reduceBNe, Nat.reduceLT, EE]
        rfl
      rintro m e H ⟨k, hk, rfl, e2, e3, e7, e9, e11, e12, H3, H9⟩
      have c0 : (0 : Int) ≤ k := by omega
      by_cases hkl : k < l1.length
      · have hx : l[k]? = some l1[k] := by rw [hl12, List.getElem?_append_left hkl]; exact List.getElem?_eq_getElem hkl
        have c1 : decide ((k : Int) < (l.length : Int)) = true := by simp; omega
        have c2 : decide (l1[k].at' < r.at') = true := by simpa using h1 _ (List.getElem_mem hkl)
        simp -implicitDefEqProofs only [SS, ↓reduceIte, Nat.reduceEqDiff, Nat.reduceAdd, eq_self, reduceCtorEq, Nat.reduceLeDiff, Nat.reduceSub, Nat.reduceMul, forall_const, implies_true, Int.reduceLE, Int.reduceLT, Int.reduceToNat, Int.reduceEq, Int.reduceBEq, Int.reduceBNe, Nat.reduceLT, EE, e2, e3, e7, e9, e11, e12, H3, H9, c0, c1, c2, hx]
        have ck : w64 ((k : Int) + 1) = (k + 1 : Nat) := by rw [w64_in (by omega)]; simp
        refine ⟨l1.length - (k + 1), by omega, k + 1, by omega, rfl, ?_⟩
        simp -implicitDefEqProofs only [SS, ↓reduceIte, Nat.reduceEqDiff, Nat.reduceAdd, eq_self, reduceCtorEq, Nat.reduceLeDiff, Nat.reduceSub, Nat.reduceMul, forall_const, implies_true, Int.reduceLE, Int.reduceLT, Int.reduceToNat, Int.reduceEq, Int.reduceBEq, Int.reduceBNe, Nat.reduceLT, EE, e2, e3, e7, e9, e11, H3, H9, ck]
      · have hke : k = l1.length := by omega
        subst hke
        by_cases hl2 : l2 = []
        · have c1 : decide ((l1.length : Int) < (l.length : Int)) = false := by simp [hll, hl2]
          simp -implicitDefEqProofs only [SS, ↓reduceIte, Nat.reduceEqDiff, Nat.reduceAdd, eq_self, reduceCtorEq, Nat.reduceLeDiff, Nat.reduceSub, Nat.reduceMul, forall_const, implies_true, Int.reduceLE, Int.reduceLT, Int.reduceToNat, Int.reduceEq, Int.reduceBEq, Int.reduceBNe, Nat.reduceLT, EE, e2, e3, e7, e9, e11, e12, H3, H9, c1, OrdMid]
        · obtain ⟨x2, l2', rfl⟩ : ∃ x l2', l2 = x :: l2' := by cases l2 with | nil => exact absurd rfl hl2 | cons x l2' => exact ⟨x, l2', rfl⟩
          have c1 : decide ((l1.length : Int) < (l.length : Int)) = true := by simp [hll]; omega
          have c2 : decide (x2.at' < r.at') = false := by have := h2 x2 (by simp); simp; omega
          have hx : l[l1.length]? = some x2 := by rw [hl12]; simp
          simp -implicitDefEqProofs only [SS, ↓reduceIte, Nat.reduceEqDiff, Nat.reduceAdd, eq_self, reduceCtorEq, Nat.reduceLeDiff, Nat.reduceSub, Nat.reduceMul, forall_const, implies_true, Int.reduceLE, Int.reduceLT, Int.reduceToNat, Int.reduceEq, Int.reduceBEq, Int.reduceBNe, Nat.reduceLT, EE, e2, e3, e7, e9, e11, e12, H3, H9, c0, c1, c2, hx, OrdMid]
    · rintro e H ⟨e2, e3, e7, e9, e11, e12, H3, H9⟩
      have c0 : (0 : Int) ≤ l1.length := by omega
      have d1 : ((l1.length : Int) ≤ (l.length : Int)) = True := by simp; omega
      have d4 : ((l.length : Int) ≤ (l.length : Int)) = True := by simp
      have d2 : List.take ((l1.length : Int) - 0).toNat (List.map Ref.row l) = l1.map Ref.row := by
        rw [Int.sub_zero, Int.toNat_natCast, hl12, List.map_append, List.take_left' (by simp)]
      have d3 : List.take ((l.length : Int) - (l1.length : Int)).toNat (List.drop l1.length (List.map Ref.row l)) = l2.map Ref.row := by
        rw [hl12, List.map_append, List.drop_left' (by simp), List.take_of_length_le (by simp; omega)]
      have g2 : (l1.length * 16 ≤ 17592186044416) = True := by simp; omega
      have g3 : (l1.length ≤ 17592186044416) = True := by simp; omega
      have g4 : ((l1.length + 1) * 16 ≤ 17592186044416) = True := by simp; omega
      have g5 : (l1.length + 1 ≤ 17592186044416) = True := by simp; omega
      have g6 : ((l1.length + 1 + l2.length) * 16 ≤ 17592186044416) = True := by simp; omega
      have g7 : (l1.length + 1 + l2.length ≤ 17592186044416) = True := by simp; omega
      have g8 : List.take l1.length (l1.map Ref.row) = l1.map Ref.row := List.take_of_length_le (by simp)
      have g9 : ∀ z : List DV, List.take (l1.length + 1) (l1.map Ref.row ++ [z]) = l1.map Ref.row ++ [z] := fun z => List.take_of_length_le (by simp)
      have gb : SpecP Try.prog 15 [.s 2 ((l1 ++ r :: l2).map Ref.row), .s 2 ((l1 ++ r :: l2).map Ref.row)] (bool true) := by
        have := s_r11Refs (l1 ++ r :: l2) (l1 ++ r :: l2) (by simp; omega)
        rwa [decide_eq_true rfl] at this
      have gz : ∀ z : List DV, (List.map Ref.row l1 ++ [z]).length = l1.length + 1 := by intro z; simp
      by_cases hl1 : l1 = []
      · have g1 : (List.map Ref.row l1).isEmpty = true := by simp [hl1]
        have q6 : ((1 + l2.length) * 16 ≤ 17592186044416) = True := by simp; omega
        have q7 : (1 + l2.length ≤ 17592186044416) = True := by simp; omega
        simp -implicitDefEqProofs only [SS, ↓reduceIte, Nat.reduceEqDiff, Nat.reduceAdd, eq_self, reduceCtorEq, Nat.reduceLeDiff, Nat.reduceSub, Nat.reduceMul, forall_const, implies_true, Int.reduceLE, Int.reduceLT, Int.reduceToNat, Int.reduceEq, Int.reduceBEq, Int.reduceBNe, Nat.reduceLT, EE, e2, e3, e7, e9, e11, e12, H3, H9, c0, d1, d2, d3, d4, g1, q6, q7, appD, rowsOf]
        refine ⟨ca_r11Refs, SpecH.of_flat gb ⟨frq.refl, frq_own (by simp [set_at]; rfl) (by simp; omega) ?_ (rows_refs Ref.row_refs _), trivial⟩ rfl rfl ?_⟩
        · rw [List.drop_zero, List.take_of_length_le (by simp; omega), hl1]; rfl
        simp -implicitDefEqProofs only [SS, ↓reduceIte, Nat.reduceEqDiff, Nat.reduceAdd, eq_self, reduceCtorEq, Nat.reduceLeDiff, Nat.reduceSub, Nat.reduceMul, forall_const, implies_true, Int.reduceLE, Int.reduceLT, Int.reduceToNat, Int.reduceEq, Int.reduceBEq, Int.reduceBNe, Nat.reduceLT, EE, e2, e3, e7, H3, OrdEnd]
      · have g1 : (List.map Ref.row l1).isEmpty = false := by cases l1 with | nil => exact absurd rfl hl1 | cons => rfl
        simp -implicitDefEqProofs only [SS, ↓reduceIte, Nat.reduceEqDiff, Nat.reduceAdd, eq_self, reduceCtorEq, Nat.reduceLeDiff, Nat.reduceSub, Nat.reduceMul, forall_const, implies_true, Int.reduceLE, Int.reduceLT, Int.reduceToNat, Int.reduceEq, Int.reduceBEq, Int.reduceBNe, Nat.reduceLT, EE, e2, e3, e7, e9, e11, e12, H3, H9, c0, d1, d2, d3, d4, g1, g2, g3, g4, g5, g6, g7, g8, g9, gz, appD, rowsOf]
        refine ⟨ca_r11Refs, SpecH.of_flat gb ⟨frq.refl, frq_own (by simp [set_at]; rfl) (by simp; omega) ?_ (rows_refs Ref.row_refs _), trivial⟩ rfl rfl ?_⟩
        · rw [List.drop_zero, List.take_of_length_le (by simp; omega), List.map_append]; rfl
        simp -implicitDefEqProofs only [SS, ↓reduceIte, Nat.reduceEqDiff, Nat.reduceAdd, eq_self, reduceCtorEq, Nat.reduceLeDiff, Nat.reduceSub, Nat.reduceMul, forall_const, implies_true, Int.reduceLE, Int.reduceLT, Int.reduceToNat, Int.reduceEq, Int.reduceBEq, Int.reduceBNe, Nat.reduceLT, EE, e2, e3, e7, H3, OrdEnd]
  · rintro e H ⟨e2, e3, e7, H3⟩
    simp -implicitDefEqProofs only [SS, ↓reduceIte, Nat.reduceEqDiff, Nat.reduceAdd, eq_self, reduceCtorEq, Nat.reduceLeDiff, Nat.reduceSub, Nat.reduceMul, forall_const, implies_true, Int.reduceLE, Int.reduceLT, Int.reduceToNat, Int.reduceEq, Int.reduceBEq, Int.reduceBNe, Nat.reduceLT, EE, e2, e7]
    by_cases hin : 0 ≤ at_ ∧ at_ < l.length
    rotate_left
    · skip
      repeat' (first
        | (refine gdI_split (fun h => ?_) (fun h => ?_) <;> (try simp only [Bool.not_eq_true', Bool.not_eq_false'] at h) <;> simp -implicitDefEqProofs only [SS, ↓reduceIte, Nat.reduceEqDiff, Nat.reduceAdd, eq_self, reduceCtorEq, Nat.reduceLeDiff, Nat.reduceSub, Nat.reduceMul, forall_const, implies_true, Int.reduceLE, Int.reduceLT, Int.reduceToNat, Int.reduceEq, Int.reduceBEq, Int.reduceBNe, Nat.reduceLT, EE, e2, e7, h])
        | (refine condD_split (fun h => ?_) (fun h => ?_) <;> (try simp only [Bool.not_eq_true', Bool.not_eq_false'] at h) <;> simp -implicitDefEqProofs only [SS, ↓reduceIte, Nat.reduceEqDiff, Nat.reduceAdd, eq_self, reduceCtorEq, Nat.reduceLeDiff, Nat.reduceSub, Nat.reduceMul, forall_const, implies_true, Int.reduceLE, Int.reduceLT, Int.reduceToNat, Int.reduceEq, Int.reduceBEq, Int.reduceBNe, Nat.reduceLT, EE, e2, e7, h])
        | (refine gdL_split (fun h => ?_) (fun h => ?_) <;> (try simp only [Bool.not_eq_true', Bool.not_eq_false'] at h) <;> simp -implicitDefEqProofs only [SS, ↓reduceIte, Nat.reduceEqDiff, Nat.reduceAdd, eq_self, reduceCtorEq, Nat.reduceLeDiff, Nat.reduceSub, Nat.reduceMul, forall_const, implies_true, Int.reduceLE, Int.reduceLT, Int.reduceToNat, Int.reduceEq, Int.reduceBEq, Int.reduceBNe, Nat.reduceLT, EE, e2, e7, h]))
      all_goals first | (simp [pureQ, frq, refs, refsL, L2, LL2]; done) | skip
      all_goals exfalso; simp only [decide_eq_false_iff_not] at *; omega
    obtain ⟨i, rfl⟩ : ∃ i : Nat, at_ = i := ⟨at_.toNat, by omega⟩
    have hil : i < l.length := by omega
    have c0 : (0 : Int) ≤ i := by omega
    have c1 : decide ((i : Int) < 0) = false := by simp
    have c2 : decide ((l.length : Int) ≤ (i : Int)) = false := by simp; omega
    have hx : l[i]? = some l[i] := List.getElem?_eq_getElem hil
    have hheld : p.held l[i] = true := Pen.used_held (by rw [hl]; exact List.getElem_mem hil)
    obtain ⟨q0, qmay, l1, l2, hl12, hl', h1, h2⟩ := Pen.drop_may hmay hheld
    rw [hl] at hl12
    generalize hr : l[i] = r at *
    have hi : i = l1.length := by
      rcases Nat.lt_trichotomy i l1.length with h | h | h
      · have : l[i]? = some l1[i] := by rw [hl12, List.getElem?_append_left h]; exact List.getElem?_eq_getElem h
        rw [hx] at this
        have e := h1 l1[i] (List.getElem_mem h)
        rw [← Option.some.inj this] at e
        omega
      · exact h
      · have : l[i]? = l2[i - l1.length - 1]? := by
          rw [hl12, List.getElem?_append_right (by omega), show i - l1.length = (i - l1.length - 1) + 1 by omega, List.getElem?_cons_succ]
          rfl
        rw [hx] at this
        have e := h2 r (List.mem_of_getElem? this.symm)
        omega
    have hqb : (p.drop r).1.cells.length ≤ 1024 := by have h1 := ((Pen.may_iff _).1 qmay).room; have h2 := ((Pen.may_iff _).1 qmay).most; omega
    have hqf : (p.drop r).1.free.length ≤ 1024 := by
      have h1 := ((Pen.may_iff _).1 qmay).free.length_eq
      have h2 := unused_length (p.drop r).1.cells 0
      omega
    have a3 := s_penDrop hS p r (by omega) (by omega)
    rw [q0] at a3
    generalize (p.drop r).1 = q at *
    have a4 := s_penRefs hS q (by omega) (by omega)
    rw [show q.refs = l1 ++ l2 by simp [Pen.refs, qmay, hl']] at a4
    simp -implicitDefEqProofs only [SS, ↓reduceIte, Nat.reduceEqDiff, Nat.reduceAdd, eq_self, reduceCtorEq, Nat.reduceLeDiff, Nat.reduceSub, Nat.reduceMul, forall_const, implies_true, Int.reduceLE, Int.reduceLT, Int.reduceToNat, Int.reduceEq, Int.reduceBEq, Int.reduceBNe, Nat.reduceLT, EE, e2, e3, e7, H3, c0, c1, c2, hx]
    refine callL_pure ca_penDrop a3 L2.refl rfl ?_
    simp -implicitDefEqProofs only [SS, ↓reduceIte, Nat.reduceEqDiff, Nat.reduceAdd, eq_self, reduceCtorEq, Nat.reduceLeDiff, Nat.reduceSub, Nat.reduceMul, forall_const, implies_true, Int.reduceLE, Int.reduceLT, Int.reduceToNat, Int.reduceEq, Int.reduceBEq, Int.reduceBNe, Nat.reduceLT, EE, e2, e3, e7, H3]
    refine callL_pure ca_penRefs a4 L2.refl rfl ?_
    have hll : l.length = l1.length + (l2.length + 1) := by rw [hl12]; simp
    have d1 : ((i : Int) ≤ (l.length : Int)) = True := by simp; omega
    have d2 : List.take ((i : Int) - 0).toNat (List.map Ref.row l) = l1.map Ref.row := by
      rw [Int.sub_zero, Int.toNat_natCast, hl12, List.map_append, List.take_left' (by simp [hi])]
    have d5 : w64 ((i : Int) + 1) = ((i + 1 : Nat) : Int) := by rw [w64_in (by omega)]; simp
    have d6 : (0 : Int) ≤ ((i + 1 : Nat) : Int) := by omega
    have d7 : (((i + 1 : Nat) : Int) ≤ (l.length : Int)) = True := by simp; omega
    have d3 : List.take ((l.length : Int) - ((i + 1 : Nat) : Int)).toNat (List.drop (i + 1) (List.map Ref.row l)) = l2.map Ref.row := by
      rw [hl12, show l1 ++ r :: l2 = (l1 ++ [r]) ++ l2 by simp, List.map_append, List.drop_left' (by simp [hi]), List.take_of_length_le (by simp; omega)]
    have d4 : ((l.length : Int) ≤ (l.length : Int)) = True := by simp
    have g2 : (l1.length * 16 ≤ 17592186044416) = True := by simp; omega
    have g3 : (l1.length ≤ 17592186044416) = True := by simp; omega
    have g4 : (l2.length * 16 ≤ 17592186044416) = True := by simp; omega
    have g5 : (l2.length ≤ 17592186044416) = True := by simp; omega
    have g6 : ((l1.length + l2.length) * 16 ≤ 17592186044416) = True := by simp; omega
    have g7 : (l1.length + l2.length ≤ 17592186044416) = True := by simp; omega
    have g8 : List.take l1.length (l1.map Ref.row) = l1.map Ref.row := List.take_of_length_le (by simp)
    have gb : SpecP Try.prog 15 [.s 2 ((l1 ++ l2).map Ref.row), .s 2 ((l1 ++ l2).map Ref.row)] (bool true) := by
      have := s_r11Refs (l1 ++ l2) (l1 ++ l2) (by simp; omega)
      rwa [decide_eq_true rfl] at this
    by_cases hl1 : l1 = []
    · have g1 : (List.map Ref.row l1).isEmpty = true := by simp [hl1]
      by_cases hl2 : l2 = []
      · have q1 : (List.map Ref.row l2).isEmpty = true := by simp [hl2]
        simp -implicitDefEqProofs only [SS, ↓reduceIte, Nat.reduceEqDiff, Nat.reduceAdd, eq_self, reduceCtorEq, Nat.reduceLeDiff, Nat.reduceSub, Nat.reduceMul, forall_const, implies_true, Int.reduceLE, Int.reduceLT, Int.reduceToNat, Int.reduceEq, Int.reduceBEq, Int.reduceBNe, Nat.reduceLT, EE, e2, e3, e7, H3, d1, d2, d3, d4, d5, d6, d7, g1, q1, appD, rowsOf]
        refine callL_flat [] ca_r11Refs gb (fun H1 h1 => ⟨frq.refl, ?_, trivial⟩) rfl rfl ?_ ?_
        · exact .inr (by simp [hl1, hl2])
        · simp -implicitDefEqProofs only [SS, ↓reduceIte, Nat.reduceEqDiff, Nat.reduceAdd, eq_self, reduceCtorEq, Nat.reduceLeDiff, Nat.reduceSub, Nat.reduceMul, forall_const, implies_true, Int.reduceLE, Int.reduceLT, Int.reduceToNat, Int.reduceEq, Int.reduceBEq, Int.reduceBNe, Nat.reduceLT]
        simp -implicitDefEqProofs only [SS, ↓reduceIte, Nat.reduceEqDiff, Nat.reduceAdd, eq_self, reduceCtorEq, Nat.reduceLeDiff, Nat.reduceSub, Nat.reduceMul, forall_const, implies_true, Int.reduceLE, Int.reduceLT, Int.reduceToNat, Int.reduceEq, Int.reduceBEq, Int.reduceBNe, Nat.reduceLT, EE]
        simp [pureQ, frq, refs, refsL, L2, LL2]
      · have q1 : (List.map Ref.row l2).isEmpty = false := by cases l2 with | nil => exact absurd rfl hl2 | cons => rfl
        simp -implicitDefEqProofs only [SS, ↓reduceIte, Nat.reduceEqDiff, Nat.reduceAdd, eq_self, reduceCtorEq, Nat.reduceLeDiff, Nat.reduceSub, Nat.reduceMul, forall_const, implies_true, Int.reduceLE, Int.reduceLT, Int.reduceToNat, Int.reduceEq, Int.reduceBEq, Int.reduceBNe, Nat.reduceLT, EE, e2, e3, e7, H3, d1, d2, d3, d4, d5, d6, d7, g1, q1, g4, g5, appD, rowsOf]
        refine callL_flat [[110]] ca_r11Refs gb (fun H1 h1 => ⟨frq.refl, frq_own ((h1 _ (by simp)).trans (by simp [set_at]; rfl)) (by simp) ?_ (rows_refs Ref.row_refs _), trivial⟩) rfl rfl ?_ ?_
        · rw [List.drop_zero, List.take_of_length_le (by simp), hl1]; rfl
        · simp -implicitDefEqProofs only [SS, ↓reduceIte, Nat.reduceEqDiff, Nat.reduceAdd, eq_self, reduceCtorEq, Nat.reduceLeDiff, Nat.reduceSub, Nat.reduceMul, forall_const, implies_true, Int.reduceLE, Int.reduceLT, Int.reduceToNat, Int.reduceEq, Int.reduceBEq, Int.reduceBNe, Nat.reduceLT]
        simp -implicitDefEqProofs only [SS, ↓reduceIte, Nat.reduceEqDiff, Nat.reduceAdd, eq_self, reduceCtorEq, Nat.reduceLeDiff, Nat.reduceSub, Nat.reduceMul, forall_const, implies_true, Int.reduceLE, Int.reduceLT, Int.reduceToNat, Int.reduceEq, Int.reduceBEq, Int.reduceBNe, Nat.reduceLT, EE]
        simp [pureQ, frq, refs, refsL, L2, LL2]
    · have g1 : (List.map Ref.row l1).isEmpty = false := by cases l1 with | nil => exact absurd rfl hl1 | cons => rfl
      simp -implicitDefEqProofs only [SS, ↓reduceIte, Nat.reduceEqDiff, Nat.reduceAdd, eq_self, reduceCtorEq, Nat.reduceLeDiff, Nat.reduceSub, Nat.reduceMul, forall_const, implies_true, Int.reduceLE, Int.reduceLT, Int.reduceToNat, Int.reduceEq, Int.reduceBEq, Int.reduceBNe, Nat.reduceLT, EE, e2, e3, e7, H3, d1, d2, d3, d4, d5, d6, d7, g1, g2, g3, g4, g5, g6, g7, g8, appD, rowsOf]
      refine callL_flat [[105]] ca_r11Refs gb (fun H1 h1 => ⟨frq.refl, frq_own ((h1 _ (by simp)).trans (by simp [set_at]; rfl)) (by simp) ?_ (rows_refs Ref.row_refs _), trivial⟩) rfl rfl ?_ ?_
      · rw [List.drop_zero, List.take_of_length_le (by simp), List.map_append]
      · simp -implicitDefEqProofs only [SS, ↓reduceIte, Nat.reduceEqDiff, Nat.reduceAdd, eq_self, reduceCtorEq, Nat.reduceLeDiff, Nat.reduceSub, Nat.reduceMul, forall_const, implies_true, Int.reduceLE, Int.reduceLT, Int.reduceToNat, Int.reduceEq, Int.reduceBEq, Int.reduceBNe, Nat.reduceLT]
      simp -implicitDefEqProofs only [SS, ↓reduceIte, Nat.reduceEqDiff, Nat.reduceAdd, eq_self, reduceCtorEq, Nat.reduceLeDiff, Nat.reduceSub, Nat.reduceMul, forall_const, implies_true, Int.reduceLE, Int.reduceLT, Int.reduceToNat, Int.reduceEq, Int.reduceBEq, Int.reduceBNe, Nat.reduceLT, EE]
      simp [pureQ, frq, refs, refsL, L2, LL2]

end Go.Proofs.Ytjbcgjgomhbmgaa

/- PenOrder: for every input the law returns true, and each argument reads afterwards as it read before. No conditions. -/
namespace Go.Proofs.Ytjbcgjgomhbmgaa
open Go.RowKit
set_option linter.unusedVariables false
set_option linter.unusedSimpArgs false
theorem pars_l12PenOrder : parsTS Try.prog Try.f4.params.toList = some [(true, Pen.ts), (true, Frame.ts), (false, [.int])] := by kernel_rfl
set_option maxRecDepth 100000 in
theorem lifted_PenOrder (h : ∀ (x0 : Pen) (x1 : Frame) (x2 : Int), x0.wf → x1.wf → I64 x2 → SpecP Try.prog 4 [.g x0.row, .g x1.row, int x2] (bool true)) (os : Os) (started : os.Started) (H : Type) (enc : TypeId × Value → H) :
    ReturnsInHanded {} Try.checked os 4 .any (Rows.penOrderSpec.pre6 enc Try.prog Try.f4 Rows.penOrderRow.domain false) (Rows.penOrderSpec.post enc Try.prog Try.f4 false true false false) :=
  law_lifted (C := Try.checked) own laidOut started (by kernel_rfl) Try.func4 rfl rfl rfl (by kernel_rfl) pars_l12PenOrder (by kernel_rfl)
      (fun ds hd => by
        match ds, hd with
        | [_d0, _d1, _d2], _ => rfl)
      (ChangeSpec.witness6 (enc := enc) (C := Try.checked) false ⟨#[], #[.agg #[.slice none 0 0, .slice none 0 0, .int .i64 0], .agg #[.int .i64 0, .int .i64 0, .slice none 0 0, .slice none 0 0, .slice none 0 0, .int .i64 0, .int .i64 0, .int .i64 0, .int .i64 0, .int .i64 0, .int .i64 0, .int .i64 0, .int .i64 0, .int .i64 0, .int .i64 0, .int .i64 0], .int .i64 0], []⟩ 8 (by kernel_rfl) (by kernel_rfl) (by kernel_rfl) (by kernel_rfl))
      (fun args ha => by
        obtain ⟨d0, r0, rfl, h0, d1, r1, rfl, h1, d2, r2, rfl, h2, rfl⟩ := ha
        simp only [if_true] at h0
        obtain ⟨cs, rfl, h⟩ := h0
        obtain ⟨x0, rfl, w0⟩ := Pen.fit h
        clear h
        simp only [if_true] at h1
        obtain ⟨cs, rfl, h⟩ := h1
        obtain ⟨x1, rfl, w1⟩ := Frame.fit h
        clear h
        simp only [Bool.false_eq_true, if_false] at h2
        obtain ⟨d, r, e, h, h'⟩ := fitL_cons h2
        cases fitL_nil h'
        cases e
        obtain ⟨x2, rfl, w2⟩ := fit_int h
        clear h h2
        exact h x0 x1 x2 w0 w1 w2)
theorem penOrder_of (h : ∀ (x0 : Pen) (x1 : Frame) (x2 : Int), x0.wf → x1.wf → I64 x2 → SpecP Try.prog 4 [.g x0.row, .g x1.row, int x2] (bool true)) : Rows.PenOrderSaid :=
  OpenClaim.holds_of_wide 4 Try.f4 rfl rfl rfl rfl rfl rfl rfl ⟨rfl, rfl, rfl, rfl, rfl⟩ rfl rfl rfl rfl rfl (by kernel_rfl) Try.func4 (by kernel_rfl)
    (of_decide_eq_true (by kernel_rfl)) (by unfold Func.isWrapper; first | (rw [if_pos (by decide +kernel)]; kernel_rfl) | (rw [if_neg (by decide +kernel)]; exact ⟨rfl, rfl⟩))
    (fun os started H enc _ => lifted_PenOrder h os started H enc)

theorem penOrder_holds : Rows.PenOrderSaid := penOrder_of (fun p f n hp _ _ => s_l12PenOrder sortedSpec p f n hp)
#print axioms penOrder_holds
end Go.Proofs.Ytjbcgjgomhbmgaa
