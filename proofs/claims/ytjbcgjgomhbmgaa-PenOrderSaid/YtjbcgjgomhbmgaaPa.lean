/- What the functions of the program tell. -/
import Derived.Test.YtjbcgjgomhbmgaaDb
import Derived.Test.YtjbcgjgomhbmgaaProg

/-  The program's types, as plain data, and how they are told. -/
namespace Go.Proofs.Ytjbcgjgomhbmgaa
open Go.RowKit
set_option linter.unusedVariables false
set_option linter.unusedSimpArgs false
set_option linter.defProp false

abbrev int (n : Int) : DV := .x (.int .i64 n)
abbrev bool (b : Bool) : DV := .x (.bool b)

structure Ref where
  at' : Int
  gen : Int
deriving DecidableEq, Inhabited
def Ref.row (r : Ref) : List DV := [int r.at', int r.gen]

structure Val where
  re : Int
  im : Int
deriving DecidableEq, Inhabited
def Val.row (v : Val) : List DV := [int v.re, int v.im]

structure Out where
  trap : Int
  v : Val
deriving DecidableEq, Inhabited
def Out.row (o : Out) : List DV := [int o.trap, int o.v.re, int o.v.im]

structure Slot where
  state : Int
  kid : Ref
  out : Out
deriving DecidableEq, Inhabited
def Slot.row (s : Slot) : List DV := [int s.state, int s.kid.at', int s.kid.gen, int s.out.trap, int s.out.v.re, int s.out.v.im]

def irow (n : Int) : List DV := [int n]

structure Frame where
  fn : Int
  pc : Int
  stack : List Val
  locals : List Val
  slots : List Slot
  seed : Int
  spawned : Int
  draws : Int
  state : Int
  wait : Int
  out : Out
  up : Ref
  upSlot : Int
deriving DecidableEq, Inhabited
def Frame.row (f : Frame) : List DV := [int f.fn, int f.pc, .s 2 (f.stack.map Val.row), .s 2 (f.locals.map Val.row), .s 6 (f.slots.map Slot.row), int f.seed, int f.spawned, int f.draws, int f.state, int f.wait,
  int f.out.trap, int f.out.v.re, int f.out.v.im, int f.up.at', int f.up.gen, int f.upSlot]

structure Cell where
  gen : Int
  used : Bool
  frame : Frame
deriving DecidableEq, Inhabited
def Cell.row (c : Cell) : List DV := int c.gen :: bool c.used :: c.frame.row

structure Pen where
  cells : List Cell
  free : List Int
  most : Int
deriving DecidableEq, Inhabited
def Pen.row (p : Pen) : List DV := [.s 18 (p.cells.map Cell.row), .s 1 (p.free.map irow), int p.most]

def zeroFrame : Frame := ⟨0, 0, [], [], [], 0, 0, 0, 0, 0, ⟨0, ⟨0, 0⟩⟩, ⟨0, 0⟩, 0⟩

def EE := And.intro @Ref.row.eq_1 (And.intro @Val.row.eq_1 (And.intro @Out.row.eq_1 (And.intro @Slot.row.eq_1 (And.intro @Frame.row.eq_1 (And.intro @Cell.row.eq_1 (And.intro @Pen.row.eq_1 (And.intro @irow.eq_1 (And.intro @int.eq_1 @bool.eq_1))))))))

theorem rows_refs {α : Type} {f : α → List DV} (hf : ∀ a, refsL (f a) = []) (l : List α) : ∀ r ∈ l.map f, refsL r = [] := fun r hr => by
  obtain ⟨a, _, rfl⟩ := List.mem_map.1 hr
  exact hf a
theorem Cell.row_refs (c : Cell) : refsL c.row = [] := by rfl
theorem irow_refs (n : Int) : refsL (irow n) = [] := by rfl
theorem Ref.row_refs (r : Ref) : refsL r.row = [] := by rfl
theorem Val.row_refs (r : Val) : refsL r.row = [] := by rfl
theorem Slot.row_refs (r : Slot) : refsL r.row = [] := by rfl

theorem eqSh_ints2 (a b c d : Int) : eqSh (.cons 0 1 false .li (.cons 1 1 false .li .nil)) (.g [int a, int b]) (.g [int c, int d]) = some (decide (a = c) && decide (b = d)) := by
  simp only [eqSh, partD, Bool.false_eq_true, if_false, List.getElem?_cons_zero, List.getElem?_cons_succ, Option.bind_some, if_true]
  by_cases h1 : a = c <;> by_cases h2 : b = d <;> simp [h1, h2]
theorem eqSh_ints6 (a b c d e f a' b' c' d' e' f' : Int) : eqSh (.cons 0 1 false .li (.cons 1 2 true (.cons 0 1 false .li (.cons 1 1 false .li .nil)) (.cons 3 3 true (.cons 0 1 false .li (.cons 1 2 true (.cons 0 1 false .li (.cons 1 1 false .li .nil)) .nil)) .nil)))
    (.g [int a, int b, int c, int d, int e, int f]) (.g [int a', int b', int c', int d', int e', int f']) = some (decide (a = a') && decide (b = b') && decide (c = c') && decide (d = d') && decide (e = e') && decide (f = f')) := by
  simp only [eqSh, partD, Bool.false_eq_true, if_false, List.getElem?_cons_zero, List.getElem?_cons_succ, Option.bind_some, if_true, List.take_succ_cons, List.take_zero, List.drop_succ_cons, List.drop_zero, List.length_cons, List.length_nil, Nat.reduceAdd, Nat.reduceLeDiff, Nat.le_refl]
  by_cases h1 : a = a' <;> by_cases h2 : b = b' <;> by_cases h3 : c = c' <;> by_cases h4 : d = d' <;> by_cases h5 : e = e' <;> by_cases h6 : f = f' <;> simp [h1, h2, h3, h4, h5, h6]

end Go.Proofs.Ytjbcgjgomhbmgaa

/-  pen and its reference: what the functions tell. -/
namespace Go.Proofs.Ytjbcgjgomhbmgaa
open Go.RowKit
set_option linter.unusedVariables false
set_option linter.unusedSimpArgs false

theorem mixed : Try.prog.follows .mixedOrders = true := by kernel_rfl

def df_penIn : DF := (.mk 15 (.seq (.reg [(.mk (some 6) none (.op (.mv (.c (.x (.bool false))))))]) (.seq (.reg [(.mk (some 7) none (.op (.mv (.t 0)))), (.mk (some 8) none (.op (.mv (.t 1)))), (.mk (some 9) none (.op (.bin .geq (.t 7) (.t 8)))), (.mk (some 10) none (.op (.mv (.t 9)))), (.mk (some 11) (some (10, true)) (.op (.mv (.t 0)))), (.mk (some 12) (some (10, true)) (.op (.mv (.t 2)))), (.mk (some 13) (some (10, true)) (.op (.bin .leq (.t 11) (.t 12)))), (.mk (some 14) none (.op (.pick (.t 10) (.t 13) (.c (.x (.bool false)))))), (.mk (some 6) none (.op (.mv (.t 14))))]) .ret)) [(.tmp 6)])
theorem tu_penIn : turnF Try.prog Try.f19 = some df_penIn := by kernel_rfl

def df_penNew : DF := (.mk 10 (.seq (.reg [(.mk (some 2) none (.op (.box (.c (.g [(.z true), (.z true), (.x (.int .i64 0))]))))), (.mk (some 3) none (.op (.mv (.c (.x (.bool false))))))]) (.seq (.seq (.reg [(.mk (some 4) none (.op (.mv (.t 0)))), (.mk (some 5) none (.call 19 [(.t 4), (.c (.x (.int .i64 1))), (.c (.x (.int .i64 1024)))])), (.mk (some 6) none (.op (.un .not (.t 5))))]) (.cond (.t 6) (.seq (.reg [(.mk (some 7) none (.op (.build [(.z true), (.z true), (.x (.int .i64 0))] []))), (.mk none none (.op (.store 3 (.t 2) (.t 7)))), (.mk (some 3) none (.op (.mv (.c (.x (.bool false))))))]) .ret) .skip)) (.seq (.reg [(.mk (some 8) none (.op (.mv (.t 0)))), (.mk (some 9) none (.op (.build [(.z true), (.z true), (.x (.int .i64 0))] [(2, (1, (.t 8)))]))), (.mk none none (.op (.store 3 (.t 2) (.t 9)))), (.mk (some 3) none (.op (.mv (.c (.x (.bool true))))))]) .ret))) [(.cell 2 3 true), (.tmp 3)])
theorem tu_penNew : turnF Try.prog Try.f7 = some df_penNew := by kernel_rfl

def df_r9Small : DF := (.mk 19 (.seq (.reg [(.mk (some 1) none (.op (.box (.t 0)))), (.mk (some 2) none (.op (.mv (.c (.x (.bool false))))))]) (.seq (.reg [(.mk (some 3) none (.op (.fad 2 (.t 1)))), (.mk (some 4) none (.op (.load 1 false (.t 3)))), (.mk (some 5) none (.op (.len (.t 4)))), (.mk (some 6) none (.op (.bin .leq (.t 5) (.c (.x (.int .i64 40)))))), (.mk (some 7) none (.op (.mv (.t 6)))), (.mk (some 8) (some (7, true)) (.op (.fad 3 (.t 1)))), (.mk (some 9) (some (7, true)) (.op (.load 1 false (.t 8)))), (.mk (some 10) (some (7, true)) (.op (.len (.t 9)))), (.mk (some 11) (some (7, true)) (.op (.bin .leq (.t 10) (.c (.x (.int .i64 40)))))), (.mk (some 12) none (.op (.pick (.t 7) (.t 11) (.c (.x (.bool false)))))), (.mk (some 13) none (.op (.mv (.t 12)))), (.mk (some 14) (some (13, true)) (.op (.fad 4 (.t 1)))), (.mk (some 15) (some (13, true)) (.op (.load 1 false (.t 14)))), (.mk (some 16) (some (13, true)) (.op (.len (.t 15)))), (.mk (some 17) (some (13, true)) (.op (.bin .leq (.t 16) (.c (.x (.int .i64 40)))))), (.mk (some 18) none (.op (.pick (.t 13) (.t 17) (.c (.x (.bool false)))))), (.mk (some 2) none (.op (.mv (.t 18))))]) .ret)) [(.tmp 2)])
theorem tu_r9Small : turnF Try.prog Try.f6 = some df_r9Small := by kernel_rfl

def df_r12count : DF := (.mk 22 (.seq (.reg [(.mk (some 4) none (.op (.mv (.c (.x (.int .i64 0))))))]) (.seq (.reg [(.mk (some 5) none (.op (.mv (.c (.x (.int .i64 0))))))]) (.seq (.seq (.reg [(.mk (some 6) none (.op (.mv (.c (.x (.int .i64 0))))))]) (.block 0 (.loop (.seq (.seq (.reg [(.mk (some 7) none (.op (.mv (.t 6)))), (.mk (some 8) none (.op (.mv (.t 0)))), (.mk (some 9) none (.op (.len (.t 8)))), (.mk (some 10) none (.op (.bin .lss (.t 7) (.t 9))))]) (.cond (.t 10) .skip (.exit 0))) (.seq (.block 1 (.seq (.reg [(.mk (some 13) none (.op (.mv (.t 0)))), (.mk (some 14) none (.op (.mv (.t 6)))), (.mk (some 15) none (.op (.iad 1 (.t 13) (.t 14)))), (.mk (some 16) none (.op (.load 1 false (.t 15)))), (.mk (some 17) none (.op (.mv (.t 1)))), (.mk (some 18) none (.op (.bin .eql (.t 16) (.t 17))))]) (.cond (.t 18) (.reg [(.mk (some 19) none (.op (.mv (.t 5)))), (.mk (some 20) none (.op (.bin .add (.t 19) (.c (.x (.int .i64 1)))))), (.mk (some 5) none (.op (.mv (.t 20))))]) .skip))) (.reg [(.mk (some 11) none (.op (.mv (.t 6)))), (.mk (some 12) none (.op (.bin .add (.t 11) (.c (.x (.int .i64 1)))))), (.mk (some 6) none (.op (.mv (.t 12))))])))))) (.seq (.reg [(.mk (some 21) none (.op (.mv (.t 5)))), (.mk (some 4) none (.op (.mv (.t 21))))]) .ret)))) [(.tmp 4)])
theorem tu_r12count : turnF Try.prog Try.f25 = some df_r12count := by kernel_rfl

theorem ca_penIn : callable Try.prog 19 = true := by kernel_rfl
theorem s_penIn (n a b : Int) : SpecP Try.prog 19 [.x (.int .i64 n), .x (.int .i64 a), .x (.int .i64 b)] (.x (.bool (decide (a ≤ n) && decide (n ≤ b)))) := by
  refine .body mixed Try.func19 tu_penIn (Nat.le_of_ble_eq_true rfl) ?_
  simp -implicitDefEqProofs only [df_penIn, SS, ↓reduceIte, Nat.reduceEqDiff, Nat.reduceAdd, eq_self, reduceCtorEq, Nat.reduceLeDiff, Nat.reduceSub, Nat.reduceMul, forall_const, implies_true, Int.reduceLE, Int.reduceLT, Int.reduceToNat, Int.reduceEq, Int.reduceBEq, Int.reduceBNe, Nat.reduceLT]
  refine gdI_split (fun h => ?_) (fun h => ?_)
  · simp -implicitDefEqProofs only [SS, ↓reduceIte, Nat.reduceEqDiff, Nat.reduceAdd, eq_self, reduceCtorEq, Nat.reduceLeDiff, Nat.reduceSub, Nat.reduceMul, forall_const, implies_true, Int.reduceLE, Int.reduceLT, Int.reduceToNat, Int.reduceEq, Int.reduceBEq, Int.reduceBNe, Nat.reduceLT, h]
    simp [pureQ, frq, refs, h]
  · simp -implicitDefEqProofs only [SS, ↓reduceIte, Nat.reduceEqDiff, Nat.reduceAdd, eq_self, reduceCtorEq, Nat.reduceLeDiff, Nat.reduceSub, Nat.reduceMul, forall_const, implies_true, Int.reduceLE, Int.reduceLT, Int.reduceToNat, Int.reduceEq, Int.reduceBEq, Int.reduceBNe, Nat.reduceLT, h]
    simp [pureQ, frq, refs, h]

theorem s_penNew (most : Int) : SpecP Try.prog 7 [int most] (.t [.g (Pen.row ⟨[], [], if 1 ≤ most ∧ most ≤ 1024 then most else 0⟩), bool (decide (1 ≤ most ∧ most ≤ 1024))]) := by
  refine .body mixed Try.func7 tu_penNew (Nat.le_of_ble_eq_true rfl) ?_
  simp -implicitDefEqProofs only [df_penNew, SS, ↓reduceIte, Nat.reduceEqDiff, Nat.reduceAdd, eq_self, reduceCtorEq, Nat.reduceLeDiff, Nat.reduceSub, Nat.reduceMul, forall_const, implies_true, Int.reduceLE, Int.reduceLT, Int.reduceToNat, Int.reduceEq, Int.reduceBEq, Int.reduceBNe, Nat.reduceLT, EE]
  refine ⟨ca_penIn, SpecH.of_pure (s_penIn _ _ _) L2.refl rfl ?_⟩
  simp -implicitDefEqProofs only [SS, ↓reduceIte, Nat.reduceEqDiff, Nat.reduceAdd, eq_self, reduceCtorEq, Nat.reduceLeDiff, Nat.reduceSub, Nat.reduceMul, forall_const, implies_true, Int.reduceLE, Int.reduceLT, Int.reduceToNat, Int.reduceEq, Int.reduceBEq, Int.reduceBNe, Nat.reduceLT]
  refine condD_split (fun h => ?_) (fun h => ?_)
  · simp -implicitDefEqProofs only [SS, ↓reduceIte, Nat.reduceEqDiff, Nat.reduceAdd, eq_self, reduceCtorEq, Nat.reduceLeDiff, Nat.reduceSub, Nat.reduceMul, forall_const, implies_true, Int.reduceLE, Int.reduceLT, Int.reduceToNat, Int.reduceEq, Int.reduceBEq, Int.reduceBNe, Nat.reduceLT]
    have h' : ¬ (1 ≤ most ∧ most ≤ 1024) := by simp at h; omega
    simp [pureQ, frq, refs, refsL, L2, LL2, h']
  · simp -implicitDefEqProofs only [SS, ↓reduceIte, Nat.reduceEqDiff, Nat.reduceAdd, eq_self, reduceCtorEq, Nat.reduceLeDiff, Nat.reduceSub, Nat.reduceMul, forall_const, implies_true, Int.reduceLE, Int.reduceLT, Int.reduceToNat, Int.reduceEq, Int.reduceBEq, Int.reduceBNe, Nat.reduceLT]
    have h' : 1 ≤ most ∧ most ≤ 1024 := by simp at h; omega
    simp [pureQ, frq, refs, refsL, L2, LL2, h']

def cnt (l : List Int) (n : Int) : Int := (l.countP (· == n) : Nat)

theorem ca_r12count : callable Try.prog 25 = true := by kernel_rfl
theorem s_r12count (l : List Int) (n : Int) (hl : l.length ≤ 1000000) : SpecP Try.prog 25 [.s 1 (l.map irow), int n] (int (cnt l n)) := by
  refine .body mixed Try.func25 tu_r12count (Nat.le_of_ble_eq_true rfl) ?_
  simp -implicitDefEqProofs only [df_r12count, SS, ↓reduceIte, Nat.reduceEqDiff, Nat.reduceAdd, eq_self, reduceCtorEq, Nat.reduceLeDiff, Nat.reduceSub, Nat.reduceMul, forall_const, implies_true, Int.reduceLE, Int.reduceLT, Int.reduceToNat, Int.reduceEq, Int.reduceBEq, Int.reduceBNe, Nat.reduceLT, EE]
  refine wpD_loop (fun m e H => ∃ i, i ≤ l.length ∧ m = l.length - i ∧ H = H0 ∧ e 0 = .s 1 (l.map irow) ∧ e 1 = int n ∧ e 5 = int (cnt (l.take i) n) ∧ e 6 = int i) l.length ⟨0, by simp [SS, ↓reduceIte, Nat.reduceEqDiff, Nat.reduceAdd, eq_self, reduceCtorEq, Nat.reduceLeDiff, Nat.reduceSub, Nat.reduceMul, forall_const, implies_true, Int.reduceLE, Int.reduceLT, Int.reduceToNat, Int.reduceEq, Int.reduceBEq, Int.reduceBNe, Nat.reduceLT, cnt]⟩ ?_
  rintro m e H ⟨i, hi, rfl, rfl, h0, h1, h5, h6⟩
  simp -implicitDefEqProofs only [SS, ↓reduceIte, Nat.reduceEqDiff, Nat.reduceAdd, eq_self, reduceCtorEq, Nat.reduceLeDiff, Nat.reduceSub, Nat.reduceMul, forall_const, implies_true, Int.reduceLE, Int.reduceLT, Int.reduceToNat, Int.reduceEq, Int.reduceBEq, Int.reduceBNe, Nat.reduceLT, h0, h1, h5, h6]
  refine condD_split (fun h => ?_) (fun h => ?_)
  · have hi' : i < l.length := by simpa using h
    simp -implicitDefEqProofs only [SS, ↓reduceIte, Nat.reduceEqDiff, Nat.reduceAdd, eq_self, reduceCtorEq, Nat.reduceLeDiff, Nat.reduceSub, Nat.reduceMul, forall_const, implies_true, Int.reduceLE, Int.reduceLT, Int.reduceToNat, Int.reduceEq, Int.reduceBEq, Int.reduceBNe, Nat.reduceLT, h0, h1, h5, h6, List.getElem?_eq_getElem hi', irow]
    have hc : ∀ x : Int, cnt (l.take (i + 1)) x = cnt (l.take i) x + if l[i] == x then 1 else 0 := by
      intro x
      rw [← List.take_append_getElem hi']
      simp only [cnt, List.countP_append, List.countP_singleton]
      split <;> simp
    have hb : cnt (l.take i) n ≤ 1000000 ∧ 0 ≤ cnt (l.take i) n := by
      have : (l.take i).countP (· == n) ≤ (l.take i).length := List.countP_le_length
      simp only [List.length_take] at this
      simp only [cnt]
      omega
    refine condD_split (fun h' => ?_) (fun h' => ?_)
    · simp -implicitDefEqProofs only [SS, ↓reduceIte, Nat.reduceEqDiff, Nat.reduceAdd, eq_self, reduceCtorEq, Nat.reduceLeDiff, Nat.reduceSub, Nat.reduceMul, forall_const, implies_true, Int.reduceLE, Int.reduceLT, Int.reduceToNat, Int.reduceEq, Int.reduceBEq, Int.reduceBNe, Nat.reduceLT, h0, h1, h5, h6, h']
      rw [w64_in (by omega), w64_in (by omega)]
      exact ⟨l.length - (i + 1), by omega, i + 1, by omega, rfl, by simp [hc, h'], by simp⟩
    · simp -implicitDefEqProofs only [SS, ↓reduceIte, Nat.reduceEqDiff, Nat.reduceAdd, eq_self, reduceCtorEq, Nat.reduceLeDiff, Nat.reduceSub, Nat.reduceMul, forall_const, implies_true, Int.reduceLE, Int.reduceLT, Int.reduceToNat, Int.reduceEq, Int.reduceBEq, Int.reduceBNe, Nat.reduceLT, h0, h1, h5, h6, h']
      rw [w64_in (by omega)]
      exact ⟨l.length - (i + 1), by omega, i + 1, by omega, rfl, by simp [hc, h'], by simp⟩
  · simp -implicitDefEqProofs only [SS, ↓reduceIte, Nat.reduceEqDiff, Nat.reduceAdd, eq_self, reduceCtorEq, Nat.reduceLeDiff, Nat.reduceSub, Nat.reduceMul, forall_const, implies_true, Int.reduceLE, Int.reduceLT, Int.reduceToNat, Int.reduceEq, Int.reduceBEq, Int.reduceBNe, Nat.reduceLT, h5]
    have hi' : i = l.length := by simp at h; omega
    simp [pureQ, frq, refs, refsL, L2, LL2, hi']

end Go.Proofs.Ytjbcgjgomhbmgaa

/-  Equality of lists. -/
namespace Go.Proofs.Ytjbcgjgomhbmgaa
open Go.RowKit
set_option linter.unusedVariables false
set_option linter.unusedSimpArgs false

theorem eq_of_get {α : Type} [Inhabited α] {a b : List α} (hl : a.length = b.length) (h : a.take a.length = b.take a.length) : a = b := by
  rw [List.take_length] at h
  rw [hl, List.take_length] at h
  exact h
theorem take_succ_eq {α : Type} {a b : List α} {i : Nat} (h1 : i < a.length) (h2 : i < b.length) : a.take (i + 1) = b.take (i + 1) ↔ a.take i = b.take i ∧ a[i] = b[i] := by
  rw [← List.take_append_getElem h1, ← List.take_append_getElem h2]
  constructor
  · intro h
    have := List.append_inj h (by simp; omega)
    simpa using this
  · rintro ⟨e1, e2⟩
    rw [e1, e2]

def df_r11Refs : DF := (.mk 26 (.seq (.reg [(.mk (some 4) none (.op (.mv (.c (.x (.bool false))))))]) (.seq (.seq (.reg [(.mk (some 6) none (.op (.mv (.t 0)))), (.mk (some 7) none (.op (.len (.t 6)))), (.mk (some 8) none (.op (.mv (.t 1)))), (.mk (some 9) none (.op (.len (.t 8)))), (.mk (some 10) none (.op (.bin .neq (.t 7) (.t 9))))]) (.cond (.t 10) (.seq (.reg [(.mk (some 4) none (.op (.mv (.c (.x (.bool false))))))]) .ret) .skip)) (.seq (.seq (.reg [(.mk (some 5) none (.op (.mv (.c (.x (.int .i64 0))))))]) (.block 0 (.loop (.seq (.seq (.reg [(.mk (some 11) none (.op (.mv (.t 5)))), (.mk (some 12) none (.op (.mv (.t 0)))), (.mk (some 13) none (.op (.len (.t 12)))), (.mk (some 14) none (.op (.bin .lss (.t 11) (.t 13))))]) (.cond (.t 14) .skip (.exit 0))) (.seq (.block 1 (.seq (.drw [((.mk (some 17) none (.op (.mv (.t 0)))), []), ((.mk (some 18) none (.op (.mv (.t 5)))), []), ((.mk (some 19) none (.op (.iad 2 (.t 17) (.t 18)))), [0, 1]), ((.mk (some 20) none (.op (.load 2 true (.t 19)))), [2]), ((.mk (some 21) none (.op (.mv (.t 1)))), []), ((.mk (some 22) none (.op (.mv (.t 5)))), []), ((.mk (some 23) none (.op (.iad 2 (.t 21) (.t 22)))), [4, 5]), ((.mk (some 24) none (.op (.load 2 true (.t 23)))), [6]), ((.mk (some 25) none (.op (.eqa true (.cons 0 1 false .li (.cons 1 1 false .li .nil)) (.t 20) (.t 24)))), [3, 7])]) (.cond (.t 25) (.seq (.reg [(.mk (some 4) none (.op (.mv (.c (.x (.bool false))))))]) .ret) .skip))) (.reg [(.mk (some 15) none (.op (.mv (.t 5)))), (.mk (some 16) none (.op (.bin .add (.t 15) (.c (.x (.int .i64 1)))))), (.mk (some 5) none (.op (.mv (.t 16))))])))))) (.seq (.reg [(.mk (some 4) none (.op (.mv (.c (.x (.bool true))))))]) .ret)))) [(.tmp 4)])
theorem tu_r11Refs : turnF Try.prog Try.f15 = some df_r11Refs := by kernel_rfl

theorem ca_r11Refs : callable Try.prog 15 = true := by kernel_rfl
theorem s_r11Refs (a b : List Ref) (hl : a.length ≤ 1000000) : SpecP Try.prog 15 [.s 2 (a.map Ref.row), .s 2 (b.map Ref.row)] (bool (decide (a = b))) := by
  refine .body mixed Try.func15 tu_r11Refs (Nat.le_of_ble_eq_true rfl) ?_
  simp -implicitDefEqProofs only [df_r11Refs, SS, ↓reduceIte, Nat.reduceEqDiff, Nat.reduceAdd, eq_self, reduceCtorEq, Nat.reduceLeDiff, Nat.reduceSub, Nat.reduceMul, forall_const, implies_true, Int.reduceLE, Int.reduceLT, Int.reduceToNat, Int.reduceEq, Int.reduceBEq, Int.reduceBNe, Nat.reduceLT, EE]
  refine condD_split (fun h => ?_) (fun h => ?_)
  · have hne : a ≠ b := by intro e; simp [e] at h
    simp -implicitDefEqProofs only [SS, ↓reduceIte, Nat.reduceEqDiff, Nat.reduceAdd, eq_self, reduceCtorEq, Nat.reduceLeDiff, Nat.reduceSub, Nat.reduceMul, forall_const, implies_true, Int.reduceLE, Int.reduceLT, Int.reduceToNat, Int.reduceEq, Int.reduceBEq, Int.reduceBNe, Nat.reduceLT]
    simp [pureQ, frq, refs, refsL, L2, LL2, hne]
  have hlen : a.length = b.length := by simp at h; omega
  simp -implicitDefEqProofs only [SS, ↓reduceIte, Nat.reduceEqDiff, Nat.reduceAdd, eq_self, reduceCtorEq, Nat.reduceLeDiff, Nat.reduceSub, Nat.reduceMul, forall_const, implies_true, Int.reduceLE, Int.reduceLT, Int.reduceToNat, Int.reduceEq, Int.reduceBEq, Int.reduceBNe, Nat.reduceLT]
  refine wpD_loop (fun m e H => ∃ i, i ≤ a.length ∧ m = a.length - i ∧ H = H0 ∧ e 0 = .s 2 (a.map Ref.row) ∧ e 1 = .s 2 (b.map Ref.row) ∧ a.take i = b.take i ∧ e 5 = int i) a.length ⟨0, by simp [SS, ↓reduceIte, Nat.reduceEqDiff, Nat.reduceAdd, eq_self, reduceCtorEq, Nat.reduceLeDiff, Nat.reduceSub, Nat.reduceMul, forall_const, implies_true, Int.reduceLE, Int.reduceLT, Int.reduceToNat, Int.reduceEq, Int.reduceBEq, Int.reduceBNe, Nat.reduceLT]⟩ ?_
  rintro m e H ⟨i, hi, rfl, rfl, h0, h1, ht, h5⟩
  simp -implicitDefEqProofs only [SS, ↓reduceIte, Nat.reduceEqDiff, Nat.reduceAdd, eq_self, reduceCtorEq, Nat.reduceLeDiff, Nat.reduceSub, Nat.reduceMul, forall_const, implies_true, Int.reduceLE, Int.reduceLT, Int.reduceToNat, Int.reduceEq, Int.reduceBEq, Int.reduceBNe, Nat.reduceLT, h0, h1, h5]
  refine condD_split (fun h => ?_) (fun h => ?_)
  · have hi1 : i < a.length := by simpa using h
    have hi2 : i < b.length := by omega
    simp -implicitDefEqProofs only [SS, ↓reduceIte, Nat.reduceEqDiff, Nat.reduceAdd, eq_self, reduceCtorEq, Nat.reduceLeDiff, Nat.reduceSub, Nat.reduceMul, forall_const, implies_true, Int.reduceLE, Int.reduceLT, Int.reduceToNat, Int.reduceEq, Int.reduceBEq, Int.reduceBNe, Nat.reduceLT, h0, h1, h5, List.getElem?_eq_getElem hi1, List.getElem?_eq_getElem hi2, Ref.row, eqSh_ints2]
    refine condD_split (fun h' => ?_) (fun h' => ?_)
    · have hne : a[i] ≠ b[i] := by intro e; simp [e] at h'
      have hne : a ≠ b := by rintro rfl; exact hne rfl
      simp -implicitDefEqProofs only [SS, ↓reduceIte, Nat.reduceEqDiff, Nat.reduceAdd, eq_self, reduceCtorEq, Nat.reduceLeDiff, Nat.reduceSub, Nat.reduceMul, forall_const, implies_true, Int.reduceLE, Int.reduceLT, Int.reduceToNat, Int.reduceEq, Int.reduceBEq, Int.reduceBNe, Nat.reduceLT]
      simp [pureQ, frq, refs, refsL, L2, LL2, hne]
    · have heq : a[i] = b[i] := by
        generalize a[i] = x at h' ⊢
        generalize b[i] = y at h' ⊢
        cases x; cases y
        simp at h'
        simp [h']
      have := (take_succ_eq hi1 hi2).2 ⟨ht, heq⟩
      simp -implicitDefEqProofs only [SS, ↓reduceIte, Nat.reduceEqDiff, Nat.reduceAdd, eq_self, reduceCtorEq, Nat.reduceLeDiff, Nat.reduceSub, Nat.reduceMul, forall_const, implies_true, Int.reduceLE, Int.reduceLT, Int.reduceToNat, Int.reduceEq, Int.reduceBEq, Int.reduceBNe, Nat.reduceLT, h0, h1, h5]
      rw [w64_in (by omega)]
      exact ⟨a.length - (i + 1), by omega, i + 1, by omega, rfl, this, by simp⟩
  · simp -implicitDefEqProofs only [SS, ↓reduceIte, Nat.reduceEqDiff, Nat.reduceAdd, eq_self, reduceCtorEq, Nat.reduceLeDiff, Nat.reduceSub, Nat.reduceMul, forall_const, implies_true, Int.reduceLE, Int.reduceLT, Int.reduceToNat, Int.reduceEq, Int.reduceBEq, Int.reduceBNe, Nat.reduceLT]
    have hi' : i = a.length := by simp at h; omega
    subst hi'
    have := eq_of_get hlen ht
    simp [pureQ, frq, refs, refsL, L2, LL2, this]

def df_r9Values : DF := (.mk 26 (.seq (.reg [(.mk (some 4) none (.op (.mv (.c (.x (.bool false))))))]) (.seq (.seq (.reg [(.mk (some 6) none (.op (.mv (.t 0)))), (.mk (some 7) none (.op (.len (.t 6)))), (.mk (some 8) none (.op (.mv (.t 1)))), (.mk (some 9) none (.op (.len (.t 8)))), (.mk (some 10) none (.op (.bin .neq (.t 7) (.t 9))))]) (.cond (.t 10) (.seq (.reg [(.mk (some 4) none (.op (.mv (.c (.x (.bool false))))))]) .ret) .skip)) (.seq (.seq (.reg [(.mk (some 5) none (.op (.mv (.c (.x (.int .i64 0))))))]) (.block 0 (.loop (.seq (.seq (.reg [(.mk (some 11) none (.op (.mv (.t 5)))), (.mk (some 12) none (.op (.mv (.t 0)))), (.mk (some 13) none (.op (.len (.t 12)))), (.mk (some 14) none (.op (.bin .lss (.t 11) (.t 13))))]) (.cond (.t 14) .skip (.exit 0))) (.seq (.block 1 (.seq (.drw [((.mk (some 17) none (.op (.mv (.t 0)))), []), ((.mk (some 18) none (.op (.mv (.t 5)))), []), ((.mk (some 19) none (.op (.iad 2 (.t 17) (.t 18)))), [0, 1]), ((.mk (some 20) none (.op (.load 2 true (.t 19)))), [2]), ((.mk (some 21) none (.op (.mv (.t 1)))), []), ((.mk (some 22) none (.op (.mv (.t 5)))), []), ((.mk (some 23) none (.op (.iad 2 (.t 21) (.t 22)))), [4, 5]), ((.mk (some 24) none (.op (.load 2 true (.t 23)))), [6]), ((.mk (some 25) none (.op (.eqa true (.cons 0 1 false .li (.cons 1 1 false .li .nil)) (.t 20) (.t 24)))), [3, 7])]) (.cond (.t 25) (.seq (.reg [(.mk (some 4) none (.op (.mv (.c (.x (.bool false))))))]) .ret) .skip))) (.reg [(.mk (some 15) none (.op (.mv (.t 5)))), (.mk (some 16) none (.op (.bin .add (.t 15) (.c (.x (.int .i64 1)))))), (.mk (some 5) none (.op (.mv (.t 16))))])))))) (.seq (.reg [(.mk (some 4) none (.op (.mv (.c (.x (.bool true))))))]) .ret)))) [(.tmp 4)])
theorem tu_r9Values : turnF Try.prog Try.f22 = some df_r9Values := by kernel_rfl

theorem ca_r9Values : callable Try.prog 22 = true := by kernel_rfl
theorem s_r9Values (a b : List Val) (hl : a.length ≤ 1000000) : SpecP Try.prog 22 [.s 2 (a.map Val.row), .s 2 (b.map Val.row)] (bool (decide (a = b))) := by
  refine .body mixed Try.func22 tu_r9Values (Nat.le_of_ble_eq_true rfl) ?_
  simp -implicitDefEqProofs only [df_r9Values, SS, ↓reduceIte, Nat.reduceEqDiff, Nat.reduceAdd, eq_self, reduceCtorEq, Nat.reduceLeDiff, Nat.reduceSub, Nat.reduceMul, forall_const, implies_true, Int.reduceLE, Int.reduceLT, Int.reduceToNat, Int.reduceEq, Int.reduceBEq, Int.reduceBNe, Nat.reduceLT, EE]
  refine condD_split (fun h => ?_) (fun h => ?_)
  · have hne : a ≠ b := by intro e; simp [e] at h
    simp -implicitDefEqProofs only [SS, ↓reduceIte, Nat.reduceEqDiff, Nat.reduceAdd, eq_self, reduceCtorEq, Nat.reduceLeDiff, Nat.reduceSub, Nat.reduceMul, forall_const, implies_true, Int.reduceLE, Int.reduceLT, Int.reduceToNat, Int.reduceEq, Int.reduceBEq, Int.reduceBNe, Nat.reduceLT]
    simp [pureQ, frq, refs, refsL, L2, LL2, hne]
  have hlen : a.length = b.length := by simp at h; omega
  simp -implicitDefEqProofs only [SS, ↓reduceIte, Nat.reduceEqDiff, Nat.reduceAdd, eq_self, reduceCtorEq, Nat.reduceLeDiff, Nat.reduceSub, Nat.reduceMul, forall_const, implies_true, Int.reduceLE, Int.reduceLT, Int.reduceToNat, Int.reduceEq, Int.reduceBEq, Int.reduceBNe, Nat.reduceLT]
  refine wpD_loop (fun m e H => ∃ i, i ≤ a.length ∧ m = a.length - i ∧ H = H0 ∧ e 0 = .s 2 (a.map Val.row) ∧ e 1 = .s 2 (b.map Val.row) ∧ a.take i = b.take i ∧ e 5 = int i) a.length ⟨0, by simp [SS, ↓reduceIte, Nat.reduceEqDiff, Nat.reduceAdd, eq_self, reduceCtorEq, Nat.reduceLeDiff, Nat.reduceSub, Nat.reduceMul, forall_const, implies_true, Int.reduceLE, Int.reduceLT, Int.reduceToNat, Int.reduceEq, Int.reduceBEq, Int.reduceBNe, Nat.reduceLT]⟩ ?_
  rintro m e H ⟨i, hi, rfl, rfl, h0, h1, ht, h5⟩
  simp -implicitDefEqProofs only [SS, ↓reduceIte, Nat.reduceEqDiff, Nat.reduceAdd, eq_self, reduceCtorEq, Nat.reduceLeDiff, Nat.reduceSub, Nat.reduceMul, forall_const, implies_true, Int.reduceLE, Int.reduceLT, Int.reduceToNat, Int.reduceEq, Int.reduceBEq, Int.reduceBNe, Nat.reduceLT, h0, h1, h5]
  refine condD_split (fun h => ?_) (fun h => ?_)
  · have hi1 : i < a.length := by simpa using h
    have hi2 : i < b.length := by omega
    simp -implicitDefEqProofs only [SS, ↓reduceIte, Nat.reduceEqDiff, Nat.reduceAdd, eq_self, reduceCtorEq, Nat.reduceLeDiff, Nat.reduceSub, Nat.reduceMul, forall_const, implies_true, Int.reduceLE, Int.reduceLT, Int.reduceToNat, Int.reduceEq, Int.reduceBEq, Int.reduceBNe, Nat.reduceLT, h0, h1, h5, List.getElem?_eq_getElem hi1, List.getElem?_eq_getElem hi2, Val.row, eqSh_ints2]
    refine condD_split (fun h' => ?_) (fun h' => ?_)
    · have hne : a[i] ≠ b[i] := by intro e; simp [e] at h'
      have hne : a ≠ b := by rintro rfl; exact hne rfl
      simp -implicitDefEqProofs only [SS, ↓reduceIte, Nat.reduceEqDiff, Nat.reduceAdd, eq_self, reduceCtorEq, Nat.reduceLeDiff, Nat.reduceSub, Nat.reduceMul, forall_const, implies_true, Int.reduceLE, Int.reduceLT, Int.reduceToNat, Int.reduceEq, Int.reduceBEq, Int.reduceBNe, Nat.reduceLT]
      simp [pureQ, frq, refs, refsL, L2, LL2, hne]
    · have heq : a[i] = b[i] := by
        generalize a[i] = x at h' ⊢
        generalize b[i] = y at h' ⊢
        cases x; cases y
        simp at h'
        simp [h']
      have := (take_succ_eq hi1 hi2).2 ⟨ht, heq⟩
      simp -implicitDefEqProofs only [SS, ↓reduceIte, Nat.reduceEqDiff, Nat.reduceAdd, eq_self, reduceCtorEq, Nat.reduceLeDiff, Nat.reduceSub, Nat.reduceMul, forall_const, implies_true, Int.reduceLE, Int.reduceLT, Int.reduceToNat, Int.reduceEq, Int.reduceBEq, Int.reduceBNe, Nat.reduceLT, h0, h1, h5]
      rw [w64_in (by omega)]
      exact ⟨a.length - (i + 1), by omega, i + 1, by omega, rfl, this, by simp⟩
  · simp -implicitDefEqProofs only [SS, ↓reduceIte, Nat.reduceEqDiff, Nat.reduceAdd, eq_self, reduceCtorEq, Nat.reduceLeDiff, Nat.reduceSub, Nat.reduceMul, forall_const, implies_true, Int.reduceLE, Int.reduceLT, Int.reduceToNat, Int.reduceEq, Int.reduceBEq, Int.reduceBNe, Nat.reduceLT]
    have hi' : i = a.length := by simp at h; omega
    subst hi'
    have := eq_of_get hlen ht
    simp [pureQ, frq, refs, refsL, L2, LL2, this]

def df_slEqInt : DF := (.mk 26 (.seq (.reg [(.mk (some 4) none (.op (.mv (.c (.x (.bool false))))))]) (.seq (.seq (.reg [(.mk (some 6) none (.op (.mv (.t 0)))), (.mk (some 7) none (.op (.len (.t 6)))), (.mk (some 8) none (.op (.mv (.t 1)))), (.mk (some 9) none (.op (.len (.t 8)))), (.mk (some 10) none (.op (.bin .neq (.t 7) (.t 9))))]) (.cond (.t 10) (.seq (.reg [(.mk (some 4) none (.op (.mv (.c (.x (.bool false))))))]) .ret) .skip)) (.seq (.seq (.reg [(.mk (some 11) none (.op (.mv (.t 0)))), (.mk (some 12) none (.op (.len (.t 11)))), (.mk (some 13) none (.op (.mv (.c (.x (.int .i64 0))))))]) (.block 0 (.loop (.seq (.reg [(.mk (some 14) none (.op (.bin .lss (.t 13) (.t 12))))]) (.seq (.cond (.t 14) .skip (.exit 0)) (.seq (.block 1 (.seq (.reg [(.mk (some 15) none (.op (.mv (.t 13)))), (.mk (some 5) none (.op (.mv (.t 15))))]) (.seq (.drw [((.mk (some 16) none (.op (.mv (.t 0)))), []), ((.mk (some 17) none (.op (.mv (.t 5)))), []), ((.mk (some 18) none (.op (.iad 1 (.t 16) (.t 17)))), [0, 1]), ((.mk (some 19) none (.op (.load 1 false (.t 18)))), [2]), ((.mk (some 20) none (.op (.mv (.t 1)))), []), ((.mk (some 21) none (.op (.mv (.t 5)))), []), ((.mk (some 22) none (.op (.iad 1 (.t 20) (.t 21)))), [4, 5]), ((.mk (some 23) none (.op (.load 1 false (.t 22)))), [6]), ((.mk (some 24) none (.op (.bin .neq (.t 19) (.t 23)))), [3, 7])]) (.cond (.t 24) (.seq (.reg [(.mk (some 4) none (.op (.mv (.c (.x (.bool false))))))]) .ret) .skip)))) (.reg [(.mk (some 25) none (.op (.bin .add (.t 13) (.c (.x (.int .i64 1)))))), (.mk (some 13) none (.op (.mv (.t 25))))]))))))) (.seq (.reg [(.mk (some 4) none (.op (.mv (.c (.x (.bool true))))))]) .ret)))) [(.tmp 4)])
theorem tu_slEqInt : turnF Try.prog Try.f27 = some df_slEqInt := by kernel_rfl

theorem ca_slEqInt : callable Try.prog 27 = true := by kernel_rfl
theorem s_slEqInt (a b : List Int) (hl : a.length ≤ 1000000) : SpecP Try.prog 27 [.s 1 (a.map irow), .s 1 (b.map irow)] (bool (decide (a = b))) := by
  refine .body mixed Try.func27 tu_slEqInt (Nat.le_of_ble_eq_true rfl) ?_
  simp -implicitDefEqProofs only [df_slEqInt, SS, ↓reduceIte, Nat.reduceEqDiff, Nat.reduceAdd, eq_self, reduceCtorEq, Nat.reduceLeDiff, Nat.reduceSub, Nat.reduceMul, forall_const, implies_true, Int.reduceLE, Int.reduceLT, Int.reduceToNat, Int.reduceEq, Int.reduceBEq, Int.reduceBNe, Nat.reduceLT, EE]
  refine condD_split (fun h => ?_) (fun h => ?_)
  · have hne : a ≠ b := by intro e; simp [e] at h
    simp -implicitDefEqProofs only [SS, ↓reduceIte, Nat.reduceEqDiff, Nat.reduceAdd, eq_self, reduceCtorEq, Nat.reduceLeDiff, Nat.reduceSub, Nat.reduceMul, forall_const, implies_true, Int.reduceLE, Int.reduceLT, Int.reduceToNat, Int.reduceEq, Int.reduceBEq, Int.reduceBNe, Nat.reduceLT]
    simp [pureQ, frq, refs, refsL, L2, LL2, hne]
  have hlen : a.length = b.length := by simp at h; omega
  simp -implicitDefEqProofs only [SS, ↓reduceIte, Nat.reduceEqDiff, Nat.reduceAdd, eq_self, reduceCtorEq, Nat.reduceLeDiff, Nat.reduceSub, Nat.reduceMul, forall_const, implies_true, Int.reduceLE, Int.reduceLT, Int.reduceToNat, Int.reduceEq, Int.reduceBEq, Int.reduceBNe, Nat.reduceLT]
  refine wpD_loop (fun m e H => ∃ i, i ≤ a.length ∧ m = a.length - i ∧ H = H0 ∧ e 0 = .s 1 (a.map irow) ∧ e 1 = .s 1 (b.map irow) ∧ a.take i = b.take i ∧ e 13 = int i ∧ e 12 = int a.length) a.length ⟨0, by simp [SS, ↓reduceIte, Nat.reduceEqDiff, Nat.reduceAdd, eq_self, reduceCtorEq, Nat.reduceLeDiff, Nat.reduceSub, Nat.reduceMul, forall_const, implies_true, Int.reduceLE, Int.reduceLT, Int.reduceToNat, Int.reduceEq, Int.reduceBEq, Int.reduceBNe, Nat.reduceLT]⟩ ?_
  rintro m e H ⟨i, hi, rfl, rfl, h0, h1, ht, h5, h12⟩
  simp -implicitDefEqProofs only [SS, ↓reduceIte, Nat.reduceEqDiff, Nat.reduceAdd, eq_self, reduceCtorEq, Nat.reduceLeDiff, Nat.reduceSub, Nat.reduceMul, forall_const, implies_true, Int.reduceLE, Int.reduceLT, Int.reduceToNat, Int.reduceEq, Int.reduceBEq, Int.reduceBNe, Nat.reduceLT, h0, h1, h5, h12]
  refine condD_split (fun h => ?_) (fun h => ?_)
  · have hi1 : i < a.length := by simpa using h
    have hi2 : i < b.length := by omega
    simp -implicitDefEqProofs only [SS, ↓reduceIte, Nat.reduceEqDiff, Nat.reduceAdd, eq_self, reduceCtorEq, Nat.reduceLeDiff, Nat.reduceSub, Nat.reduceMul, forall_const, implies_true, Int.reduceLE, Int.reduceLT, Int.reduceToNat, Int.reduceEq, Int.reduceBEq, Int.reduceBNe, Nat.reduceLT, h0, h1, h5, h12, List.getElem?_eq_getElem hi1, List.getElem?_eq_getElem hi2, irow, bv_neq]
    refine condD_split (fun h' => ?_) (fun h' => ?_)
    · have hne : a[i] ≠ b[i] := by intro e; simp [e] at h'
      have hne : a ≠ b := by rintro rfl; exact hne rfl
      simp -implicitDefEqProofs only [SS, ↓reduceIte, Nat.reduceEqDiff, Nat.reduceAdd, eq_self, reduceCtorEq, Nat.reduceLeDiff, Nat.reduceSub, Nat.reduceMul, forall_const, implies_true, Int.reduceLE, Int.reduceLT, Int.reduceToNat, Int.reduceEq, Int.reduceBEq, Int.reduceBNe, Nat.reduceLT]
      simp [pureQ, frq, refs, refsL, L2, LL2, hne]
    · have heq : a[i] = b[i] := by
        simpa using h'
      have := (take_succ_eq hi1 hi2).2 ⟨ht, heq⟩
      simp -implicitDefEqProofs only [SS, ↓reduceIte, Nat.reduceEqDiff, Nat.reduceAdd, eq_self, reduceCtorEq, Nat.reduceLeDiff, Nat.reduceSub, Nat.reduceMul, forall_const, implies_true, Int.reduceLE, Int.reduceLT, Int.reduceToNat, Int.reduceEq, Int.reduceBEq, Int.reduceBNe, Nat.reduceLT, h0, h1, h5, h12]
      rw [w64_in (by omega)]
      exact ⟨a.length - (i + 1), by omega, i + 1, by omega, rfl, this, by simp⟩
  · simp -implicitDefEqProofs only [SS, ↓reduceIte, Nat.reduceEqDiff, Nat.reduceAdd, eq_self, reduceCtorEq, Nat.reduceLeDiff, Nat.reduceSub, Nat.reduceMul, forall_const, implies_true, Int.reduceLE, Int.reduceLT, Int.reduceToNat, Int.reduceEq, Int.reduceBEq, Int.reduceBNe, Nat.reduceLT]
    have hi' : i = a.length := by simp at h; omega
    subst hi'
    have := eq_of_get hlen ht
    simp [pureQ, frq, refs, refsL, L2, LL2, this]

def df_slEqVal : DF := (.mk 26 (.seq (.reg [(.mk (some 4) none (.op (.mv (.c (.x (.bool false))))))]) (.seq (.seq (.reg [(.mk (some 6) none (.op (.mv (.t 0)))), (.mk (some 7) none (.op (.len (.t 6)))), (.mk (some 8) none (.op (.mv (.t 1)))), (.mk (some 9) none (.op (.len (.t 8)))), (.mk (some 10) none (.op (.bin .neq (.t 7) (.t 9))))]) (.cond (.t 10) (.seq (.reg [(.mk (some 4) none (.op (.mv (.c (.x (.bool false))))))]) .ret) .skip)) (.seq (.seq (.reg [(.mk (some 11) none (.op (.mv (.t 0)))), (.mk (some 12) none (.op (.len (.t 11)))), (.mk (some 13) none (.op (.mv (.c (.x (.int .i64 0))))))]) (.block 0 (.loop (.seq (.reg [(.mk (some 14) none (.op (.bin .lss (.t 13) (.t 12))))]) (.seq (.cond (.t 14) .skip (.exit 0)) (.seq (.block 1 (.seq (.reg [(.mk (some 15) none (.op (.mv (.t 13)))), (.mk (some 5) none (.op (.mv (.t 15))))]) (.seq (.drw [((.mk (some 16) none (.op (.mv (.t 0)))), []), ((.mk (some 17) none (.op (.mv (.t 5)))), []), ((.mk (some 18) none (.op (.iad 2 (.t 16) (.t 17)))), [0, 1]), ((.mk (some 19) none (.op (.load 2 true (.t 18)))), [2]), ((.mk (some 20) none (.op (.mv (.t 1)))), []), ((.mk (some 21) none (.op (.mv (.t 5)))), []), ((.mk (some 22) none (.op (.iad 2 (.t 20) (.t 21)))), [4, 5]), ((.mk (some 23) none (.op (.load 2 true (.t 22)))), [6]), ((.mk (some 24) none (.op (.eqa true (.cons 0 1 false .li (.cons 1 1 false .li .nil)) (.t 19) (.t 23)))), [3, 7])]) (.cond (.t 24) (.seq (.reg [(.mk (some 4) none (.op (.mv (.c (.x (.bool false))))))]) .ret) .skip)))) (.reg [(.mk (some 25) none (.op (.bin .add (.t 13) (.c (.x (.int .i64 1)))))), (.mk (some 13) none (.op (.mv (.t 25))))]))))))) (.seq (.reg [(.mk (some 4) none (.op (.mv (.c (.x (.bool true))))))]) .ret)))) [(.tmp 4)])
theorem tu_slEqVal : turnF Try.prog Try.f38 = some df_slEqVal := by kernel_rfl

theorem ca_slEqVal : callable Try.prog 38 = true := by kernel_rfl
theorem s_slEqVal (a b : List Val) (hl : a.length ≤ 1000000) : SpecP Try.prog 38 [.s 2 (a.map Val.row), .s 2 (b.map Val.row)] (bool (decide (a = b))) := by
  refine .body mixed Try.func38 tu_slEqVal (Nat.le_of_ble_eq_true rfl) ?_
  simp -implicitDefEqProofs only [df_slEqVal, SS, ↓reduceIte, Nat.reduceEqDiff, Nat.reduceAdd, eq_self, reduceCtorEq, Nat.reduceLeDiff, Nat.reduceSub, Nat.reduceMul, forall_const, implies_true, Int.reduceLE, Int.reduceLT, Int.reduceToNat, Int.reduceEq, Int.reduceBEq, Int.reduceBNe, Nat.reduceLT, EE]
  refine condD_split (fun h => ?_) (fun h => ?_)
  · have hne : a ≠ b := by intro e; simp [e] at h
    simp -implicitDefEqProofs only [SS, ↓reduceIte, Nat.reduceEqDiff, Nat.reduceAdd, eq_self, reduceCtorEq, Nat.reduceLeDiff, Nat.reduceSub, Nat.reduceMul, forall_const, implies_true, Int.reduceLE, Int.reduceLT, Int.reduceToNat, Int.reduceEq, Int.reduceBEq, Int.reduceBNe, Nat.reduceLT]
    simp [pureQ, frq, refs, refsL, L2, LL2, hne]
  have hlen : a.length = b.length := by simp at h; omega
  simp -implicitDefEqProofs only [SS, ↓reduceIte, Nat.reduceEqDiff, Nat.reduceAdd, eq_self, reduceCtorEq, Nat.reduceLeDiff, Nat.reduceSub, Nat.reduceMul, forall_const, implies_true, Int.reduceLE, Int.reduceLT, Int.reduceToNat, Int.reduceEq, Int.reduceBEq, Int.reduceBNe, Nat.reduceLT]
  refine wpD_loop (fun m e H => ∃ i, i ≤ a.length ∧ m = a.length - i ∧ H = H0 ∧ e 0 = .s 2 (a.map Val.row) ∧ e 1 = .s 2 (b.map Val.row) ∧ a.take i = b.take i ∧ e 13 = int i ∧ e 12 = int a.length) a.length ⟨0, by simp [SS, ↓reduceIte, Nat.reduceEqDiff, Nat.reduceAdd, eq_self, reduceCtorEq, Nat.reduceLeDiff, Nat.reduceSub, Nat.reduceMul, forall_const, implies_true, Int.reduceLE, Int.reduceLT, Int.reduceToNat, Int.reduceEq, Int.reduceBEq, Int.reduceBNe, Nat.reduceLT]⟩ ?_
  rintro m e H ⟨i, hi, rfl, rfl, h0, h1, ht, h5, h12⟩
  simp -implicitDefEqProofs only [SS, ↓reduceIte, Nat.reduceEqDiff, Nat.reduceAdd, eq_self, reduceCtorEq, Nat.reduceLeDiff, Nat.reduceSub, Nat.reduceMul, forall_const, implies_true, Int.reduceLE, Int.reduceLT, Int.reduceToNat, Int.reduceEq, Int.reduceBEq, Int.reduceBNe, Nat.reduceLT, h0, h1, h5, h12]
  refine condD_split (fun h => ?_) (fun h => ?_)
  · have hi1 : i < a.length := by simpa using h
    have hi2 : i < b.length := by omega
    simp -implicitDefEqProofs only [SS, ↓reduceIte, Nat.reduceEqDiff, Nat.reduceAdd, eq_self, reduceCtorEq, Nat.reduceLeDiff, Nat.reduceSub, Nat.reduceMul, forall_const, implies_true, Int.reduceLE, Int.reduceLT, Int.reduceToNat, Int.reduceEq, Int.reduceBEq, Int.reduceBNe, Nat.reduceLT, h0, h1, h5, h12, List.getElem?_eq_getElem hi1, List.getElem?_eq_getElem hi2, Val.row, eqSh_ints2]
    refine condD_split (fun h' => ?_) (fun h' => ?_)
    · have hne : a[i] ≠ b[i] := by intro e; simp [e] at h'
      have hne : a ≠ b := by rintro rfl; exact hne rfl
      simp -implicitDefEqProofs only [SS, ↓reduceIte, Nat.reduceEqDiff, Nat.reduceAdd, eq_self, reduceCtorEq, Nat.reduceLeDiff, Nat.reduceSub, Nat.reduceMul, forall_const, implies_true, Int.reduceLE, Int.reduceLT, Int.reduceToNat, Int.reduceEq, Int.reduceBEq, Int.reduceBNe, Nat.reduceLT]
      simp [pureQ, frq, refs, refsL, L2, LL2, hne]
    · have heq : a[i] = b[i] := by
        generalize a[i] = x at h' ⊢
        generalize b[i] = y at h' ⊢
        cases x; cases y
        simp at h'
        simp [h']
      have := (take_succ_eq hi1 hi2).2 ⟨ht, heq⟩
      simp -implicitDefEqProofs only [SS, ↓reduceIte, Nat.reduceEqDiff, Nat.reduceAdd, eq_self, reduceCtorEq, Nat.reduceLeDiff, Nat.reduceSub, Nat.reduceMul, forall_const, implies_true, Int.reduceLE, Int.reduceLT, Int.reduceToNat, Int.reduceEq, Int.reduceBEq, Int.reduceBNe, Nat.reduceLT, h0, h1, h5, h12]
      rw [w64_in (by omega)]
      exact ⟨a.length - (i + 1), by omega, i + 1, by omega, rfl, this, by simp⟩
  · simp -implicitDefEqProofs only [SS, ↓reduceIte, Nat.reduceEqDiff, Nat.reduceAdd, eq_self, reduceCtorEq, Nat.reduceLeDiff, Nat.reduceSub, Nat.reduceMul, forall_const, implies_true, Int.reduceLE, Int.reduceLT, Int.reduceToNat, Int.reduceEq, Int.reduceBEq, Int.reduceBNe, Nat.reduceLT]
    have hi' : i = a.length := by simp at h; omega
    subst hi'
    have := eq_of_get hlen ht
    simp [pureQ, frq, refs, refsL, L2, LL2, this]

def df_slEqSlot : DF := (.mk 26 (.seq (.reg [(.mk (some 4) none (.op (.mv (.c (.x (.bool false))))))]) (.seq (.seq (.reg [(.mk (some 6) none (.op (.mv (.t 0)))), (.mk (some 7) none (.op (.len (.t 6)))), (.mk (some 8) none (.op (.mv (.t 1)))), (.mk (some 9) none (.op (.len (.t 8)))), (.mk (some 10) none (.op (.bin .neq (.t 7) (.t 9))))]) (.cond (.t 10) (.seq (.reg [(.mk (some 4) none (.op (.mv (.c (.x (.bool false))))))]) .ret) .skip)) (.seq (.seq (.reg [(.mk (some 11) none (.op (.mv (.t 0)))), (.mk (some 12) none (.op (.len (.t 11)))), (.mk (some 13) none (.op (.mv (.c (.x (.int .i64 0))))))]) (.block 0 (.loop (.seq (.reg [(.mk (some 14) none (.op (.bin .lss (.t 13) (.t 12))))]) (.seq (.cond (.t 14) .skip (.exit 0)) (.seq (.block 1 (.seq (.reg [(.mk (some 15) none (.op (.mv (.t 13)))), (.mk (some 5) none (.op (.mv (.t 15))))]) (.seq (.drw [((.mk (some 16) none (.op (.mv (.t 0)))), []), ((.mk (some 17) none (.op (.mv (.t 5)))), []), ((.mk (some 18) none (.op (.iad 6 (.t 16) (.t 17)))), [0, 1]), ((.mk (some 19) none (.op (.load 6 true (.t 18)))), [2]), ((.mk (some 20) none (.op (.mv (.t 1)))), []), ((.mk (some 21) none (.op (.mv (.t 5)))), []), ((.mk (some 22) none (.op (.iad 6 (.t 20) (.t 21)))), [4, 5]), ((.mk (some 23) none (.op (.load 6 true (.t 22)))), [6]), ((.mk (some 24) none (.op (.eqa true (.cons 0 1 false .li (.cons 1 2 true (.cons 0 1 false .li (.cons 1 1 false .li .nil)) (.cons 3 3 true (.cons 0 1 false .li (.cons 1 2 true (.cons 0 1 false .li (.cons 1 1 false .li .nil)) .nil)) .nil))) (.t 19) (.t 23)))), [3, 7])]) (.cond (.t 24) (.seq (.reg [(.mk (some 4) none (.op (.mv (.c (.x (.bool false))))))]) .ret) .skip)))) (.reg [(.mk (some 25) none (.op (.bin .add (.t 13) (.c (.x (.int .i64 1)))))), (.mk (some 13) none (.op (.mv (.t 25))))]))))))) (.seq (.reg [(.mk (some 4) none (.op (.mv (.c (.x (.bool true))))))]) .ret)))) [(.tmp 4)])
theorem tu_slEqSlot : turnF Try.prog Try.f39 = some df_slEqSlot := by kernel_rfl

theorem ca_slEqSlot : callable Try.prog 39 = true := by kernel_rfl
theorem s_slEqSlot (a b : List Slot) (hl : a.length ≤ 1000000) : SpecP Try.prog 39 [.s 6 (a.map Slot.row), .s 6 (b.map Slot.row)] (bool (decide (a = b))) := by
  refine .body mixed Try.func39 tu_slEqSlot (Nat.le_of_ble_eq_true rfl) ?_
  simp -implicitDefEqProofs only [df_slEqSlot, SS, ↓reduceIte, Nat.reduceEqDiff, Nat.reduceAdd, eq_self, reduceCtorEq, Nat.reduceLeDiff, Nat.reduceSub, Nat.reduceMul, forall_const, implies_true, Int.reduceLE, Int.reduceLT, Int.reduceToNat, Int.reduceEq, Int.reduceBEq, Int.reduceBNe, Nat.reduceLT, EE]
  refine condD_split (fun h => ?_) (fun h => ?_)
  · have hne : a ≠ b := by intro e; simp [e] at h
    simp -implicitDefEqProofs only [SS, ↓reduceIte, Nat.reduceEqDiff, Nat.reduceAdd, eq_self, reduceCtorEq, Nat.reduceLeDiff, Nat.reduceSub, Nat.reduceMul, forall_const, implies_true, Int.reduceLE, Int.reduceLT, Int.reduceToNat, Int.reduceEq, Int.reduceBEq, Int.reduceBNe, Nat.reduceLT]
    simp [pureQ, frq, refs, refsL, L2, LL2, hne]
  have hlen : a.length = b.length := by simp at h; omega
  simp -implicitDefEqProofs only [SS, ↓reduceIte, Nat.reduceEqDiff, Nat.reduceAdd, eq_self, reduceCtorEq, Nat.reduceLeDiff, Nat.reduceSub, Nat.reduceMul, forall_const, implies_true, Int.reduceLE, Int.reduceLT, Int.reduceToNat, Int.reduceEq, Int.reduceBEq, Int.reduceBNe, Nat.reduceLT]
  refine wpD_loop (fun m e H => ∃ i, i ≤ a.length ∧ m = a.length - i ∧ H = H0 ∧ e 0 = .s 6 (a.map Slot.row) ∧ e 1 = .s 6 (b.map Slot.row) ∧ a.take i = b.take i ∧ e 13 = int i ∧ e 12 = int a.length) a.length ⟨0, by simp [SS, ↓reduceIte, Nat.reduceEqDiff, Nat.reduceAdd, eq_self, reduceCtorEq, Nat.reduceLeDiff, Nat.reduceSub, Nat.reduceMul, forall_const, implies_true, Int.reduceLE, Int.reduceLT, Int.reduceToNat, Int.reduceEq, Int.reduceBEq, Int.reduceBNe, Nat.reduceLT]⟩ ?_
  rintro m e H ⟨i, hi, rfl, rfl, h0, h1, ht, h5, h12⟩
  simp -implicitDefEqProofs only [SS, ↓reduceIte, Nat.reduceEqDiff, Nat.reduceAdd, eq_self, reduceCtorEq, Nat.reduceLeDiff, Nat.reduceSub, Nat.reduceMul, forall_const, implies_true, Int.reduceLE, Int.reduceLT, Int.reduceToNat, Int.reduceEq, Int.reduceBEq, Int.reduceBNe, Nat.reduceLT, h0, h1, h5, h12]
  refine condD_split (fun h => ?_) (fun h => ?_)
  · have hi1 : i < a.length := by simpa using h
    have hi2 : i < b.length := by omega
    simp -implicitDefEqProofs only [SS, ↓reduceIte, Nat.reduceEqDiff, Nat.reduceAdd, eq_self, reduceCtorEq, Nat.reduceLeDiff, Nat.reduceSub, Nat.reduceMul, forall_const, implies_true, Int.reduceLE, Int.reduceLT, Int.reduceToNat, Int.reduceEq, Int.reduceBEq, Int.reduceBNe, Nat.reduceLT, h0, h1, h5, h12, List.getElem?_eq_getElem hi1, List.getElem?_eq_getElem hi2, Slot.row, eqSh_ints6]
    refine condD_split (fun h' => ?_) (fun h' => ?_)
    · have hne : a[i] ≠ b[i] := by intro e; simp [e] at h'
      have hne : a ≠ b := by rintro rfl; exact hne rfl
      simp -implicitDefEqProofs only [SS, ↓reduceIte, Nat.reduceEqDiff, Nat.reduceAdd, eq_self, reduceCtorEq, Nat.reduceLeDiff, Nat.reduceSub, Nat.reduceMul, forall_const, implies_true, Int.reduceLE, Int.reduceLT, Int.reduceToNat, Int.reduceEq, Int.reduceBEq, Int.reduceBNe, Nat.reduceLT]
      simp [pureQ, frq, refs, refsL, L2, LL2, hne]
    · have heq : a[i] = b[i] := by
        generalize a[i] = x at h' ⊢
        generalize b[i] = y at h' ⊢
        obtain ⟨x1, ⟨x2, x3⟩, ⟨x4, ⟨x5, x6⟩⟩⟩ := x
        obtain ⟨y1, ⟨y2, y3⟩, ⟨y4, ⟨y5, y6⟩⟩⟩ := y
        simp at h'
        simp [h']
      have := (take_succ_eq hi1 hi2).2 ⟨ht, heq⟩
      simp -implicitDefEqProofs only [SS, ↓reduceIte, Nat.reduceEqDiff, Nat.reduceAdd, eq_self, reduceCtorEq, Nat.reduceLeDiff, Nat.reduceSub, Nat.reduceMul, forall_const, implies_true, Int.reduceLE, Int.reduceLT, Int.reduceToNat, Int.reduceEq, Int.reduceBEq, Int.reduceBNe, Nat.reduceLT, h0, h1, h5, h12]
      rw [w64_in (by omega)]
      exact ⟨a.length - (i + 1), by omega, i + 1, by omega, rfl, this, by simp⟩
  · simp -implicitDefEqProofs only [SS, ↓reduceIte, Nat.reduceEqDiff, Nat.reduceAdd, eq_self, reduceCtorEq, Nat.reduceLeDiff, Nat.reduceSub, Nat.reduceMul, forall_const, implies_true, Int.reduceLE, Int.reduceLT, Int.reduceToNat, Int.reduceEq, Int.reduceBEq, Int.reduceBNe, Nat.reduceLT]
    have hi' : i = a.length := by simp at h; omega
    subst hi'
    have := eq_of_get hlen ht
    simp [pureQ, frq, refs, refsL, L2, LL2, this]

end Go.Proofs.Ytjbcgjgomhbmgaa

/-  Frames and pens: which are the same; small ones. -/
namespace Go.Proofs.Ytjbcgjgomhbmgaa
open Go.RowKit
set_option linter.unusedVariables false
set_option linter.unusedSimpArgs false

theorem eqSh_ints3 (a b c a' b' c' : Int) : eqSh (.cons 0 1 false .li (.cons 1 2 true (.cons 0 1 false .li (.cons 1 1 false .li .nil)) .nil)) (.g [int a, int b, int c]) (.g [int a', int b', int c']) = some (decide (a = a') && decide (b = b') && decide (c = c')) := by
  simp only [eqSh, partD, Bool.false_eq_true, if_false, List.getElem?_cons_zero, List.getElem?_cons_succ, Option.bind_some, if_true, List.take_succ_cons, List.take_zero, List.drop_succ_cons, List.drop_zero, List.length_cons, List.length_nil, Nat.reduceAdd, Nat.reduceLeDiff, Nat.le_refl]
  by_cases h1 : a = a' <;> by_cases h2 : b = b' <;> by_cases h3 : c = c' <;> simp [h1, h2, h3]

def df_frSame : DF := (.mk 95 (.seq (.reg [(.mk (some 2) none (.op (.box (.t 0)))), (.mk (some 3) none (.op (.box (.t 1)))), (.mk (some 4) none (.op (.mv (.c (.x (.bool false))))))]) (.seq (.seq (.reg [(.mk (some 5) none (.op (.fad 2 (.t 2)))), (.mk (some 6) none (.op (.load 1 false (.t 5)))), (.mk (some 7) none (.op (.fad 2 (.t 3)))), (.mk (some 8) none (.op (.load 1 false (.t 7)))), (.mk (some 9) none (.call 38 [(.t 6), (.t 8)])), (.mk (some 10) none (.op (.un .not (.t 9)))), (.mk (some 11) none (.op (.mv (.t 10)))), (.mk (some 12) (some (11, false)) (.op (.fad 3 (.t 2)))), (.mk (some 13) (some (11, false)) (.op (.load 1 false (.t 12)))), (.mk (some 14) (some (11, false)) (.op (.fad 3 (.t 3)))), (.mk (some 15) (some (11, false)) (.op (.load 1 false (.t 14)))), (.mk (some 16) (some (11, false)) (.call 38 [(.t 13), (.t 15)])), (.mk (some 17) (some (11, false)) (.op (.un .not (.t 16)))), (.mk (some 18) none (.op (.pick (.t 11) (.c (.x (.bool true))) (.t 17)))), (.mk (some 19) none (.op (.mv (.t 18)))), (.mk (some 20) (some (19, false)) (.op (.fad 4 (.t 2)))), (.mk (some 21) (some (19, false)) (.op (.load 1 false (.t 20)))), (.mk (some 22) (some (19, false)) (.op (.fad 4 (.t 3)))), (.mk (some 23) (some (19, false)) (.op (.load 1 false (.t 22)))), (.mk (some 24) (some (19, false)) (.call 39 [(.t 21), (.t 23)])), (.mk (some 25) (some (19, false)) (.op (.un .not (.t 24)))), (.mk (some 26) none (.op (.pick (.t 19) (.c (.x (.bool true))) (.t 25))))]) (.cond (.t 26) (.seq (.reg [(.mk (some 4) none (.op (.mv (.c (.x (.bool false))))))]) .ret) .skip)) (.seq (.reg [(.mk (some 27) none (.op (.fad 0 (.t 2)))), (.mk (some 28) none (.op (.load 1 false (.t 27)))), (.mk (some 29) none (.op (.fad 0 (.t 3)))), (.mk (some 30) none (.op (.load 1 false (.t 29)))), (.mk (some 31) none (.op (.bin .eql (.t 28) (.t 30)))), (.mk (some 32) none (.op (.mv (.t 31)))), (.mk (some 33) (some (32, true)) (.op (.fad 1 (.t 2)))), (.mk (some 34) (some (32, true)) (.op (.load 1 false (.t 33)))), (.mk (some 35) (some (32, true)) (.op (.fad 1 (.t 3)))), (.mk (some 36) (some (32, true)) (.op (.load 1 false (.t 35)))), (.mk (some 37) (some (32, true)) (.op (.bin .eql (.t 34) (.t 36)))), (.mk (some 38) none (.op (.pick (.t 32) (.t 37) (.c (.x (.bool false)))))), (.mk (some 39) none (.op (.mv (.t 38)))), (.mk (some 40) (some (39, true)) (.op (.fad 5 (.t 2)))), (.mk (some 41) (some (39, true)) (.op (.load 1 false (.t 40)))), (.mk (some 42) (some (39, true)) (.op (.fad 5 (.t 3)))), (.mk (some 43) (some (39, true)) (.op (.load 1 false (.t 42)))), (.mk (some 44) (some (39, true)) (.op (.bin .eql (.t 41) (.t 43)))), (.mk (some 45) none (.op (.pick (.t 39) (.t 44) (.c (.x (.bool false)))))), (.mk (some 46) none (.op (.mv (.t 45)))), (.mk (some 47) (some (46, true)) (.op (.fad 6 (.t 2)))), (.mk (some 48) (some (46, true)) (.op (.load 1 false (.t 47)))), (.mk (some 49) (some (46, true)) (.op (.fad 6 (.t 3)))), (.mk (some 50) (some (46, true)) (.op (.load 1 false (.t 49)))), (.mk (some 51) (some (46, true)) (.op (.bin .eql (.t 48) (.t 50)))), (.mk (some 52) none (.op (.pick (.t 46) (.t 51) (.c (.x (.bool false)))))), (.mk (some 53) none (.op (.mv (.t 52)))), (.mk (some 54) (some (53, true)) (.op (.fad 7 (.t 2)))), (.mk (some 55) (some (53, true)) (.op (.load 1 false (.t 54)))), (.mk (some 56) (some (53, true)) (.op (.fad 7 (.t 3)))), (.mk (some 57) (some (53, true)) (.op (.load 1 false (.t 56)))), (.mk (some 58) (some (53, true)) (.op (.bin .eql (.t 55) (.t 57)))), (.mk (some 59) none (.op (.pick (.t 53) (.t 58) (.c (.x (.bool false)))))), (.mk (some 60) none (.op (.mv (.t 59)))), (.mk (some 61) (some (60, true)) (.op (.fad 8 (.t 2)))), (.mk (some 62) (some (60, true)) (.op (.load 1 false (.t 61)))), (.mk (some 63) (some (60, true)) (.op (.fad 8 (.t 3)))), (.mk (some 64) (some (60, true)) (.op (.load 1 false (.t 63)))), (.mk (some 65) (some (60, true)) (.op (.bin .eql (.t 62) (.t 64)))), (.mk (some 66) none (.op (.pick (.t 60) (.t 65) (.c (.x (.bool false)))))), (.mk (some 67) none (.op (.mv (.t 66)))), (.mk (some 68) (some (67, true)) (.op (.fad 9 (.t 2)))), (.mk (some 69) (some (67, true)) (.op (.load 1 false (.t 68)))), (.mk (some 70) (some (67, true)) (.op (.fad 9 (.t 3)))), (.mk (some 71) (some (67, true)) (.op (.load 1 false (.t 70)))), (.mk (some 72) (some (67, true)) (.op (.bin .eql (.t 69) (.t 71)))), (.mk (some 73) none (.op (.pick (.t 67) (.t 72) (.c (.x (.bool false)))))), (.mk (some 74) none (.op (.mv (.t 73)))), (.mk (some 75) (some (74, true)) (.op (.fad 10 (.t 2)))), (.mk (some 76) (some (74, true)) (.op (.load 3 true (.t 75)))), (.mk (some 77) (some (74, true)) (.op (.fad 10 (.t 3)))), (.mk (some 78) (some (74, true)) (.op (.load 3 true (.t 77)))), (.mk (some 79) (some (74, true)) (.op (.eqa false (.cons 0 1 false .li (.cons 1 2 true (.cons 0 1 false .li (.cons 1 1 false .li .nil)) .nil)) (.t 76) (.t 78)))), (.mk (some 80) none (.op (.pick (.t 74) (.t 79) (.c (.x (.bool false)))))), (.mk (some 81) none (.op (.mv (.t 80)))), (.mk (some 82) (some (81, true)) (.op (.fad 13 (.t 2)))), (.mk (some 83) (some (81, true)) (.op (.load 2 true (.t 82)))), (.mk (some 84) (some (81, true)) (.op (.fad 13 (.t 3)))), (.mk (some 85) (some (81, true)) (.op (.load 2 true (.t 84)))), (.mk (some 86) (some (81, true)) (.op (.eqa false (.cons 0 1 false .li (.cons 1 1 false .li .nil)) (.t 83) (.t 85)))), (.mk (some 87) none (.op (.pick (.t 81) (.t 86) (.c (.x (.bool false)))))), (.mk (some 88) none (.op (.mv (.t 87)))), (.mk (some 89) (some (88, true)) (.op (.fad 15 (.t 2)))), (.mk (some 90) (some (88, true)) (.op (.load 1 false (.t 89)))), (.mk (some 91) (some (88, true)) (.op (.fad 15 (.t 3)))), (.mk (some 92) (some (88, true)) (.op (.load 1 false (.t 91)))), (.mk (some 93) (some (88, true)) (.op (.bin .eql (.t 90) (.t 92)))), (.mk (some 94) none (.op (.pick (.t 88) (.t 93) (.c (.x (.bool false)))))), (.mk (some 4) none (.op (.mv (.t 94))))]) .ret))) [(.tmp 4)])
theorem tu_frSame : turnF Try.prog Try.f32 = some df_frSame := by kernel_rfl

theorem ca_r9Small : callable Try.prog 6 = true := by kernel_rfl
def Frame.small (f : Frame) : Bool := decide ((f.stack.length : Int) ≤ 40) && decide ((f.locals.length : Int) ≤ 40) && decide ((f.slots.length : Int) ≤ 40)
theorem s_r9Small (f : Frame) : SpecP Try.prog 6 [.g f.row] (bool f.small) := by
  refine .body mixed Try.func6 tu_r9Small (Nat.le_of_ble_eq_true rfl) ?_
  simp -implicitDefEqProofs only [Frame.small, df_r9Small, SS, ↓reduceIte, Nat.reduceEqDiff, Nat.reduceAdd, eq_self, reduceCtorEq, Nat.reduceLeDiff, Nat.reduceSub, Nat.reduceMul, forall_const, implies_true, Int.reduceLE, Int.reduceLT, Int.reduceToNat, Int.reduceEq, Int.reduceBEq, Int.reduceBNe, Nat.reduceLT, EE]
  repeat' (first
    | (refine gdI_split (fun h => ?_) (fun h => ?_) <;> (try simp only [Bool.not_eq_true', Bool.not_eq_false'] at h) <;> simp -implicitDefEqProofs only [SS, ↓reduceIte, Nat.reduceEqDiff, Nat.reduceAdd, eq_self, reduceCtorEq, Nat.reduceLeDiff, Nat.reduceSub, Nat.reduceMul, forall_const, implies_true, Int.reduceLE, Int.reduceLT, Int.reduceToNat, Int.reduceEq, Int.reduceBEq, Int.reduceBNe, Nat.reduceLT, EE, h])
    | (refine condD_split (fun h => ?_) (fun h => ?_) <;> (try simp only [Bool.not_eq_true', Bool.not_eq_false'] at h) <;> simp -implicitDefEqProofs only [SS, ↓reduceIte, Nat.reduceEqDiff, Nat.reduceAdd, eq_self, reduceCtorEq, Nat.reduceLeDiff, Nat.reduceSub, Nat.reduceMul, forall_const, implies_true, Int.reduceLE, Int.reduceLT, Int.reduceToNat, Int.reduceEq, Int.reduceBEq, Int.reduceBNe, Nat.reduceLT, EE, h])
    | (refine gdL_split (fun h => ?_) (fun h => ?_) <;> (try simp only [Bool.not_eq_true', Bool.not_eq_false'] at h) <;> simp -implicitDefEqProofs only [SS, ↓reduceIte, Nat.reduceEqDiff, Nat.reduceAdd, eq_self, reduceCtorEq, Nat.reduceLeDiff, Nat.reduceSub, Nat.reduceMul, forall_const, implies_true, Int.reduceLE, Int.reduceLT, Int.reduceToNat, Int.reduceEq, Int.reduceBEq, Int.reduceBNe, Nat.reduceLT, EE, h]))
  all_goals simp [pureQ, frq, refs, refsL, L2, LL2]

theorem ca_frSame : callable Try.prog 32 = true := by kernel_rfl
def Frame.eqB (a b : Frame) : Bool := decide (a.stack = b.stack) && decide (a.locals = b.locals) && decide (a.slots = b.slots) && (a.fn == b.fn && a.pc == b.pc && a.seed == b.seed && a.spawned == b.spawned && a.draws == b.draws && a.state == b.state && a.wait == b.wait &&
  (decide (a.out.trap = b.out.trap) && decide (a.out.v.re = b.out.v.re) && decide (a.out.v.im = b.out.v.im)) && (decide (a.up.at' = b.up.at') && decide (a.up.gen = b.up.gen)) && a.upSlot == b.upSlot)
def Frame.ok (f : Frame) : Prop := f.stack.length ≤ 1000000 ∧ f.locals.length ≤ 1000000 ∧ f.slots.length ≤ 1000000
theorem s_frSame (a b : Frame) (h : a.ok) : SpecP Try.prog 32 [.g a.row, .g b.row] (bool (a.eqB b)) := by
  obtain ⟨h1, h2, h3⟩ := h
  refine .body mixed Try.func32 tu_frSame (Nat.le_of_ble_eq_true rfl) ?_
  simp -implicitDefEqProofs only [Frame.eqB, df_frSame, SS, ↓reduceIte, Nat.reduceEqDiff, Nat.reduceAdd, eq_self, reduceCtorEq, Nat.reduceLeDiff, Nat.reduceSub, Nat.reduceMul, forall_const, implies_true, Int.reduceLE, Int.reduceLT, Int.reduceToNat, Int.reduceEq, Int.reduceBEq, Int.reduceBNe, Nat.reduceLT, EE]
  repeat' (first
    | (refine gdI_split (fun h => ?_) (fun h => ?_) <;> (try simp only [Bool.not_eq_true', Bool.not_eq_false'] at h) <;> simp -implicitDefEqProofs only [SS, ↓reduceIte, Nat.reduceEqDiff, Nat.reduceAdd, eq_self, reduceCtorEq, Nat.reduceLeDiff, Nat.reduceSub, Nat.reduceMul, forall_const, implies_true, Int.reduceLE, Int.reduceLT, Int.reduceToNat, Int.reduceEq, Int.reduceBEq, Int.reduceBNe, Nat.reduceLT, EE, eqSh_ints2, eqSh_ints3, h])
    | (refine condD_split (fun h => ?_) (fun h => ?_) <;> (try simp only [Bool.not_eq_true', Bool.not_eq_false'] at h) <;> simp -implicitDefEqProofs only [SS, ↓reduceIte, Nat.reduceEqDiff, Nat.reduceAdd, eq_self, reduceCtorEq, Nat.reduceLeDiff, Nat.reduceSub, Nat.reduceMul, forall_const, implies_true, Int.reduceLE, Int.reduceLT, Int.reduceToNat, Int.reduceEq, Int.reduceBEq, Int.reduceBNe, Nat.reduceLT, EE, eqSh_ints2, eqSh_ints3, h])
    | (refine gdL_split (fun h => ?_) (fun h => ?_) <;> (try simp only [Bool.not_eq_true', Bool.not_eq_false'] at h) <;> simp -implicitDefEqProofs only [SS, ↓reduceIte, Nat.reduceEqDiff, Nat.reduceAdd, eq_self, reduceCtorEq, Nat.reduceLeDiff, Nat.reduceSub, Nat.reduceMul, forall_const, implies_true, Int.reduceLE, Int.reduceLT, Int.reduceToNat, Int.reduceEq, Int.reduceBEq, Int.reduceBNe, Nat.reduceLT, EE, eqSh_ints2, eqSh_ints3, h])
    | (refine ⟨ca_slEqVal, SpecH.of_pure (s_slEqVal _ _ h1) L2.refl rfl ?_⟩; simp -implicitDefEqProofs only [SS, ↓reduceIte, Nat.reduceEqDiff, Nat.reduceAdd, eq_self, reduceCtorEq, Nat.reduceLeDiff, Nat.reduceSub, Nat.reduceMul, forall_const, implies_true, Int.reduceLE, Int.reduceLT, Int.reduceToNat, Int.reduceEq, Int.reduceBEq, Int.reduceBNe, Nat.reduceLT, EE, eqSh_ints2, eqSh_ints3])
    | (refine callL_pure ca_slEqVal (s_slEqVal _ _ h1) L2.refl rfl ?_; simp -implicitDefEqProofs only [SS, ↓reduceIte, Nat.reduceEqDiff, Nat.reduceAdd, eq_self, reduceCtorEq, Nat.reduceLeDiff, Nat.reduceSub, Nat.reduceMul, forall_const, implies_true, Int.reduceLE, Int.reduceLT, Int.reduceToNat, Int.reduceEq, Int.reduceBEq, Int.reduceBNe, Nat.reduceLT, EE, eqSh_ints2, eqSh_ints3])
    | (refine ⟨ca_slEqVal, SpecH.of_pure (s_slEqVal _ _ h2) L2.refl rfl ?_⟩; simp -implicitDefEqProofs only [SS, ↓reduceIte, Nat.reduceEqDiff, Nat.reduceAdd, eq_self, reduceCtorEq, Nat.reduceLeDiff, Nat.reduceSub, Nat.reduceMul, forall_const, implies_true, Int.reduceLE, Int.reduceLT, Int.reduceToNat, Int.reduceEq, Int.reduceBEq, Int.reduceBNe, Nat.reduceLT, EE, eqSh_ints2, eqSh_ints3])
    | (refine callL_pure ca_slEqVal (s_slEqVal _ _ h2) L2.refl rfl ?_; simp -implicitDefEqProofs only [SS, ↓reduceIte, Nat.reduceEqDiff, Nat.reduceAdd, eq_self, reduceCtorEq, Nat.reduceLeDiff, Nat.reduceSub, Nat.reduceMul, forall_const, implies_true, Int.reduceLE, Int.reduceLT, Int.reduceToNat, Int.reduceEq, Int.reduceBEq, Int.reduceBNe, Nat.reduceLT, EE, eqSh_ints2, eqSh_ints3])
    | (refine ⟨ca_slEqSlot, SpecH.of_pure (s_slEqSlot _ _ h3) L2.refl rfl ?_⟩; simp -implicitDefEqProofs only [SS, ↓reduceIte, Nat.reduceEqDiff, Nat.reduceAdd, eq_self, reduceCtorEq, Nat.reduceLeDiff, Nat.reduceSub, Nat.reduceMul, forall_const, implies_true, Int.reduceLE, Int.reduceLT, Int.reduceToNat, Int.reduceEq, Int.reduceBEq, Int.reduceBNe, Nat.reduceLT, EE, eqSh_ints2, eqSh_ints3])
    | (refine callL_pure ca_slEqSlot (s_slEqSlot _ _ h3) L2.refl rfl ?_; simp -implicitDefEqProofs only [SS, ↓reduceIte, Nat.reduceEqDiff, Nat.reduceAdd, eq_self, reduceCtorEq, Nat.reduceLeDiff, Nat.reduceSub, Nat.reduceMul, forall_const, implies_true, Int.reduceLE, Int.reduceLT, Int.reduceToNat, Int.reduceEq, Int.reduceBEq, Int.reduceBNe, Nat.reduceLT, EE, eqSh_ints2, eqSh_ints3]))
  all_goals simp [pureQ, frq, refs, refsL, L2, LL2]

end Go.Proofs.Ytjbcgjgomhbmgaa

/-  Pens: which are the same; small ones. -/
namespace Go.Proofs.Ytjbcgjgomhbmgaa
open Go.RowKit
set_option linter.unusedVariables false
set_option linter.unusedSimpArgs false

theorem Frame.eqB_eq (a b : Frame) : a.eqB b = decide (a = b) := by
  obtain ⟨a1, a2, a3, a4, a5, a6, a7, a8, a9, a10, ⟨a11, ⟨a12, a13⟩⟩, ⟨a14, a15⟩, a16⟩ := a
  obtain ⟨b1, b2, b3, b4, b5, b6, b7, b8, b9, b10, ⟨b11, ⟨b12, b13⟩⟩, ⟨b14, b15⟩, b16⟩ := b
  rw [Bool.eq_iff_iff]
  simp only [Frame.eqB, Bool.and_eq_true, decide_eq_true_eq, beq_iff_eq, Frame.mk.injEq, Out.mk.injEq, Val.mk.injEq, Ref.mk.injEq]
  constructor
  · rintro ⟨⟨⟨h3, h4⟩, h5⟩, ⟨⟨⟨⟨⟨⟨⟨⟨⟨h1, h2⟩, h6⟩, h7⟩, h8⟩, h9⟩, h10⟩, ⟨⟨h11, h12⟩, h13⟩⟩, ⟨h14, h15⟩⟩, h16⟩⟩
    exact ⟨h1, h2, h3, h4, h5, h6, h7, h8, h9, h10, ⟨h11, h12, h13⟩, ⟨h14, h15⟩, h16⟩
  · rintro ⟨h1, h2, h3, h4, h5, h6, h7, h8, h9, h10, ⟨h11, h12, h13⟩, ⟨h14, h15⟩, h16⟩
    exact ⟨⟨⟨h3, h4⟩, h5⟩, ⟨⟨⟨⟨⟨⟨⟨⟨⟨h1, h2⟩, h6⟩, h7⟩, h8⟩, h9⟩, h10⟩, ⟨⟨h11, h12⟩, h13⟩⟩, ⟨h14, h15⟩⟩, h16⟩⟩

def df_penSame1 : DF := (.mk 24 (.seq (.reg [(.mk (some 2) none (.op (.box (.t 0)))), (.mk (some 3) none (.op (.box (.t 1)))), (.mk (some 4) none (.op (.mv (.c (.x (.bool false))))))]) (.seq (.reg [(.mk (some 5) none (.op (.fad 0 (.t 2)))), (.mk (some 6) none (.op (.load 1 false (.t 5)))), (.mk (some 7) none (.op (.fad 0 (.t 3)))), (.mk (some 8) none (.op (.load 1 false (.t 7)))), (.mk (some 9) none (.op (.bin .eql (.t 6) (.t 8)))), (.mk (some 10) none (.op (.mv (.t 9)))), (.mk (some 11) (some (10, true)) (.op (.fad 1 (.t 2)))), (.mk (some 12) (some (10, true)) (.op (.load 1 false (.t 11)))), (.mk (some 13) (some (10, true)) (.op (.fad 1 (.t 3)))), (.mk (some 14) (some (10, true)) (.op (.load 1 false (.t 13)))), (.mk (some 15) (some (10, true)) (.op (.eqb false (.t 12) (.t 14)))), (.mk (some 16) none (.op (.pick (.t 10) (.t 15) (.c (.x (.bool false)))))), (.mk (some 17) none (.op (.mv (.t 16)))), (.mk (some 18) (some (17, true)) (.op (.fad 2 (.t 2)))), (.mk (some 19) (some (17, true)) (.op (.load 16 true (.t 18)))), (.mk (some 20) (some (17, true)) (.op (.fad 2 (.t 3)))), (.mk (some 21) (some (17, true)) (.op (.load 16 true (.t 20)))), (.mk (some 22) (some (17, true)) (.call 32 [(.t 19), (.t 21)])), (.mk (some 23) none (.op (.pick (.t 17) (.t 22) (.c (.x (.bool false)))))), (.mk (some 4) none (.op (.mv (.t 23))))]) .ret)) [(.tmp 4)])
theorem tu_penSame1 : turnF Try.prog Try.f31 = some df_penSame1 := by kernel_rfl

def df_slEqFCell : DF := (.mk 32 (.seq (.reg [(.mk (some 6) none (.op (.mv (.c (.x (.bool false))))))]) (.seq (.seq (.reg [(.mk (some 10) none (.op (.mv (.t 0)))), (.mk (some 11) none (.op (.len (.t 10)))), (.mk (some 12) none (.op (.mv (.t 1)))), (.mk (some 13) none (.op (.len (.t 12)))), (.mk (some 14) none (.op (.bin .neq (.t 11) (.t 13))))]) (.cond (.t 14) (.seq (.reg [(.mk (some 6) none (.op (.mv (.c (.x (.bool false))))))]) .ret) .skip)) (.seq (.seq (.reg [(.mk (some 15) none (.op (.mv (.t 0)))), (.mk (some 16) none (.op (.len (.t 15)))), (.mk (some 17) none (.op (.mv (.c (.x (.int .i64 0))))))]) (.block 0 (.loop (.seq (.reg [(.mk (some 18) none (.op (.bin .lss (.t 17) (.t 16))))]) (.seq (.cond (.t 18) .skip (.exit 0)) (.seq (.block 1 (.seq (.reg [(.mk (some 19) none (.op (.mv (.t 17)))), (.mk (some 20) none (.op (.iad 18 (.t 15) (.t 17)))), (.mk (some 21) none (.op (.load 18 true (.t 20)))), (.mk (some 8) none (.op (.box (.c (.g [(.x (.int .i64 0)), (.x (.bool false)), (.x (.int .i64 0)), (.x (.int .i64 0)), (.z true), (.z true), (.z true), (.x (.int .i64 0)), (.x (.int .i64 0)), (.x (.int .i64 0)), (.x (.int .i64 0)), (.x (.int .i64 0)), (.x (.int .i64 0)), (.x (.int .i64 0)), (.x (.int .i64 0)), (.x (.int .i64 0)), (.x (.int .i64 0)), (.x (.int .i64 0))]))))), (.mk (some 7) none (.op (.mv (.t 19)))), (.mk none none (.op (.store 18 (.t 8) (.t 21))))]) (.seq (.reg [(.mk (some 22) none (.op (.mv (.t 1)))), (.mk (some 23) none (.op (.mv (.t 7)))), (.mk (some 24) none (.op (.iad 18 (.t 22) (.t 23)))), (.mk (some 25) none (.op (.load 18 true (.t 24)))), (.mk (some 9) none (.op (.box (.c (.g [(.x (.int .i64 0)), (.x (.bool false)), (.x (.int .i64 0)), (.x (.int .i64 0)), (.z true), (.z true), (.z true), (.x (.int .i64 0)), (.x (.int .i64 0)), (.x (.int .i64 0)), (.x (.int .i64 0)), (.x (.int .i64 0)), (.x (.int .i64 0)), (.x (.int .i64 0)), (.x (.int .i64 0)), (.x (.int .i64 0)), (.x (.int .i64 0)), (.x (.int .i64 0))]))))), (.mk none none (.op (.store 18 (.t 9) (.t 25))))]) (.seq (.reg [(.mk (some 26) none (.op (.mv (.t 2)))), (.mk (some 27) none (.op (.load 18 true (.t 8)))), (.mk (some 28) none (.op (.load 18 true (.t 9)))), (.mk (some 29) none (.callv (.t 26) [(.t 27), (.t 28)])), (.mk (some 30) none (.op (.un .not (.t 29))))]) (.cond (.t 30) (.seq (.reg [(.mk (some 6) none (.op (.mv (.c (.x (.bool false))))))]) .ret) .skip))))) (.reg [(.mk (some 31) none (.op (.bin .add (.t 17) (.c (.x (.int .i64 1)))))), (.mk (some 17) none (.op (.mv (.t 31))))]))))))) (.seq (.reg [(.mk (some 6) none (.op (.mv (.c (.x (.bool true))))))]) .ret)))) [(.tmp 6)])
theorem tu_slEqFCell : turnF Try.prog Try.f30 = some df_slEqFCell := by kernel_rfl

def df_penSame : DF := (.mk 24 (.seq (.reg [(.mk (some 2) none (.op (.box (.t 0)))), (.mk (some 3) none (.op (.box (.t 1)))), (.mk (some 4) none (.op (.mv (.c (.x (.bool false))))))]) (.seq (.reg [(.mk (some 5) none (.op (.fad 2 (.t 2)))), (.mk (some 6) none (.op (.load 1 false (.t 5)))), (.mk (some 7) none (.op (.fad 2 (.t 3)))), (.mk (some 8) none (.op (.load 1 false (.t 7)))), (.mk (some 9) none (.op (.bin .eql (.t 6) (.t 8)))), (.mk (some 10) none (.op (.mv (.t 9)))), (.mk (some 11) (some (10, true)) (.op (.fad 1 (.t 2)))), (.mk (some 12) (some (10, true)) (.op (.load 1 false (.t 11)))), (.mk (some 13) (some (10, true)) (.op (.fad 1 (.t 3)))), (.mk (some 14) (some (10, true)) (.op (.load 1 false (.t 13)))), (.mk (some 15) (some (10, true)) (.call 27 [(.t 12), (.t 14)])), (.mk (some 16) none (.op (.pick (.t 10) (.t 15) (.c (.x (.bool false)))))), (.mk (some 17) none (.op (.mv (.t 16)))), (.mk (some 18) (some (17, true)) (.op (.fad 0 (.t 2)))), (.mk (some 19) (some (17, true)) (.op (.load 1 false (.t 18)))), (.mk (some 20) (some (17, true)) (.op (.fad 0 (.t 3)))), (.mk (some 21) (some (17, true)) (.op (.load 1 false (.t 20)))), (.mk (some 22) (some (17, true)) (.call 30 [(.t 19), (.t 21), (.f 31)])), (.mk (some 23) none (.op (.pick (.t 17) (.t 22) (.c (.x (.bool false)))))), (.mk (some 4) none (.op (.mv (.t 23))))]) .ret)) [(.tmp 4)])
theorem tu_penSame : turnF Try.prog Try.f18 = some df_penSame := by kernel_rfl

theorem ca_penSame1 : callable Try.prog 31 = true := by kernel_rfl
theorem s_penSame1 (a b : Cell) (hf : a.frame.ok) : SpecP Try.prog 31 [.g a.row, .g b.row] (bool (decide (a = b))) := by
  have e : decide (a = b) = (a.gen == b.gen && a.used == b.used && a.frame.eqB b.frame) := by
    rw [Frame.eqB_eq]
    obtain ⟨a1, a2, a3⟩ := a
    obtain ⟨b1, b2, b3⟩ := b
    rw [Bool.eq_iff_iff]
    simp [and_assoc]
  rw [e]
  refine .body mixed Try.func31 tu_penSame1 (Nat.le_of_ble_eq_true rfl) ?_
  simp -implicitDefEqProofs only [df_penSame1, SS, ↓reduceIte, Nat.reduceEqDiff, Nat.reduceAdd, eq_self, reduceCtorEq, Nat.reduceLeDiff, Nat.reduceSub, Nat.reduceMul, forall_const, implies_true, Int.reduceLE, Int.reduceLT, Int.reduceToNat, Int.reduceEq, Int.reduceBEq, Int.reduceBNe, Nat.reduceLT, EE]
  repeat' (first
    | (refine gdI_split (fun h => ?_) (fun h => ?_) <;> (try simp only [Bool.not_eq_true', Bool.not_eq_false'] at h) <;> simp -implicitDefEqProofs only [SS, ↓reduceIte, Nat.reduceEqDiff, Nat.reduceAdd, eq_self, reduceCtorEq, Nat.reduceLeDiff, Nat.reduceSub, Nat.reduceMul, forall_const, implies_true, Int.reduceLE, Int.reduceLT, Int.reduceToNat, Int.reduceEq, Int.reduceBEq, Int.reduceBNe, Nat.reduceLT, EE, h])
    | (refine condD_split (fun h => ?_) (fun h => ?_) <;> (try simp only [Bool.not_eq_true', Bool.not_eq_false'] at h) <;> simp -implicitDefEqProofs only [SS, ↓reduceIte, Nat.reduceEqDiff, Nat.reduceAdd, eq_self, reduceCtorEq, Nat.reduceLeDiff, Nat.reduceSub, Nat.reduceMul, forall_const, implies_true, Int.reduceLE, Int.reduceLT, Int.reduceToNat, Int.reduceEq, Int.reduceBEq, Int.reduceBNe, Nat.reduceLT, EE, h])
    | (refine gdL_split (fun h => ?_) (fun h => ?_) <;> (try simp only [Bool.not_eq_true', Bool.not_eq_false'] at h) <;> simp -implicitDefEqProofs only [SS, ↓reduceIte, Nat.reduceEqDiff, Nat.reduceAdd, eq_self, reduceCtorEq, Nat.reduceLeDiff, Nat.reduceSub, Nat.reduceMul, forall_const, implies_true, Int.reduceLE, Int.reduceLT, Int.reduceToNat, Int.reduceEq, Int.reduceBEq, Int.reduceBNe, Nat.reduceLT, EE, h])
    | (refine ⟨ca_frSame, SpecH.of_pure (s_frSame a.frame b.frame hf) L2.refl rfl ?_⟩; simp -implicitDefEqProofs only [SS, ↓reduceIte, Nat.reduceEqDiff, Nat.reduceAdd, eq_self, reduceCtorEq, Nat.reduceLeDiff, Nat.reduceSub, Nat.reduceMul, forall_const, implies_true, Int.reduceLE, Int.reduceLT, Int.reduceToNat, Int.reduceEq, Int.reduceBEq, Int.reduceBNe, Nat.reduceLT, EE])
    | (refine callL_pure ca_frSame (s_frSame a.frame b.frame hf) L2.refl rfl ?_; simp -implicitDefEqProofs only [SS, ↓reduceIte, Nat.reduceEqDiff, Nat.reduceAdd, eq_self, reduceCtorEq, Nat.reduceLeDiff, Nat.reduceSub, Nat.reduceMul, forall_const, implies_true, Int.reduceLE, Int.reduceLT, Int.reduceToNat, Int.reduceEq, Int.reduceBEq, Int.reduceBNe, Nat.reduceLT, EE]))
  all_goals first | done | simp [pureQ, frq, refs, refsL, L2, LL2]

theorem ca_slEqFCell : callable Try.prog 30 = true := by kernel_rfl
theorem s_slEqFCell (a b : List Cell) (hl : a.length ≤ 1000000) (ha : ∀ c ∈ a, c.frame.ok) : SpecP Try.prog 30 [.s 18 (a.map Cell.row), .s 18 (b.map Cell.row), .f (.func 31) [] []] (bool (decide (a = b))) := by
  refine .body mixed Try.func30 tu_slEqFCell (Nat.le_of_ble_eq_true rfl) ?_
  simp -implicitDefEqProofs only [df_slEqFCell, SS, ↓reduceIte, Nat.reduceEqDiff, Nat.reduceAdd, eq_self, reduceCtorEq, Nat.reduceLeDiff, Nat.reduceSub, Nat.reduceMul, forall_const, implies_true, Int.reduceLE, Int.reduceLT, Int.reduceToNat, Int.reduceEq, Int.reduceBEq, Int.reduceBNe, Nat.reduceLT, EE]
  refine condD_split (fun h => ?_) (fun h => ?_)
  · have hne : a ≠ b := by intro e; simp [e] at h
    simp -implicitDefEqProofs only [SS, ↓reduceIte, Nat.reduceEqDiff, Nat.reduceAdd, eq_self, reduceCtorEq, Nat.reduceLeDiff, Nat.reduceSub, Nat.reduceMul, forall_const, implies_true, Int.reduceLE, Int.reduceLT, Int.reduceToNat, Int.reduceEq, Int.reduceBEq, Int.reduceBNe, Nat.reduceLT]
    simp [pureQ, frq, refs, refsL, L2, LL2, hne]
  have hlen : a.length = b.length := by simp at h; omega
  simp -implicitDefEqProofs only [SS, ↓reduceIte, Nat.reduceEqDiff, Nat.reduceAdd, eq_self, reduceCtorEq, Nat.reduceLeDiff, Nat.reduceSub, Nat.reduceMul, forall_const, implies_true, Int.reduceLE, Int.reduceLT, Int.reduceToNat, Int.reduceEq, Int.reduceBEq, Int.reduceBNe, Nat.reduceLT]
  refine wpD_loop (fun m e H => ∃ i, i ≤ a.length ∧ m = a.length - i ∧ e 1 = .s 18 (b.map Cell.row) ∧ e 2 = .f (.func 31) [] [] ∧ e 15 = .s 18 (a.map Cell.row) ∧ e 16 = int a.length ∧ a.take i = b.take i ∧ e 17 = int i) a.length ⟨0, by simp [SS, ↓reduceIte, Nat.reduceEqDiff, Nat.reduceAdd, eq_self, reduceCtorEq, Nat.reduceLeDiff, Nat.reduceSub, Nat.reduceMul, forall_const, implies_true, Int.reduceLE, Int.reduceLT, Int.reduceToNat, Int.reduceEq, Int.reduceBEq, Int.reduceBNe, Nat.reduceLT]⟩ ?_
  rintro m e H ⟨i, hi, rfl, h1, h2, h15, h16, ht, h17⟩
  simp -implicitDefEqProofs only [SS, ↓reduceIte, Nat.reduceEqDiff, Nat.reduceAdd, eq_self, reduceCtorEq, Nat.reduceLeDiff, Nat.reduceSub, Nat.reduceMul, forall_const, implies_true, Int.reduceLE, Int.reduceLT, Int.reduceToNat, Int.reduceEq, Int.reduceBEq, Int.reduceBNe, Nat.reduceLT, h1, h2, h15, h16, h17]
  refine condD_split (fun h => ?_) (fun h => ?_)
  · have hi1 : i < a.length := by simpa using h
    have hi2 : i < b.length := by omega
    simp -implicitDefEqProofs only [SS, ↓reduceIte, Nat.reduceEqDiff, Nat.reduceAdd, eq_self, reduceCtorEq, Nat.reduceLeDiff, Nat.reduceSub, Nat.reduceMul, forall_const, implies_true, Int.reduceLE, Int.reduceLT, Int.reduceToNat, Int.reduceEq, Int.reduceBEq, Int.reduceBNe, Nat.reduceLT, h1, h2, h15, h16, h17, List.getElem?_eq_getElem hi1, List.getElem?_eq_getElem hi2, Cell.row, Frame.row]
    refine ⟨ca_penSame1, SpecH.of_pure (s_penSame1 a[i] b[i] (ha _ (List.getElem_mem hi1))) L2.refl rfl ?_⟩
    simp -implicitDefEqProofs only [SS, ↓reduceIte, Nat.reduceEqDiff, Nat.reduceAdd, eq_self, reduceCtorEq, Nat.reduceLeDiff, Nat.reduceSub, Nat.reduceMul, forall_const, implies_true, Int.reduceLE, Int.reduceLT, Int.reduceToNat, Int.reduceEq, Int.reduceBEq, Int.reduceBNe, Nat.reduceLT, h1, h2, h15, h16, h17]
    refine condD_split (fun h' => ?_) (fun h' => ?_)
    · have hne : a[i] ≠ b[i] := by intro e; simp [e] at h'
      have hne : a ≠ b := by rintro rfl; exact hne rfl
      simp -implicitDefEqProofs only [SS, ↓reduceIte, Nat.reduceEqDiff, Nat.reduceAdd, eq_self, reduceCtorEq, Nat.reduceLeDiff, Nat.reduceSub, Nat.reduceMul, forall_const, implies_true, Int.reduceLE, Int.reduceLT, Int.reduceToNat, Int.reduceEq, Int.reduceBEq, Int.reduceBNe, Nat.reduceLT]
      simp [pureQ, frq, refs, refsL, L2, LL2, hne]
    · have heq : a[i] = b[i] := by simpa using h'
      have := (take_succ_eq hi1 hi2).2 ⟨ht, heq⟩
      simp -implicitDefEqProofs only [SS, ↓reduceIte, Nat.reduceEqDiff, Nat.reduceAdd, eq_self, reduceCtorEq, Nat.reduceLeDiff, Nat.reduceSub, Nat.reduceMul, forall_const, implies_true, Int.reduceLE, Int.reduceLT, Int.reduceToNat, Int.reduceEq, Int.reduceBEq, Int.reduceBNe, Nat.reduceLT, h1, h2, h15, h16, h17]
      rw [w64_in (by omega)]
      exact ⟨a.length - (i + 1), by omega, i + 1, by omega, rfl, this, by simp⟩
  · simp -implicitDefEqProofs only [SS, ↓reduceIte, Nat.reduceEqDiff, Nat.reduceAdd, eq_self, reduceCtorEq, Nat.reduceLeDiff, Nat.reduceSub, Nat.reduceMul, forall_const, implies_true, Int.reduceLE, Int.reduceLT, Int.reduceToNat, Int.reduceEq, Int.reduceBEq, Int.reduceBNe, Nat.reduceLT]
    have hi' : i = a.length := by simp at h; omega
    subst hi'
    have := eq_of_get hlen ht
    simp [pureQ, frq, refs, refsL, L2, LL2, this]

theorem ca_penSame : callable Try.prog 18 = true := by kernel_rfl
def Pen.ok (p : Pen) : Prop := p.cells.length ≤ 1000000 ∧ p.free.length ≤ 1000000 ∧ ∀ c ∈ p.cells, c.frame.ok
theorem s_penSame (a b : Pen) (hf : a.ok) : SpecP Try.prog 18 [.g a.row, .g b.row] (bool (decide (a = b))) := by
  have e : decide (a = b) = (a.most == b.most && decide (a.free = b.free) && decide (a.cells = b.cells)) := by
    obtain ⟨a1, a2, a3⟩ := a
    obtain ⟨b1, b2, b3⟩ := b
    rw [Bool.eq_iff_iff]
    simp
    constructor
    · rintro ⟨h1, h2, h3⟩; exact ⟨⟨h3, h2⟩, h1⟩
    · rintro ⟨⟨h3, h2⟩, h1⟩; exact ⟨h1, h2, h3⟩
  rw [e]
  refine .body mixed Try.func18 tu_penSame (Nat.le_of_ble_eq_true rfl) ?_
  simp -implicitDefEqProofs only [df_penSame, SS, ↓reduceIte, Nat.reduceEqDiff, Nat.reduceAdd, eq_self, reduceCtorEq, Nat.reduceLeDiff, Nat.reduceSub, Nat.reduceMul, forall_const, implies_true, Int.reduceLE, Int.reduceLT, Int.reduceToNat, Int.reduceEq, Int.reduceBEq, Int.reduceBNe, Nat.reduceLT, EE]
  repeat' (first
    | (refine gdI_split (fun h => ?_) (fun h => ?_) <;> (try simp only [Bool.not_eq_true', Bool.not_eq_false'] at h) <;> simp -implicitDefEqProofs only [SS, ↓reduceIte, Nat.reduceEqDiff, Nat.reduceAdd, eq_self, reduceCtorEq, Nat.reduceLeDiff, Nat.reduceSub, Nat.reduceMul, forall_const, implies_true, Int.reduceLE, Int.reduceLT, Int.reduceToNat, Int.reduceEq, Int.reduceBEq, Int.reduceBNe, Nat.reduceLT, EE, h])
    | (refine condD_split (fun h => ?_) (fun h => ?_) <;> (try simp only [Bool.not_eq_true', Bool.not_eq_false'] at h) <;> simp -implicitDefEqProofs only [SS, ↓reduceIte, Nat.reduceEqDiff, Nat.reduceAdd, eq_self, reduceCtorEq, Nat.reduceLeDiff, Nat.reduceSub, Nat.reduceMul, forall_const, implies_true, Int.reduceLE, Int.reduceLT, Int.reduceToNat, Int.reduceEq, Int.reduceBEq, Int.reduceBNe, Nat.reduceLT, EE, h])
    | (refine gdL_split (fun h => ?_) (fun h => ?_) <;> (try simp only [Bool.not_eq_true', Bool.not_eq_false'] at h) <;> simp -implicitDefEqProofs only [SS, ↓reduceIte, Nat.reduceEqDiff, Nat.reduceAdd, eq_self, reduceCtorEq, Nat.reduceLeDiff, Nat.reduceSub, Nat.reduceMul, forall_const, implies_true, Int.reduceLE, Int.reduceLT, Int.reduceToNat, Int.reduceEq, Int.reduceBEq, Int.reduceBNe, Nat.reduceLT, EE, h])
    | (refine ⟨ca_slEqInt, SpecH.of_pure (s_slEqInt a.free b.free hf.2.1) L2.refl rfl ?_⟩; simp -implicitDefEqProofs only [SS, ↓reduceIte, Nat.reduceEqDiff, Nat.reduceAdd, eq_self, reduceCtorEq, Nat.reduceLeDiff, Nat.reduceSub, Nat.reduceMul, forall_const, implies_true, Int.reduceLE, Int.reduceLT, Int.reduceToNat, Int.reduceEq, Int.reduceBEq, Int.reduceBNe, Nat.reduceLT, EE])
    | (refine callL_pure ca_slEqInt (s_slEqInt a.free b.free hf.2.1) L2.refl rfl ?_; simp -implicitDefEqProofs only [SS, ↓reduceIte, Nat.reduceEqDiff, Nat.reduceAdd, eq_self, reduceCtorEq, Nat.reduceLeDiff, Nat.reduceSub, Nat.reduceMul, forall_const, implies_true, Int.reduceLE, Int.reduceLT, Int.reduceToNat, Int.reduceEq, Int.reduceBEq, Int.reduceBNe, Nat.reduceLT, EE])
    | (refine ⟨ca_slEqFCell, SpecH.of_pure (s_slEqFCell a.cells b.cells hf.1 hf.2.2) L2.refl rfl ?_⟩; simp -implicitDefEqProofs only [SS, ↓reduceIte, Nat.reduceEqDiff, Nat.reduceAdd, eq_self, reduceCtorEq, Nat.reduceLeDiff, Nat.reduceSub, Nat.reduceMul, forall_const, implies_true, Int.reduceLE, Int.reduceLT, Int.reduceToNat, Int.reduceEq, Int.reduceBEq, Int.reduceBNe, Nat.reduceLT, EE])
    | (refine callL_pure ca_slEqFCell (s_slEqFCell a.cells b.cells hf.1 hf.2.2) L2.refl rfl ?_; simp -implicitDefEqProofs only [SS, ↓reduceIte, Nat.reduceEqDiff, Nat.reduceAdd, eq_self, reduceCtorEq, Nat.reduceLeDiff, Nat.reduceSub, Nat.reduceMul, forall_const, implies_true, Int.reduceLE, Int.reduceLT, Int.reduceToNat, Int.reduceEq, Int.reduceBEq, Int.reduceBNe, Nat.reduceLT, EE]))
  all_goals first | done | simp [pureQ, frq, refs, refsL, L2, LL2]

end Go.Proofs.Ytjbcgjgomhbmgaa

/-  Pens: what holds a ref; which may be; all refs. -/
namespace Go.Proofs.Ytjbcgjgomhbmgaa
open Go.RowKit
set_option linter.unusedVariables false
set_option linter.unusedSimpArgs false

def Pen.held (p : Pen) (r : Ref) : Bool := decide (0 ≤ r.at') && match p.cells[r.at'.toNat]? with
  | some c => c.used && c.gen == r.gen
  | none => false

def df_penHeld : DF := (.mk 33 (.seq (.reg [(.mk (some 2) none (.op (.box (.t 0)))), (.mk (some 3) none (.op (.box (.t 1)))), (.mk (some 4) none (.op (.mv (.c (.x (.bool false))))))]) (.seq (.drw [((.mk (some 5) none (.op (.fad 0 (.t 3)))), []), ((.mk (some 6) none (.op (.load 1 false (.t 5)))), [0]), ((.mk (some 7) none (.op (.fad 0 (.t 2)))), []), ((.mk (some 8) none (.op (.load 1 false (.t 7)))), [2]), ((.mk (some 9) none (.op (.len (.t 8)))), [3]), ((.mk (some 10) none (.op (.bin .sub (.t 9) (.c (.x (.int .i64 1)))))), [4]), ((.mk (some 11) none (.call 19 [(.t 6), (.c (.x (.int .i64 0))), (.t 10)])), [1, 3, 5]), ((.mk (some 12) none (.op (.mv (.t 11)))), [6]), ((.mk (some 13) (some (12, true)) (.op (.fad 0 (.t 2)))), [7]), ((.mk (some 14) (some (12, true)) (.op (.load 1 false (.t 13)))), [1, 3, 6, 7, 8]), ((.mk (some 15) (some (12, true)) (.op (.fad 0 (.t 3)))), [7]), ((.mk (some 16) (some (12, true)) (.op (.load 1 false (.t 15)))), [1, 3, 6, 7, 10]), ((.mk (some 17) (some (12, true)) (.op (.iad 18 (.t 14) (.t 16)))), [1, 3, 6, 7, 9, 11]), ((.mk (some 18) (some (12, true)) (.op (.fad 1 (.t 17)))), [7, 12]), ((.mk (some 19) (some (12, true)) (.op (.load 1 false (.t 18)))), [1, 3, 6, 7, 9, 11, 12, 13]), ((.mk (some 20) none (.op (.pick (.t 12) (.t 19) (.c (.x (.bool false)))))), [7, 14]), ((.mk (some 21) none (.op (.mv (.t 20)))), [15]), ((.mk (some 22) (some (21, true)) (.op (.fad 0 (.t 2)))), [16]), ((.mk (some 23) (some (21, true)) (.op (.load 1 false (.t 22)))), [1, 3, 6, 9, 11, 12, 14, 16, 17]), ((.mk (some 24) (some (21, true)) (.op (.fad 0 (.t 3)))), [16]), ((.mk (some 25) (some (21, true)) (.op (.load 1 false (.t 24)))), [1, 3, 6, 9, 11, 12, 14, 16, 19]), ((.mk (some 26) (some (21, true)) (.op (.iad 18 (.t 23) (.t 25)))), [1, 3, 6, 9, 11, 12, 14, 16, 18, 20]), ((.mk (some 27) (some (21, true)) (.op (.fad 0 (.t 26)))), [16, 21]), ((.mk (some 28) (some (21, true)) (.op (.load 1 false (.t 27)))), [1, 3, 6, 9, 11, 12, 14, 16, 18, 20, 21, 22]), ((.mk (some 29) (some (21, true)) (.op (.fad 1 (.t 3)))), [16]), ((.mk (some 30) (some (21, true)) (.op (.load 1 false (.t 29)))), [1, 3, 6, 9, 11, 12, 14, 16, 24]), ((.mk (some 31) (some (21, true)) (.op (.bin .eql (.t 28) (.t 30)))), [16, 23, 25]), ((.mk (some 32) none (.op (.pick (.t 21) (.t 31) (.c (.x (.bool false)))))), [16, 26]), ((.mk (some 4) none (.op (.mv (.t 32)))), [27])]) .ret)) [(.tmp 4)])
theorem tu_penHeld : turnF Try.prog Try.f21 = some df_penHeld := by kernel_rfl

theorem ca_penHeld : callable Try.prog 21 = true := by kernel_rfl
theorem s_penHeld (p : Pen) (r : Ref) (hp : p.cells.length ≤ 1000000) : SpecP Try.prog 21 [.g p.row, .g r.row] (bool (p.held r)) := by
  refine .body mixed Try.func21 tu_penHeld (Nat.le_of_ble_eq_true rfl) ?_
  have hw : w64 (↑p.cells.length - 1) = ↑p.cells.length - 1 := w64_in (by omega)
  by_cases hr : 0 ≤ r.at' ∧ r.at'.toNat < p.cells.length
  · obtain ⟨h0, hlt⟩ := hr
    have hin : (decide (0 ≤ r.at') && decide (r.at' ≤ ↑p.cells.length - 1)) = true := by simp; omega
    have hget := List.getElem?_eq_getElem hlt
    have e : p.held r = (p.cells[r.at'.toNat].used && p.cells[r.at'.toNat].gen == r.gen) := by simp [Pen.held, h0, hget]
    rw [e]
    generalize p.cells[r.at'.toNat] = c at hget
    simp -implicitDefEqProofs only [df_penHeld, SS, ↓reduceIte, Nat.reduceEqDiff, Nat.reduceAdd, eq_self, reduceCtorEq, Nat.reduceLeDiff, Nat.reduceSub, Nat.reduceMul, forall_const, implies_true, Int.reduceLE, Int.reduceLT, Int.reduceToNat, Int.reduceEq, Int.reduceBEq, Int.reduceBNe, Nat.reduceLT, EE, hw]
    refine callL_pure ca_penIn (s_penIn _ _ _) L2.refl rfl ?_
    simp -implicitDefEqProofs only [SS, ↓reduceIte, Nat.reduceEqDiff, Nat.reduceAdd, eq_self, reduceCtorEq, Nat.reduceLeDiff, Nat.reduceSub, Nat.reduceMul, forall_const, implies_true, Int.reduceLE, Int.reduceLT, Int.reduceToNat, Int.reduceEq, Int.reduceBEq, Int.reduceBNe, Nat.reduceLT, EE, hin]
    simp -implicitDefEqProofs only [SS, ↓reduceIte, Nat.reduceEqDiff, Nat.reduceAdd, eq_self, reduceCtorEq, Nat.reduceLeDiff, Nat.reduceSub, Nat.reduceMul, forall_const, implies_true, Int.reduceLE, Int.reduceLT, Int.reduceToNat, Int.reduceEq, Int.reduceBEq, Int.reduceBNe, Nat.reduceLT, EE, h0, hget]
    repeat' (first
      | (refine gdI_split (fun h => ?_) (fun h => ?_) <;> (try simp only [Bool.not_eq_true', Bool.not_eq_false'] at h) <;> simp -implicitDefEqProofs only [SS, ↓reduceIte, Nat.reduceEqDiff, Nat.reduceAdd, eq_self, reduceCtorEq, Nat.reduceLeDiff, Nat.reduceSub, Nat.reduceMul, forall_const, implies_true, Int.reduceLE, Int.reduceLT, Int.reduceToNat, Int.reduceEq, Int.reduceBEq, Int.reduceBNe, Nat.reduceLT, EE, h0, hget, h])
      | (refine condD_split (fun h => ?_) (fun h => ?_) <;> (try simp only [Bool.not_eq_true', Bool.not_eq_false'] at h) <;> simp -implicitDefEqProofs only [SS, ↓reduceIte, Nat.reduceEqDiff, Nat.reduceAdd, eq_self, reduceCtorEq, Nat.reduceLeDiff, Nat.reduceSub, Nat.reduceMul, forall_const, implies_true, Int.reduceLE, Int.reduceLT, Int.reduceToNat, Int.reduceEq, Int.reduceBEq, Int.reduceBNe, Nat.reduceLT, EE, h0, hget, h])
      | (refine gdL_split (fun h => ?_) (fun h => ?_) <;> (try simp only [Bool.not_eq_true', Bool.not_eq_false'] at h) <;> simp -implicitDefEqProofs only [SS, ↓reduceIte, Nat.reduceEqDiff, Nat.reduceAdd, eq_self, reduceCtorEq, Nat.reduceLeDiff, Nat.reduceSub, Nat.reduceMul, forall_const, implies_true, Int.reduceLE, Int.reduceLT, Int.reduceToNat, Int.reduceEq, Int.reduceBEq, Int.reduceBNe, Nat.reduceLT, EE, h0, hget, h]))
    all_goals simp [pureQ, frq, refs, refsL, L2, LL2]
  · have hin : (decide (0 ≤ r.at') && decide (r.at' ≤ ↑p.cells.length - 1)) = false := by simp; omega
    have e : p.held r = false := by
      simp only [Pen.held]
      by_cases h0 : 0 ≤ r.at'
      · rw [List.getElem?_eq_none (by omega)]; simp
      · simp [h0]
    rw [e]
    simp -implicitDefEqProofs only [df_penHeld, SS, ↓reduceIte, Nat.reduceEqDiff, Nat.reduceAdd, eq_self, reduceCtorEq, Nat.reduceLeDiff, Nat.reduceSub, Nat.reduceMul, forall_const, implies_true, Int.reduceLE, Int.reduceLT, Int.reduceToNat, Int.reduceEq, Int.reduceBEq, Int.reduceBNe, Nat.reduceLT, EE, hw]
    refine callL_pure ca_penIn (s_penIn _ _ _) L2.refl rfl ?_
    simp -implicitDefEqProofs only [SS, ↓reduceIte, Nat.reduceEqDiff, Nat.reduceAdd, eq_self, reduceCtorEq, Nat.reduceLeDiff, Nat.reduceSub, Nat.reduceMul, forall_const, implies_true, Int.reduceLE, Int.reduceLT, Int.reduceToNat, Int.reduceEq, Int.reduceBEq, Int.reduceBNe, Nat.reduceLT, EE, hw, hin]
    simp [pureQ, frq, refs, refsL, L2, LL2]

/-- What sorting a list of numbers tells. -/
def sortI (l : List Int) : List Int := l.mergeSort
def unused : List Cell → Nat → List Int
  | [], _ => []
  | c :: l, i => if c.used then unused l (i + 1) else (i : Int) :: unused l (i + 1)
def Pen.may (p : Pen) : Bool := decide (1 ≤ p.most) && decide (p.most ≤ 1024) && decide ((p.cells.length : Int) ≤ p.most) && p.cells.all (fun c => decide (0 ≤ c.gen) && decide (c.gen ≤ 4294967295)) && decide (unused p.cells 0 = sortI p.free)

def df_slValues : DF := (.mk 4 (.seq (.reg [(.mk (some 1) none (.op (.box (.t 0)))), (.mk (some 2) none (.op (.mv (.c (.x .nilFunc)))))]) (.seq (.reg [(.mk (some 3) none (.op (.mkfn (.func 37) [] [(.t 1)]))), (.mk (some 2) none (.op (.mv (.t 3))))]) .ret)) [(.tmp 2)])
theorem tu_slValues : turnF Try.prog Try.f29 = some df_slValues := by kernel_rfl

theorem ca_slValues : callable Try.prog 29 = true := by kernel_rfl
theorem ca_slSorted : callable Try.prog 28 = true := by kernel_rfl
theorem s_slValues (l : List (List DV)) : SpecP Try.prog 29 [.s 1 l] (.f (.func 37) [] [.q [.s 1 l] 0]) := by
  refine .body mixed Try.func29 tu_slValues (Nat.le_of_ble_eq_true rfl) ?_
  simp -implicitDefEqProofs only [df_slValues, SS, ↓reduceIte, Nat.reduceEqDiff, Nat.reduceAdd, eq_self, reduceCtorEq, Nat.reduceLeDiff, Nat.reduceSub, Nat.reduceMul, forall_const, implies_true, Int.reduceLE, Int.reduceLT, Int.reduceToNat, Int.reduceEq, Int.reduceBEq, Int.reduceBNe, Nat.reduceLT]
  simp [pureQ, frq, refs, refsL, L2, LL2, Heap.look, Heap.set]

def SortedSpec : Prop := ∀ l : List Int, l.length ≤ 1000000 → SpecP Try.prog 28 [.f (.func 37) [] [.q [.s 1 (l.map irow)] 0]] (.s 1 ((sortI l).map irow))

end Go.Proofs.Ytjbcgjgomhbmgaa

/-  Pens: which may be; all refs. -/
namespace Go.Proofs.Ytjbcgjgomhbmgaa
open Go.RowKit
set_option linter.unusedVariables false
set_option linter.unusedSimpArgs false

theorem unused_append (a b : List Cell) (k : Nat) : unused (a ++ b) k = unused a k ++ unused b (k + a.length) := by
  induction a generalizing k with
  | nil => simp [unused]
  | cons c a ih =>
    simp only [List.cons_append, unused, ih, List.length_cons]
    rw [show k + 1 + a.length = k + (a.length + 1) by omega]
    split <;> simp
theorem unused_length (a : List Cell) (k : Nat) : (unused a k).length ≤ a.length := by
  induction a generalizing k with
  | nil => simp [unused]
  | cons c a ih =>
    simp only [unused]
    have := ih (k + 1)
    split
    · simp; omega
    · simp; omega
theorem unused_take {l : List Cell} {i : Nat} (h : i < l.length) : unused (l.take (i + 1)) 0 = unused (l.take i) 0 ++ if l[i].used then [] else [(i : Int)] := by
  rw [← List.take_append_getElem h, unused_append]
  simp only [unused, List.length_take, Nat.min_eq_left (Nat.le_of_lt h), Nat.zero_add]
theorem all_take {l : List Cell} {i : Nat} (h : i < l.length) (f : Cell → Bool) : (l.take (i + 1)).all f = ((l.take i).all f && f l[i]) := by
  rw [← List.take_append_getElem h, List.all_append]
  simp
def genOk (c : Cell) : Bool := decide (0 ≤ c.gen) && decide (c.gen ≤ 4294967295)
theorem Pen.may_eq (p : Pen) : p.may = (decide (1 ≤ p.most) && decide (p.most ≤ 1024) && decide ((p.cells.length : Int) ≤ p.most) && p.cells.all genOk && decide (unused p.cells 0 = sortI p.free)) := rfl
theorem all_false {l : List Cell} {i : Nat} (h : i < l.length) (f : Cell → Bool) (hf : f l[i] = false) : l.all f = false := by
  rw [List.all_eq_false]
  exact ⟨l[i], List.getElem_mem h, by simp [hf]⟩

def df_penMay : DF := (.mk 44 (.seq (.reg [(.mk (some 1) none (.op (.box (.t 0)))), (.mk (some 2) none (.op (.mv (.c (.x (.bool false))))))]) (.seq (.seq (.reg [(.mk (some 6) none (.op (.fad 2 (.t 1)))), (.mk (some 7) none (.op (.load 1 false (.t 6)))), (.mk (some 8) none (.call 19 [(.t 7), (.c (.x (.int .i64 1))), (.c (.x (.int .i64 1024)))])), (.mk (some 9) none (.op (.un .not (.t 8)))), (.mk (some 10) none (.op (.mv (.t 9)))), (.mk (some 11) (some (10, false)) (.op (.fad 0 (.t 1)))), (.mk (some 12) (some (10, false)) (.op (.load 1 false (.t 11)))), (.mk (some 13) (some (10, false)) (.op (.len (.t 12)))), (.mk (some 14) (some (10, false)) (.op (.fad 2 (.t 1)))), (.mk (some 15) (some (10, false)) (.op (.load 1 false (.t 14)))), (.mk (some 16) (some (10, false)) (.op (.bin .gtr (.t 13) (.t 15)))), (.mk (some 17) none (.op (.pick (.t 10) (.c (.x (.bool true))) (.t 16))))]) (.cond (.t 17) (.seq (.reg [(.mk (some 2) none (.op (.mv (.c (.x (.bool false))))))]) .ret) .skip)) (.seq (.reg [(.mk (some 3) none (.op (.mv (.c (.z true)))))]) (.seq (.seq (.reg [(.mk (some 18) none (.op (.fad 0 (.t 1)))), (.mk (some 19) none (.op (.load 1 false (.t 18)))), (.mk (some 20) none (.op (.len (.t 19)))), (.mk (some 21) none (.op (.mv (.c (.x (.int .i64 0))))))]) (.block 0 (.loop (.seq (.reg [(.mk (some 22) none (.op (.bin .lss (.t 21) (.t 20))))]) (.seq (.cond (.t 22) .skip (.exit 0)) (.seq (.block 1 (.seq (.reg [(.mk (some 23) none (.op (.mv (.t 21)))), (.mk (some 24) none (.op (.iad 18 (.t 19) (.t 21)))), (.mk (some 25) none (.op (.load 18 true (.t 24)))), (.mk (some 5) none (.op (.box (.c (.g [(.x (.int .i64 0)), (.x (.bool false)), (.x (.int .i64 0)), (.x (.int .i64 0)), (.z true), (.z true), (.z true), (.x (.int .i64 0)), (.x (.int .i64 0)), (.x (.int .i64 0)), (.x (.int .i64 0)), (.x (.int .i64 0)), (.x (.int .i64 0)), (.x (.int .i64 0)), (.x (.int .i64 0)), (.x (.int .i64 0)), (.x (.int .i64 0)), (.x (.int .i64 0))]))))), (.mk (some 4) none (.op (.mv (.t 23)))), (.mk none none (.op (.store 18 (.t 5) (.t 25))))]) (.seq (.seq (.reg [(.mk (some 26) none (.op (.fad 0 (.t 5)))), (.mk (some 27) none (.op (.load 1 false (.t 26)))), (.mk (some 28) none (.call 19 [(.t 27), (.c (.x (.int .i64 0))), (.c (.x (.int .i64 4294967295)))])), (.mk (some 29) none (.op (.un .not (.t 28))))]) (.cond (.t 29) (.seq (.reg [(.mk (some 2) none (.op (.mv (.c (.x (.bool false))))))]) .ret) .skip)) (.seq (.reg [(.mk (some 30) none (.op (.fad 1 (.t 5)))), (.mk (some 31) none (.op (.load 1 false (.t 30)))), (.mk (some 32) none (.op (.un .not (.t 31))))]) (.cond (.t 32) (.reg [(.mk (some 33) none (.op (.mv (.t 3)))), (.mk (some 34) none (.op (.mv (.t 4)))), (.mk (some 35) none (.op (.bsl 1 1 [(.x (.int .i64 0))] [(0, (1, (.t 34)))]))), (.mk (some 36) none (.op (.app 1 8 (.t 33) (.t 35)))), (.mk (some 3) none (.op (.mv (.t 36))))]) .skip))))) (.reg [(.mk (some 37) none (.op (.bin .add (.t 21) (.c (.x (.int .i64 1)))))), (.mk (some 21) none (.op (.mv (.t 37))))]))))))) (.seq (.reg [(.mk (some 38) none (.op (.mv (.t 3)))), (.mk (some 39) none (.op (.fad 1 (.t 1)))), (.mk (some 40) none (.op (.load 1 false (.t 39)))), (.mk (some 41) none (.call 29 [(.t 40)])), (.mk (some 42) none (.call 28 [(.t 41)])), (.mk (some 43) none (.call 27 [(.t 38), (.t 42)])), (.mk (some 2) none (.op (.mv (.t 43))))]) .ret))))) [(.tmp 2)])
theorem tu_penMay : turnF Try.prog Try.f17 = some df_penMay := by kernel_rfl

theorem ca_penMay : callable Try.prog 17 = true := by kernel_rfl
theorem s_penMay (hS : SortedSpec) (p : Pen) (hf : p.free.length ≤ 1000000) : SpecP Try.prog 17 [.g p.row] (bool p.may) := by
  refine .body mixed Try.func17 tu_penMay (Nat.le_of_ble_eq_true rfl) ?_
  simp -implicitDefEqProofs only [df_penMay, SS, ↓reduceIte, Nat.reduceEqDiff, Nat.reduceAdd, eq_self, reduceCtorEq, Nat.reduceLeDiff, Nat.reduceSub, Nat.reduceMul, forall_const, implies_true, Int.reduceLE, Int.reduceLT, Int.reduceToNat, Int.reduceEq, Int.reduceBEq, Int.reduceBNe, Nat.reduceLT, EE]
  refine ⟨ca_penIn, SpecH.of_pure (s_penIn _ _ _) L2.refl rfl ?_⟩
  simp -implicitDefEqProofs only [SS, ↓reduceIte, Nat.reduceEqDiff, Nat.reduceAdd, eq_self, reduceCtorEq, Nat.reduceLeDiff, Nat.reduceSub, Nat.reduceMul, forall_const, implies_true, Int.reduceLE, Int.reduceLT, Int.reduceToNat, Int.reduceEq, Int.reduceBEq, Int.reduceBNe, Nat.reduceLT]
  by_cases hm : 1 ≤ p.most ∧ p.most ≤ 1024
  rotate_left
  · have h1 : (decide (1 ≤ p.most) && decide (p.most ≤ 1024)) = false := by simp; omega
    simp -implicitDefEqProofs only [SS, ↓reduceIte, Nat.reduceEqDiff, Nat.reduceAdd, eq_self, reduceCtorEq, Nat.reduceLeDiff, Nat.reduceSub, Nat.reduceMul, forall_const, implies_true, Int.reduceLE, Int.reduceLT, Int.reduceToNat, Int.reduceEq, Int.reduceBEq, Int.reduceBNe, Nat.reduceLT, h1]
    simp [pureQ, frq, refs, refsL, L2, LL2, Pen.may_eq, h1]
  have h1 : (decide (1 ≤ p.most) && decide (p.most ≤ 1024)) = true := by simp; omega
  by_cases hl : (p.cells.length : Int) ≤ p.most
  rotate_left
  · have h2 : decide (p.most < (p.cells.length : Int)) = true := by simp; omega
    simp -implicitDefEqProofs only [SS, ↓reduceIte, Nat.reduceEqDiff, Nat.reduceAdd, eq_self, reduceCtorEq, Nat.reduceLeDiff, Nat.reduceSub, Nat.reduceMul, forall_const, implies_true, Int.reduceLE, Int.reduceLT, Int.reduceToNat, Int.reduceEq, Int.reduceBEq, Int.reduceBNe, Nat.reduceLT, EE, h1, h2]
    simp [pureQ, frq, refs, refsL, L2, LL2, Pen.may_eq, hl]
  have h2 : decide (p.most < (p.cells.length : Int)) = false := by simp; omega
  have e : p.may = (p.cells.all genOk && decide (unused p.cells 0 = sortI p.free)) := by simp [Pen.may_eq, hm, hl]
  rw [e]
  simp -implicitDefEqProofs only [SS, ↓reduceIte, Nat.reduceEqDiff, Nat.reduceAdd, eq_self, reduceCtorEq, Nat.reduceLeDiff, Nat.reduceSub, Nat.reduceMul, forall_const, implies_true, Int.reduceLE, Int.reduceLT, Int.reduceToNat, Int.reduceEq, Int.reduceBEq, Int.reduceBNe, Nat.reduceLT, EE, h1, h2]
  refine wpD_loop (fun m e H => ∃ i, i ≤ p.cells.length ∧ m = p.cells.length - i ∧ e 1 = .p [1] 1 0 0 ∧ H [1] = (1, some ⟨3, false, [p.row]⟩) ∧ e 19 = .s 18 (p.cells.map Cell.row) ∧ e 20 = int p.cells.length ∧ e 21 = int i ∧
    Grow [36] 1 ((unused (p.cells.take i) 0).map irow) (e 3) H ∧ (p.cells.take i).all genOk = true) p.cells.length ⟨0, by simp [SS, ↓reduceIte, Nat.reduceEqDiff, Nat.reduceAdd, eq_self, reduceCtorEq, Nat.reduceLeDiff, Nat.reduceSub, Nat.reduceMul, forall_const, implies_true, Int.reduceLE, Int.reduceLT, Int.reduceToNat, Int.reduceEq, Int.reduceBEq, Int.reduceBNe, Nat.reduceLT, EE, Grow.nil, unused]⟩ ?_
  rintro m e H ⟨i, hi, rfl, he1, hH, he19, he20, he21, hg, ha⟩
  simp -implicitDefEqProofs only [SS, ↓reduceIte, Nat.reduceEqDiff, Nat.reduceAdd, eq_self, reduceCtorEq, Nat.reduceLeDiff, Nat.reduceSub, Nat.reduceMul, forall_const, implies_true, Int.reduceLE, Int.reduceLT, Int.reduceToNat, Int.reduceEq, Int.reduceBEq, Int.reduceBNe, Nat.reduceLT, he1, he19, he20, he21]
  refine condD_split (fun h => ?_) (fun h => ?_)
  · have hi1 : i < p.cells.length := by simpa using h
    simp -implicitDefEqProofs only [SS, ↓reduceIte, Nat.reduceEqDiff, Nat.reduceAdd, eq_self, reduceCtorEq, Nat.reduceLeDiff, Nat.reduceSub, Nat.reduceMul, forall_const, implies_true, Int.reduceLE, Int.reduceLT, Int.reduceToNat, Int.reduceEq, Int.reduceBEq, Int.reduceBNe, Nat.reduceLT, he1, he19, he20, he21, hH, List.getElem?_eq_getElem hi1, Cell.row, Frame.row]
    refine ⟨ca_penIn, SpecH.of_pure (s_penIn _ _ _) L2.refl rfl ?_⟩
    have hgen : (decide (0 ≤ p.cells[i].gen) && decide (p.cells[i].gen ≤ 4294967295)) = genOk p.cells[i] := rfl
    simp -implicitDefEqProofs only [SS, ↓reduceIte, Nat.reduceEqDiff, Nat.reduceAdd, eq_self, reduceCtorEq, Nat.reduceLeDiff, Nat.reduceSub, Nat.reduceMul, forall_const, implies_true, Int.reduceLE, Int.reduceLT, Int.reduceToNat, Int.reduceEq, Int.reduceBEq, Int.reduceBNe, Nat.reduceLT, he1, he19, he20, he21, hH, hgen]
    refine condD_split (fun h' => ?_) (fun h' => ?_)
    · have hno : genOk p.cells[i] = false := by simpa using h'
      simp -implicitDefEqProofs only [SS, ↓reduceIte, Nat.reduceEqDiff, Nat.reduceAdd, eq_self, reduceCtorEq, Nat.reduceLeDiff, Nat.reduceSub, Nat.reduceMul, forall_const, implies_true, Int.reduceLE, Int.reduceLT, Int.reduceToNat, Int.reduceEq, Int.reduceBEq, Int.reduceBNe, Nat.reduceLT]
      simp [pureQ, frq, refs, refsL, L2, LL2, all_false hi1 genOk hno]
    · have hyes : genOk p.cells[i] = true := by simpa using h'
      have hall := all_take hi1 genOk
      rw [ha, hyes] at hall
      simp -implicitDefEqProofs only [SS, ↓reduceIte, Nat.reduceEqDiff, Nat.reduceAdd, eq_self, reduceCtorEq, Nat.reduceLeDiff, Nat.reduceSub, Nat.reduceMul, forall_const, implies_true, Int.reduceLE, Int.reduceLT, Int.reduceToNat, Int.reduceEq, Int.reduceBEq, Int.reduceBNe, Nat.reduceLT, he1, he19, he20, he21, hH]
      refine condD_split (fun hu => ?_) (fun hu => ?_)
      · have hu' : p.cells[i].used = false := by simpa using hu
        simp -implicitDefEqProofs only [SS, ↓reduceIte, Nat.reduceEqDiff, Nat.reduceAdd, eq_self, reduceCtorEq, Nat.reduceLeDiff, Nat.reduceSub, Nat.reduceMul, forall_const, implies_true, Int.reduceLE, Int.reduceLT, Int.reduceToNat, Int.reduceEq, Int.reduceBEq, Int.reduceBNe, Nat.reduceLT, he1, he19, he20, he21, hH]
        refine aftI_app hg (by simp [set_at]) (rowsOf_own (by simp [set_at]; rfl) rfl) (by simp) (by have := unused_length (p.cells.take i) 0; simp at this ⊢; omega) (by have := unused_length (p.cells.take i) 0; simp at this ⊢; omega) (fun d2 H2 hg2 hk2 => ?_)
        simp -implicitDefEqProofs only [SS, ↓reduceIte, Nat.reduceEqDiff, Nat.reduceAdd, eq_self, reduceCtorEq, Nat.reduceLeDiff, Nat.reduceSub, Nat.reduceMul, forall_const, implies_true, Int.reduceLE, Int.reduceLT, Int.reduceToNat, Int.reduceEq, Int.reduceBEq, Int.reduceBNe, Nat.reduceLT, he1, he19, he20, he21, hH]
        rw [w64_in (by omega)]
        refine ⟨p.cells.length - (i + 1), by omega, i + 1, by omega, rfl, ?_, by simp, ?_, hall⟩
        · rw [hk2 [1] (by simp)]; simp [set_at, hH]
        · rw [unused_take hi1, hu']; simpa [irow] using hg2
      · have hu' : p.cells[i].used = true := by simpa using hu
        simp -implicitDefEqProofs only [SS, ↓reduceIte, Nat.reduceEqDiff, Nat.reduceAdd, eq_self, reduceCtorEq, Nat.reduceLeDiff, Nat.reduceSub, Nat.reduceMul, forall_const, implies_true, Int.reduceLE, Int.reduceLT, Int.reduceToNat, Int.reduceEq, Int.reduceBEq, Int.reduceBNe, Nat.reduceLT, he1, he19, he20, he21, hH]
        rw [w64_in (by omega)]
        refine ⟨p.cells.length - (i + 1), by omega, i + 1, by omega, rfl, by simp, ?_, hall⟩
        · rw [unused_take hi1, hu']; simpa using hg.same (by simp [set_at])
  · have hi' : i = p.cells.length := by simp at h; omega
    subst hi'
    rw [List.take_length] at hg ha
    simp -implicitDefEqProofs only [SS, ↓reduceIte, Nat.reduceEqDiff, Nat.reduceAdd, eq_self, reduceCtorEq, Nat.reduceLeDiff, Nat.reduceSub, Nat.reduceMul, forall_const, implies_true, Int.reduceLE, Int.reduceLT, Int.reduceToNat, Int.reduceEq, Int.reduceBEq, Int.reduceBNe, Nat.reduceLT, EE, he1, hH]
    refine ⟨ca_slValues, SpecH.of_pure (s_slValues _) L2.refl rfl ?_⟩
    simp -implicitDefEqProofs only [SS, ↓reduceIte, Nat.reduceEqDiff, Nat.reduceAdd, eq_self, reduceCtorEq, Nat.reduceLeDiff, Nat.reduceSub, Nat.reduceMul, forall_const, implies_true, Int.reduceLE, Int.reduceLT, Int.reduceToNat, Int.reduceEq, Int.reduceBEq, Int.reduceBNe, Nat.reduceLT, he1, hH]
    refine ⟨ca_slSorted, SpecH.of_pure (hS _ hf) L2.refl rfl ?_⟩
    simp -implicitDefEqProofs only [SS, ↓reduceIte, Nat.reduceEqDiff, Nat.reduceAdd, eq_self, reduceCtorEq, Nat.reduceLeDiff, Nat.reduceSub, Nat.reduceMul, forall_const, implies_true, Int.reduceLE, Int.reduceLT, Int.reduceToNat, Int.reduceEq, Int.reduceBEq, Int.reduceBNe, Nat.reduceLT, he1, hH]
    refine ⟨ca_slEqInt, SpecH.of_flat (s_slEqInt (unused p.cells 0) (sortI p.free) ?_) ⟨hg.frq ?_, frq.refl, trivial⟩ rfl rfl ?_⟩
    · have := unused_length p.cells 0; omega
    · simp [irow, refsL, refs]
    · simp -implicitDefEqProofs only [SS, ↓reduceIte, Nat.reduceEqDiff, Nat.reduceAdd, eq_self, reduceCtorEq, Nat.reduceLeDiff, Nat.reduceSub, Nat.reduceMul, forall_const, implies_true, Int.reduceLE, Int.reduceLT, Int.reduceToNat, Int.reduceEq, Int.reduceBEq, Int.reduceBNe, Nat.reduceLT, he1, hH]
      simp [pureQ, frq, refs, refsL, L2, LL2, ha]

end Go.Proofs.Ytjbcgjgomhbmgaa

/-  Pens: all refs; a ref's frame. -/
namespace Go.Proofs.Ytjbcgjgomhbmgaa
open Go.RowKit
set_option linter.unusedVariables false
set_option linter.unusedSimpArgs false

def used : List Cell → Nat → List Ref
  | [], _ => []
  | c :: l, i => if c.used then ⟨i, c.gen⟩ :: used l (i + 1) else used l (i + 1)
def Pen.refs (p : Pen) : List Ref := if p.may then used p.cells 0 else []
theorem used_append (a b : List Cell) (k : Nat) : used (a ++ b) k = used a k ++ used b (k + a.length) := by
  induction a generalizing k with
  | nil => simp [used]
  | cons c a ih =>
    simp only [List.cons_append, used, ih, List.length_cons]
    rw [show k + 1 + a.length = k + (a.length + 1) by omega]
    split <;> simp
theorem used_length (a : List Cell) (k : Nat) : (used a k).length ≤ a.length := by
  induction a generalizing k with
  | nil => simp [used]
  | cons c a ih =>
    simp only [used]
    have := ih (k + 1)
    split
    · simp; omega
    · simp; omega
theorem used_take {l : List Cell} {i : Nat} (h : i < l.length) : used (l.take (i + 1)) 0 = used (l.take i) 0 ++ if l[i].used then [⟨i, l[i].gen⟩] else [] := by
  rw [← List.take_append_getElem h, used_append]
  simp only [used, List.length_take, Nat.min_eq_left (Nat.le_of_lt h), Nat.zero_add]

def df_penRefs : DF := (.mk 28 (.seq (.reg [(.mk (some 1) none (.op (.box (.t 0)))), (.mk (some 2) none (.op (.mv (.c (.z true)))))]) (.seq (.seq (.reg [(.mk (some 6) none (.op (.load 3 true (.t 1)))), (.mk (some 7) none (.call 17 [(.t 6)])), (.mk (some 8) none (.op (.un .not (.t 7))))]) (.cond (.t 8) (.seq (.reg [(.mk (some 2) none (.op (.mv (.c (.z true)))))]) .ret) .skip)) (.seq (.reg [(.mk (some 3) none (.op (.mv (.c (.z true)))))]) (.seq (.seq (.reg [(.mk (some 9) none (.op (.fad 0 (.t 1)))), (.mk (some 10) none (.op (.load 1 false (.t 9)))), (.mk (some 11) none (.op (.len (.t 10)))), (.mk (some 12) none (.op (.mv (.c (.x (.int .i64 0))))))]) (.block 0 (.loop (.seq (.reg [(.mk (some 13) none (.op (.bin .lss (.t 12) (.t 11))))]) (.seq (.cond (.t 13) .skip (.exit 0)) (.seq (.block 1 (.seq (.reg [(.mk (some 14) none (.op (.mv (.t 12)))), (.mk (some 15) none (.op (.iad 18 (.t 10) (.t 12)))), (.mk (some 16) none (.op (.load 18 true (.t 15)))), (.mk (some 5) none (.op (.box (.c (.g [(.x (.int .i64 0)), (.x (.bool false)), (.x (.int .i64 0)), (.x (.int .i64 0)), (.z true), (.z true), (.z true), (.x (.int .i64 0)), (.x (.int .i64 0)), (.x (.int .i64 0)), (.x (.int .i64 0)), (.x (.int .i64 0)), (.x (.int .i64 0)), (.x (.int .i64 0)), (.x (.int .i64 0)), (.x (.int .i64 0)), (.x (.int .i64 0)), (.x (.int .i64 0))]))))), (.mk (some 4) none (.op (.mv (.t 14)))), (.mk none none (.op (.store 18 (.t 5) (.t 16))))]) (.seq (.reg [(.mk (some 17) none (.op (.fad 1 (.t 5)))), (.mk (some 18) none (.op (.load 1 false (.t 17))))]) (.cond (.t 18) (.reg [(.mk (some 19) none (.op (.mv (.t 3)))), (.mk (some 20) none (.op (.mv (.t 4)))), (.mk (some 21) none (.op (.fad 0 (.t 5)))), (.mk (some 22) none (.op (.load 1 false (.t 21)))), (.mk (some 23) none (.op (.build [(.x (.int .i64 0)), (.x (.int .i64 0))] [(0, (1, (.t 20))), (1, (1, (.t 22)))]))), (.mk (some 24) none (.op (.bsl 2 1 [(.x (.int .i64 0)), (.x (.int .i64 0))] [(0, (2, (.t 23)))]))), (.mk (some 25) none (.op (.app 2 16 (.t 19) (.t 24)))), (.mk (some 3) none (.op (.mv (.t 25))))]) .skip)))) (.reg [(.mk (some 26) none (.op (.bin .add (.t 12) (.c (.x (.int .i64 1)))))), (.mk (some 12) none (.op (.mv (.t 26))))]))))))) (.seq (.reg [(.mk (some 27) none (.op (.mv (.t 3)))), (.mk (some 2) none (.op (.mv (.t 27))))]) .ret))))) [(.tmp 2)])
theorem tu_penRefs : turnF Try.prog Try.f12 = some df_penRefs := by kernel_rfl

def df_penGet : DF := (.mk 23 (.seq (.reg [(.mk (some 2) none (.op (.box (.t 0)))), (.mk (some 3) none (.op (.box (.t 1)))), (.mk (some 4) none (.op (.box (.c (.g [(.x (.int .i64 0)), (.x (.int .i64 0)), (.z true), (.z true), (.z true), (.x (.int .i64 0)), (.x (.int .i64 0)), (.x (.int .i64 0)), (.x (.int .i64 0)), (.x (.int .i64 0)), (.x (.int .i64 0)), (.x (.int .i64 0)), (.x (.int .i64 0)), (.x (.int .i64 0)), (.x (.int .i64 0)), (.x (.int .i64 0))]))))), (.mk (some 5) none (.op (.mv (.c (.x (.bool false))))))]) (.seq (.seq (.reg [(.mk (some 6) none (.op (.load 3 true (.t 2)))), (.mk (some 7) none (.call 17 [(.t 6)])), (.mk (some 8) none (.op (.un .not (.t 7)))), (.mk (some 9) none (.op (.mv (.t 8)))), (.mk (some 10) (some (9, false)) (.op (.load 3 true (.t 2)))), (.mk (some 11) (some (9, false)) (.op (.load 2 true (.t 3)))), (.mk (some 12) (some (9, false)) (.call 21 [(.t 10), (.t 11)])), (.mk (some 13) (some (9, false)) (.op (.un .not (.t 12)))), (.mk (some 14) none (.op (.pick (.t 9) (.c (.x (.bool true))) (.t 13))))]) (.cond (.t 14) (.seq (.reg [(.mk (some 15) none (.op (.build [(.x (.int .i64 0)), (.x (.int .i64 0)), (.z true), (.z true), (.z true), (.x (.int .i64 0)), (.x (.int .i64 0)), (.x (.int .i64 0)), (.x (.int .i64 0)), (.x (.int .i64 0)), (.x (.int .i64 0)), (.x (.int .i64 0)), (.x (.int .i64 0)), (.x (.int .i64 0)), (.x (.int .i64 0)), (.x (.int .i64 0))] []))), (.mk none none (.op (.store 16 (.t 4) (.t 15)))), (.mk (some 5) none (.op (.mv (.c (.x (.bool false))))))]) .ret) .skip)) (.seq (.reg [(.mk (some 16) none (.op (.fad 0 (.t 2)))), (.mk (some 17) none (.op (.load 1 false (.t 16)))), (.mk (some 18) none (.op (.fad 0 (.t 3)))), (.mk (some 19) none (.op (.load 1 false (.t 18)))), (.mk (some 20) none (.op (.iad 18 (.t 17) (.t 19)))), (.mk (some 21) none (.op (.fad 2 (.t 20)))), (.mk (some 22) none (.op (.load 16 true (.t 21)))), (.mk none none (.op (.store 16 (.t 4) (.t 22)))), (.mk (some 5) none (.op (.mv (.c (.x (.bool true))))))]) .ret))) [(.cell 4 16 true), (.tmp 5)])
theorem tu_penGet : turnF Try.prog Try.f9 = some df_penGet := by kernel_rfl

theorem ca_penRefs : callable Try.prog 12 = true := by kernel_rfl
theorem s_penRefs (hS : SortedSpec) (p : Pen) (hf : p.free.length ≤ 1000000) (hc : p.cells.length ≤ 1000000) : SpecP Try.prog 12 [.g p.row] (.s 2 (p.refs.map Ref.row)) := by
  refine .body mixed Try.func12 tu_penRefs (Nat.le_of_ble_eq_true rfl) ?_
  simp -implicitDefEqProofs only [df_penRefs, SS, ↓reduceIte, Nat.reduceEqDiff, Nat.reduceAdd, eq_self, reduceCtorEq, Nat.reduceLeDiff, Nat.reduceSub, Nat.reduceMul, forall_const, implies_true, Int.reduceLE, Int.reduceLT, Int.reduceToNat, Int.reduceEq, Int.reduceBEq, Int.reduceBNe, Nat.reduceLT, EE]
  refine ⟨ca_penMay, SpecH.of_pure (s_penMay hS p hf) L2.refl rfl ?_⟩
  simp -implicitDefEqProofs only [SS, ↓reduceIte, Nat.reduceEqDiff, Nat.reduceAdd, eq_self, reduceCtorEq, Nat.reduceLeDiff, Nat.reduceSub, Nat.reduceMul, forall_const, implies_true, Int.reduceLE, Int.reduceLT, Int.reduceToNat, Int.reduceEq, Int.reduceBEq, Int.reduceBNe, Nat.reduceLT]
  refine condD_split (fun h => ?_) (fun h => ?_)
  · have hm : p.may = false := by simpa using h
    simp -implicitDefEqProofs only [SS, ↓reduceIte, Nat.reduceEqDiff, Nat.reduceAdd, eq_self, reduceCtorEq, Nat.reduceLeDiff, Nat.reduceSub, Nat.reduceMul, forall_const, implies_true, Int.reduceLE, Int.reduceLT, Int.reduceToNat, Int.reduceEq, Int.reduceBEq, Int.reduceBNe, Nat.reduceLT]
    simp [pureQ, frq, refs, refsL, L2, LL2, Pen.refs, hm]
  have hm : p.may = true := by simpa using h
  have e : p.refs = used p.cells 0 := by simp [Pen.refs, hm]
  rw [e]
  simp -implicitDefEqProofs only [SS, ↓reduceIte, Nat.reduceEqDiff, Nat.reduceAdd, eq_self, reduceCtorEq, Nat.reduceLeDiff, Nat.reduceSub, Nat.reduceMul, forall_const, implies_true, Int.reduceLE, Int.reduceLT, Int.reduceToNat, Int.reduceEq, Int.reduceBEq, Int.reduceBNe, Nat.reduceLT]
  refine wpD_loop (fun m e H => ∃ i, i ≤ p.cells.length ∧ m = p.cells.length - i ∧ e 10 = .s 18 (p.cells.map Cell.row) ∧ e 11 = int p.cells.length ∧ e 12 = int i ∧
    Grow [25] 2 ((used (p.cells.take i) 0).map Ref.row) (e 3) H) p.cells.length ⟨0, by simp [SS, ↓reduceIte, Nat.reduceEqDiff, Nat.reduceAdd, eq_self, reduceCtorEq, Nat.reduceLeDiff, Nat.reduceSub, Nat.reduceMul, forall_const, implies_true, Int.reduceLE, Int.reduceLT, Int.reduceToNat, Int.reduceEq, Int.reduceBEq, Int.reduceBNe, Nat.reduceLT, EE, Grow.nil, used]⟩ ?_
  rintro m e H ⟨i, hi, rfl, he10, he11, he12, hg⟩
  simp -implicitDefEqProofs only [SS, ↓reduceIte, Nat.reduceEqDiff, Nat.reduceAdd, eq_self, reduceCtorEq, Nat.reduceLeDiff, Nat.reduceSub, Nat.reduceMul, forall_const, implies_true, Int.reduceLE, Int.reduceLT, Int.reduceToNat, Int.reduceEq, Int.reduceBEq, Int.reduceBNe, Nat.reduceLT, he10, he11, he12]
  refine condD_split (fun h => ?_) (fun h => ?_)
  · have hi1 : i < p.cells.length := by simpa using h
    simp -implicitDefEqProofs only [SS, ↓reduceIte, Nat.reduceEqDiff, Nat.reduceAdd, eq_self, reduceCtorEq, Nat.reduceLeDiff, Nat.reduceSub, Nat.reduceMul, forall_const, implies_true, Int.reduceLE, Int.reduceLT, Int.reduceToNat, Int.reduceEq, Int.reduceBEq, Int.reduceBNe, Nat.reduceLT, he10, he11, he12, List.getElem?_eq_getElem hi1, Cell.row, Frame.row]
    refine condD_split (fun hu => ?_) (fun hu => ?_)
    · simp -implicitDefEqProofs only [SS, ↓reduceIte, Nat.reduceEqDiff, Nat.reduceAdd, eq_self, reduceCtorEq, Nat.reduceLeDiff, Nat.reduceSub, Nat.reduceMul, forall_const, implies_true, Int.reduceLE, Int.reduceLT, Int.reduceToNat, Int.reduceEq, Int.reduceBEq, Int.reduceBNe, Nat.reduceLT, he10, he11, he12]
      refine aftI_app hg (by simp [set_at]) (rowsOf_own (by simp [set_at]; rfl) rfl) (by simp) (by have := used_length (p.cells.take i) 0; simp at this ⊢; omega) (by have := used_length (p.cells.take i) 0; simp at this ⊢; omega) (fun d2 H2 hg2 hk2 => ?_)
      simp -implicitDefEqProofs only [SS, ↓reduceIte, Nat.reduceEqDiff, Nat.reduceAdd, eq_self, reduceCtorEq, Nat.reduceLeDiff, Nat.reduceSub, Nat.reduceMul, forall_const, implies_true, Int.reduceLE, Int.reduceLT, Int.reduceToNat, Int.reduceEq, Int.reduceBEq, Int.reduceBNe, Nat.reduceLT, he10, he11, he12]
      rw [w64_in (by omega)]
      refine ⟨p.cells.length - (i + 1), by omega, i + 1, by omega, rfl, by simp, ?_⟩
      rw [used_take hi1, hu]; simpa [Ref.row] using hg2
    · simp -implicitDefEqProofs only [SS, ↓reduceIte, Nat.reduceEqDiff, Nat.reduceAdd, eq_self, reduceCtorEq, Nat.reduceLeDiff, Nat.reduceSub, Nat.reduceMul, forall_const, implies_true, Int.reduceLE, Int.reduceLT, Int.reduceToNat, Int.reduceEq, Int.reduceBEq, Int.reduceBNe, Nat.reduceLT, he10, he11, he12]
      rw [w64_in (by omega)]
      refine ⟨p.cells.length - (i + 1), by omega, i + 1, by omega, rfl, by simp, ?_⟩
      rw [used_take hi1, hu]; simpa using hg.same (by simp [set_at])
  · have hi' : i = p.cells.length := by simp at h; omega
    subst hi'
    rw [List.take_length] at hg
    simp -implicitDefEqProofs only [SS, ↓reduceIte, Nat.reduceEqDiff, Nat.reduceAdd, eq_self, reduceCtorEq, Nat.reduceLeDiff, Nat.reduceSub, Nat.reduceMul, forall_const, implies_true, Int.reduceLE, Int.reduceLT, Int.reduceToNat, Int.reduceEq, Int.reduceBEq, Int.reduceBNe, Nat.reduceLT]
    exact ⟨hg.frq (by simp [Ref.row, refsL, refs]), rfl⟩

theorem ca_penGet : callable Try.prog 9 = true := by kernel_rfl
def Pen.get (p : Pen) (r : Ref) : Frame := if p.may && p.held r then (p.cells[r.at'.toNat]?.map Cell.frame).getD zeroFrame else zeroFrame
theorem Pen.held_get {p : Pen} {r : Ref} (h : p.held r = true) : 0 ≤ r.at' ∧ ∃ c, p.cells[r.at'.toNat]? = some c ∧ c.used = true ∧ c.gen = r.gen := by
  simp only [Pen.held, Bool.and_eq_true, decide_eq_true_eq] at h
  obtain ⟨h0, h1⟩ := h
  refine ⟨h0, ?_⟩
  split at h1
  · rename_i c hc; exact ⟨c, hc, by simpa using h1⟩
  · simp at h1
theorem s_penGet (hS : SortedSpec) (p : Pen) (r : Ref) (hf : p.free.length ≤ 1000000) (hc : p.cells.length ≤ 1000000) : SpecP Try.prog 9 [.g p.row, .g r.row] (.t [.g (p.get r).row, bool (p.may && p.held r)]) := by
  refine .body mixed Try.func9 tu_penGet (Nat.le_of_ble_eq_true rfl) ?_
  simp -implicitDefEqProofs only [df_penGet, SS, ↓reduceIte, Nat.reduceEqDiff, Nat.reduceAdd, eq_self, reduceCtorEq, Nat.reduceLeDiff, Nat.reduceSub, Nat.reduceMul, forall_const, implies_true, Int.reduceLE, Int.reduceLT, Int.reduceToNat, Int.reduceEq, Int.reduceBEq, Int.reduceBNe, Nat.reduceLT, EE]
  refine ⟨ca_penMay, SpecH.of_pure (s_penMay hS p hf) L2.refl rfl ?_⟩
  simp -implicitDefEqProofs only [SS, ↓reduceIte, Nat.reduceEqDiff, Nat.reduceAdd, eq_self, reduceCtorEq, Nat.reduceLeDiff, Nat.reduceSub, Nat.reduceMul, forall_const, implies_true, Int.reduceLE, Int.reduceLT, Int.reduceToNat, Int.reduceEq, Int.reduceBEq, Int.reduceBNe, Nat.reduceLT]
  cases hm : p.may
  · simp -implicitDefEqProofs only [SS, ↓reduceIte, Nat.reduceEqDiff, Nat.reduceAdd, eq_self, reduceCtorEq, Nat.reduceLeDiff, Nat.reduceSub, Nat.reduceMul, forall_const, implies_true, Int.reduceLE, Int.reduceLT, Int.reduceToNat, Int.reduceEq, Int.reduceBEq, Int.reduceBNe, Nat.reduceLT]
    simp [pureQ, frq, refs, refsL, L2, LL2, EE, Pen.get, hm, zeroFrame]
  simp -implicitDefEqProofs only [SS, ↓reduceIte, Nat.reduceEqDiff, Nat.reduceAdd, eq_self, reduceCtorEq, Nat.reduceLeDiff, Nat.reduceSub, Nat.reduceMul, forall_const, implies_true, Int.reduceLE, Int.reduceLT, Int.reduceToNat, Int.reduceEq, Int.reduceBEq, Int.reduceBNe, Nat.reduceLT]
  refine ⟨ca_penHeld, SpecH.of_pure (s_penHeld p r hc) L2.refl rfl ?_⟩
  simp -implicitDefEqProofs only [SS, ↓reduceIte, Nat.reduceEqDiff, Nat.reduceAdd, eq_self, reduceCtorEq, Nat.reduceLeDiff, Nat.reduceSub, Nat.reduceMul, forall_const, implies_true, Int.reduceLE, Int.reduceLT, Int.reduceToNat, Int.reduceEq, Int.reduceBEq, Int.reduceBNe, Nat.reduceLT]
  cases hh : p.held r
  · simp -implicitDefEqProofs only [SS, ↓reduceIte, Nat.reduceEqDiff, Nat.reduceAdd, eq_self, reduceCtorEq, Nat.reduceLeDiff, Nat.reduceSub, Nat.reduceMul, forall_const, implies_true, Int.reduceLE, Int.reduceLT, Int.reduceToNat, Int.reduceEq, Int.reduceBEq, Int.reduceBNe, Nat.reduceLT]
    simp [pureQ, frq, refs, refsL, L2, LL2, EE, Pen.get, hm, hh, zeroFrame]
  obtain ⟨h0, c, hget, _, _⟩ := Pen.held_get hh
  simp -implicitDefEqProofs only [SS, ↓reduceIte, Nat.reduceEqDiff, Nat.reduceAdd, eq_self, reduceCtorEq, Nat.reduceLeDiff, Nat.reduceSub, Nat.reduceMul, forall_const, implies_true, Int.reduceLE, Int.reduceLT, Int.reduceToNat, Int.reduceEq, Int.reduceBEq, Int.reduceBNe, Nat.reduceLT, h0, hget, Cell.row, Frame.row]
  simp [pureQ, frq, refs, refsL, L2, LL2, EE, Pen.get, hm, hh, hget]

end Go.Proofs.Ytjbcgjgomhbmgaa

/-  slices.Clone. -/
namespace Go.Proofs.Ytjbcgjgomhbmgaa
open Go.RowKit
set_option linter.unusedVariables false
set_option linter.unusedSimpArgs false

def df_slClCell : DF := (.mk 8 (.seq (.reg [(.mk (some 2) none (.op (.mv (.c (.z true)))))]) (.seq (.seq (.reg [(.mk (some 3) none (.op (.mv (.t 0)))), (.mk (some 4) none (.op (.eqn false (.t 3))))]) (.cond (.t 4) (.seq (.reg [(.mk (some 2) none (.op (.mv (.c (.z true)))))]) .ret) .skip)) (.seq (.reg [(.mk (some 5) none (.op (.bsl 18 0 [(.x (.int .i64 0)), (.x (.bool false)), (.x (.int .i64 0)), (.x (.int .i64 0)), (.z true), (.z true), (.z true), (.x (.int .i64 0)), (.x (.int .i64 0)), (.x (.int .i64 0)), (.x (.int .i64 0)), (.x (.int .i64 0)), (.x (.int .i64 0)), (.x (.int .i64 0)), (.x (.int .i64 0)), (.x (.int .i64 0)), (.x (.int .i64 0)), (.x (.int .i64 0))] []))), (.mk (some 6) none (.op (.mv (.t 0)))), (.mk (some 7) none (.op (.app 18 192 (.t 5) (.t 6)))), (.mk (some 2) none (.op (.mv (.t 7))))]) .ret))) [(.tmp 2)])
theorem tu_slClCell : turnF Try.prog Try.f33 = some df_slClCell := by kernel_rfl

theorem ca_slClCell : callable Try.prog 33 = true := by kernel_rfl
theorem h_slClCell (n : Path) (H : Heap) (rows : List (List DV)) (hl : rows.length ≤ 1000000) :
    SpecH Try.prog 33 [.s 18 rows] H fun e H' => e = .ret (cl (7 :: n) H rows) ∧ H' = (clE (7 :: n) 18 H rows).apply H := by
  cases rows with
  | nil =>
    refine (SpecH.zf (.emp ?_ ?_)).mono (fun e H' h => h)
    · refine spec_body mixed Try.func33 tu_slClCell (Nat.le_of_ble_eq_true rfl) n ?_
      simp -implicitDefEqProofs only [df_slClCell, SS, ↓reduceIte, Nat.reduceEqDiff, Nat.reduceAdd, eq_self, reduceCtorEq, Nat.reduceLeDiff, Nat.reduceSub, Nat.reduceMul, forall_const, implies_true, Int.reduceLE, Int.reduceLT, Int.reduceToNat, Int.reduceEq, Int.reduceBEq, Int.reduceBNe, Nat.reduceLT]
      exact ⟨_, rfl⟩
    · refine spec_body mixed Try.func33 tu_slClCell (Nat.le_of_ble_eq_true rfl) n ?_
      simp -implicitDefEqProofs only [df_slClCell, SS, ↓reduceIte, Nat.reduceEqDiff, Nat.reduceAdd, eq_self, reduceCtorEq, Nat.reduceLeDiff, Nat.reduceSub, Nat.reduceMul, forall_const, implies_true, Int.reduceLE, Int.reduceLT, Int.reduceToNat, Int.reduceEq, Int.reduceBEq, Int.reduceBNe, Nat.reduceLT, appD_z_nil rowsOf_e]
      exact ⟨_, rfl⟩
  | cons r rows =>
    refine spec_body mixed Try.func33 tu_slClCell (Nat.le_of_ble_eq_true rfl) n ?_
    have happ := appD_z (H := H) (n := 7 :: n) (E := 18) (bytes := 192) (b := false) (rowsOf_s (r :: rows)) (by simp) (by omega) (by omega)
    simp -implicitDefEqProofs only [df_slClCell, SS, ↓reduceIte, Nat.reduceEqDiff, Nat.reduceAdd, eq_self, reduceCtorEq, Nat.reduceLeDiff, Nat.reduceSub, Nat.reduceMul, forall_const, implies_true, Int.reduceLE, Int.reduceLT, Int.reduceToNat, Int.reduceEq, Int.reduceBEq, Int.reduceBNe, Nat.reduceLT, happ]
    exact ⟨by simp [cl], by simp [clE, Eff.apply]⟩
theorem e_slClCell (n : Path) (H : Heap) (rows : List (List DV)) (hl : rows.length ≤ 1000000) : ECall Try.prog 33 [.s 18 rows] [] H (cl (7 :: n) H rows) (clE (7 :: n) 18 H rows) := by
  refine .of_exact (fun H1 _ h2 => (h_slClCell n H1 rows hl).mono (fun e H' h => ?_))
  by_cases hr : rows = []
  · simp only [cl, clE, hr, if_true] at h ⊢
    exact h
  · have : H1 (7 :: n) = H (7 :: n) := h2 (.ww (7 :: n)) (by simp [clE, hr, Eff.acc])
    simp only [cl, clE, hr, if_false, this] at h ⊢
    exact h

def df_slClInt : DF := (.mk 8 (.seq (.reg [(.mk (some 2) none (.op (.mv (.c (.z true)))))]) (.seq (.seq (.reg [(.mk (some 3) none (.op (.mv (.t 0)))), (.mk (some 4) none (.op (.eqn false (.t 3))))]) (.cond (.t 4) (.seq (.reg [(.mk (some 2) none (.op (.mv (.c (.z true)))))]) .ret) .skip)) (.seq (.reg [(.mk (some 5) none (.op (.bsl 1 0 [(.x (.int .i64 0))] []))), (.mk (some 6) none (.op (.mv (.t 0)))), (.mk (some 7) none (.op (.app 1 8 (.t 5) (.t 6)))), (.mk (some 2) none (.op (.mv (.t 7))))]) .ret))) [(.tmp 2)])
theorem tu_slClInt : turnF Try.prog Try.f34 = some df_slClInt := by kernel_rfl

theorem ca_slClInt : callable Try.prog 34 = true := by kernel_rfl
theorem h_slClInt (n : Path) (H : Heap) (rows : List (List DV)) (hl : rows.length ≤ 1000000) :
    SpecH Try.prog 34 [.s 1 rows] H fun e H' => e = .ret (cl (7 :: n) H rows) ∧ H' = (clE (7 :: n) 1 H rows).apply H := by
  cases rows with
  | nil =>
    refine (SpecH.zf (.emp ?_ ?_)).mono (fun e H' h => h)
    · refine spec_body mixed Try.func34 tu_slClInt (Nat.le_of_ble_eq_true rfl) n ?_
      simp -implicitDefEqProofs only [df_slClInt, SS, ↓reduceIte, Nat.reduceEqDiff, Nat.reduceAdd, eq_self, reduceCtorEq, Nat.reduceLeDiff, Nat.reduceSub, Nat.reduceMul, forall_const, implies_true, Int.reduceLE, Int.reduceLT, Int.reduceToNat, Int.reduceEq, Int.reduceBEq, Int.reduceBNe, Nat.reduceLT]
      exact ⟨_, rfl⟩
    · refine spec_body mixed Try.func34 tu_slClInt (Nat.le_of_ble_eq_true rfl) n ?_
      simp -implicitDefEqProofs only [df_slClInt, SS, ↓reduceIte, Nat.reduceEqDiff, Nat.reduceAdd, eq_self, reduceCtorEq, Nat.reduceLeDiff, Nat.reduceSub, Nat.reduceMul, forall_const, implies_true, Int.reduceLE, Int.reduceLT, Int.reduceToNat, Int.reduceEq, Int.reduceBEq, Int.reduceBNe, Nat.reduceLT, appD_z_nil rowsOf_e]
      exact ⟨_, rfl⟩
  | cons r rows =>
    refine spec_body mixed Try.func34 tu_slClInt (Nat.le_of_ble_eq_true rfl) n ?_
    have happ := appD_z (H := H) (n := 7 :: n) (E := 1) (bytes := 8) (b := false) (rowsOf_s (r :: rows)) (by simp) (by omega) (by omega)
    simp -implicitDefEqProofs only [df_slClInt, SS, ↓reduceIte, Nat.reduceEqDiff, Nat.reduceAdd, eq_self, reduceCtorEq, Nat.reduceLeDiff, Nat.reduceSub, Nat.reduceMul, forall_const, implies_true, Int.reduceLE, Int.reduceLT, Int.reduceToNat, Int.reduceEq, Int.reduceBEq, Int.reduceBNe, Nat.reduceLT, happ]
    exact ⟨by simp [cl], by simp [clE, Eff.apply]⟩
theorem e_slClInt (n : Path) (H : Heap) (rows : List (List DV)) (hl : rows.length ≤ 1000000) : ECall Try.prog 34 [.s 1 rows] [] H (cl (7 :: n) H rows) (clE (7 :: n) 1 H rows) := by
  refine .of_exact (fun H1 _ h2 => (h_slClInt n H1 rows hl).mono (fun e H' h => ?_))
  by_cases hr : rows = []
  · simp only [cl, clE, hr, if_true] at h ⊢
    exact h
  · have : H1 (7 :: n) = H (7 :: n) := h2 (.ww (7 :: n)) (by simp [clE, hr, Eff.acc])
    simp only [cl, clE, hr, if_false, this] at h ⊢
    exact h

end Go.Proofs.Ytjbcgjgomhbmgaa

/-  Pens in memory of their own; a frame laid. -/
namespace Go.Proofs.Ytjbcgjgomhbmgaa
open Go.RowKit
set_option linter.unusedVariables false
set_option linter.unusedSimpArgs false

def df_penClone : DF := (.mk 12 (.seq (.reg [(.mk (some 1) none (.op (.box (.t 0)))), (.mk (some 2) none (.op (.box (.c (.g [(.z true), (.z true), (.x (.int .i64 0))])))))]) (.seq (.drw [((.mk (some 3) none (.op (.fad 0 (.t 1)))), []), ((.mk (some 4) none (.op (.load 1 false (.t 3)))), [0]), ((.mk (some 5) none (.call 33 [(.t 4)])), [1]), ((.mk (some 6) none (.op (.fad 1 (.t 1)))), []), ((.mk (some 7) none (.op (.load 1 false (.t 6)))), [3]), ((.mk (some 8) none (.call 34 [(.t 7)])), [1, 2, 4]), ((.mk (some 9) none (.op (.fad 0 (.t 1)))), []), ((.mk none none (.op (.store 1 (.t 9) (.t 5)))), [1, 2, 4, 5, 6]), ((.mk (some 10) none (.op (.fad 1 (.t 1)))), []), ((.mk none none (.op (.store 1 (.t 10) (.t 8)))), [1, 2, 4, 5, 7, 8])]) (.seq (.reg [(.mk (some 11) none (.op (.load 3 true (.t 1)))), (.mk none none (.op (.store 3 (.t 2) (.t 11))))]) .ret))) [(.cell 2 3 true)])
theorem tu_penClone : turnF Try.prog Try.f20 = some df_penClone := by kernel_rfl

theorem ca_penClone : callable Try.prog 20 = true := by kernel_rfl
theorem h_penClone (n : Path) (H : Heap) (p : Pen) (hc : p.cells.length ≤ 1000000) (hf : p.free.length ≤ 1000000) :
    SpecH Try.prog 20 [.g p.row] H fun e H' => ∃ dc df, e = .ret (.g [dc, df, int p.most]) ∧ Grow (7 :: 5 :: n) 18 (p.cells.map Cell.row) dc H' ∧ Grow (7 :: 8 :: n) 1 (p.free.map irow) df H' ∧ ∀ m, m.length ≤ n.length → H' m = H m := by
  refine spec_body mixed Try.func20 tu_penClone (Nat.le_of_ble_eq_true rfl) n ?_
  simp -implicitDefEqProofs only [df_penClone, SS, ↓reduceIte, Nat.reduceEqDiff, Nat.reduceAdd, eq_self, reduceCtorEq, Nat.reduceLeDiff, Nat.reduceSub, Nat.reduceMul, forall_const, implies_true, Int.reduceLE, Int.reduceLT, Int.reduceToNat, Int.reduceEq, Int.reduceBEq, Int.reduceBNe, Nat.reduceLT, EE]
  refine callL_cl ca_slClCell (e_slClCell (5 :: n) _ _ (by simpa using hc)) ?_ (fun acs dc H2 has hg1 hk1 => ?_)
  · simp -implicitDefEqProofs only [SS, ↓reduceIte, Nat.reduceEqDiff, Nat.reduceAdd, eq_self, reduceCtorEq, Nat.reduceLeDiff, Nat.reduceSub, Nat.reduceMul, forall_const, implies_true, Int.reduceLE, Int.reduceLT, Int.reduceToNat, Int.reduceEq, Int.reduceBEq, Int.reduceBNe, Nat.reduceLT]
    try simp
  have k1 := hk1 (1 :: n) (by simp)
  have k2 := hk1 (2 :: n) (by simp)
  simp -implicitDefEqProofs only [SS, ↓reduceIte, Nat.reduceEqDiff, Nat.reduceAdd, eq_self, reduceCtorEq, Nat.reduceLeDiff, Nat.reduceSub, Nat.reduceMul, forall_const, implies_true, Int.reduceLE, Int.reduceLT, Int.reduceToNat, Int.reduceEq, Int.reduceBEq, Int.reduceBNe, Nat.reduceLT] at k1 k2
  rcases has with rfl | rfl
  all_goals
    simp -implicitDefEqProofs only [SS, ↓reduceIte, Nat.reduceEqDiff, Nat.reduceAdd, eq_self, reduceCtorEq, Nat.reduceLeDiff, Nat.reduceSub, Nat.reduceMul, forall_const, implies_true, Int.reduceLE, Int.reduceLT, Int.reduceToNat, Int.reduceEq, Int.reduceBEq, Int.reduceBNe, Nat.reduceLT, EE, k1, k2]
    refine callL_cl ca_slClInt (e_slClInt (8 :: n) _ _ (by simpa using hf)) ?_ (fun acs df H3 has hg2 hk2 => ?_)
    · simp -implicitDefEqProofs only [SS, ↓reduceIte, Nat.reduceEqDiff, Nat.reduceAdd, eq_self, reduceCtorEq, Nat.reduceLeDiff, Nat.reduceSub, Nat.reduceMul, forall_const, implies_true, Int.reduceLE, Int.reduceLT, Int.reduceToNat, Int.reduceEq, Int.reduceBEq, Int.reduceBNe, Nat.reduceLT]
      try simp
    have j1 := hk2 (1 :: n) (by simp)
    have j2 := hk2 (2 :: n) (by simp)
    rw [k1] at j1
    rw [k2] at j2
    have o1 := hg1.one
    have o2 := hg2.one
    have c1 := cellsOf_of_one o1
    have c2 := cellsOf_of_one o2
    rcases has with rfl | rfl
    all_goals
      simp -implicitDefEqProofs only [SS, ↓reduceIte, Nat.reduceEqDiff, Nat.reduceAdd, eq_self, reduceCtorEq, Nat.reduceLeDiff, Nat.reduceSub, Nat.reduceMul, forall_const, implies_true, Int.reduceLE, Int.reduceLT, Int.reduceToNat, Int.reduceEq, Int.reduceBEq, Int.reduceBNe, Nat.reduceLT, EE, j1, j2, o1, o2, c1, c2]
      try simp
      refine ⟨dc, df, ⟨rfl, rfl⟩, hg1.same (by simp [set_at, hk2]), hg2.same (by simp [set_at]), fun m hm => ?_⟩
      have q : ∀ x : Path, n.length < x.length → m ≠ x := fun x hx e => by subst e; omega
      simp [q (1 :: n) (by simp), q (2 :: n) (by simp), hk2 m (q _ (by simp only [List.length_cons]; omega)), hk1 m (q _ (by simp only [List.length_cons]; omega)), set_at]

theorem sortI_mem (l : List Int) (x : Int) : x ∈ sortI l ↔ x ∈ l := List.mem_mergeSort
theorem mem_unused {l : List Cell} {k : Nat} {x : Int} (h : x ∈ unused l k) : (k : Int) ≤ x ∧ x.toNat < k + l.length ∧ ∃ c, l[x.toNat - k]? = some c ∧ c.used = false := by
  induction l generalizing k with
  | nil => simp [unused] at h
  | cons c l ih =>
    have go : x ∈ unused l (k + 1) → (k : Int) ≤ x ∧ x.toNat < k + (c :: l).length ∧ ∃ c', (c :: l)[x.toNat - k]? = some c' ∧ c'.used = false := by
      intro h
      obtain ⟨h1, h2, c', h3, h4⟩ := ih h
      refine ⟨by omega, by simp; omega, c', ?_, h4⟩
      have : x.toNat - k = (x.toNat - (k + 1)) + 1 := by omega
      rw [this, List.getElem?_cons_succ]
      exact h3
    simp only [unused] at h
    split at h
    · exact go h
    · rename_i hu
      rcases List.mem_cons.1 h with rfl | h
      · exact ⟨by omega, by simp, c, by simp, by simpa using hu⟩
      · exact go h
theorem Pen.may_free {p : Pen} (h : p.may = true) {x : Int} (hx : x ∈ p.free) : 0 ≤ x ∧ x.toNat < p.cells.length ∧ ∃ c, p.cells[x.toNat]? = some c ∧ c.used = false := by
  rw [Pen.may_eq] at h
  simp only [Bool.and_eq_true, decide_eq_true_eq] at h
  have : x ∈ unused p.cells 0 := by rw [h.2, sortI_mem]; exact hx
  simpa using mem_unused this

/-- What laying a frame comes to. -/
def Pen.lay (p : Pen) (f : Frame) : Pen × Ref × Int :=
  if p.may then
    match p.free.getLast? with
    | none => if (p.cells.length : Int) = p.most then (p, ⟨0, 0⟩, 120) else ({ p with cells := p.cells ++ [⟨0, true, f⟩] }, ⟨p.cells.length, 0⟩, 0)
    | some x => match p.cells[x.toNat]? with
      | some c => ({ p with cells := p.cells.set x.toNat ⟨c.gen, true, f⟩, free := p.free.dropLast }, ⟨x, c.gen⟩, 0)
      | none => (p, ⟨0, 0⟩, 0)
  else (p, ⟨0, 0⟩, 1)

def df_penLay : DF := (.mk 75 (.seq (.reg [(.mk (some 2) none (.op (.box (.t 0)))), (.mk (some 3) none (.op (.box (.t 1)))), (.mk (some 4) none (.op (.box (.c (.g [(.z true), (.z true), (.x (.int .i64 0))]))))), (.mk (some 5) none (.op (.box (.c (.g [(.x (.int .i64 0)), (.x (.int .i64 0))]))))), (.mk (some 6) none (.op (.mv (.c (.x (.int .i64 0))))))]) (.seq (.reg [(.mk (some 10) none (.op (.fad 1 (.t 2)))), (.mk (some 11) none (.op (.load 1 false (.t 10)))), (.mk (some 12) none (.op (.len (.t 11)))), (.mk (some 7) none (.op (.mv (.t 12))))]) (.seq (.block 0 (.seq (.reg [(.mk (some 14) none (.op (.load 3 true (.t 2)))), (.mk (some 15) none (.call 17 [(.t 14)])), (.mk (some 16) none (.op (.un .not (.t 15)))), (.mk (some 13) none (.op (.mv (.t 16))))]) (.cond (.t 13) (.seq (.reg [(.mk (some 17) none (.op (.load 3 true (.t 2)))), (.mk (some 18) none (.op (.build [(.x (.int .i64 0)), (.x (.int .i64 0))] []))), (.mk none none (.op (.store 3 (.t 4) (.t 17)))), (.mk none none (.op (.store 2 (.t 5) (.t 18)))), (.mk (some 6) none (.op (.mv (.c (.x (.int .i64 1))))))]) .ret) (.seq (.reg [(.mk (some 20) none (.op (.mv (.t 7)))), (.mk (some 21) none (.op (.bin .eql (.t 20) (.c (.x (.int .i64 0)))))), (.mk (some 22) none (.op (.mv (.t 21)))), (.mk (some 23) (some (22, true)) (.op (.fad 0 (.t 2)))), (.mk (some 24) (some (22, true)) (.op (.load 1 false (.t 23)))), (.mk (some 25) (some (22, true)) (.op (.len (.t 24)))), (.mk (some 26) (some (22, true)) (.op (.fad 2 (.t 2)))), (.mk (some 27) (some (22, true)) (.op (.load 1 false (.t 26)))), (.mk (some 28) (some (22, true)) (.op (.bin .eql (.t 25) (.t 27)))), (.mk (some 29) none (.op (.pick (.t 22) (.t 28) (.c (.x (.bool false)))))), (.mk (some 19) none (.op (.mv (.t 29))))]) (.cond (.t 19) (.seq (.reg [(.mk (some 30) none (.op (.load 3 true (.t 2)))), (.mk (some 31) none (.op (.build [(.x (.int .i64 0)), (.x (.int .i64 0))] []))), (.mk none none (.op (.store 3 (.t 4) (.t 30)))), (.mk none none (.op (.store 2 (.t 5) (.t 31)))), (.mk (some 6) none (.op (.mv (.c (.x (.int .i64 120))))))]) .ret) .skip))))) (.seq (.reg [(.mk (some 32) none (.op (.load 3 true (.t 2)))), (.mk (some 33) none (.call 20 [(.t 32)])), (.mk none none (.op (.store 3 (.t 2) (.t 33))))]) (.seq (.reg [(.mk (some 34) none (.op (.fad 0 (.t 2)))), (.mk (some 35) none (.op (.load 1 false (.t 34)))), (.mk (some 36) none (.op (.len (.t 35)))), (.mk (some 8) none (.op (.mv (.t 36))))]) (.seq (.seq (.reg [(.mk (some 37) none (.op (.mv (.t 7)))), (.mk (some 38) none (.op (.bin .gtr (.t 37) (.c (.x (.int .i64 0))))))]) (.cond (.t 38) (.drw [((.mk (some 39) none (.op (.fad 1 (.t 2)))), []), ((.mk (some 40) none (.op (.load 1 false (.t 39)))), [0]), ((.mk (some 41) none (.op (.mv (.t 7)))), []), ((.mk (some 42) none (.op (.bin .sub (.t 41) (.c (.x (.int .i64 1)))))), [2]), ((.mk (some 43) none (.op (.iad 1 (.t 40) (.t 42)))), [1, 3]), ((.mk (some 44) none (.op (.load 1 false (.t 43)))), [1, 4]), ((.mk (some 45) none (.op (.fad 1 (.t 2)))), []), ((.mk (some 46) none (.op (.load 1 false (.t 45)))), [6]), ((.mk (some 47) none (.op (.mv (.t 7)))), []), ((.mk (some 48) none (.op (.bin .sub (.t 47) (.c (.x (.int .i64 1)))))), [8]), ((.mk (some 49) none (.op (.sli 1 (.t 46) none (some (.t 48))))), [7, 9]), ((.mk (some 8) none (.op (.mv (.t 44)))), [5]), ((.mk (some 50) none (.op (.fad 1 (.t 2)))), []), ((.mk none none (.op (.store 1 (.t 50) (.t 49)))), [1, 4, 5, 7, 10, 12])]) (.reg [(.mk (some 51) none (.op (.fad 0 (.t 2)))), (.mk (some 52) none (.op (.load 1 false (.t 51)))), (.mk (some 53) none (.op (.build [(.x (.int .i64 0)), (.x (.bool false)), (.x (.int .i64 0)), (.x (.int .i64 0)), (.z true), (.z true), (.z true), (.x (.int .i64 0)), (.x (.int .i64 0)), (.x (.int .i64 0)), (.x (.int .i64 0)), (.x (.int .i64 0)), (.x (.int .i64 0)), (.x (.int .i64 0)), (.x (.int .i64 0)), (.x (.int .i64 0)), (.x (.int .i64 0)), (.x (.int .i64 0))] []))), (.mk (some 54) none (.op (.bsl 18 1 [(.x (.int .i64 0)), (.x (.bool false)), (.x (.int .i64 0)), (.x (.int .i64 0)), (.z true), (.z true), (.z true), (.x (.int .i64 0)), (.x (.int .i64 0)), (.x (.int .i64 0)), (.x (.int .i64 0)), (.x (.int .i64 0)), (.x (.int .i64 0)), (.x (.int .i64 0)), (.x (.int .i64 0)), (.x (.int .i64 0)), (.x (.int .i64 0)), (.x (.int .i64 0))] [(0, (18, (.t 53)))]))), (.mk (some 55) none (.op (.app 18 192 (.t 52) (.t 54)))), (.mk (some 56) none (.op (.fad 0 (.t 2)))), (.mk none none (.op (.store 1 (.t 56) (.t 55))))]))) (.seq (.reg [(.mk (some 57) none (.op (.fad 0 (.t 2)))), (.mk (some 58) none (.op (.load 1 false (.t 57)))), (.mk (some 59) none (.op (.mv (.t 8)))), (.mk (some 60) none (.op (.iad 18 (.t 58) (.t 59)))), (.mk (some 9) none (.op (.mv (.t 60))))]) (.seq (.drw [((.mk (some 61) none (.op (.mv (.t 9)))), []), ((.mk (some 62) none (.op (.mv (.t 9)))), []), ((.mk (some 63) none (.op (.load 16 true (.t 3)))), []), ((.mk (some 64) none (.op (.nck (.t 61)))), [0]), ((.mk (some 65) none (.op (.fad 1 (.t 64)))), [3]), ((.mk none none (.op (.store 1 (.t 65) (.c (.x (.bool true)))))), [4]), ((.mk (some 66) none (.op (.nck (.t 62)))), [1]), ((.mk (some 67) none (.op (.fad 2 (.t 66)))), [6]), ((.mk none none (.op (.store 16 (.t 67) (.t 63)))), [2, 5, 7])]) (.seq (.drw [((.mk (some 68) none (.op (.load 3 true (.t 2)))), []), ((.mk (some 69) none (.op (.mv (.t 8)))), []), ((.mk (some 70) none (.op (.mv (.t 9)))), []), ((.mk (some 71) none (.op (.nck (.t 70)))), [2]), ((.mk (some 72) none (.op (.fad 0 (.t 71)))), [3]), ((.mk (some 73) none (.op (.load 1 false (.t 72)))), [4]), ((.mk (some 74) none (.op (.build [(.x (.int .i64 0)), (.x (.int .i64 0))] [(0, (1, (.t 69))), (1, (1, (.t 73)))]))), [1, 5]), ((.mk none none (.op (.store 3 (.t 4) (.t 68)))), [0]), ((.mk none none (.op (.store 2 (.t 5) (.t 74)))), [0, 5, 6, 7]), ((.mk (some 6) none (.op (.mv (.c (.x (.int .i64 0)))))), [])]) .ret))))))))) [(.cell 4 3 true), (.cell 5 2 true), (.tmp 6)])
theorem tu_penLay : turnF Try.prog Try.f8 = some df_penLay := by kernel_rfl

theorem ca_penLay : callable Try.prog 8 = true := by kernel_rfl
theorem s_penLay (hS : SortedSpec) (p : Pen) (f : Frame) (hf : p.free.length ≤ 100000) (hc : p.cells.length ≤ 100000) : SpecP Try.prog 8 [.g p.row, .g f.row] (.t [.g (p.lay f).1.row, .g (p.lay f).2.1.row, int (p.lay f).2.2]) := by
  refine .body mixed Try.func8 tu_penLay (Nat.le_of_ble_eq_true rfl) ?_
  simp -implicitDefEqProofs only [df_penLay, SS, ↓reduceIte, Nat.reduceEqDiff, Nat.reduceAdd, eq_self, reduceCtorEq, Nat.reduceLeDiff, Nat.reduceSub, Nat.reduceMul, forall_const, implies_true, Int.reduceLE, Int.reduceLT, Int.reduceToNat, Int.reduceEq, Int.reduceBEq, Int.reduceBNe, Nat.reduceLT, EE]
  refine ⟨ca_penMay, SpecH.of_pure (s_penMay hS p (by omega)) L2.refl rfl ?_⟩
  simp -implicitDefEqProofs only [SS, ↓reduceIte, Nat.reduceEqDiff, Nat.reduceAdd, eq_self, reduceCtorEq, Nat.reduceLeDiff, Nat.reduceSub, Nat.reduceMul, forall_const, implies_true, Int.reduceLE, Int.reduceLT, Int.reduceToNat, Int.reduceEq, Int.reduceBEq, Int.reduceBNe, Nat.reduceLT]
  cases hm : p.may
  · simp -implicitDefEqProofs only [SS, ↓reduceIte, Nat.reduceEqDiff, Nat.reduceAdd, eq_self, reduceCtorEq, Nat.reduceLeDiff, Nat.reduceSub, Nat.reduceMul, forall_const, implies_true, Int.reduceLE, Int.reduceLT, Int.reduceToNat, Int.reduceEq, Int.reduceBEq, Int.reduceBNe, Nat.reduceLT]
    simp [pureQ, frq, refs, refsL, L2, LL2, EE, Pen.lay, hm]
  simp -implicitDefEqProofs only [SS, ↓reduceIte, Nat.reduceEqDiff, Nat.reduceAdd, eq_self, reduceCtorEq, Nat.reduceLeDiff, Nat.reduceSub, Nat.reduceMul, forall_const, implies_true, Int.reduceLE, Int.reduceLT, Int.reduceToNat, Int.reduceEq, Int.reduceBEq, Int.reduceBNe, Nat.reduceLT]
  have b1 : p.cells.length ≤ 1000000 := by omega
  have b2 : p.free.length ≤ 1000000 := by omega
  rcases List.eq_nil_or_concat p.free with hfr | ⟨l, x, hfr⟩
  · have hlast : p.free.getLast? = none := by simp [hfr]
    have g1 : ((p.free.length : Int) == 0) = true := by simp [hfr]
    simp -implicitDefEqProofs only [SS, ↓reduceIte, Nat.reduceEqDiff, Nat.reduceAdd, eq_self, reduceCtorEq, Nat.reduceLeDiff, Nat.reduceSub, Nat.reduceMul, forall_const, implies_true, Int.reduceLE, Int.reduceLT, Int.reduceToNat, Int.reduceEq, Int.reduceBEq, Int.reduceBNe, Nat.reduceLT, EE, g1]
    cases hfull : ((p.cells.length : Int) == p.most)
    rotate_left
    · have hfull' : (p.cells.length : Int) = p.most := by simpa using hfull
      simp -implicitDefEqProofs only [SS, ↓reduceIte, Nat.reduceEqDiff, Nat.reduceAdd, eq_self, reduceCtorEq, Nat.reduceLeDiff, Nat.reduceSub, Nat.reduceMul, forall_const, implies_true, Int.reduceLE, Int.reduceLT, Int.reduceToNat, Int.reduceEq, Int.reduceBEq, Int.reduceBNe, Nat.reduceLT, EE]
      simp [pureQ, frq, refs, refsL, L2, LL2, EE, Pen.lay, hm, hlast, hfull']
    have hfull' : ¬ (p.cells.length : Int) = p.most := by simpa using hfull
    simp -implicitDefEqProofs only [SS, ↓reduceIte, Nat.reduceEqDiff, Nat.reduceAdd, eq_self, reduceCtorEq, Nat.reduceLeDiff, Nat.reduceSub, Nat.reduceMul, forall_const, implies_true, Int.reduceLE, Int.reduceLT, Int.reduceToNat, Int.reduceEq, Int.reduceBEq, Int.reduceBNe, Nat.reduceLT, EE]
    refine ⟨ca_penClone, (h_penClone [33] _ p b1 b2).mono ?_⟩
    rintro e H' ⟨dc, df, rfl, hgc, hgf, hk⟩
    have k2 := hk [2] (by simp)
    have k3 := hk [3] (by simp)
    have k4 := hk [4] (by simp)
    have k5 := hk [5] (by simp)
    clear hk
    simp -implicitDefEqProofs only [SS, ↓reduceIte, Nat.reduceEqDiff, Nat.reduceAdd, eq_self, reduceCtorEq, Nat.reduceLeDiff, Nat.reduceSub, Nat.reduceMul, forall_const, implies_true, Int.reduceLE, Int.reduceLT, Int.reduceToNat, Int.reduceEq, Int.reduceBEq, Int.reduceBNe, Nat.reduceLT] at k2 k3 k4 k5
    have o1 := hgc.one
    have c1 := cellsOf_of_one o1
    have hlen := hgc.len
    rcases hgf with ⟨_, b, rfl⟩ | ⟨u, hne, _⟩
    rotate_left
    · simp [hfr] at hne
    have g2 : decide ((0 : Int) < p.free.length) = false := by simp [hfr]
    simp -implicitDefEqProofs only [SS, ↓reduceIte, Nat.reduceEqDiff, Nat.reduceAdd, eq_self, reduceCtorEq, Nat.reduceLeDiff, Nat.reduceSub, Nat.reduceMul, forall_const, implies_true, Int.reduceLE, Int.reduceLT, Int.reduceToNat, Int.reduceEq, Int.reduceBEq, Int.reduceBNe, Nat.reduceLT, EE, k2, k3, k4, k5, o1, c1, hlen, g2]
    refine aftI_appAny hgc (by simp [set_at]) (rowsOf_own (by simp [set_at]; rfl) rfl) (by simp) (by simp; omega) (by simp; omega) (fun m2 v2 H2 hm2 hv2 hk2 => ?_)
    have n2 : ([2] : Path) ≠ m2 := by rcases hm2 with rfl | rfl <;> simp
    have n3 : ([3] : Path) ≠ m2 := by rcases hm2 with rfl | rfl <;> simp
    have n4 : ([4] : Path) ≠ m2 := by rcases hm2 with rfl | rfl <;> simp
    have n5 : ([5] : Path) ≠ m2 := by rcases hm2 with rfl | rfl <;> simp
    have l2 := hk2 [2] n2
    have l3 := hk2 [3] n3
    have l4 := hk2 [4] n4
    have l5 := hk2 [5] n5
    clear hk2
    simp -implicitDefEqProofs only [SS, ↓reduceIte, Nat.reduceEqDiff, Nat.reduceAdd, eq_self, reduceCtorEq, Nat.reduceLeDiff, Nat.reduceSub, Nat.reduceMul, forall_const, implies_true, Int.reduceLE, Int.reduceLT, Int.reduceToNat, Int.reduceEq, Int.reduceBEq, Int.reduceBNe, Nat.reduceLT, k3, k4, k5] at l2 l3 l4 l5
    simp only [List.length_map, List.length_cons, List.length_nil, Nat.zero_add] at hv2 ⊢
    have g3 : (0 : Int) ≤ (p.cells.length : Int) := by omega
    have g4 : (p.cells.length : Int) < ((p.cells.length + 1 : Nat) : Int) := by omega
    have hz : ∀ z, (p.cells.map Cell.row ++ [z])[p.cells.length]? = some z := by intro z; rw [List.getElem?_append_right (by simp)]; simp
    have hs : ∀ z r, (p.cells.map Cell.row ++ [z]).set p.cells.length r = p.cells.map Cell.row ++ [r] := by intro z r; rw [List.set_append_right _ _ (by simp)]; simp
    have hl1 : (p.cells.map Cell.row ++ [(default : List DV)]).length = p.cells.length + 1 := by simp
    have n2' := n2.symm
    have n3' := n3.symm
    have n4' := n4.symm
    have n5' := n5.symm
    simp -implicitDefEqProofs only [SS, ↓reduceIte, Nat.reduceEqDiff, Nat.reduceAdd, eq_self, reduceCtorEq, Nat.reduceLeDiff, Nat.reduceSub, Nat.reduceMul, forall_const, implies_true, Int.reduceLE, Int.reduceLT, Int.reduceToNat, Int.reduceEq, Int.reduceBEq, Int.reduceBNe, Nat.reduceLT, EE, l2, l3, l4, l5, hv2, n2, n3, n4, n5, n2', n3', n4', n5', g3, g4, hz, hs, List.length_append]
    have elay : p.lay f = ({ p with cells := p.cells ++ [⟨0, true, f⟩] }, ⟨p.cells.length, 0⟩, 0) := by simp [Pen.lay, hm, hlast, hfull']
    rw [elay]
    refine ⟨.inr ⟨.inr ⟨frq_own (by simp [set_at, n4', n5']; rfl) (by simp) ?_ (rows_refs Cell.row_refs _), .inr (by simp [hfr]), frq.refl, trivial⟩, frq.refl, frq.refl, trivial⟩, rfl⟩
    rw [List.drop_zero, List.take_of_length_le (by simp), List.map_append]; rfl
  · have hlast : p.free.getLast? = some x := by simp [hfr]
    have hpos : 0 < p.free.length := by simp [hfr]
    obtain ⟨x0, xl, c, hget, hun⟩ := Pen.may_free hm (x := x) (by simp [hfr])
    have g1 : ((p.free.length : Int) == 0) = false := by rw [beq_eq_false_iff_ne]; omega
    simp -implicitDefEqProofs only [SS, ↓reduceIte, Nat.reduceEqDiff, Nat.reduceAdd, eq_self, reduceCtorEq, Nat.reduceLeDiff, Nat.reduceSub, Nat.reduceMul, forall_const, implies_true, Int.reduceLE, Int.reduceLT, Int.reduceToNat, Int.reduceEq, Int.reduceBEq, Int.reduceBNe, Nat.reduceLT, EE, g1]
    refine ⟨ca_penClone, (h_penClone [33] _ p b1 b2).mono ?_⟩
    rintro e H' ⟨dc, df, rfl, hgc, hgf, hk⟩
    have k2 := hk [2] (by simp)
    have k3 := hk [3] (by simp)
    have k4 := hk [4] (by simp)
    have k5 := hk [5] (by simp)
    clear hk
    simp -implicitDefEqProofs only [SS, ↓reduceIte, Nat.reduceEqDiff, Nat.reduceAdd, eq_self, reduceCtorEq, Nat.reduceLeDiff, Nat.reduceSub, Nat.reduceMul, forall_const, implies_true, Int.reduceLE, Int.reduceLT, Int.reduceToNat, Int.reduceEq, Int.reduceBEq, Int.reduceBNe, Nat.reduceLT] at k2 k3 k4 k5
    rcases hgc with ⟨h, _⟩ | ⟨v, _, rfl, hv⟩
    · simp only [List.map_eq_nil_iff] at h
      rw [h] at xl; simp at xl
    rcases hgf with ⟨h, _⟩ | ⟨u, _, rfl, hu⟩
    · simp only [List.map_eq_nil_iff] at h
      rw [h] at hpos; simp at hpos
    have g2 : decide ((0 : Int) < p.free.length) = true := by simp; omega
    have g3 : w64 ((p.free.length : Int) - 1) = (p.free.length : Int) - 1 := w64_in (by omega)
    have g4 : (0 : Int) ≤ (p.free.length : Int) - 1 := by omega
    have g5 : (p.free.length : Int) - 1 < p.free.length := by omega
    have g6 : ((p.free.length : Int) - 1).toNat = p.free.length - 1 := by omega
    have g7 : p.free[p.free.length - 1]? = some x := by rw [← hlast, List.getLast?_eq_getElem?]
    have g8 : (p.free.length : Int) - 1 ≤ p.free.length := by omega
    have g9 : x < (p.cells.length : Int) := by omega
    have hset : ∀ r, ((p.cells.map Cell.row).set x.toNat r)[x.toNat]? = some r := fun r => by simp [xl]
    simp -implicitDefEqProofs only [SS, ↓reduceIte, Nat.reduceEqDiff, Nat.reduceAdd, eq_self, reduceCtorEq, Nat.reduceLeDiff, Nat.reduceSub, Nat.reduceMul, forall_const, implies_true, Int.reduceLE, Int.reduceLT, Int.reduceToNat, Int.reduceEq, Int.reduceBEq, Int.reduceBNe, Nat.reduceLT, EE, k2, k3, k4, k5, hv, hu, g2, g3, g4, g5, g6, g7, g8, g9, x0, hget, hset, List.set_set, Int.sub_zero, Int.toNat_zero]
    have elay : p.lay f = ({ p with cells := p.cells.set x.toNat ⟨c.gen, true, f⟩, free := p.free.dropLast }, ⟨x, c.gen⟩, 0) := by simp [Pen.lay, hm, hlast, hget]
    rw [elay]
    refine ⟨.inr ⟨.inr ⟨frq_own (by simp [set_at]; rfl) (by simp) ?_ ?_, frq_own (by simp [set_at]; exact hu) (by simp) ?_ ?_, frq.refl, trivial⟩, frq.refl, frq.refl, trivial⟩, rfl⟩
    · rw [List.drop_zero, List.take_of_length_le (by simp), List.map_set]; rfl
    · exact rows_refs Cell.row_refs _
    · rw [List.drop_zero, ← List.map_take, List.dropLast_eq_take]
    · exact rows_refs irow_refs _

end Go.Proofs.Ytjbcgjgomhbmgaa

/-  Pens: a frame dropped, and set. -/
namespace Go.Proofs.Ytjbcgjgomhbmgaa
open Go.RowKit
set_option linter.unusedVariables false
set_option linter.unusedSimpArgs false

def Pen.drop (p : Pen) (r : Ref) : Pen × Int :=
  if p.may then
    if p.held r then ({ p with cells := p.cells.set r.at'.toNat ⟨(r.gen + 1) % 4294967296, false, zeroFrame⟩, free := p.free ++ [r.at'] }, 0) else (p, 121)
  else (p, 1)
def Pen.set (p : Pen) (r : Ref) (f : Frame) : Pen × Int :=
  if p.may then
    if p.held r then ({ p with cells := p.cells.set r.at'.toNat ⟨r.gen, true, f⟩ }, 0) else (p, 121)
  else (p, 1)

theorem Pen.may_gen {p : Pen} (h : p.may = true) {i : Nat} {c : Cell} (hc : p.cells[i]? = some c) : 0 ≤ c.gen ∧ c.gen ≤ 4294967295 := by
  rw [Pen.may_eq] at h
  simp only [Bool.and_eq_true, List.all_eq_true] at h
  have := h.1.2 c (List.mem_of_getElem? hc)
  simpa [genOk] using this

def df_penChange : DF := (.mk 29 (.seq (.reg [(.mk (some 3) none (.op (.box (.t 0)))), (.mk (some 4) none (.op (.box (.t 1)))), (.mk (some 6) none (.op (.box (.c (.g [(.z true), (.z true), (.x (.int .i64 0))]))))), (.mk (some 7) none (.op (.mv (.c (.x (.int .i64 0))))))]) (.seq (.block 0 (.seq (.reg [(.mk (some 9) none (.op (.load 3 true (.t 3)))), (.mk (some 10) none (.call 17 [(.t 9)])), (.mk (some 11) none (.op (.un .not (.t 10)))), (.mk (some 8) none (.op (.mv (.t 11))))]) (.cond (.t 8) (.seq (.reg [(.mk (some 12) none (.op (.load 3 true (.t 3)))), (.mk none none (.op (.store 3 (.t 6) (.t 12)))), (.mk (some 7) none (.op (.mv (.c (.x (.int .i64 1))))))]) .ret) (.seq (.reg [(.mk (some 14) none (.op (.load 3 true (.t 3)))), (.mk (some 15) none (.op (.load 2 true (.t 4)))), (.mk (some 16) none (.call 21 [(.t 14), (.t 15)])), (.mk (some 17) none (.op (.un .not (.t 16)))), (.mk (some 13) none (.op (.mv (.t 17))))]) (.cond (.t 13) (.seq (.reg [(.mk (some 18) none (.op (.load 3 true (.t 3)))), (.mk none none (.op (.store 3 (.t 6) (.t 18)))), (.mk (some 7) none (.op (.mv (.c (.x (.int .i64 121))))))]) .ret) .skip))))) (.seq (.reg [(.mk (some 19) none (.op (.load 3 true (.t 3)))), (.mk (some 20) none (.call 20 [(.t 19)])), (.mk none none (.op (.store 3 (.t 3) (.t 20))))]) (.seq (.reg [(.mk (some 21) none (.op (.mv (.t 2)))), (.mk (some 22) none (.op (.fad 0 (.t 3)))), (.mk (some 23) none (.op (.load 1 false (.t 22)))), (.mk (some 24) none (.op (.fad 0 (.t 4)))), (.mk (some 25) none (.op (.load 1 false (.t 24)))), (.mk (some 26) none (.op (.iad 18 (.t 23) (.t 25)))), (.mk (some 27) none (.callv (.t 21) [(.t 3), (.t 26)]))]) (.seq (.reg [(.mk (some 28) none (.op (.load 3 true (.t 3)))), (.mk none none (.op (.store 3 (.t 6) (.t 28)))), (.mk (some 7) none (.op (.mv (.c (.x (.int .i64 0))))))]) .ret))))) [(.cell 6 3 true), (.tmp 7)])
theorem tu_penChange : turnF Try.prog Try.f23 = some df_penChange := by kernel_rfl

def df_penDrop1 : DF := (.mk 25 (.seq (.reg [(.mk (some 5) none (.op (.mv (.t 1)))), (.mk (some 6) none (.op (.mv (.t 1)))), (.mk (some 7) none (.op (.nck (.t 6)))), (.mk (some 8) none (.op (.fad 0 (.t 7)))), (.mk (some 9) none (.op (.load 1 false (.t 8)))), (.mk (some 10) none (.op (.bin .add (.t 9) (.c (.x (.int .i64 1)))))), (.mk (some 11) none (.op (.bin .and (.t 10) (.c (.x (.int .i64 4294967295)))))), (.mk (some 12) none (.op (.build [(.x (.int .i64 0)), (.x (.bool false)), (.x (.int .i64 0)), (.x (.int .i64 0)), (.z true), (.z true), (.z true), (.x (.int .i64 0)), (.x (.int .i64 0)), (.x (.int .i64 0)), (.x (.int .i64 0)), (.x (.int .i64 0)), (.x (.int .i64 0)), (.x (.int .i64 0)), (.x (.int .i64 0)), (.x (.int .i64 0)), (.x (.int .i64 0)), (.x (.int .i64 0))] [(0, (1, (.t 11)))]))), (.mk (some 13) none (.op (.nck (.t 5)))), (.mk none none (.op (.store 18 (.t 13) (.t 12))))]) (.drw [((.mk (some 14) none (.op (.mv (.t 0)))), []), ((.mk (some 15) none (.op (.mv (.t 0)))), []), ((.mk (some 16) none (.op (.nck (.t 15)))), [1]), ((.mk (some 17) none (.op (.fad 1 (.t 16)))), [2]), ((.mk (some 18) none (.op (.load 1 false (.t 17)))), [3]), ((.mk (some 19) none (.op (.fad 0 (.t 2)))), []), ((.mk (some 20) none (.op (.load 1 false (.t 19)))), [5]), ((.mk (some 21) none (.op (.bsl 1 1 [(.x (.int .i64 0))] [(0, (1, (.t 20)))]))), [6]), ((.mk (some 22) none (.op (.app 1 8 (.t 18) (.t 21)))), [4, 6, 7]), ((.mk (some 23) none (.op (.nck (.t 14)))), [0]), ((.mk (some 24) none (.op (.fad 1 (.t 23)))), [9]), ((.mk none none (.op (.store 1 (.t 24) (.t 22)))), [4, 6, 7, 8, 10])])) [])
theorem tu_penDrop1 : turnF Try.prog Try.f24 = some df_penDrop1 := by kernel_rfl

def df_penSet1 : DF := (.mk 9 (.reg [(.mk (some 5) none (.op (.mv (.t 1)))), (.mk (some 6) none (.op (.load 16 true (.t 2)))), (.mk (some 7) none (.op (.nck (.t 5)))), (.mk (some 8) none (.op (.fad 2 (.t 7)))), (.mk none none (.op (.store 16 (.t 8) (.t 6))))]) [])
theorem tu_penSet1 : turnF Try.prog Try.f26 = some df_penSet1 := by kernel_rfl

theorem ca_penChange : callable Try.prog 23 = true := by kernel_rfl
theorem ca_penDrop1 : callable Try.prog 24 = true := by kernel_rfl
theorem ca_penSet1 : callable Try.prog 26 = true := by kernel_rfl
theorem s_penChangeDrop (hS : SortedSpec) (p : Pen) (r : Ref) (hf : p.free.length ≤ 100000) (hc : p.cells.length ≤ 100000) :
    SpecP Try.prog 23 [.g p.row, .g r.row, .f (.func 24) [] [.q r.row 0]] (.t [.g (p.drop r).1.row, int (p.drop r).2]) := by
  refine .body mixed Try.func23 tu_penChange (Nat.le_of_ble_eq_true rfl) ?_
  have b1 : p.cells.length ≤ 1000000 := by omega
  have b2 : p.free.length ≤ 1000000 := by omega
  simp -implicitDefEqProofs only [df_penChange, SS, ↓reduceIte, Nat.reduceEqDiff, Nat.reduceAdd, eq_self, reduceCtorEq, Nat.reduceLeDiff, Nat.reduceSub, Nat.reduceMul, forall_const, implies_true, Int.reduceLE, Int.reduceLT, Int.reduceToNat, Int.reduceEq, Int.reduceBEq, Int.reduceBNe, Nat.reduceLT, EE]
  refine ⟨ca_penMay, SpecH.of_pure (s_penMay hS p b2) L2.refl rfl ?_⟩
  simp -implicitDefEqProofs only [SS, ↓reduceIte, Nat.reduceEqDiff, Nat.reduceAdd, eq_self, reduceCtorEq, Nat.reduceLeDiff, Nat.reduceSub, Nat.reduceMul, forall_const, implies_true, Int.reduceLE, Int.reduceLT, Int.reduceToNat, Int.reduceEq, Int.reduceBEq, Int.reduceBNe, Nat.reduceLT]
  cases hm : p.may
  · simp -implicitDefEqProofs only [SS, ↓reduceIte, Nat.reduceEqDiff, Nat.reduceAdd, eq_self, reduceCtorEq, Nat.reduceLeDiff, Nat.reduceSub, Nat.reduceMul, forall_const, implies_true, Int.reduceLE, Int.reduceLT, Int.reduceToNat, Int.reduceEq, Int.reduceBEq, Int.reduceBNe, Nat.reduceLT]
    simp [pureQ, frq, refs, refsL, L2, LL2, EE, Pen.drop, hm]
  simp -implicitDefEqProofs only [SS, ↓reduceIte, Nat.reduceEqDiff, Nat.reduceAdd, eq_self, reduceCtorEq, Nat.reduceLeDiff, Nat.reduceSub, Nat.reduceMul, forall_const, implies_true, Int.reduceLE, Int.reduceLT, Int.reduceToNat, Int.reduceEq, Int.reduceBEq, Int.reduceBNe, Nat.reduceLT]
  refine ⟨ca_penHeld, SpecH.of_pure (s_penHeld p r b1) L2.refl rfl ?_⟩
  simp -implicitDefEqProofs only [SS, ↓reduceIte, Nat.reduceEqDiff, Nat.reduceAdd, eq_self, reduceCtorEq, Nat.reduceLeDiff, Nat.reduceSub, Nat.reduceMul, forall_const, implies_true, Int.reduceLE, Int.reduceLT, Int.reduceToNat, Int.reduceEq, Int.reduceBEq, Int.reduceBNe, Nat.reduceLT]
  cases hh : p.held r
  · simp -implicitDefEqProofs only [SS, ↓reduceIte, Nat.reduceEqDiff, Nat.reduceAdd, eq_self, reduceCtorEq, Nat.reduceLeDiff, Nat.reduceSub, Nat.reduceMul, forall_const, implies_true, Int.reduceLE, Int.reduceLT, Int.reduceToNat, Int.reduceEq, Int.reduceBEq, Int.reduceBNe, Nat.reduceLT]
    simp [pureQ, frq, refs, refsL, L2, LL2, EE, Pen.drop, hm, hh]
  obtain ⟨x0, c, hget, hused, hgen⟩ := Pen.held_get hh
  have xl : r.at'.toNat < p.cells.length := (List.getElem?_eq_some_iff.1 hget).1
  obtain ⟨q1, q2⟩ := Pen.may_gen hm hget
  simp -implicitDefEqProofs only [SS, ↓reduceIte, Nat.reduceEqDiff, Nat.reduceAdd, eq_self, reduceCtorEq, Nat.reduceLeDiff, Nat.reduceSub, Nat.reduceMul, forall_const, implies_true, Int.reduceLE, Int.reduceLT, Int.reduceToNat, Int.reduceEq, Int.reduceBEq, Int.reduceBNe, Nat.reduceLT, EE]
  refine ⟨ca_penClone, (h_penClone [20] _ p b1 b2).mono ?_⟩
  rintro e H' ⟨dc, df, rfl, hgc, hgf, hk⟩
  have k3 := hk [3] (by simp)
  have k4 := hk [4] (by simp)
  have k6 := hk [6] (by simp)
  clear hk
  simp -implicitDefEqProofs only [SS, ↓reduceIte, Nat.reduceEqDiff, Nat.reduceAdd, eq_self, reduceCtorEq, Nat.reduceLeDiff, Nat.reduceSub, Nat.reduceMul, forall_const, implies_true, Int.reduceLE, Int.reduceLT, Int.reduceToNat, Int.reduceEq, Int.reduceBEq, Int.reduceBNe, Nat.reduceLT] at k3 k4 k6
  rcases hgc with ⟨h, _⟩ | ⟨v, _, rfl, hv⟩
  · simp only [List.map_eq_nil_iff] at h
    rw [h] at xl; simp at xl
  have o2 := hgf.one
  have c2 := cellsOf_of_one o2
  have g9 : r.at' < (p.cells.length : Int) := by omega
  simp -implicitDefEqProofs only [SS, ↓reduceIte, Nat.reduceEqDiff, Nat.reduceAdd, eq_self, reduceCtorEq, Nat.reduceLeDiff, Nat.reduceSub, Nat.reduceMul, forall_const, implies_true, Int.reduceLE, Int.reduceLT, Int.reduceToNat, Int.reduceEq, Int.reduceBEq, Int.reduceBNe, Nat.reduceLT, EE, k3, k4, k6, hv, o2, c2, g9, x0, hget]
  refine ⟨ca_penDrop1, spec_body mixed Try.func24 tu_penDrop1 (Nat.le_of_ble_eq_true rfl) [27] ?_⟩
  have hset : ∀ r', ((p.cells.map Cell.row).set r.at'.toNat r')[r.at'.toNat]? = some r' := fun r' => by simp [xl]
  have hb1 : (p.free.length + 1) * 8 ≤ 17592186044416 := by omega
  have hb2 : p.free.length + 1 ≤ 17592186044416 := by omega
  have e1 : and64 (w64 (c.gen + 1)) 4294967295 = (r.gen + 1) % 4294967296 := by rw [w64_in (by omega), and64_mask (by omega), hgen]
  have edrop : p.drop r = ({ p with cells := p.cells.set r.at'.toNat ⟨(r.gen + 1) % 4294967296, false, zeroFrame⟩, free := p.free ++ [r.at'] }, 0) := by simp [Pen.drop, hm, hh]
  rcases hgf with ⟨hfr, b, rfl⟩ | ⟨u, hne, rfl, hu⟩
  · simp -implicitDefEqProofs only [df_penDrop1, SS, ↓reduceIte, Nat.reduceEqDiff, Nat.reduceAdd, eq_self, reduceCtorEq, Nat.reduceLeDiff, Nat.reduceSub, Nat.reduceMul, forall_const, implies_true, Int.reduceLE, Int.reduceLT, Int.reduceToNat, Int.reduceEq, Int.reduceBEq, Int.reduceBNe, Nat.reduceLT, EE, k3, k4, k6, hv, g9, x0, hget, hset, List.set_set, e1, appD, rowsOf]
    rw [edrop]
    refine ⟨.inr ⟨.inr ⟨frq_all (by simp [set_at]; rfl) (by simp) ?_ (rows_refs Cell.row_refs _), frq_own (by simp [set_at]; rfl) (by simp) ?_ (rows_refs irow_refs _), frq.refl, trivial⟩, frq.refl, trivial⟩, rfl⟩
    · simp only [List.map_set]
      refine LL2_set ?_ _ _
      simp [L2, frq, Cell.row, Frame.row, zeroFrame]
    · have hfr' : p.free = [] := by simpa using hfr
      simp [hfr', irow]
  · simp -implicitDefEqProofs only [df_penDrop1, SS, ↓reduceIte, Nat.reduceEqDiff, Nat.reduceAdd, eq_self, reduceCtorEq, Nat.reduceLeDiff, Nat.reduceSub, Nat.reduceMul, forall_const, implies_true, Int.reduceLE, Int.reduceLT, Int.reduceToNat, Int.reduceEq, Int.reduceBEq, Int.reduceBNe, Nat.reduceLT, EE, k3, k4, k6, hv, hu, g9, x0, hget, hset, List.set_set, e1, appD, rowsOf, hb1, hb2]
    rw [edrop]
    refine ⟨.inr ⟨.inr ⟨frq_all (by simp [set_at]; rfl) (by simp) ?_ (rows_refs Cell.row_refs _), frq_own (by simp [set_at]; rfl) (by simp) ?_ (rows_refs irow_refs _), frq.refl, trivial⟩, frq.refl, trivial⟩, rfl⟩
    · simp only [List.map_set]
      refine LL2_set ?_ _ _
      simp [L2, frq, Cell.row, Frame.row, zeroFrame]
    · simp [List.take_of_length_le, irow]

end Go.Proofs.Ytjbcgjgomhbmgaa

/-  Pens: Drop and Set. -/
namespace Go.Proofs.Ytjbcgjgomhbmgaa
open Go.RowKit
set_option linter.unusedVariables false
set_option linter.unusedSimpArgs false

def df_penDrop : DF := (.mk 12 (.seq (.reg [(.mk (some 2) none (.op (.box (.t 0)))), (.mk (some 3) none (.op (.box (.t 1)))), (.mk (some 4) none (.op (.box (.c (.g [(.z true), (.z true), (.x (.int .i64 0))]))))), (.mk (some 5) none (.op (.mv (.c (.x (.int .i64 0))))))]) (.seq (.reg [(.mk (some 6) none (.op (.load 3 true (.t 2)))), (.mk (some 7) none (.op (.load 2 true (.t 3)))), (.mk (some 8) none (.op (.mkfn (.func 24) [] [(.t 3)]))), (.mk (some 9) none (.call 23 [(.t 6), (.t 7), (.t 8)])), (.mk (some 10) none (.op (.ext (.t 9) 0))), (.mk (some 11) none (.op (.ext (.t 9) 1))), (.mk none none (.op (.store 3 (.t 4) (.t 10)))), (.mk (some 5) none (.op (.mv (.t 11))))]) .ret)) [(.cell 4 3 true), (.tmp 5)])
theorem tu_penDrop : turnF Try.prog Try.f11 = some df_penDrop := by kernel_rfl

def df_penSet : DF := (.mk 14 (.seq (.reg [(.mk (some 3) none (.op (.box (.t 0)))), (.mk (some 4) none (.op (.box (.t 1)))), (.mk (some 5) none (.op (.box (.t 2)))), (.mk (some 6) none (.op (.box (.c (.g [(.z true), (.z true), (.x (.int .i64 0))]))))), (.mk (some 7) none (.op (.mv (.c (.x (.int .i64 0))))))]) (.seq (.reg [(.mk (some 8) none (.op (.load 3 true (.t 3)))), (.mk (some 9) none (.op (.load 2 true (.t 4)))), (.mk (some 10) none (.op (.mkfn (.func 26) [] [(.t 5)]))), (.mk (some 11) none (.call 23 [(.t 8), (.t 9), (.t 10)])), (.mk (some 12) none (.op (.ext (.t 11) 0))), (.mk (some 13) none (.op (.ext (.t 11) 1))), (.mk none none (.op (.store 3 (.t 6) (.t 12)))), (.mk (some 7) none (.op (.mv (.t 13))))]) .ret)) [(.cell 6 3 true), (.tmp 7)])
theorem tu_penSet : turnF Try.prog Try.f16 = some df_penSet := by kernel_rfl

theorem s_penChangeSet (hS : SortedSpec) (p : Pen) (r : Ref) (f : Frame) (hf : p.free.length ≤ 100000) (hc : p.cells.length ≤ 100000) :
    SpecP Try.prog 23 [.g p.row, .g r.row, .f (.func 26) [] [.q f.row 0]] (.t [.g (p.set r f).1.row, int (p.set r f).2]) := by
  refine .body mixed Try.func23 tu_penChange (Nat.le_of_ble_eq_true rfl) ?_
  have b1 : p.cells.length ≤ 1000000 := by omega
  have b2 : p.free.length ≤ 1000000 := by omega
  simp -implicitDefEqProofs only [df_penChange, SS, ↓reduceIte, Nat.reduceEqDiff, Nat.reduceAdd, eq_self, reduceCtorEq, Nat.reduceLeDiff, Nat.reduceSub, Nat.reduceMul, forall_const, implies_true, Int.reduceLE, Int.reduceLT, Int.reduceToNat, Int.reduceEq, Int.reduceBEq, Int.reduceBNe, Nat.reduceLT, EE]
  refine ⟨ca_penMay, SpecH.of_pure (s_penMay hS p b2) L2.refl rfl ?_⟩
  simp -implicitDefEqProofs only [SS, ↓reduceIte, Nat.reduceEqDiff, Nat.reduceAdd, eq_self, reduceCtorEq, Nat.reduceLeDiff, Nat.reduceSub, Nat.reduceMul, forall_const, implies_true, Int.reduceLE, Int.reduceLT, Int.reduceToNat, Int.reduceEq, Int.reduceBEq, Int.reduceBNe, Nat.reduceLT]
  cases hm : p.may
  · simp -implicitDefEqProofs only [SS, ↓reduceIte, Nat.reduceEqDiff, Nat.reduceAdd, eq_self, reduceCtorEq, Nat.reduceLeDiff, Nat.reduceSub, Nat.reduceMul, forall_const, implies_true, Int.reduceLE, Int.reduceLT, Int.reduceToNat, Int.reduceEq, Int.reduceBEq, Int.reduceBNe, Nat.reduceLT]
    simp [pureQ, frq, refs, refsL, L2, LL2, EE, Pen.set, hm]
  simp -implicitDefEqProofs only [SS, ↓reduceIte, Nat.reduceEqDiff, Nat.reduceAdd, eq_self, reduceCtorEq, Nat.reduceLeDiff, Nat.reduceSub, Nat.reduceMul, forall_const, implies_true, Int.reduceLE, Int.reduceLT, Int.reduceToNat, Int.reduceEq, Int.reduceBEq, Int.reduceBNe, Nat.reduceLT]
  refine ⟨ca_penHeld, SpecH.of_pure (s_penHeld p r b1) L2.refl rfl ?_⟩
  simp -implicitDefEqProofs only [SS, ↓reduceIte, Nat.reduceEqDiff, Nat.reduceAdd, eq_self, reduceCtorEq, Nat.reduceLeDiff, Nat.reduceSub, Nat.reduceMul, forall_const, implies_true, Int.reduceLE, Int.reduceLT, Int.reduceToNat, Int.reduceEq, Int.reduceBEq, Int.reduceBNe, Nat.reduceLT]
  cases hh : p.held r
  · simp -implicitDefEqProofs only [SS, ↓reduceIte, Nat.reduceEqDiff, Nat.reduceAdd, eq_self, reduceCtorEq, Nat.reduceLeDiff, Nat.reduceSub, Nat.reduceMul, forall_const, implies_true, Int.reduceLE, Int.reduceLT, Int.reduceToNat, Int.reduceEq, Int.reduceBEq, Int.reduceBNe, Nat.reduceLT]
    simp [pureQ, frq, refs, refsL, L2, LL2, EE, Pen.set, hm, hh]
  obtain ⟨x0, c, hget, hused, hgen⟩ := Pen.held_get hh
  have xl : r.at'.toNat < p.cells.length := (List.getElem?_eq_some_iff.1 hget).1
  simp -implicitDefEqProofs only [SS, ↓reduceIte, Nat.reduceEqDiff, Nat.reduceAdd, eq_self, reduceCtorEq, Nat.reduceLeDiff, Nat.reduceSub, Nat.reduceMul, forall_const, implies_true, Int.reduceLE, Int.reduceLT, Int.reduceToNat, Int.reduceEq, Int.reduceBEq, Int.reduceBNe, Nat.reduceLT, EE]
  refine ⟨ca_penClone, (h_penClone [20] _ p b1 b2).mono ?_⟩
  rintro e H' ⟨dc, df, rfl, hgc, hgf, hk⟩
  have k3 := hk [3] (by simp)
  have k4 := hk [4] (by simp)
  have k6 := hk [6] (by simp)
  clear hk
  simp -implicitDefEqProofs only [SS, ↓reduceIte, Nat.reduceEqDiff, Nat.reduceAdd, eq_self, reduceCtorEq, Nat.reduceLeDiff, Nat.reduceSub, Nat.reduceMul, forall_const, implies_true, Int.reduceLE, Int.reduceLT, Int.reduceToNat, Int.reduceEq, Int.reduceBEq, Int.reduceBNe, Nat.reduceLT] at k3 k4 k6
  rcases hgc with ⟨h, _⟩ | ⟨v, _, rfl, hv⟩
  · simp only [List.map_eq_nil_iff] at h
    rw [h] at xl; simp at xl
  have o2 := hgf.one
  have c2 := cellsOf_of_one o2
  have g9 : r.at' < (p.cells.length : Int) := by omega
  simp -implicitDefEqProofs only [SS, ↓reduceIte, Nat.reduceEqDiff, Nat.reduceAdd, eq_self, reduceCtorEq, Nat.reduceLeDiff, Nat.reduceSub, Nat.reduceMul, forall_const, implies_true, Int.reduceLE, Int.reduceLT, Int.reduceToNat, Int.reduceEq, Int.reduceBEq, Int.reduceBNe, Nat.reduceLT, EE, k3, k4, k6, hv, o2, c2, g9, x0, hget]
  refine ⟨ca_penSet1, spec_body mixed Try.func26 tu_penSet1 (Nat.le_of_ble_eq_true rfl) [27] ?_⟩
  have hset : ∀ r', ((p.cells.map Cell.row).set r.at'.toNat r')[r.at'.toNat]? = some r' := fun r' => by simp [xl]
  have eset : p.set r f = ({ p with cells := p.cells.set r.at'.toNat ⟨c.gen, c.used, f⟩ }, 0) := by simp [Pen.set, hm, hh, hused, hgen]
  simp -implicitDefEqProofs only [df_penSet1, SS, ↓reduceIte, Nat.reduceEqDiff, Nat.reduceAdd, eq_self, reduceCtorEq, Nat.reduceLeDiff, Nat.reduceSub, Nat.reduceMul, forall_const, implies_true, Int.reduceLE, Int.reduceLT, Int.reduceToNat, Int.reduceEq, Int.reduceBEq, Int.reduceBNe, Nat.reduceLT, EE, k3, k4, k6, hv, o2, c2, g9, x0, hget, hset, List.set_set]
  rw [eset]
  refine ⟨.inr ⟨.inr ⟨frq_all (by simp [set_at]; rfl) (by simp) ?_ (rows_refs Cell.row_refs _), (hgf.same (by simp [set_at])).frq (rows_refs irow_refs _), frq.refl, trivial⟩, frq.refl, trivial⟩, rfl⟩
  simp only [List.map_set]
  exact LL2.refl

theorem ca_penDrop : callable Try.prog 11 = true := by kernel_rfl
theorem s_penDrop (hS : SortedSpec) (p : Pen) (r : Ref) (hf : p.free.length ≤ 100000) (hc : p.cells.length ≤ 100000) :
    SpecP Try.prog 11 [.g p.row, .g r.row] (.t [.g (p.drop r).1.row, int (p.drop r).2]) := by
  refine .body mixed Try.func11 tu_penDrop (Nat.le_of_ble_eq_true rfl) ?_
  have hs := s_penChangeDrop hS p r hf hc
  simp -implicitDefEqProofs only [df_penDrop, SS, ↓reduceIte, Nat.reduceEqDiff, Nat.reduceAdd, eq_self, reduceCtorEq, Nat.reduceLeDiff, Nat.reduceSub, Nat.reduceMul, forall_const, implies_true, Int.reduceLE, Int.reduceLT, Int.reduceToNat, Int.reduceEq, Int.reduceBEq, Int.reduceBNe, Nat.reduceLT, EE]
  refine ⟨ca_penChange, SpecH.forget (m := [3]) (args' := [.g p.row, .g r.row, .f (.func 24) [] [.q r.row 0]]) (by simp [set_at]; exact ⟨rfl, rfl⟩) ⟨frq.refl, frq.refl, .inr ⟨rfl, trivial, .inr ?_, trivial⟩, trivial⟩ (SpecH.of_pure hs L2.refl rfl ?_)⟩
  · simp [look_eq, only, set_at, lookB, L2, frq, refsL, refs, Ref.row, Frame.row]
  · simp -implicitDefEqProofs only [SS, ↓reduceIte, Nat.reduceEqDiff, Nat.reduceAdd, eq_self, reduceCtorEq, Nat.reduceLeDiff, Nat.reduceSub, Nat.reduceMul, forall_const, implies_true, Int.reduceLE, Int.reduceLT, Int.reduceToNat, Int.reduceEq, Int.reduceBEq, Int.reduceBNe, Nat.reduceLT, EE]
    exact ⟨frq.refl, rfl⟩

theorem ca_penSet : callable Try.prog 16 = true := by kernel_rfl
theorem s_penSet (hS : SortedSpec) (p : Pen) (r : Ref) (f : Frame) (hf : p.free.length ≤ 100000) (hc : p.cells.length ≤ 100000) :
    SpecP Try.prog 16 [.g p.row, .g r.row, .g f.row] (.t [.g (p.set r f).1.row, int (p.set r f).2]) := by
  refine .body mixed Try.func16 tu_penSet (Nat.le_of_ble_eq_true rfl) ?_
  have hs := s_penChangeSet hS p r f hf hc
  simp -implicitDefEqProofs only [df_penSet, SS, ↓reduceIte, Nat.reduceEqDiff, Nat.reduceAdd, eq_self, reduceCtorEq, Nat.reduceLeDiff, Nat.reduceSub, Nat.reduceMul, forall_const, implies_true, Int.reduceLE, Int.reduceLT, Int.reduceToNat, Int.reduceEq, Int.reduceBEq, Int.reduceBNe, Nat.reduceLT, EE]
  refine ⟨ca_penChange, SpecH.forget (m := [5]) (args' := [.g p.row, .g r.row, .f (.func 26) [] [.q f.row 0]]) (by simp [set_at]; exact ⟨rfl, rfl⟩) ⟨frq.refl, frq.refl, .inr ⟨rfl, trivial, .inr ?_, trivial⟩, trivial⟩ (SpecH.of_pure hs L2.refl rfl ?_)⟩
  · simp [look_eq, only, set_at, lookB, L2, frq, refsL, refs, Ref.row, Frame.row]
  · simp -implicitDefEqProofs only [SS, ↓reduceIte, Nat.reduceEqDiff, Nat.reduceAdd, eq_self, reduceCtorEq, Nat.reduceLeDiff, Nat.reduceSub, Nat.reduceMul, forall_const, implies_true, Int.reduceLE, Int.reduceLT, Int.reduceToNat, Int.reduceEq, Int.reduceBEq, Int.reduceBNe, Nat.reduceLT, EE]
    exact ⟨frq.refl, rfl⟩

end Go.Proofs.Ytjbcgjgomhbmgaa

/-  The reference's frames and pens. -/
namespace Go.Proofs.Ytjbcgjgomhbmgaa
open Go.RowKit
set_option linter.unusedVariables false
set_option linter.unusedSimpArgs false

def df_r9Same : DF := (.mk 115 (.seq (.reg [(.mk (some 2) none (.op (.box (.t 0)))), (.mk (some 3) none (.op (.box (.t 1)))), (.mk (some 4) none (.op (.mv (.c (.x (.bool false))))))]) (.seq (.seq (.reg [(.mk (some 6) none (.op (.fad 4 (.t 2)))), (.mk (some 7) none (.op (.load 1 false (.t 6)))), (.mk (some 8) none (.op (.len (.t 7)))), (.mk (some 9) none (.op (.fad 4 (.t 3)))), (.mk (some 10) none (.op (.load 1 false (.t 9)))), (.mk (some 11) none (.op (.len (.t 10)))), (.mk (some 12) none (.op (.bin .neq (.t 8) (.t 11)))), (.mk (some 13) none (.op (.mv (.t 12)))), (.mk (some 14) (some (13, false)) (.op (.fad 2 (.t 2)))), (.mk (some 15) (some (13, false)) (.op (.load 1 false (.t 14)))), (.mk (some 16) (some (13, false)) (.op (.fad 2 (.t 3)))), (.mk (some 17) (some (13, false)) (.op (.load 1 false (.t 16)))), (.mk (some 18) (some (13, false)) (.call 22 [(.t 15), (.t 17)])), (.mk (some 19) (some (13, false)) (.op (.un .not (.t 18)))), (.mk (some 20) none (.op (.pick (.t 13) (.c (.x (.bool true))) (.t 19)))), (.mk (some 21) none (.op (.mv (.t 20)))), (.mk (some 22) (some (21, false)) (.op (.fad 3 (.t 2)))), (.mk (some 23) (some (21, false)) (.op (.load 1 false (.t 22)))), (.mk (some 24) (some (21, false)) (.op (.fad 3 (.t 3)))), (.mk (some 25) (some (21, false)) (.op (.load 1 false (.t 24)))), (.mk (some 26) (some (21, false)) (.call 22 [(.t 23), (.t 25)])), (.mk (some 27) (some (21, false)) (.op (.un .not (.t 26)))), (.mk (some 28) none (.op (.pick (.t 21) (.c (.x (.bool true))) (.t 27))))]) (.cond (.t 28) (.seq (.reg [(.mk (some 4) none (.op (.mv (.c (.x (.bool false))))))]) .ret) .skip)) (.seq (.seq (.reg [(.mk (some 5) none (.op (.mv (.c (.x (.int .i64 0))))))]) (.block 0 (.loop (.seq (.seq (.reg [(.mk (some 29) none (.op (.mv (.t 5)))), (.mk (some 30) none (.op (.fad 4 (.t 2)))), (.mk (some 31) none (.op (.load 1 false (.t 30)))), (.mk (some 32) none (.op (.len (.t 31)))), (.mk (some 33) none (.op (.bin .lss (.t 29) (.t 32))))]) (.cond (.t 33) .skip (.exit 0))) (.seq (.block 1 (.seq (.drw [((.mk (some 36) none (.op (.fad 4 (.t 2)))), []), ((.mk (some 37) none (.op (.load 1 false (.t 36)))), [0]), ((.mk (some 38) none (.op (.mv (.t 5)))), []), ((.mk (some 39) none (.op (.iad 6 (.t 37) (.t 38)))), [1, 2]), ((.mk (some 40) none (.op (.load 6 true (.t 39)))), [1, 3]), ((.mk (some 41) none (.op (.fad 4 (.t 3)))), []), ((.mk (some 42) none (.op (.load 1 false (.t 41)))), [5]), ((.mk (some 43) none (.op (.mv (.t 5)))), []), ((.mk (some 44) none (.op (.iad 6 (.t 42) (.t 43)))), [6, 7]), ((.mk (some 45) none (.op (.load 6 true (.t 44)))), [6, 8]), ((.mk (some 46) none (.op (.eqa true (.cons 0 1 false .li (.cons 1 2 true (.cons 0 1 false .li (.cons 1 1 false .li .nil)) (.cons 3 3 true (.cons 0 1 false .li (.cons 1 2 true (.cons 0 1 false .li (.cons 1 1 false .li .nil)) .nil)) .nil))) (.t 40) (.t 45)))), [4, 9])]) (.cond (.t 46) (.seq (.reg [(.mk (some 4) none (.op (.mv (.c (.x (.bool false))))))]) .ret) .skip))) (.reg [(.mk (some 34) none (.op (.mv (.t 5)))), (.mk (some 35) none (.op (.bin .add (.t 34) (.c (.x (.int .i64 1)))))), (.mk (some 5) none (.op (.mv (.t 35))))])))))) (.seq (.reg [(.mk (some 47) none (.op (.fad 0 (.t 2)))), (.mk (some 48) none (.op (.load 1 false (.t 47)))), (.mk (some 49) none (.op (.fad 0 (.t 3)))), (.mk (some 50) none (.op (.load 1 false (.t 49)))), (.mk (some 51) none (.op (.bin .eql (.t 48) (.t 50)))), (.mk (some 52) none (.op (.mv (.t 51)))), (.mk (some 53) (some (52, true)) (.op (.fad 1 (.t 2)))), (.mk (some 54) (some (52, true)) (.op (.load 1 false (.t 53)))), (.mk (some 55) (some (52, true)) (.op (.fad 1 (.t 3)))), (.mk (some 56) (some (52, true)) (.op (.load 1 false (.t 55)))), (.mk (some 57) (some (52, true)) (.op (.bin .eql (.t 54) (.t 56)))), (.mk (some 58) none (.op (.pick (.t 52) (.t 57) (.c (.x (.bool false)))))), (.mk (some 59) none (.op (.mv (.t 58)))), (.mk (some 60) (some (59, true)) (.op (.fad 5 (.t 2)))), (.mk (some 61) (some (59, true)) (.op (.load 1 false (.t 60)))), (.mk (some 62) (some (59, true)) (.op (.fad 5 (.t 3)))), (.mk (some 63) (some (59, true)) (.op (.load 1 false (.t 62)))), (.mk (some 64) (some (59, true)) (.op (.bin .eql (.t 61) (.t 63)))), (.mk (some 65) none (.op (.pick (.t 59) (.t 64) (.c (.x (.bool false)))))), (.mk (some 66) none (.op (.mv (.t 65)))), (.mk (some 67) (some (66, true)) (.op (.fad 6 (.t 2)))), (.mk (some 68) (some (66, true)) (.op (.load 1 false (.t 67)))), (.mk (some 69) (some (66, true)) (.op (.fad 6 (.t 3)))), (.mk (some 70) (some (66, true)) (.op (.load 1 false (.t 69)))), (.mk (some 71) (some (66, true)) (.op (.bin .eql (.t 68) (.t 70)))), (.mk (some 72) none (.op (.pick (.t 66) (.t 71) (.c (.x (.bool false)))))), (.mk (some 73) none (.op (.mv (.t 72)))), (.mk (some 74) (some (73, true)) (.op (.fad 7 (.t 2)))), (.mk (some 75) (some (73, true)) (.op (.load 1 false (.t 74)))), (.mk (some 76) (some (73, true)) (.op (.fad 7 (.t 3)))), (.mk (some 77) (some (73, true)) (.op (.load 1 false (.t 76)))), (.mk (some 78) (some (73, true)) (.op (.bin .eql (.t 75) (.t 77)))), (.mk (some 79) none (.op (.pick (.t 73) (.t 78) (.c (.x (.bool false)))))), (.mk (some 80) none (.op (.mv (.t 79)))), (.mk (some 81) (some (80, true)) (.op (.fad 8 (.t 2)))), (.mk (some 82) (some (80, true)) (.op (.load 1 false (.t 81)))), (.mk (some 83) (some (80, true)) (.op (.fad 8 (.t 3)))), (.mk (some 84) (some (80, true)) (.op (.load 1 false (.t 83)))), (.mk (some 85) (some (80, true)) (.op (.bin .eql (.t 82) (.t 84)))), (.mk (some 86) none (.op (.pick (.t 80) (.t 85) (.c (.x (.bool false)))))), (.mk (some 87) none (.op (.mv (.t 86)))), (.mk (some 88) (some (87, true)) (.op (.fad 9 (.t 2)))), (.mk (some 89) (some (87, true)) (.op (.load 1 false (.t 88)))), (.mk (some 90) (some (87, true)) (.op (.fad 9 (.t 3)))), (.mk (some 91) (some (87, true)) (.op (.load 1 false (.t 90)))), (.mk (some 92) (some (87, true)) (.op (.bin .eql (.t 89) (.t 91)))), (.mk (some 93) none (.op (.pick (.t 87) (.t 92) (.c (.x (.bool false)))))), (.mk (some 94) none (.op (.mv (.t 93)))), (.mk (some 95) (some (94, true)) (.op (.fad 10 (.t 2)))), (.mk (some 96) (some (94, true)) (.op (.load 3 true (.t 95)))), (.mk (some 97) (some (94, true)) (.op (.fad 10 (.t 3)))), (.mk (some 98) (some (94, true)) (.op (.load 3 true (.t 97)))), (.mk (some 99) (some (94, true)) (.op (.eqa false (.cons 0 1 false .li (.cons 1 2 true (.cons 0 1 false .li (.cons 1 1 false .li .nil)) .nil)) (.t 96) (.t 98)))), (.mk (some 100) none (.op (.pick (.t 94) (.t 99) (.c (.x (.bool false)))))), (.mk (some 101) none (.op (.mv (.t 100)))), (.mk (some 102) (some (101, true)) (.op (.fad 13 (.t 2)))), (.mk (some 103) (some (101, true)) (.op (.load 2 true (.t 102)))), (.mk (some 104) (some (101, true)) (.op (.fad 13 (.t 3)))), (.mk (some 105) (some (101, true)) (.op (.load 2 true (.t 104)))), (.mk (some 106) (some (101, true)) (.op (.eqa false (.cons 0 1 false .li (.cons 1 1 false .li .nil)) (.t 103) (.t 105)))), (.mk (some 107) none (.op (.pick (.t 101) (.t 106) (.c (.x (.bool false)))))), (.mk (some 108) none (.op (.mv (.t 107)))), (.mk (some 109) (some (108, true)) (.op (.fad 15 (.t 2)))), (.mk (some 110) (some (108, true)) (.op (.load 1 false (.t 109)))), (.mk (some 111) (some (108, true)) (.op (.fad 15 (.t 3)))), (.mk (some 112) (some (108, true)) (.op (.load 1 false (.t 111)))), (.mk (some 113) (some (108, true)) (.op (.bin .eql (.t 110) (.t 112)))), (.mk (some 114) none (.op (.pick (.t 108) (.t 113) (.c (.x (.bool false)))))), (.mk (some 4) none (.op (.mv (.t 114))))]) .ret)))) [(.tmp 4)])
theorem tu_r9Same : turnF Try.prog Try.f10 = some df_r9Same := by kernel_rfl

def df_r12Small : DF := (.mk 40 (.seq (.reg [(.mk (some 2) none (.op (.box (.t 0)))), (.mk (some 4) none (.op (.mv (.c (.x (.bool false))))))]) (.seq (.seq (.reg [(.mk (some 5) none (.op (.mv (.c (.x (.int .i64 0))))))]) (.block 0 (.loop (.seq (.seq (.reg [(.mk (some 6) none (.op (.mv (.t 5)))), (.mk (some 7) none (.op (.fad 0 (.t 2)))), (.mk (some 8) none (.op (.load 1 false (.t 7)))), (.mk (some 9) none (.op (.len (.t 8)))), (.mk (some 10) none (.op (.bin .lss (.t 6) (.t 9)))), (.mk (some 11) none (.op (.mv (.t 10)))), (.mk (some 12) (some (11, true)) (.op (.fad 0 (.t 2)))), (.mk (some 13) (some (11, true)) (.op (.load 1 false (.t 12)))), (.mk (some 14) (some (11, true)) (.op (.len (.t 13)))), (.mk (some 15) (some (11, true)) (.op (.mv (.t 1)))), (.mk (some 16) (some (11, true)) (.op (.bin .leq (.t 14) (.t 15)))), (.mk (some 17) none (.op (.pick (.t 11) (.t 16) (.c (.x (.bool false))))))]) (.cond (.t 17) .skip (.exit 0))) (.seq (.block 1 (.seq (.reg [(.mk (some 20) none (.op (.fad 0 (.t 2)))), (.mk (some 21) none (.op (.load 1 false (.t 20)))), (.mk (some 22) none (.op (.mv (.t 5)))), (.mk (some 23) none (.op (.iad 18 (.t 21) (.t 22)))), (.mk (some 24) none (.op (.fad 2 (.t 23)))), (.mk (some 25) none (.op (.load 16 true (.t 24)))), (.mk (some 26) none (.call 6 [(.t 25)])), (.mk (some 27) none (.op (.un .not (.t 26))))]) (.cond (.t 27) (.seq (.reg [(.mk (some 4) none (.op (.mv (.c (.x (.bool false))))))]) .ret) .skip))) (.reg [(.mk (some 18) none (.op (.mv (.t 5)))), (.mk (some 19) none (.op (.bin .add (.t 18) (.c (.x (.int .i64 1)))))), (.mk (some 5) none (.op (.mv (.t 19))))])))))) (.seq (.reg [(.mk (some 28) none (.op (.fad 0 (.t 2)))), (.mk (some 29) none (.op (.load 1 false (.t 28)))), (.mk (some 30) none (.op (.len (.t 29)))), (.mk (some 31) none (.op (.mv (.t 1)))), (.mk (some 32) none (.op (.bin .leq (.t 30) (.t 31)))), (.mk (some 33) none (.op (.mv (.t 32)))), (.mk (some 34) (some (33, true)) (.op (.fad 1 (.t 2)))), (.mk (some 35) (some (33, true)) (.op (.load 1 false (.t 34)))), (.mk (some 36) (some (33, true)) (.op (.len (.t 35)))), (.mk (some 37) (some (33, true)) (.op (.mv (.t 1)))), (.mk (some 38) (some (33, true)) (.op (.bin .leq (.t 36) (.t 37)))), (.mk (some 39) none (.op (.pick (.t 33) (.t 38) (.c (.x (.bool false)))))), (.mk (some 4) none (.op (.mv (.t 39))))]) .ret))) [(.tmp 4)])
theorem tu_r12Small : turnF Try.prog Try.f13 = some df_r12Small := by kernel_rfl

def df_r12May : DF := (.mk 67 (.seq (.reg [(.mk (some 1) none (.op (.box (.t 0)))), (.mk (some 2) none (.op (.mv (.c (.x (.bool false))))))]) (.seq (.seq (.reg [(.mk (some 6) none (.op (.fad 2 (.t 1)))), (.mk (some 7) none (.op (.load 1 false (.t 6)))), (.mk (some 8) none (.op (.bin .lss (.t 7) (.c (.x (.int .i64 1)))))), (.mk (some 9) none (.op (.mv (.t 8)))), (.mk (some 10) (some (9, false)) (.op (.fad 2 (.t 1)))), (.mk (some 11) (some (9, false)) (.op (.load 1 false (.t 10)))), (.mk (some 12) (some (9, false)) (.op (.bin .gtr (.t 11) (.c (.x (.int .i64 1024)))))), (.mk (some 13) none (.op (.pick (.t 9) (.c (.x (.bool true))) (.t 12)))), (.mk (some 14) none (.op (.mv (.t 13)))), (.mk (some 15) (some (14, false)) (.op (.fad 0 (.t 1)))), (.mk (some 16) (some (14, false)) (.op (.load 1 false (.t 15)))), (.mk (some 17) (some (14, false)) (.op (.len (.t 16)))), (.mk (some 18) (some (14, false)) (.op (.fad 2 (.t 1)))), (.mk (some 19) (some (14, false)) (.op (.load 1 false (.t 18)))), (.mk (some 20) (some (14, false)) (.op (.bin .gtr (.t 17) (.t 19)))), (.mk (some 21) none (.op (.pick (.t 14) (.c (.x (.bool true))) (.t 20))))]) (.cond (.t 21) (.seq (.reg [(.mk (some 2) none (.op (.mv (.c (.x (.bool false))))))]) .ret) .skip)) (.seq (.reg [(.mk (some 3) none (.op (.mv (.c (.x (.int .i64 0))))))]) (.seq (.seq (.reg [(.mk (some 4) none (.op (.mv (.c (.x (.int .i64 0))))))]) (.block 0 (.loop (.seq (.seq (.reg [(.mk (some 22) none (.op (.mv (.t 4)))), (.mk (some 23) none (.op (.fad 0 (.t 1)))), (.mk (some 24) none (.op (.load 1 false (.t 23)))), (.mk (some 25) none (.op (.len (.t 24)))), (.mk (some 26) none (.op (.bin .lss (.t 22) (.t 25))))]) (.cond (.t 26) .skip (.exit 0))) (.seq (.block 1 (.seq (.reg [(.mk (some 5) none (.op (.mv (.c (.x (.int .i64 1))))))]) (.seq (.seq (.reg [(.mk (some 29) none (.op (.fad 0 (.t 1)))), (.mk (some 30) none (.op (.load 1 false (.t 29)))), (.mk (some 31) none (.op (.mv (.t 4)))), (.mk (some 32) none (.op (.iad 18 (.t 30) (.t 31)))), (.mk (some 33) none (.op (.fad 1 (.t 32)))), (.mk (some 34) none (.op (.load 1 false (.t 33))))]) (.cond (.t 34) (.reg [(.mk (some 5) none (.op (.mv (.c (.x (.int .i64 0))))))]) .skip)) (.seq (.reg [(.mk (some 35) none (.op (.mv (.t 3)))), (.mk (some 36) none (.op (.mv (.t 5)))), (.mk (some 37) none (.op (.bin .add (.t 35) (.t 36)))), (.mk (some 3) none (.op (.mv (.t 37))))]) (.seq (.reg [(.mk (some 38) none (.op (.fad 0 (.t 1)))), (.mk (some 39) none (.op (.load 1 false (.t 38)))), (.mk (some 40) none (.op (.mv (.t 4)))), (.mk (some 41) none (.op (.iad 18 (.t 39) (.t 40)))), (.mk (some 42) none (.op (.fad 0 (.t 41)))), (.mk (some 43) none (.op (.load 1 false (.t 42)))), (.mk (some 44) none (.op (.bin .lss (.t 43) (.c (.x (.int .i64 0)))))), (.mk (some 45) none (.op (.mv (.t 44)))), (.mk (some 46) (some (45, false)) (.op (.fad 0 (.t 1)))), (.mk (some 47) (some (45, false)) (.op (.load 1 false (.t 46)))), (.mk (some 48) (some (45, false)) (.op (.mv (.t 4)))), (.mk (some 49) (some (45, false)) (.op (.iad 18 (.t 47) (.t 48)))), (.mk (some 50) (some (45, false)) (.op (.fad 0 (.t 49)))), (.mk (some 51) (some (45, false)) (.op (.load 1 false (.t 50)))), (.mk (some 52) (some (45, false)) (.op (.bin .geq (.t 51) (.c (.x (.int .i64 4294967296)))))), (.mk (some 53) none (.op (.pick (.t 45) (.c (.x (.bool true))) (.t 52)))), (.mk (some 54) none (.op (.mv (.t 53)))), (.mk (some 55) (some (54, false)) (.op (.fad 1 (.t 1)))), (.mk (some 56) (some (54, false)) (.op (.load 1 false (.t 55)))), (.mk (some 57) (some (54, false)) (.op (.mv (.t 4)))), (.mk (some 58) (some (54, false)) (.call 25 [(.t 56), (.t 57)])), (.mk (some 59) (some (54, false)) (.op (.mv (.t 5)))), (.mk (some 60) (some (54, false)) (.op (.bin .neq (.t 58) (.t 59)))), (.mk (some 61) none (.op (.pick (.t 54) (.c (.x (.bool true))) (.t 60))))]) (.cond (.t 61) (.seq (.reg [(.mk (some 2) none (.op (.mv (.c (.x (.bool false))))))]) .ret) .skip)))))) (.reg [(.mk (some 27) none (.op (.mv (.t 4)))), (.mk (some 28) none (.op (.bin .add (.t 27) (.c (.x (.int .i64 1)))))), (.mk (some 4) none (.op (.mv (.t 28))))])))))) (.seq (.reg [(.mk (some 62) none (.op (.fad 1 (.t 1)))), (.mk (some 63) none (.op (.load 1 false (.t 62)))), (.mk (some 64) none (.op (.len (.t 63)))), (.mk (some 65) none (.op (.mv (.t 3)))), (.mk (some 66) none (.op (.bin .eql (.t 64) (.t 65)))), (.mk (some 2) none (.op (.mv (.t 66))))]) .ret))))) [(.tmp 2)])
theorem tu_r12May : turnF Try.prog Try.f14 = some df_r12May := by kernel_rfl

theorem ca_r9Same : callable Try.prog 10 = true := by kernel_rfl
theorem s_r9Same (a b : Frame) (hf : a.ok) : SpecP Try.prog 10 [.g a.row, .g b.row] (bool (decide (a = b))) := by
  obtain ⟨f1, f2, f3⟩ := hf
  rw [← Frame.eqB_eq]
  refine .body mixed Try.func10 tu_r9Same (Nat.le_of_ble_eq_true rfl) ?_
  by_cases hl : a.slots.length = b.slots.length
  rotate_left
  · have g1 : ((a.slots.length : Int) != b.slots.length) = true := by rw [bne_iff_ne]; omega
    have hne : a.slots ≠ b.slots := by intro e; rw [e] at hl; exact hl rfl
    simp -implicitDefEqProofs only [df_r9Same, SS, ↓reduceIte, Nat.reduceEqDiff, Nat.reduceAdd, eq_self, reduceCtorEq, Nat.reduceLeDiff, Nat.reduceSub, Nat.reduceMul, forall_const, implies_true, Int.reduceLE, Int.reduceLT, Int.reduceToNat, Int.reduceEq, Int.reduceBEq, Int.reduceBNe, Nat.reduceLT, EE, g1]
    simp [pureQ, frq, refs, refsL, L2, LL2, Frame.eqB, hne]
  have g1 : ((a.slots.length : Int) != b.slots.length) = false := by rw [bne_eq_false_iff_eq]; omega
  simp -implicitDefEqProofs only [df_r9Same, SS, ↓reduceIte, Nat.reduceEqDiff, Nat.reduceAdd, eq_self, reduceCtorEq, Nat.reduceLeDiff, Nat.reduceSub, Nat.reduceMul, forall_const, implies_true, Int.reduceLE, Int.reduceLT, Int.reduceToNat, Int.reduceEq, Int.reduceBEq, Int.reduceBNe, Nat.reduceLT, EE, g1]
  refine ⟨ca_r9Values, SpecH.of_pure (s_r9Values a.stack b.stack f1) L2.refl rfl ?_⟩
  by_cases hs : a.stack = b.stack
  rotate_left
  · have g2 : decide (a.stack = b.stack) = false := by simp [hs]
    simp -implicitDefEqProofs only [SS, ↓reduceIte, Nat.reduceEqDiff, Nat.reduceAdd, eq_self, reduceCtorEq, Nat.reduceLeDiff, Nat.reduceSub, Nat.reduceMul, forall_const, implies_true, Int.reduceLE, Int.reduceLT, Int.reduceToNat, Int.reduceEq, Int.reduceBEq, Int.reduceBNe, Nat.reduceLT, EE, g2]
    simp [pureQ, frq, refs, refsL, L2, LL2, Frame.eqB, hs]
  have g2 : decide (a.stack = b.stack) = true := by simp [hs]
  simp -implicitDefEqProofs only [SS, ↓reduceIte, Nat.reduceEqDiff, Nat.reduceAdd, eq_self, reduceCtorEq, Nat.reduceLeDiff, Nat.reduceSub, Nat.reduceMul, forall_const, implies_true, Int.reduceLE, Int.reduceLT, Int.reduceToNat, Int.reduceEq, Int.reduceBEq, Int.reduceBNe, Nat.reduceLT, EE, g2]
  refine ⟨ca_r9Values, SpecH.of_pure (s_r9Values a.locals b.locals f2) L2.refl rfl ?_⟩
  by_cases ho : a.locals = b.locals
  rotate_left
  · have g3 : decide (a.locals = b.locals) = false := by simp [ho]
    simp -implicitDefEqProofs only [SS, ↓reduceIte, Nat.reduceEqDiff, Nat.reduceAdd, eq_self, reduceCtorEq, Nat.reduceLeDiff, Nat.reduceSub, Nat.reduceMul, forall_const, implies_true, Int.reduceLE, Int.reduceLT, Int.reduceToNat, Int.reduceEq, Int.reduceBEq, Int.reduceBNe, Nat.reduceLT, EE, g3]
    simp [pureQ, frq, refs, refsL, L2, LL2, Frame.eqB, ho]
  have g3 : decide (a.locals = b.locals) = true := by simp [ho]
  simp -implicitDefEqProofs only [SS, ↓reduceIte, Nat.reduceEqDiff, Nat.reduceAdd, eq_self, reduceCtorEq, Nat.reduceLeDiff, Nat.reduceSub, Nat.reduceMul, forall_const, implies_true, Int.reduceLE, Int.reduceLT, Int.reduceToNat, Int.reduceEq, Int.reduceBEq, Int.reduceBNe, Nat.reduceLT, EE, g3]
  refine wpD_loop (fun m e H => ∃ i, i ≤ a.slots.length ∧ m = a.slots.length - i ∧ e 2 = .p [2] 1 0 0 ∧ e 3 = .p [3] 1 0 0 ∧ H [2] = (1, some ⟨16, false, [a.row]⟩) ∧ H [3] = (1, some ⟨16, false, [b.row]⟩) ∧ a.slots.take i = b.slots.take i ∧ e 5 = int i) a.slots.length ⟨0, by simp [SS, ↓reduceIte, Nat.reduceEqDiff, Nat.reduceAdd, eq_self, reduceCtorEq, Nat.reduceLeDiff, Nat.reduceSub, Nat.reduceMul, forall_const, implies_true, Int.reduceLE, Int.reduceLT, Int.reduceToNat, Int.reduceEq, Int.reduceBEq, Int.reduceBNe, Nat.reduceLT, EE]⟩ ?_
  rintro m e H ⟨i, hi, rfl, h2, h3, k2, k3, ht, h5⟩
  simp -implicitDefEqProofs only [SS, ↓reduceIte, Nat.reduceEqDiff, Nat.reduceAdd, eq_self, reduceCtorEq, Nat.reduceLeDiff, Nat.reduceSub, Nat.reduceMul, forall_const, implies_true, Int.reduceLE, Int.reduceLT, Int.reduceToNat, Int.reduceEq, Int.reduceBEq, Int.reduceBNe, Nat.reduceLT, EE, h2, h3, k2, k3, h5]
  refine condD_split (fun h => ?_) (fun h => ?_)
  · have hi1 : i < a.slots.length := by simpa using h
    have hi2 : i < b.slots.length := by omega
    simp -implicitDefEqProofs only [SS, ↓reduceIte, Nat.reduceEqDiff, Nat.reduceAdd, eq_self, reduceCtorEq, Nat.reduceLeDiff, Nat.reduceSub, Nat.reduceMul, forall_const, implies_true, Int.reduceLE, Int.reduceLT, Int.reduceToNat, Int.reduceEq, Int.reduceBEq, Int.reduceBNe, Nat.reduceLT, EE, h2, h3, k2, k3, h5, List.getElem?_eq_getElem hi1, List.getElem?_eq_getElem hi2, eqSh_ints6]
    refine condD_split (fun h' => ?_) (fun h' => ?_)
    · have hne : a.slots[i] ≠ b.slots[i] := by intro e; simp [e] at h'
      have hne : a.slots ≠ b.slots := by
        intro e
        exact hne (List.getElem_of_eq e hi1)
      simp -implicitDefEqProofs only [SS, ↓reduceIte, Nat.reduceEqDiff, Nat.reduceAdd, eq_self, reduceCtorEq, Nat.reduceLeDiff, Nat.reduceSub, Nat.reduceMul, forall_const, implies_true, Int.reduceLE, Int.reduceLT, Int.reduceToNat, Int.reduceEq, Int.reduceBEq, Int.reduceBNe, Nat.reduceLT]
      simp [pureQ, frq, refs, refsL, L2, LL2, Frame.eqB, hne]
    · have heq : a.slots[i] = b.slots[i] := by
        generalize a.slots[i] = x at h' ⊢
        generalize b.slots[i] = y at h' ⊢
        obtain ⟨x1, ⟨x2, x3⟩, ⟨x4, ⟨x5, x6⟩⟩⟩ := x
        obtain ⟨y1, ⟨y2, y3⟩, ⟨y4, ⟨y5, y6⟩⟩⟩ := y
        simp at h'
        simp [h']
      have := (take_succ_eq hi1 hi2).2 ⟨ht, heq⟩
      simp -implicitDefEqProofs only [SS, ↓reduceIte, Nat.reduceEqDiff, Nat.reduceAdd, eq_self, reduceCtorEq, Nat.reduceLeDiff, Nat.reduceSub, Nat.reduceMul, forall_const, implies_true, Int.reduceLE, Int.reduceLT, Int.reduceToNat, Int.reduceEq, Int.reduceBEq, Int.reduceBNe, Nat.reduceLT, EE, h2, h3, k2, k3, h5]
      rw [w64_in (by omega)]
      exact ⟨a.slots.length - (i + 1), by omega, i + 1, by omega, rfl, this, by simp⟩
  · have hi' : i = a.slots.length := by simp at h; omega
    subst hi'
    have hsl := eq_of_get hl ht
    have g4 : decide (a.slots = b.slots) = true := by simp [hsl]
    simp -implicitDefEqProofs only [Frame.eqB, SS, ↓reduceIte, Nat.reduceEqDiff, Nat.reduceAdd, eq_self, reduceCtorEq, Nat.reduceLeDiff, Nat.reduceSub, Nat.reduceMul, forall_const, implies_true, Int.reduceLE, Int.reduceLT, Int.reduceToNat, Int.reduceEq, Int.reduceBEq, Int.reduceBNe, Nat.reduceLT, EE, h2, h3, k2, k3, h5, g2, g3, g4]
    repeat' (first
      | (refine gdI_split (fun h => ?_) (fun h => ?_) <;> (try simp only [Bool.not_eq_true', Bool.not_eq_false'] at h) <;> simp -implicitDefEqProofs only [SS, ↓reduceIte, Nat.reduceEqDiff, Nat.reduceAdd, eq_self, reduceCtorEq, Nat.reduceLeDiff, Nat.reduceSub, Nat.reduceMul, forall_const, implies_true, Int.reduceLE, Int.reduceLT, Int.reduceToNat, Int.reduceEq, Int.reduceBEq, Int.reduceBNe, Nat.reduceLT, EE, eqSh_ints2, eqSh_ints3, h2, h3, k2, k3, h])
      | (refine condD_split (fun h => ?_) (fun h => ?_) <;> (try simp only [Bool.not_eq_true', Bool.not_eq_false'] at h) <;> simp -implicitDefEqProofs only [SS, ↓reduceIte, Nat.reduceEqDiff, Nat.reduceAdd, eq_self, reduceCtorEq, Nat.reduceLeDiff, Nat.reduceSub, Nat.reduceMul, forall_const, implies_true, Int.reduceLE, Int.reduceLT, Int.reduceToNat, Int.reduceEq, Int.reduceBEq, Int.reduceBNe, Nat.reduceLT, EE, eqSh_ints2, eqSh_ints3, h2, h3, k2, k3, h])
      | (refine gdL_split (fun h => ?_) (fun h => ?_) <;> (try simp only [Bool.not_eq_true', Bool.not_eq_false'] at h) <;> simp -implicitDefEqProofs only [SS, ↓reduceIte, Nat.reduceEqDiff, Nat.reduceAdd, eq_self, reduceCtorEq, Nat.reduceLeDiff, Nat.reduceSub, Nat.reduceMul, forall_const, implies_true, Int.reduceLE, Int.reduceLT, Int.reduceToNat, Int.reduceEq, Int.reduceBEq, Int.reduceBNe, Nat.reduceLT, EE, eqSh_ints2, eqSh_ints3, h2, h3, k2, k3, h]))
    all_goals simp [pureQ, frq, refs, refsL, L2, LL2]

theorem ca_r12Small : callable Try.prog 13 = true := by kernel_rfl
def Pen.small (p : Pen) (most : Int) : Bool := (decide ((p.cells.length : Int) ≤ most) && decide ((p.free.length : Int) ≤ most)) && p.cells.all (fun c => c.frame.small)
theorem s_r12Small (p : Pen) (most : Int) (hm : most ≤ 1000) : SpecP Try.prog 13 [.g p.row, int most] (bool (p.small most)) := by
  refine .body mixed Try.func13 tu_r12Small (Nat.le_of_ble_eq_true rfl) ?_
  by_cases hl : (p.cells.length : Int) ≤ most
  rotate_left
  · have g1 : decide ((p.cells.length : Int) ≤ most) = false := by simp; omega
    have e : p.small most = false := by simp [Pen.small, hl]
    rw [e]
    simp -implicitDefEqProofs only [df_r12Small, SS, ↓reduceIte, Nat.reduceEqDiff, Nat.reduceAdd, eq_self, reduceCtorEq, Nat.reduceLeDiff, Nat.reduceSub, Nat.reduceMul, forall_const, implies_true, Int.reduceLE, Int.reduceLT, Int.reduceToNat, Int.reduceEq, Int.reduceBEq, Int.reduceBNe, Nat.reduceLT, EE]
    refine wpD_loop (fun m e H => e 1 = int most ∧ e 2 = .p [2] 1 0 0 ∧ e 5 = int 0 ∧ H [2] = (1, some ⟨3, false, [p.row]⟩)) 0 (by simp [SS, ↓reduceIte, Nat.reduceEqDiff, Nat.reduceAdd, eq_self, reduceCtorEq, Nat.reduceLeDiff, Nat.reduceSub, Nat.reduceMul, forall_const, implies_true, Int.reduceLE, Int.reduceLT, Int.reduceToNat, Int.reduceEq, Int.reduceBEq, Int.reduceBNe, Nat.reduceLT, EE]) ?_
    rintro m e H ⟨h1, h2, h5, k2⟩
    simp -implicitDefEqProofs only [SS, ↓reduceIte, Nat.reduceEqDiff, Nat.reduceAdd, eq_self, reduceCtorEq, Nat.reduceLeDiff, Nat.reduceSub, Nat.reduceMul, forall_const, implies_true, Int.reduceLE, Int.reduceLT, Int.reduceToNat, Int.reduceEq, Int.reduceBEq, Int.reduceBNe, Nat.reduceLT, EE, h1, h2, h5, k2]
    refine gdI_split (fun h => ?_) (fun h => ?_)
    · simp -implicitDefEqProofs only [SS, ↓reduceIte, Nat.reduceEqDiff, Nat.reduceAdd, eq_self, reduceCtorEq, Nat.reduceLeDiff, Nat.reduceSub, Nat.reduceMul, forall_const, implies_true, Int.reduceLE, Int.reduceLT, Int.reduceToNat, Int.reduceEq, Int.reduceBEq, Int.reduceBNe, Nat.reduceLT, EE, h1, h2, h5, k2, h, g1]
      simp [pureQ, frq, refs, refsL, L2, LL2]
    · simp -implicitDefEqProofs only [SS, ↓reduceIte, Nat.reduceEqDiff, Nat.reduceAdd, eq_self, reduceCtorEq, Nat.reduceLeDiff, Nat.reduceSub, Nat.reduceMul, forall_const, implies_true, Int.reduceLE, Int.reduceLT, Int.reduceToNat, Int.reduceEq, Int.reduceBEq, Int.reduceBNe, Nat.reduceLT, EE, h1, h2, h5, k2, h, g1]
      simp [pureQ, frq, refs, refsL, L2, LL2]
  · have g1 : decide ((p.cells.length : Int) ≤ most) = true := by simp; omega
    simp -implicitDefEqProofs only [df_r12Small, SS, ↓reduceIte, Nat.reduceEqDiff, Nat.reduceAdd, eq_self, reduceCtorEq, Nat.reduceLeDiff, Nat.reduceSub, Nat.reduceMul, forall_const, implies_true, Int.reduceLE, Int.reduceLT, Int.reduceToNat, Int.reduceEq, Int.reduceBEq, Int.reduceBNe, Nat.reduceLT, EE]
    refine wpD_loop (fun m e H => ∃ i, i ≤ p.cells.length ∧ m = p.cells.length - i ∧ e 1 = int most ∧ e 2 = .p [2] 1 0 0 ∧ e 5 = int i ∧ H [2] = (1, some ⟨3, false, [p.row]⟩) ∧ (p.cells.take i).all (fun c => c.frame.small) = true) p.cells.length ⟨0, by simp [SS, ↓reduceIte, Nat.reduceEqDiff, Nat.reduceAdd, eq_self, reduceCtorEq, Nat.reduceLeDiff, Nat.reduceSub, Nat.reduceMul, forall_const, implies_true, Int.reduceLE, Int.reduceLT, Int.reduceToNat, Int.reduceEq, Int.reduceBEq, Int.reduceBNe, Nat.reduceLT, EE]⟩ ?_
    rintro m e H ⟨i, hi, rfl, h1, h2, h5, k2, ha⟩
    simp -implicitDefEqProofs only [SS, ↓reduceIte, Nat.reduceEqDiff, Nat.reduceAdd, eq_self, reduceCtorEq, Nat.reduceLeDiff, Nat.reduceSub, Nat.reduceMul, forall_const, implies_true, Int.reduceLE, Int.reduceLT, Int.reduceToNat, Int.reduceEq, Int.reduceBEq, Int.reduceBNe, Nat.reduceLT, EE, h1, h2, h5, k2]
    refine gdI_split (fun h => ?_) (fun h => ?_)
    · have hi1 : i < p.cells.length := by simpa using h
      simp -implicitDefEqProofs only [SS, ↓reduceIte, Nat.reduceEqDiff, Nat.reduceAdd, eq_self, reduceCtorEq, Nat.reduceLeDiff, Nat.reduceSub, Nat.reduceMul, forall_const, implies_true, Int.reduceLE, Int.reduceLT, Int.reduceToNat, Int.reduceEq, Int.reduceBEq, Int.reduceBNe, Nat.reduceLT, EE, h1, h2, h5, k2, h, g1, List.getElem?_eq_getElem hi1]
      refine ⟨ca_r9Small, SpecH.of_pure (s_r9Small p.cells[i].frame) L2.refl rfl ?_⟩
      simp -implicitDefEqProofs only [SS, ↓reduceIte, Nat.reduceEqDiff, Nat.reduceAdd, eq_self, reduceCtorEq, Nat.reduceLeDiff, Nat.reduceSub, Nat.reduceMul, forall_const, implies_true, Int.reduceLE, Int.reduceLT, Int.reduceToNat, Int.reduceEq, Int.reduceBEq, Int.reduceBNe, Nat.reduceLT, EE]
      have hall := all_take hi1 (fun c => c.frame.small)
      rw [ha, Bool.true_and] at hall
      refine condD_split (fun h' => ?_) (fun h' => ?_)
      · have hno : p.cells[i].frame.small = false := by simpa using h'
        simp -implicitDefEqProofs only [SS, ↓reduceIte, Nat.reduceEqDiff, Nat.reduceAdd, eq_self, reduceCtorEq, Nat.reduceLeDiff, Nat.reduceSub, Nat.reduceMul, forall_const, implies_true, Int.reduceLE, Int.reduceLT, Int.reduceToNat, Int.reduceEq, Int.reduceBEq, Int.reduceBNe, Nat.reduceLT]
        have := all_false hi1 (fun c => c.frame.small) hno
        simp only [Pen.small, this, Bool.and_false]
        exact ⟨frq.refl, rfl⟩
      · have hyes : p.cells[i].frame.small = true := by simpa using h'
        simp -implicitDefEqProofs only [SS, ↓reduceIte, Nat.reduceEqDiff, Nat.reduceAdd, eq_self, reduceCtorEq, Nat.reduceLeDiff, Nat.reduceSub, Nat.reduceMul, forall_const, implies_true, Int.reduceLE, Int.reduceLT, Int.reduceToNat, Int.reduceEq, Int.reduceBEq, Int.reduceBNe, Nat.reduceLT, EE, h1, h2, h5, k2]
        rw [w64_in (by omega)]
        exact ⟨p.cells.length - (i + 1), by omega, i + 1, by omega, rfl, by simp, by rw [hall]; exact hyes⟩
    · have hi' : i = p.cells.length := by simp at h; omega
      subst hi'
      rw [List.take_length] at ha
      simp -implicitDefEqProofs only [Pen.small, SS, ↓reduceIte, Nat.reduceEqDiff, Nat.reduceAdd, eq_self, reduceCtorEq, Nat.reduceLeDiff, Nat.reduceSub, Nat.reduceMul, forall_const, implies_true, Int.reduceLE, Int.reduceLT, Int.reduceToNat, Int.reduceEq, Int.reduceBEq, Int.reduceBNe, Nat.reduceLT, EE, h1, h2, h5, k2, h, g1, ha]
      simp [pureQ, frq, refs, refsL, L2, LL2]

theorem ca_r12May : callable Try.prog 14 = true := by kernel_rfl

end Go.Proofs.Ytjbcgjgomhbmgaa

/-  The reference's word on which pens may be. -/
namespace Go.Proofs.Ytjbcgjgomhbmgaa
open Go.RowKit
set_option linter.unusedVariables false
set_option linter.unusedSimpArgs false

def cellOk (fr : List Int) (c : Cell) (i : Nat) : Bool := decide (0 ≤ c.gen) && decide (c.gen < 4294967296) && (cnt fr i == if c.used then 0 else 1)
def cellsOk (fr : List Int) : List Cell → Nat → Bool
  | [], _ => true
  | c :: l, i => cellOk fr c i && cellsOk fr l (i + 1)
theorem cellsOk_append (fr : List Int) (a b : List Cell) (k : Nat) : cellsOk fr (a ++ b) k = (cellsOk fr a k && cellsOk fr b (k + a.length)) := by
  induction a generalizing k with
  | nil => simp [cellsOk]
  | cons c a ih =>
    simp only [List.cons_append, cellsOk, ih, List.length_cons]
    rw [show k + 1 + a.length = k + (a.length + 1) by omega, Bool.and_assoc]
theorem cellsOk_take {l : List Cell} {i : Nat} (h : i < l.length) (fr : List Int) : cellsOk fr (l.take (i + 1)) 0 = (cellsOk fr (l.take i) 0 && cellOk fr l[i] i) := by
  rw [← List.take_append_getElem h, cellsOk_append]
  simp [cellsOk, List.length_take, Nat.min_eq_left (Nat.le_of_lt h)]
theorem cellsOk_false {l : List Cell} {i : Nat} (h : i < l.length) (fr : List Int) (hn : cellOk fr l[i] i = false) : cellsOk fr l 0 = false := by
  have e := cellsOk_append fr (l.take (i + 1)) (l.drop (i + 1)) 0
  rw [List.take_append_drop] at e
  rw [e, cellsOk_take h, hn]
  simp
def Pen.may2 (p : Pen) : Bool := (decide (1 ≤ p.most) && decide (p.most ≤ 1024) && decide ((p.cells.length : Int) ≤ p.most)) && (cellsOk p.free p.cells 0 && ((p.free.length : Int) == (unused p.cells 0).length))

theorem s_r12May (p : Pen) (hf : p.free.length ≤ 1000000) : SpecP Try.prog 14 [.g p.row] (bool p.may2) := by
  refine .body mixed Try.func14 tu_r12May (Nat.le_of_ble_eq_true rfl) ?_
  by_cases hm : 1 ≤ p.most ∧ p.most ≤ 1024 ∧ (p.cells.length : Int) ≤ p.most
  rotate_left
  · have e : p.may2 = false := by
      simp only [Pen.may2, Bool.and_eq_false_iff, decide_eq_false_iff_not]
      left
      by_cases h1 : 1 ≤ p.most
      · by_cases h2 : p.most ≤ 1024
        · right; omega
        · left; right; exact h2
      · left; left; exact h1
    rw [e]
    by_cases h1 : 1 ≤ p.most
    · by_cases h2 : p.most ≤ 1024
      · have g1 : decide (p.most < 1) = false := by simp; omega
        have g2 : decide (1024 < p.most) = false := by simp; omega
        have g3 : decide (p.most < (p.cells.length : Int)) = true := by simp; omega
        simp -implicitDefEqProofs only [df_r12May, SS, ↓reduceIte, Nat.reduceEqDiff, Nat.reduceAdd, eq_self, reduceCtorEq, Nat.reduceLeDiff, Nat.reduceSub, Nat.reduceMul, forall_const, implies_true, Int.reduceLE, Int.reduceLT, Int.reduceToNat, Int.reduceEq, Int.reduceBEq, Int.reduceBNe, Nat.reduceLT, EE, g1, g2, g3]
        exact ⟨frq.refl, rfl⟩
      · have g1 : decide (p.most < 1) = false := by simp; omega
        have g2 : decide (1024 < p.most) = true := by simp; omega
        simp -implicitDefEqProofs only [df_r12May, SS, ↓reduceIte, Nat.reduceEqDiff, Nat.reduceAdd, eq_self, reduceCtorEq, Nat.reduceLeDiff, Nat.reduceSub, Nat.reduceMul, forall_const, implies_true, Int.reduceLE, Int.reduceLT, Int.reduceToNat, Int.reduceEq, Int.reduceBEq, Int.reduceBNe, Nat.reduceLT, EE, g1, g2]
        exact ⟨frq.refl, rfl⟩
    · have g1 : decide (p.most < 1) = true := by simp; omega
      simp -implicitDefEqProofs only [df_r12May, SS, ↓reduceIte, Nat.reduceEqDiff, Nat.reduceAdd, eq_self, reduceCtorEq, Nat.reduceLeDiff, Nat.reduceSub, Nat.reduceMul, forall_const, implies_true, Int.reduceLE, Int.reduceLT, Int.reduceToNat, Int.reduceEq, Int.reduceBEq, Int.reduceBNe, Nat.reduceLT, EE, g1]
      exact ⟨frq.refl, rfl⟩
  have g1 : decide (p.most < 1) = false := by simp; omega
  have g2 : decide (1024 < p.most) = false := by simp; omega
  have g3 : decide (p.most < (p.cells.length : Int)) = false := by simp; omega
  have e : p.may2 = (cellsOk p.free p.cells 0 && ((p.free.length : Int) == (unused p.cells 0).length)) := by simp [Pen.may2, hm]
  rw [e]
  simp -implicitDefEqProofs only [df_r12May, SS, ↓reduceIte, Nat.reduceEqDiff, Nat.reduceAdd, eq_self, reduceCtorEq, Nat.reduceLeDiff, Nat.reduceSub, Nat.reduceMul, forall_const, implies_true, Int.reduceLE, Int.reduceLT, Int.reduceToNat, Int.reduceEq, Int.reduceBEq, Int.reduceBNe, Nat.reduceLT, EE, g1, g2, g3]
  refine wpD_loop (fun m e H => ∃ i, i ≤ p.cells.length ∧ m = p.cells.length - i ∧ e 1 = .p [1] 1 0 0 ∧ H [1] = (1, some ⟨3, false, [p.row]⟩) ∧ e 4 = int i ∧ e 3 = int (unused (p.cells.take i) 0).length ∧ cellsOk p.free (p.cells.take i) 0 = true) p.cells.length
    ⟨0, by simp [SS, ↓reduceIte, Nat.reduceEqDiff, Nat.reduceAdd, eq_self, reduceCtorEq, Nat.reduceLeDiff, Nat.reduceSub, Nat.reduceMul, forall_const, implies_true, Int.reduceLE, Int.reduceLT, Int.reduceToNat, Int.reduceEq, Int.reduceBEq, Int.reduceBNe, Nat.reduceLT, EE, unused, cellsOk]⟩ ?_
  rintro m e H ⟨i, hi, rfl, h1, k1, h4, h3, ha⟩
  simp -implicitDefEqProofs only [SS, ↓reduceIte, Nat.reduceEqDiff, Nat.reduceAdd, eq_self, reduceCtorEq, Nat.reduceLeDiff, Nat.reduceSub, Nat.reduceMul, forall_const, implies_true, Int.reduceLE, Int.reduceLT, Int.reduceToNat, Int.reduceEq, Int.reduceBEq, Int.reduceBNe, Nat.reduceLT, EE, h1, k1, h4, h3]
  refine condD_split (fun h => ?_) (fun h => ?_)
  · have hi1 : i < p.cells.length := by simpa using h
    have hul := unused_length (p.cells.take i) 0
    rw [List.length_take] at hul
    have hut := unused_take hi1
    have hct := cellsOk_take hi1 p.free
    rw [ha, Bool.true_and] at hct
    simp -implicitDefEqProofs only [SS, ↓reduceIte, Nat.reduceEqDiff, Nat.reduceAdd, eq_self, reduceCtorEq, Nat.reduceLeDiff, Nat.reduceSub, Nat.reduceMul, forall_const, implies_true, Int.reduceLE, Int.reduceLT, Int.reduceToNat, Int.reduceEq, Int.reduceBEq, Int.reduceBNe, Nat.reduceLT, EE, h1, k1, h4, h3, List.getElem?_eq_getElem hi1]
    have go : ∀ (want : Int) (e2 : Env), want = (if p.cells[i].used then 0 else 1) → e2 1 = .p [1] 1 0 0 → e2 4 = int i → e2 3 = int (unused (p.cells.take i) 0).length → e2 5 = int want → True := fun _ _ _ _ _ _ _ => trivial
    cases hu : p.cells[i].used
    all_goals
      have hok : ∀ b : Bool, (cnt p.free i != if p.cells[i].used then 0 else 1) = b → cellOk p.free p.cells[i] i = (decide (0 ≤ p.cells[i].gen) && decide (p.cells[i].gen < 4294967296) && !b) := by
        intro b hb
        rw [← hb]
        simp [cellOk, bne]
      rw [hu] at hut hok
      simp only [Bool.false_eq_true, if_false, if_true] at hut hok
      simp -implicitDefEqProofs only [SS, ↓reduceIte, Nat.reduceEqDiff, Nat.reduceAdd, eq_self, reduceCtorEq, Nat.reduceLeDiff, Nat.reduceSub, Nat.reduceMul, forall_const, implies_true, Int.reduceLE, Int.reduceLT, Int.reduceToNat, Int.reduceEq, Int.reduceBEq, Int.reduceBNe, Nat.reduceLT, EE, h1, k1, h4, h3, List.getElem?_eq_getElem hi1]
      by_cases q1 : 0 ≤ p.cells[i].gen
      rotate_left
      · have c1 : decide (p.cells[i].gen < 0) = true := by simp; omega
        simp -implicitDefEqProofs only [SS, ↓reduceIte, Nat.reduceEqDiff, Nat.reduceAdd, eq_self, reduceCtorEq, Nat.reduceLeDiff, Nat.reduceSub, Nat.reduceMul, forall_const, implies_true, Int.reduceLE, Int.reduceLT, Int.reduceToNat, Int.reduceEq, Int.reduceBEq, Int.reduceBNe, Nat.reduceLT, EE, h1, k1, h4, h3, c1, List.getElem?_eq_getElem hi1]
        have := cellsOk_false hi1 p.free (by simp [cellOk, q1])
        simp only [this, Bool.false_and]
        exact ⟨frq.refl, rfl⟩
      have c1 : decide (p.cells[i].gen < 0) = false := by simp; omega
      simp -implicitDefEqProofs only [SS, ↓reduceIte, Nat.reduceEqDiff, Nat.reduceAdd, eq_self, reduceCtorEq, Nat.reduceLeDiff, Nat.reduceSub, Nat.reduceMul, forall_const, implies_true, Int.reduceLE, Int.reduceLT, Int.reduceToNat, Int.reduceEq, Int.reduceBEq, Int.reduceBNe, Nat.reduceLT, EE, h1, k1, h4, h3, c1, List.getElem?_eq_getElem hi1]
      by_cases q2 : p.cells[i].gen < 4294967296
      rotate_left
      · have c2 : decide (4294967296 ≤ p.cells[i].gen) = true := by simp; omega
        simp -implicitDefEqProofs only [SS, ↓reduceIte, Nat.reduceEqDiff, Nat.reduceAdd, eq_self, reduceCtorEq, Nat.reduceLeDiff, Nat.reduceSub, Nat.reduceMul, forall_const, implies_true, Int.reduceLE, Int.reduceLT, Int.reduceToNat, Int.reduceEq, Int.reduceBEq, Int.reduceBNe, Nat.reduceLT, EE, h1, k1, h4, h3, c2, List.getElem?_eq_getElem hi1]
        have := cellsOk_false hi1 p.free (by simp [cellOk, q2])
        simp only [this, Bool.false_and]
        exact ⟨frq.refl, rfl⟩
      have c2 : decide (4294967296 ≤ p.cells[i].gen) = false := by simp; omega
      simp -implicitDefEqProofs only [SS, ↓reduceIte, Nat.reduceEqDiff, Nat.reduceAdd, eq_self, reduceCtorEq, Nat.reduceLeDiff, Nat.reduceSub, Nat.reduceMul, forall_const, implies_true, Int.reduceLE, Int.reduceLT, Int.reduceToNat, Int.reduceEq, Int.reduceBEq, Int.reduceBNe, Nat.reduceLT, EE, h1, k1, h4, h3, c2, List.getElem?_eq_getElem hi1]
      refine ⟨ca_r12count, SpecH.of_pure (s_r12count p.free i hf) L2.refl rfl ?_⟩
      simp -implicitDefEqProofs only [SS, ↓reduceIte, Nat.reduceEqDiff, Nat.reduceAdd, eq_self, reduceCtorEq, Nat.reduceLeDiff, Nat.reduceSub, Nat.reduceMul, forall_const, implies_true, Int.reduceLE, Int.reduceLT, Int.reduceToNat, Int.reduceEq, Int.reduceBEq, Int.reduceBNe, Nat.reduceLT, EE]
      refine condD_split (fun h' => ?_) (fun h' => ?_)
      · have := cellsOk_false hi1 p.free (by rw [hok _ h']; simp)
        simp -implicitDefEqProofs only [SS, ↓reduceIte, Nat.reduceEqDiff, Nat.reduceAdd, eq_self, reduceCtorEq, Nat.reduceLeDiff, Nat.reduceSub, Nat.reduceMul, forall_const, implies_true, Int.reduceLE, Int.reduceLT, Int.reduceToNat, Int.reduceEq, Int.reduceBEq, Int.reduceBNe, Nat.reduceLT, EE, this, Bool.false_and]
        exact ⟨frq.refl, rfl⟩
      · simp -implicitDefEqProofs only [SS, ↓reduceIte, Nat.reduceEqDiff, Nat.reduceAdd, eq_self, reduceCtorEq, Nat.reduceLeDiff, Nat.reduceSub, Nat.reduceMul, forall_const, implies_true, Int.reduceLE, Int.reduceLT, Int.reduceToNat, Int.reduceEq, Int.reduceBEq, Int.reduceBNe, Nat.reduceLT, EE, h1, k1, h4, h3]
        rw [w64_in (by omega), w64_in (by omega)]
        refine ⟨p.cells.length - (i + 1), by omega, i + 1, by omega, rfl, by simp, by simp [hut], ?_⟩
        rw [hct, hok _ h']
        simp [q1, q2]
  · have hi' : i = p.cells.length := by simp at h; omega
    subst hi'
    rw [List.take_length] at ha h3
    simp -implicitDefEqProofs only [SS, ↓reduceIte, Nat.reduceEqDiff, Nat.reduceAdd, eq_self, reduceCtorEq, Nat.reduceLeDiff, Nat.reduceSub, Nat.reduceMul, forall_const, implies_true, Int.reduceLE, Int.reduceLT, Int.reduceToNat, Int.reduceEq, Int.reduceBEq, Int.reduceBNe, Nat.reduceLT, EE, h1, k1, h4, h3, ha]
    exact ⟨frq.refl, rfl⟩

end Go.Proofs.Ytjbcgjgomhbmgaa

/-  Pens, plainly: which may be; what laying and dropping do to all refs. -/
namespace Go.Proofs.Ytjbcgjgomhbmgaa
set_option linter.unusedVariables false
set_option linter.unusedSimpArgs false

theorem unused_ge (l : List Cell) (k : Nat) : ∀ x ∈ unused l k, (k : Int) ≤ x := fun x hx => (mem_unused hx).1
theorem unused_pw (l : List Cell) (k : Nat) : (unused l k).Pairwise (· < ·) := by
  induction l generalizing k with
  | nil => simp [unused]
  | cons c l ih =>
    simp only [unused]
    split
    · exact ih (k + 1)
    · refine List.pairwise_cons.2 ⟨fun x hx => ?_, ih (k + 1)⟩
      have := unused_ge l (k + 1) x hx
      omega
theorem sortI_pw (l : List Int) : (sortI l).Pairwise (· ≤ ·) := by
  have := List.pairwise_mergeSort (le := fun (a b : Int) => decide (a ≤ b)) (fun a b c => by simp; omega) (fun a b => by simp; omega) l
  simpa [sortI] using this
theorem sortI_eq_iff {l m : List Int} (hm : m.Pairwise (· < ·)) : m = sortI l ↔ m.Perm l := by
  constructor
  · rintro rfl
    exact List.mergeSort_perm _ _
  · intro h
    exact List.Perm.eq_of_pairwise (le := (· ≤ ·)) (fun a b _ _ h1 h2 => by omega) (hm.imp (fun h => by omega)) (sortI_pw l) (h.trans (List.mergeSort_perm l _).symm)

theorem perm_of_len : ∀ {l m : List Int}, l.Nodup → (∀ x ∈ l, x ∈ m) → m.length ≤ l.length → l.Perm m
  | [], m, _, _, h => by
    cases m with
    | nil => exact .refl _
    | cons a m => simp at h
  | a :: l, m, hn, hs, h => by
    have ha : a ∈ m := hs a (by simp)
    have h1 := List.perm_cons_erase ha
    rw [List.nodup_cons] at hn
    have h2 : l.Perm (m.erase a) := perm_of_len hn.2 (fun x hx => (List.mem_erase_of_ne (fun e => hn.1 (by rw [← e]; exact hx))).2 (hs x (by simp [hx]))) (by rw [List.length_erase_of_mem ha]; simp at h; omega)
    exact (List.Perm.cons a h2).trans h1.symm

/-- Which pens may be. -/
structure Pen.May (p : Pen) : Prop where
  least : 1 ≤ p.most
  most : p.most ≤ 1024
  room : (p.cells.length : Int) ≤ p.most
  gens : ∀ c ∈ p.cells, 0 ≤ c.gen ∧ c.gen ≤ 4294967295
  free : (unused p.cells 0).Perm p.free
theorem Pen.may_iff (p : Pen) : p.may = true ↔ p.May := by
  rw [Pen.may_eq]
  simp only [Bool.and_eq_true, decide_eq_true_eq, List.all_eq_true, genOk, sortI_eq_iff (unused_pw p.cells 0)]
  exact ⟨fun ⟨⟨⟨⟨a, b⟩, c⟩, d⟩, e⟩ => ⟨a, b, c, d, e⟩, fun ⟨a, b, c, d, e⟩ => ⟨⟨⟨⟨a, b⟩, c⟩, d⟩, e⟩⟩

theorem cellsOk_iff (fr : List Int) (l : List Cell) (k : Nat) : cellsOk fr l k = true ↔ ∀ i c, l[i]? = some c → cellOk fr c (k + i) = true := by
  induction l generalizing k with
  | nil => simp [cellsOk]
  | cons c l ih =>
    simp only [cellsOk, Bool.and_eq_true, ih]
    constructor
    · rintro ⟨h1, h2⟩ i d hi
      cases i with
      | zero => simp at hi; subst hi; exact h1
      | succ i => rw [show k + (i + 1) = k + 1 + i by omega]; exact h2 i d (by simpa using hi)
    · intro h
      exact ⟨h 0 c rfl, fun i d hi => by rw [show k + 1 + i = k + (i + 1) by omega]; exact h (i + 1) d (by simpa using hi)⟩
theorem unused_mem_iff (l : List Cell) (k : Nat) (x : Int) : x ∈ unused l k ↔ ∃ i c, l[i]? = some c ∧ c.used = false ∧ x = (k + i : Nat) := by
  induction l generalizing k with
  | nil => simp [unused]
  | cons c l ih =>
    have shift : (∃ i d, (c :: l)[i]? = some d ∧ d.used = false ∧ x = (k + i : Nat)) ↔ (c.used = false ∧ x = (k : Nat)) ∨ ∃ i d, l[i]? = some d ∧ d.used = false ∧ x = (k + 1 + i : Nat) := by
      constructor
      · rintro ⟨i, d, h1, h2, h3⟩
        cases i with
        | zero => simp at h1; subst h1; exact .inl ⟨h2, by simpa using h3⟩
        | succ i => exact .inr ⟨i, d, by simpa using h1, h2, by rw [h3]; congr 1; omega⟩
      · rintro (⟨h1, h2⟩ | ⟨i, d, h1, h2, h3⟩)
        · exact ⟨0, c, rfl, h1, by simpa using h2⟩
        · exact ⟨i + 1, d, by simpa using h1, h2, by rw [h3]; congr 1; omega⟩
    rw [shift, ← ih (k + 1)]
    simp only [unused]
    split
    · rename_i h; simp [h]
    · rename_i h; simp [h]
theorem Pen.may2_eq (p : Pen) : p.may2 = p.may := by
  rw [Bool.eq_iff_iff, Pen.may_iff]
  simp only [Pen.may2, Bool.and_eq_true, decide_eq_true_eq, cellsOk_iff, cellOk, beq_iff_eq, Nat.zero_add]
  have nd : (unused p.cells 0).Nodup := (unused_pw p.cells 0).imp (fun h => by omega)
  constructor
  · rintro ⟨⟨⟨h1, h2⟩, h3⟩, h4, h5⟩
    refine ⟨h1, h2, h3, fun c hc => ?_, ?_⟩
    · obtain ⟨i, hi⟩ := List.getElem?_of_mem hc
      have := (h4 i c hi).1
      omega
    · refine perm_of_len nd (fun x hx => ?_) (by omega)
      obtain ⟨i, c, hi, hu, rfl⟩ := (unused_mem_iff _ _ _).1 hx
      have := (h4 i c hi).2
      rw [hu] at this
      simp only [cnt, Nat.zero_add, Bool.false_eq_true, if_false] at this ⊢
      have hp : 0 < p.free.countP (· == (i : Int)) := by omega
      rw [List.countP_pos_iff] at hp
      obtain ⟨a, ha, hb⟩ := hp
      have : a = (i : Int) := by simpa using hb
      rw [← this]; exact ha
  · rintro ⟨h1, h2, h3, h4, h5⟩
    refine ⟨⟨⟨h1, h2⟩, h3⟩, fun i c hi => ?_, by rw [h5.length_eq]⟩
    have hg := h4 c (List.mem_of_getElem? hi)
    refine ⟨by omega, ?_⟩
    have hc : p.free.countP (· == (i : Int)) = (unused p.cells 0).countP (· == (i : Int)) := (h5.countP_eq _).symm
    simp only [cnt, hc]
    have hcount : (unused p.cells 0).countP (· == (i : Int)) = (unused p.cells 0).count (i : Int) := rfl
    rw [hcount, nd.count]
    cases hu : c.used
    · rw [if_pos ((unused_mem_iff _ _ _).2 ⟨i, c, hi, hu, by simp⟩)]; rfl
    · rw [if_neg]; rfl
      intro hm
      obtain ⟨j, d, hj, hd, he⟩ := (unused_mem_iff _ _ _).1 hm
      have : i = j := by omega
      subst this
      rw [hi] at hj
      cases hj
      rw [hu] at hd
      cases hd

/-! ### a cell that is laid, or dropped -/

theorem used_set {l : List Cell} {x : Nat} {c : Cell} (k : Nat) (h : l[x]? = some c) (d : Cell) :
    used (l.set x d) k = used (l.take x) k ++ (if d.used then [⟨(k + x : Nat), d.gen⟩] else []) ++ used (l.drop (x + 1)) (k + x + 1) := by
  have hx : x < l.length := (List.getElem?_eq_some_iff.1 h).1
  rw [List.set_eq_take_append_cons_drop, if_pos hx, used_append, List.append_assoc]
  congr 1
  simp only [used, List.length_take, Nat.min_eq_left (Nat.le_of_lt hx)]
  split <;> simp
theorem used_at {l : List Cell} {x : Nat} {c : Cell} (k : Nat) (h : l[x]? = some c) :
    used l k = used (l.take x) k ++ (if c.used then [⟨(k + x : Nat), c.gen⟩] else []) ++ used (l.drop (x + 1)) (k + x + 1) := by
  have := used_set k h c
  rwa [show l.set x c = l by obtain ⟨hx, rfl⟩ := List.getElem?_eq_some_iff.1 h; exact List.set_getElem_self hx] at this
theorem unused_set {l : List Cell} {x : Nat} {c : Cell} (k : Nat) (h : l[x]? = some c) (d : Cell) :
    unused (l.set x d) k = unused (l.take x) k ++ (if d.used then [] else [((k + x : Nat) : Int)]) ++ unused (l.drop (x + 1)) (k + x + 1) := by
  have hx : x < l.length := (List.getElem?_eq_some_iff.1 h).1
  rw [List.set_eq_take_append_cons_drop, if_pos hx, unused_append, List.append_assoc]
  congr 1
  simp only [unused, List.length_take, Nat.min_eq_left (Nat.le_of_lt hx)]
  split <;> simp
theorem unused_at {l : List Cell} {x : Nat} {c : Cell} (k : Nat) (h : l[x]? = some c) :
    unused l k = unused (l.take x) k ++ (if c.used then [] else [((k + x : Nat) : Int)]) ++ unused (l.drop (x + 1)) (k + x + 1) := by
  have := unused_set k h c
  rwa [show l.set x c = l by obtain ⟨hx, rfl⟩ := List.getElem?_eq_some_iff.1 h; exact List.set_getElem_self hx] at this
theorem used_bounds {l : List Cell} {k : Nat} : ∀ r ∈ used l k, (k : Int) ≤ r.at' ∧ r.at' < (k + l.length : Nat) := by
  induction l generalizing k with
  | nil => simp [used]
  | cons c l ih =>
    intro r hr
    have go : r ∈ used l (k + 1) → (k : Int) ≤ r.at' ∧ r.at' < (k + (c :: l).length : Nat) := fun h => by
      have := ih r h
      simp only [List.length_cons]
      omega
    simp only [used] at hr
    split at hr
    · rcases List.mem_cons.1 hr with rfl | hr
      · simp; omega
      · exact go hr
    · exact go hr

theorem mem_set_cells {l : List Cell} {x : Nat} {d c : Cell} (h : c ∈ l.set x d) : c ∈ l ∨ c = d := List.mem_or_eq_of_mem_set h

/-- Laying a frame. -/
theorem Pen.lay_may {p : Pen} (h : p.may = true) (f : Frame) (he : (p.lay f).2.2 = 0) : (p.lay f).1.may = true ∧
    ∃ l1 l2 : List Ref, used p.cells 0 = l1 ++ l2 ∧ used (p.lay f).1.cells 0 = l1 ++ (p.lay f).2.1 :: l2 ∧ (∀ r ∈ l1, r.at' < (p.lay f).2.1.at') ∧ (∀ r ∈ l2, (p.lay f).2.1.at' < r.at') := by
  have hm := (Pen.may_iff p).1 h
  rcases List.eq_nil_or_concat p.free with hfr | ⟨fd, x, hfr⟩
  · have hl : p.free.getLast? = none := by simp [hfr]
    simp only [Pen.lay, h, if_true, hl] at he ⊢
    split at he
    · simp at he
    · rename_i hne
      rw [if_neg hne]
      refine ⟨(Pen.may_iff _).2 ⟨hm.least, hm.most, ?_, ?_, ?_⟩, used p.cells 0, [], by simp, ?_, ?_, by simp⟩
      · have := hm.room; simp; omega
      · intro c hc
        rcases List.mem_append.1 hc with hc | hc
        · exact hm.gens c hc
        · simp at hc; subst hc; simp
      · rw [unused_append]
        simp only [unused, if_true, List.append_nil]
        exact hm.free
      · rw [used_append]; simp [used]
      · intro r hr
        have := (used_bounds r hr).2
        simpa using this
  · have hl : p.free.getLast? = some x := by simp [hfr]
    obtain ⟨x0, xl, c, hget, hun⟩ := Pen.may_free h (x := x) (by simp [hfr])
    have hxx : ((x.toNat : Nat) : Int) = x := by omega
    have elay : p.lay f = ({ p with cells := p.cells.set x.toNat ⟨c.gen, true, f⟩, free := p.free.dropLast }, ⟨x, c.gen⟩, 0) := by simp [Pen.lay, h, hl, hget]
    rw [elay]
    have u1 := unused_at 0 hget
    have u2 := unused_set 0 hget ⟨c.gen, true, f⟩
    have v1 := used_at 0 hget
    have v2 := used_set 0 hget ⟨c.gen, true, f⟩
    simp only [hun, Bool.false_eq_true, if_false, if_true, Nat.zero_add, hxx, List.append_nil] at u1 u2 v1 v2
    refine ⟨(Pen.may_iff _).2 ⟨hm.least, hm.most, by simpa using hm.room, ?_, ?_⟩, _, _, v1, by rw [v2]; simp, ?_, ?_⟩
    · intro d hd
      rcases mem_set_cells hd with hd | rfl
      · exact hm.gens d hd
      · exact hm.gens c (List.mem_of_getElem? hget)
    · have := hm.free
      rw [u1, hfr] at this
      rw [u2, hfr]
      simp only [List.concat_eq_append, List.dropLast_concat] at this ⊢
      have p1 : (unused (List.take x.toNat p.cells) 0 ++ [x] ++ unused (List.drop (x.toNat + 1) p.cells) (x.toNat + 1)).Perm (x :: (unused (List.take x.toNat p.cells) 0 ++ unused (List.drop (x.toNat + 1) p.cells) (x.toNat + 1))) := by
        rw [List.append_assoc]; exact List.perm_middle
      have p2 : (fd ++ [x]).Perm (x :: fd) := List.perm_append_comm
      exact List.Perm.cons_inv ((p1.symm.trans this).trans p2)
    · intro r hr
      have := (used_bounds r hr).2
      simp only [List.length_take] at this
      show r.at' < x
      omega
    · intro r hr
      have := (used_bounds r hr).1
      show x < r.at'
      omega

/-- Dropping one. -/
theorem Pen.drop_may {p : Pen} (h : p.may = true) {r : Ref} (hh : p.held r = true) : (p.drop r).2 = 0 ∧ (p.drop r).1.may = true ∧
    ∃ l1 l2 : List Ref, used p.cells 0 = l1 ++ r :: l2 ∧ used (p.drop r).1.cells 0 = l1 ++ l2 ∧ (∀ q ∈ l1, q.at' < r.at') ∧ (∀ q ∈ l2, r.at' < q.at') := by
  have hm := (Pen.may_iff p).1 h
  obtain ⟨x0, c, hget, hu, hg⟩ := Pen.held_get hh
  have hxx : ((r.at'.toNat : Nat) : Int) = r.at' := by omega
  have hcg := hm.gens c (List.mem_of_getElem? hget)
  simp only [Pen.drop, h, hh, if_true]
  have u1 := unused_at 0 hget
  have u2 := unused_set 0 hget ⟨(r.gen + 1) % 4294967296, false, zeroFrame⟩
  have v1 := used_at 0 hget
  have v2 := used_set 0 hget ⟨(r.gen + 1) % 4294967296, false, zeroFrame⟩
  simp only [hu, Bool.false_eq_true, if_false, if_true, Nat.zero_add, hxx, List.append_nil, hg] at u1 u2 v1 v2
  refine ⟨trivial, (Pen.may_iff _).2 ⟨hm.least, hm.most, by simpa using hm.room, ?_, ?_⟩, _, _, by rw [v1, List.append_assoc]; rfl, v2, ?_, ?_⟩
  · intro d hd
    rcases mem_set_cells hd with hd | rfl
    · exact hm.gens d hd
    · simp only
      omega
  · show (unused (p.cells.set r.at'.toNat _) 0).Perm (p.free ++ [r.at'])
    have := hm.free
    rw [u1] at this
    rw [u2]
    have p1 : (unused (List.take r.at'.toNat p.cells) 0 ++ [r.at'] ++ unused (List.drop (r.at'.toNat + 1) p.cells) (r.at'.toNat + 1)).Perm (r.at' :: (unused (List.take r.at'.toNat p.cells) 0 ++ unused (List.drop (r.at'.toNat + 1) p.cells) (r.at'.toNat + 1))) := by
      rw [List.append_assoc]; exact List.perm_middle
    exact p1.trans ((List.Perm.cons _ this).trans (List.perm_append_comm (l₁ := [r.at'])))
  · intro q hq
    have := (used_bounds q hq).2
    simp only [List.length_take] at this
    omega
  · intro q hq
    have := (used_bounds q hq).1
    omega

/-- All refs that are told are held. -/
theorem used_held {l : List Cell} {k : Nat} : ∀ r ∈ used l k, ∃ c, 0 ≤ r.at' - k ∧ l[(r.at' - k).toNat]? = some c ∧ c.used = true ∧ c.gen = r.gen := by
  induction l generalizing k with
  | nil => simp [used]
  | cons c l ih =>
    intro r hr
    have go : r ∈ used l (k + 1) → ∃ d, 0 ≤ r.at' - k ∧ (c :: l)[(r.at' - k).toNat]? = some d ∧ d.used = true ∧ d.gen = r.gen := fun h => by
      obtain ⟨d, h1, h2, h3, h4⟩ := ih r h
      refine ⟨d, by omega, ?_, h3, h4⟩
      rw [show (r.at' - (k : Int)).toNat = (r.at' - ((k + 1 : Nat) : Int)).toNat + 1 by omega, List.getElem?_cons_succ]
      exact h2
    simp only [used] at hr
    split at hr
    · rename_i hu
      rcases List.mem_cons.1 hr with rfl | hr
      · exact ⟨c, by simp, by simp, hu, rfl⟩
      · exact go hr
    · exact go hr
theorem Pen.used_held {p : Pen} {r : Ref} (h : r ∈ used p.cells 0) : p.held r = true := by
  obtain ⟨c, h1, h2, h3, h4⟩ := Proofs.Ytjbcgjgomhbmgaa.used_held r h
  have h5 : 0 ≤ r.at' := by omega
  have h2' : p.cells[r.at'.toNat]? = some c := by simpa using h2
  simp [Pen.held, h5, h2', h3, h4]

end Go.Proofs.Ytjbcgjgomhbmgaa
