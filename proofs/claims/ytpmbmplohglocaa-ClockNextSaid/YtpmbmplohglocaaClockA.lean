import Derived.Test.YtpmbmplohglocaaRows
import Derived.WalkKit
import Derived.ProofKit
import Derived.BigQuiet
import Derived.Deep.QuietTactic
import Derived.Deep.RegionWith
import Derived.Lib.Hide
namespace Go.Proofs.Ytpmbmplohglocaa
open Go.RowKit
abbrev C5 (a0 a1 a2 a3 a4 : Int) : Array Value := #[.int .i64 a0, .int .i64 a1, .int .i64 a2, .int .i64 a3, .int .i64 a4]

/-- A world below a block number as another one was: a class of worlds for regions that draw their order. -/
def WB (B : Nat) (w : World) : Type := { u : World // Below B w u }
instance instWB (B : Nat) (w : World) : Nonempty (WB B w) := ⟨⟨w, Below.refl B w⟩⟩
def WB.w {B : Nat} {w : World} (u : WB B w) : World := u.1

theorem WB.cell {w : World} (u : WB w.heap.size w) (b o : Nat) (h : b < w.heap.size) : u.w.cell? ⟨b, o, none⟩ = w.cell? ⟨b, o, none⟩ := u.2.cell (p := ⟨b, o, none⟩) h
theorem WB.frozen {w : World} (u : WB w.heap.size w) (b o : Nat) (h : b < w.heap.size) : u.w.frozen? ⟨b, o, none⟩ = w.frozen? ⟨b, o, none⟩ := u.2.frozen (p := ⟨b, o, none⟩) h

/-- ONE WALK OF THE TEXT's ORDER SERVES EVERY ORDER, where the region's operations only read what is below the block number, and its callees leave what is below it. -/
theorem wp_region_wb {P : Program} {id : Nat} {Q : Exit → Act → World → Prop} {a : Act} {w : World} {l : List Oper} (hm : P.follows .mixedOrders = true) (hB : Region.lexB .any l.toArray = true)
    (h : wpQuiet P l.toArray (fun w' => ∃ u : WB w.heap.size w, w' = u.w) (fun a' => ∀ w', (∃ u : WB w.heap.size w, w' = u.w) → Q .normal a' w') l a) : (Code.region id l.toArray true).wp P Q a w :=
  wp_region_quiet (C := fun w' => ∃ u : WB w.heap.size w, w' = u.w) hm hB ⟨⟨w.drew, (Below.refl _ _).drew⟩, rfl⟩ (by simpa using h)

/-- A callee's contract, met in a world of the class. -/
theorem wb_of {P : Program} {f : FuncId} {args : Array Value} {w : World} {u : WB w.heap.size w} {v : Value}
    (h : Calls P f args u.w fun e w' => e = .returned v ∧ Below u.w.heap.size u.w w') : Calls P f args u.w fun e w'' => e = .returned v ∧ ∃ u' : WB w.heap.size w, w'' = u'.w :=
  h.mono fun _ w' ⟨he, hb⟩ => ⟨he, ⟨w', u.2.trans (hb.mono u.2.size)⟩, rfl⟩

theorem bcell {W w1 : World} (hb : Below W.heap.size W w1) : (∀ b o, b < W.heap.size → w1.cell? ⟨b, o, none⟩ = W.cell? ⟨b, o, none⟩) ∧ (∀ b o, b < W.heap.size → w1.frozen? ⟨b, o, none⟩ = W.frozen? ⟨b, o, none⟩) :=
  ⟨fun b o h => hb.cell (p := ⟨b, o, none⟩) h, fun b o h => hb.frozen (p := ⟨b, o, none⟩) h⟩

theorem run_max_mx {P : Program} (w : World) (ts : Array TypeId) (t : TypeId) (k k' : IntKind) (x y : Int) :
    (Builtin.max_ ts t #[.int k x, .int k' y]).run P w = .ok (.int k (max x y)) w := by
  rw [run_max_int2]; congr 2; rw [Int.max_def]; split <;> split <;> omega
theorem run_min_mx {P : Program} (w : World) (ts : Array TypeId) (t : TypeId) (k k' : IntKind) (x y : Int) :
    (Builtin.min_ ts t #[.int k x, .int k' y]).run P w = .ok (.int k (min x y)) w := by
  rw [run_min_int2]; congr 2; rw [Int.min_def]; split <;> split <;> omega
attribute [local go_sem] WB.cell WB.frozen
attribute [local go_sem high] run_max_mx

theorem info3 : (Try.prog.info? 3).isSome = true := by kernel_rfl
theorem cellsOf3 : Try.prog.cellsOf 3 = 1 := by kernel_rfl
theorem under23 : Try.prog.underlying 23 = some (.array 5 3) := by kernel_rfl

theorem run_item (w : World) (xs ys : Array Value) (i : Nat) (a b : Int) (is : List Nat) (hx : xs[i]? = some (.int .i64 a)) (hy : ys[i]? = some (.int .i64 b)) :
    (Op.eqItems 9999 3 1 xs ys (i :: is)).run Try.prog w = if a = b then (Op.eqItems 9999 3 1 xs ys is).run Try.prog w else .ok false w := by
  have px : (part 3 xs (i * 1)).run Try.prog w = .ok (.int .i64 a) w := by simp [part, isAgg, run_underlying Try.underlying3, hx]
  have py : (part 3 ys (i * 1)).run Try.prog w = .ok (.int .i64 b) w := by simp [part, isAgg, run_underlying Try.underlying3, hy]
  simp only [Op.eqItems, Sem.run_bind, px, py, Result.andThen_ok, run_equalIn_int w 9998 3 .i64 .i64 a b Try.underlying3]
  by_cases h : a = b
  · subst h; simp
  · simp [h]

def eq5 (a0 a1 a2 a3 a4 b0 b1 b2 b3 b4 : Int) : Bool := decide (a0 = b0 ∧ a1 = b1 ∧ a2 = b2 ∧ a3 = b3 ∧ a4 = b4)
def le5 (a0 a1 a2 a3 a4 b0 b1 b2 b3 b4 : Int) : Bool := decide (a0 ≤ b0 ∧ a1 ≤ b1 ∧ a2 ≤ b2 ∧ a3 ≤ b3 ∧ a4 ≤ b4)
theorem eq5_iff (a0 a1 a2 a3 a4 b0 b1 b2 b3 b4 : Int) : eq5 a0 a1 a2 a3 a4 b0 b1 b2 b3 b4 = true ↔ a0 = b0 ∧ a1 = b1 ∧ a2 = b2 ∧ a3 = b3 ∧ a4 = b4 := by simp [eq5]
theorem le5_iff (a0 a1 a2 a3 a4 b0 b1 b2 b3 b4 : Int) : le5 a0 a1 a2 a3 a4 b0 b1 b2 b3 b4 = true ↔ a0 ≤ b0 ∧ a1 ≤ b1 ∧ a2 ≤ b2 ∧ a3 ≤ b3 ∧ a4 ≤ b4 := by simp [le5]
theorem le5_of_max (a0 a1 a2 a3 a4 b0 b1 b2 b3 b4 : Int) : eq5 (max a0 b0) (max a1 b1) (max a2 b2) (max a3 b3) (max a4 b4) b0 b1 b2 b3 b4 = le5 a0 a1 a2 a3 a4 b0 b1 b2 b3 b4 := by
  rw [Bool.eq_iff_iff, eq5_iff, le5_iff]; omega

theorem run_eq_c5 (w : World) (a0 a1 a2 a3 a4 b0 b1 b2 b3 b4 : Int) :
    (Op.equalIn 10000 23 (.agg (C5 a0 a1 a2 a3 a4)) (.agg (C5 b0 b1 b2 b3 b4))).run Try.prog w = .ok (eq5 a0 a1 a2 a3 a4 b0 b1 b2 b3 b4) w := by
  obtain ⟨i, hi⟩ := Option.isSome_iff_exists.1 info3
  rw [run_equalIn_array w 9999 _ _ under23 hi, cellsOf3, show List.range 5 = [0, 1, 2, 3, 4] from rfl]
  rw [run_item w _ _ 0 a0 b0 _ rfl rfl, run_item w _ _ 1 a1 b1 _ rfl rfl, run_item w _ _ 2 a2 b2 _ rfl rfl, run_item w _ _ 3 a3 b3 _ rfl rfl, run_item w _ _ 4 a4 b4 _ rfl rfl]
  simp only [Op.eqItems, Sem.run_pure, eq5]
  by_cases h0 : a0 = b0
  · by_cases h1 : a1 = b1
    · by_cases h2 : a2 = b2
      · by_cases h3 : a3 = b3
        · by_cases h4 : a4 = b4 <;> simp [h0, h1, h2, h3, h4]
        · simp [h0, h1, h2, h3]
      · simp [h0, h1, h2]
    · simp [h0, h1]
  · simp [h0]
attribute [local go_sem] run_eq_c5

set_option maxHeartbeats 400000 in
theorem join_any (a0 a1 a2 a3 a4 b0 b1 b2 b3 b4 : Int) (w : World) :
    Calls Try.prog 14 #[.agg (C5 a0 a1 a2 a3 a4), .agg (C5 b0 b1 b2 b3 b4)] w fun e w' =>
      e = .returned (.agg (C5 (max a0 b0) (max a1 b1) (max a2 b2) (max a3 b3) (max a4 b4))) ∧ Below w.heap.size w w' := by
  go_enter Try.func14, Try.ntmps14
  go_wp2
  refine wp_loop_rounds 6 ?_
  rw [rounds_succ]; go_wp2
  go_region; go_wp2
  rw [rounds_succ]; go_wp2
  go_region; go_wp2
  rw [rounds_succ]; go_wp2
  go_region; go_wp2
  rw [rounds_succ]; go_wp2
  go_region; go_wp2
  rw [rounds_succ]; go_wp2
  go_region; go_wp2
  rw [rounds_succ]; go_wp2
  refine bodyPost_ret (v := .agg (C5 (max a0 b0) (max a1 b1) (max a2 b2) (max a3 b3) (max a4 b4))) (by simp [results, Try.results14, go_sem]) rfl ⟨rfl, ?_⟩
  exact (((((((Below.refl _ _).alloc (Nat.le_refl _) _).alloc (by simp) _).alloc (by simp; omega) _).drew).drew).drew).drew.drew


theorem ret_bool {a b : Bool} (h : a = b) : Ending.returned (.bool a) = .returned (.bool b) := by rw [h]

set_option maxHeartbeats 400000 in
theorem lessEq_any (a0 a1 a2 a3 a4 b0 b1 b2 b3 b4 : Int) (w : World) :
    Calls Try.prog 15 #[.agg (C5 a0 a1 a2 a3 a4), .agg (C5 b0 b1 b2 b3 b4)] w fun e w' =>
      e = .returned (.bool (le5 a0 a1 a2 a3 a4 b0 b1 b2 b3 b4)) ∧ Below w.heap.size w w' := by
  go_enter Try.func15, Try.ntmps15
  go_wp2
  refine wp_region_wb (by kernel_rfl) (by kernel_rfl) ?_
  repeat (go_big_quiet_step ((first | (go_at_call 14; exact wb_of (join_any _ _ _ _ _ _ _ _ _ _ _)))))
  refine wpQuiet_nil ?_
  intro _ hw'
  obtain ⟨u1, hw''⟩ := hw'
  subst hw''
  go_wp2
  go_ret
  exact ⟨ret_bool (le5_of_max a0 a1 a2 a3 a4 b0 b1 b2 b3 b4), (((Below.refl _ _).alloc (Nat.le_refl _) _).alloc (by simp) _).trans (u1.2.mono (by simp; omega))⟩

def isR (r : Int) : Bool := decide (0 ≤ r ∧ r < 5)
theorem is_yes (r : Int) (w : World) (h0 : 0 ≤ r) (h1 : r < 5) : Calls Try.prog 28 #[.int .i64 r] w fun e w' => e = .returned (.bool true) ∧ w = w' := by
  go_enter Try.func28, Try.ntmps28
  go_wp2
  go_ret
  exact ⟨rfl, rfl⟩
theorem is_neg (r : Int) (w : World) (h0 : r < 0) : Calls Try.prog 28 #[.int .i64 r] w fun e w' => e = .returned (.bool false) ∧ w = w' := by
  have h1 : ¬ 0 ≤ r := by omega
  go_enter Try.func28, Try.ntmps28
  go_wp2
  go_ret
  exact ⟨rfl, rfl⟩
theorem is_big (r : Int) (w : World) (h0 : 5 ≤ r) : Calls Try.prog 28 #[.int .i64 r] w fun e w' => e = .returned (.bool false) ∧ w = w' := by
  have h1 : ¬ r < 5 := by omega
  have h2 : 0 ≤ r := by omega
  go_enter Try.func28, Try.ntmps28
  go_wp2
  go_ret
  exact ⟨rfl, rfl⟩
theorem is_no (r : Int) (w : World) (h : r < 0 ∨ 5 ≤ r) : Calls Try.prog 28 #[.int .i64 r] w fun e w' => e = .returned (.bool false) ∧ w = w' :=
  h.elim (is_neg r w) (is_big r w)

theorem has_no (a0 a1 a2 a3 a4 r n : Int) (w : World) (h : r < 0 ∨ 5 ≤ r) :
    Calls Try.prog 16 #[.agg (C5 a0 a1 a2 a3 a4), .int .i64 r, .int .i64 n] w fun e w' => e = .returned (.bool false) ∧ Below w.heap.size w w' := by
  have H := Lib.hid h
  clear h
  go_enter Try.func16, Try.ntmps16
  go_wp2_with (go_at_call 28; refine (is_no _ _ H.out).mono ?_; rintro e w' ⟨rfl, rfl⟩)
  go_ret
  exact ⟨rfl, (Below.refl _ _).alloc (Nat.le_refl _) _⟩

def get5 (a0 a1 a2 a3 a4 i : Int) : Int := if i = 0 then a0 else if i = 1 then a1 else if i = 2 then a2 else if i = 3 then a3 else a4
def has5 (a0 a1 a2 a3 a4 r n : Int) : Bool := decide (0 ≤ r ∧ r < 5 ∧ 0 < n ∧ n ≤ get5 a0 a1 a2 a3 a4 r)
theorem has5_iff (a0 a1 a2 a3 a4 r n : Int) : has5 a0 a1 a2 a3 a4 r n = true ↔ 0 ≤ r ∧ r < 5 ∧ 0 < n ∧ n ≤ get5 a0 a1 a2 a3 a4 r := by simp [has5]

theorem has_lo0 (a0 a1 a2 a3 a4 n : Int) (w : World) (h : ¬ 0 < n) :
    Calls Try.prog 16 #[.agg (C5 a0 a1 a2 a3 a4), .int .i64 0, .int .i64 n] w fun e w' => e = .returned (.bool false) ∧ Below w.heap.size w w' := by
  go_enter Try.func16, Try.ntmps16
  go_wp2_with (go_at_call 28; refine (is_yes _ _ (by omega) (by omega)).mono ?_; rintro e w' ⟨rfl, rfl⟩)
  go_ret
  exact ⟨rfl, (Below.refl _ _).alloc (Nat.le_refl _) _⟩
theorem has_hi0 (a0 a1 a2 a3 a4 n : Int) (w : World) (h : 0 < n) :
    Calls Try.prog 16 #[.agg (C5 a0 a1 a2 a3 a4), .int .i64 0, .int .i64 n] w fun e w' => e = .returned (.bool (decide (n ≤ a0))) ∧ Below w.heap.size w w' := by
  go_enter Try.func16, Try.ntmps16
  go_wp2_with (go_at_call 28; refine (is_yes _ _ (by omega) (by omega)).mono ?_; rintro e w' ⟨rfl, rfl⟩)
  go_ret
  exact ⟨rfl, (Below.refl _ _).alloc (Nat.le_refl _) _⟩

theorem has_lo1 (a0 a1 a2 a3 a4 n : Int) (w : World) (h : ¬ 0 < n) :
    Calls Try.prog 16 #[.agg (C5 a0 a1 a2 a3 a4), .int .i64 1, .int .i64 n] w fun e w' => e = .returned (.bool false) ∧ Below w.heap.size w w' := by
  go_enter Try.func16, Try.ntmps16
  go_wp2_with (go_at_call 28; refine (is_yes _ _ (by omega) (by omega)).mono ?_; rintro e w' ⟨rfl, rfl⟩)
  go_ret
  exact ⟨rfl, (Below.refl _ _).alloc (Nat.le_refl _) _⟩
theorem has_hi1 (a0 a1 a2 a3 a4 n : Int) (w : World) (h : 0 < n) :
    Calls Try.prog 16 #[.agg (C5 a0 a1 a2 a3 a4), .int .i64 1, .int .i64 n] w fun e w' => e = .returned (.bool (decide (n ≤ a1))) ∧ Below w.heap.size w w' := by
  go_enter Try.func16, Try.ntmps16
  go_wp2_with (go_at_call 28; refine (is_yes _ _ (by omega) (by omega)).mono ?_; rintro e w' ⟨rfl, rfl⟩)
  go_ret
  exact ⟨rfl, (Below.refl _ _).alloc (Nat.le_refl _) _⟩

theorem has_lo2 (a0 a1 a2 a3 a4 n : Int) (w : World) (h : ¬ 0 < n) :
    Calls Try.prog 16 #[.agg (C5 a0 a1 a2 a3 a4), .int .i64 2, .int .i64 n] w fun e w' => e = .returned (.bool false) ∧ Below w.heap.size w w' := by
  go_enter Try.func16, Try.ntmps16
  go_wp2_with (go_at_call 28; refine (is_yes _ _ (by omega) (by omega)).mono ?_; rintro e w' ⟨rfl, rfl⟩)
  go_ret
  exact ⟨rfl, (Below.refl _ _).alloc (Nat.le_refl _) _⟩
theorem has_hi2 (a0 a1 a2 a3 a4 n : Int) (w : World) (h : 0 < n) :
    Calls Try.prog 16 #[.agg (C5 a0 a1 a2 a3 a4), .int .i64 2, .int .i64 n] w fun e w' => e = .returned (.bool (decide (n ≤ a2))) ∧ Below w.heap.size w w' := by
  go_enter Try.func16, Try.ntmps16
  go_wp2_with (go_at_call 28; refine (is_yes _ _ (by omega) (by omega)).mono ?_; rintro e w' ⟨rfl, rfl⟩)
  go_ret
  exact ⟨rfl, (Below.refl _ _).alloc (Nat.le_refl _) _⟩

theorem has_lo3 (a0 a1 a2 a3 a4 n : Int) (w : World) (h : ¬ 0 < n) :
    Calls Try.prog 16 #[.agg (C5 a0 a1 a2 a3 a4), .int .i64 3, .int .i64 n] w fun e w' => e = .returned (.bool false) ∧ Below w.heap.size w w' := by
  go_enter Try.func16, Try.ntmps16
  go_wp2_with (go_at_call 28; refine (is_yes _ _ (by omega) (by omega)).mono ?_; rintro e w' ⟨rfl, rfl⟩)
  go_ret
  exact ⟨rfl, (Below.refl _ _).alloc (Nat.le_refl _) _⟩
theorem has_hi3 (a0 a1 a2 a3 a4 n : Int) (w : World) (h : 0 < n) :
    Calls Try.prog 16 #[.agg (C5 a0 a1 a2 a3 a4), .int .i64 3, .int .i64 n] w fun e w' => e = .returned (.bool (decide (n ≤ a3))) ∧ Below w.heap.size w w' := by
  go_enter Try.func16, Try.ntmps16
  go_wp2_with (go_at_call 28; refine (is_yes _ _ (by omega) (by omega)).mono ?_; rintro e w' ⟨rfl, rfl⟩)
  go_ret
  exact ⟨rfl, (Below.refl _ _).alloc (Nat.le_refl _) _⟩

theorem has_lo4 (a0 a1 a2 a3 a4 n : Int) (w : World) (h : ¬ 0 < n) :
    Calls Try.prog 16 #[.agg (C5 a0 a1 a2 a3 a4), .int .i64 4, .int .i64 n] w fun e w' => e = .returned (.bool false) ∧ Below w.heap.size w w' := by
  go_enter Try.func16, Try.ntmps16
  go_wp2_with (go_at_call 28; refine (is_yes _ _ (by omega) (by omega)).mono ?_; rintro e w' ⟨rfl, rfl⟩)
  go_ret
  exact ⟨rfl, (Below.refl _ _).alloc (Nat.le_refl _) _⟩
theorem has_hi4 (a0 a1 a2 a3 a4 n : Int) (w : World) (h : 0 < n) :
    Calls Try.prog 16 #[.agg (C5 a0 a1 a2 a3 a4), .int .i64 4, .int .i64 n] w fun e w' => e = .returned (.bool (decide (n ≤ a4))) ∧ Below w.heap.size w w' := by
  go_enter Try.func16, Try.ntmps16
  go_wp2_with (go_at_call 28; refine (is_yes _ _ (by omega) (by omega)).mono ?_; rintro e w' ⟨rfl, rfl⟩)
  go_ret
  exact ⟨rfl, (Below.refl _ _).alloc (Nat.le_refl _) _⟩

theorem has_any (a0 a1 a2 a3 a4 r n : Int) (w : World) :
    Calls Try.prog 16 #[.agg (C5 a0 a1 a2 a3 a4), .int .i64 r, .int .i64 n] w fun e w' => e = .returned (.bool (has5 a0 a1 a2 a3 a4 r n)) ∧ Below w.heap.size w w' := by
  by_cases hr : r < 0 ∨ 5 ≤ r
  · refine (has_no a0 a1 a2 a3 a4 r n w hr).mono fun e w' ⟨he, hb⟩ => ⟨he.trans (ret_bool ?_), hb⟩
    unfold has5; symm; rw [decide_eq_false_iff_not]; omega
  · have h5 : r = 0 ∨ r = 1 ∨ r = 2 ∨ r = 3 ∨ r = 4 := by omega
    by_cases hn : 0 < n
    · rcases h5 with rfl | rfl | rfl | rfl | rfl
      · exact (has_hi0 a0 a1 a2 a3 a4 n w hn).mono fun e w' ⟨he, hb⟩ => ⟨he.trans (ret_bool (by simp [has5, get5, hn])), hb⟩
      · exact (has_hi1 a0 a1 a2 a3 a4 n w hn).mono fun e w' ⟨he, hb⟩ => ⟨he.trans (ret_bool (by simp [has5, get5, hn])), hb⟩
      · exact (has_hi2 a0 a1 a2 a3 a4 n w hn).mono fun e w' ⟨he, hb⟩ => ⟨he.trans (ret_bool (by simp [has5, get5, hn])), hb⟩
      · exact (has_hi3 a0 a1 a2 a3 a4 n w hn).mono fun e w' ⟨he, hb⟩ => ⟨he.trans (ret_bool (by simp [has5, get5, hn])), hb⟩
      · exact (has_hi4 a0 a1 a2 a3 a4 n w hn).mono fun e w' ⟨he, hb⟩ => ⟨he.trans (ret_bool (by simp [has5, get5, hn])), hb⟩
    · rcases h5 with rfl | rfl | rfl | rfl | rfl
      · exact (has_lo0 a0 a1 a2 a3 a4 n w hn).mono fun e w' ⟨he, hb⟩ => ⟨he.trans (ret_bool (by simp [has5, hn])), hb⟩
      · exact (has_lo1 a0 a1 a2 a3 a4 n w hn).mono fun e w' ⟨he, hb⟩ => ⟨he.trans (ret_bool (by simp [has5, hn])), hb⟩
      · exact (has_lo2 a0 a1 a2 a3 a4 n w hn).mono fun e w' ⟨he, hb⟩ => ⟨he.trans (ret_bool (by simp [has5, hn])), hb⟩
      · exact (has_lo3 a0 a1 a2 a3 a4 n w hn).mono fun e w' ⟨he, hb⟩ => ⟨he.trans (ret_bool (by simp [has5, hn])), hb⟩
      · exact (has_lo4 a0 a1 a2 a3 a4 n w hn).mono fun e w' ⟨he, hb⟩ => ⟨he.trans (ret_bool (by simp [has5, hn])), hb⟩

theorem shown_any (w : World) : Calls Try.prog 13 #[] w fun e w' => e = .returned (.bool true) ∧ Below w.heap.size w w' := by
  have h1 : has5 1 0 2 0 0 2 2 = true := by decide
  have h2 : has5 1 0 2 0 0 1 1 = false := by decide
  have h3 : eq5 (max 1 0) (max 0 3) (max 2 1) (max 0 0) (max 0 0) 1 3 2 0 0 = true := by decide
  go_enter Try.func13, Try.ntmps13
  go_wp2_with (fail)
  go_at_call 14; refine (join_any _ _ _ _ _ _ _ _ _ _ _).mono ?_; rintro e w1 ⟨rfl, hb1⟩
  go_wp2_with (fail)
  go_at_call 16; refine (has_any _ _ _ _ _ _ _ _).mono ?_; rintro e w2 ⟨rfl, hb2⟩
  go_wp2_with (fail)
  go_at_call 16; refine (has_any _ _ _ _ _ _ _ _).mono ?_; rintro e w3 ⟨rfl, hb3⟩
  go_wp2_with (fail)
  go_ret
  exact ⟨rfl, (hb1.trans (hb2.mono hb1.size)).trans (hb3.mono (Nat.le_trans hb1.size hb2.size))⟩
