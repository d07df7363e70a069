import Derived.Test.YtkcfcimophjomaaDiskF
import Derived.Lib.AppendZeros
import Derived.Deep.RegionLaw
import Derived.Deep.RegionHeld3
import Derived.Deep.DrawnRows
namespace Go.Proofs.Ytkcfcimophjomaa
open Go.RowKit
set_option linter.unusedVariables false
set_option linter.unusedSimpArgs false
theorem step_append_run {P : Program} {ops : Array Oper} {o : Oper} {a : Act} {w : World} {K : Act → World → Prop} {Q : Exit → Act → World → Prop} {E : Prop} (hgd : o.guard = none) (s x : Operand) (t tn : TypeId)
    (ho : o.op = .call { callee := .builtin .append, args := #[s, x], argTypes := #[t, tn] }) (vs vx : Value) (hs : a.eval s = vs) (hx : a.eval x = vx)
    (v' : Value) (w' : World) (hr : Hid ((Builtin.append_ #[t, tn] o.type #[vs, vx]).run P w = .ok v' w')) (h : K (a.put o.dst v') w') :
    if Region.wanted o (yielded ops a.tmps) = true then Oper.wp P o a w K Q else E := by
  rw [if_pos (by simp [Region.wanted, hgd])]
  exact Lib.wp_append_run w s x t tn ho vs vx hs hx v' w' hr.out h
theorem run_max_mx {P : Program} (w : World) (ts : Array TypeId) (t : TypeId) (k k' : IntKind) (x y : Int) :
    (Builtin.max_ ts t #[.int k x, .int k' y]).run P w = .ok (.int k (max x y)) w := by
  rw [run_max_int2]; congr 2; rw [Int.max_def]; split <;> split <;> omega
theorem run_min_mx {P : Program} (w : World) (ts : Array TypeId) (t : TypeId) (k k' : IntKind) (x y : Int) :
    (Builtin.min_ ts t #[.int k x, .int k' y]).run P w = .ok (.int k (min x y)) w := by
  rw [run_min_int2]; congr 2; rw [Int.min_def]; split <;> split <;> omega
theorem step_max_run {P : Program} {ops : Array Oper} {o : Oper} {a : Act} {w : World} {K : Act → World → Prop} {Q : Exit → Act → World → Prop} {E : Prop} (hgd : o.guard = none) (s x : Operand) (t tn : TypeId)
    (ho : o.op = .call { callee := .builtin .max, args := #[s, x], argTypes := #[t, tn] }) (p q : Int) (hs : a.eval s = .int .i64 p) (hx : a.eval x = .int .i64 q)
    (h : K (a.put o.dst (.int .i64 (max p q))) w) :
    if Region.wanted o (yielded ops a.tmps) = true then Oper.wp P o a w K Q else E := by
  rw [if_pos (by simp [Region.wanted, hgd])]
  unfold Oper.wp execOp
  simp only [ho, resolve, invoke, builtin, Sem.run_bind, Sem.run_pure, Result.andThen_ok, List.map_toArray, List.map_cons, List.map_nil, hs, hx, run_max_mx]
  exact h
theorem step_min_run {P : Program} {ops : Array Oper} {o : Oper} {a : Act} {w : World} {K : Act → World → Prop} {Q : Exit → Act → World → Prop} {E : Prop} (hgd : o.guard = none) (s x : Operand) (t tn : TypeId)
    (ho : o.op = .call { callee := .builtin .min, args := #[s, x], argTypes := #[t, tn] }) (p q r : Int) (hs : a.eval s = .int .i64 p) (hx : a.eval x = .int .i64 q) (hr : Hid (min p q = r))
    (h : K (a.put o.dst (.int .i64 r)) w) :
    if Region.wanted o (yielded ops a.tmps) = true then Oper.wp P o a w K Q else E := by
  rw [if_pos (by simp [Region.wanted, hgd])]
  unfold Oper.wp execOp
  simp only [ho, resolve, invoke, builtin, Sem.run_bind, Sem.run_pure, Result.andThen_ok, List.map_toArray, List.map_cons, List.map_nil, hs, hx, run_min_mx, hr.out]
  exact h
attribute [local go_sem ↓] Go.wp_at_zero Go.wp_at_succ
set_option maxHeartbeats 2000000 in
theorem write_cut (w : World) (m : Nat) (bs : List Nat) (x : Int) (k n c : Nat) (a : Option Addr) (g : Nat → Nat) (h : IsDisk w m bs false (some x)) (hv : Rd w (.slice a n c) n g) (hn : bs.length + n ≤ 100000) (hk : min (max x 0) (n : Int) = (k : Int)) :
    Calls Try.prog 11 #[.pointer (some ⟨m + 1, 0, none⟩), .slice a n c] w fun e w' => e = .returned (.int .i64 18) ∧ IsDisk w' m (bs ++ fl g k) true none ∧ Below m w w' := by
  have hlt := h.lt
  obtain ⟨v, c0, c1, c2, cf, cown, cm⟩ := h.cells
  have hlk := look_some cm
  unfold keepV at hlk
  have HH := Lib.hid h
  have HO := Lib.hid cown
  have HV := Lib.hid hv
  have hkn : k ≤ n := by omega
  obtain ⟨av, cv, rfl⟩ := own_slice cown
  clear cown cm h hv
  go_enter Try.func11, Try.ntmps11
  go_wp2_with (fail)
  obtain ⟨v3, w3, hrun, hown3, hgr3⟩ := append_rd w.drew (m + 2) _ _ _ (show w.drew.ownsRow (m + 2) 5 1 _ bs.length (cells8 bs) from HO.out) (.slice a k c) k g ((HV.out.below ((Below.refl _ _).drew)).cut hkn) (by omega) (by show m + 2 ≤ w.heap.size; omega) 26
  obtain ⟨a3, c3, rfl⟩ := own_slice hown3
  have hB3 : Below (m + 2) w w3 := ((Below.refl _ _).drew).grown hgr3 (by show m + 2 ≤ w.heap.size; omega) (fun j hj => (HO.out.lt j hj).1)
  have k0 : w3.cell? ⟨m + 1, 0, none⟩ = some (.slice av bs.length cv) := (hB3.cell (p := ⟨m + 1, 0, none⟩) (by show m + 1 < m + 2; omega)).trans c0
  have k1 : w3.frozen? ⟨m + 1, 0, none⟩ = false := (hB3.frozen (p := ⟨m + 1, 0, none⟩) (by show m + 1 < m + 2; omega)).trans (cf 0)
  have h5 := HH.out.store (bs' := bs ++ fl g k) hB3 (by rw [List.length_append, fl_len]; exact hown3)
  have H5 := Lib.hid h5
  have hkc : k ≤ c := by have := HV.out.take; obtain ⟨_, _, he, h1, _⟩ := this; injection he with _ _ e3; omega
  have HR := Lib.hid hrun
  have HK := Lib.hid hk
  clear hk
  have g1 : (0:Int) ≤ (k : Int) := by omega
  have g2 : (k:Int) ≤ (c : Int) := by omega
  clear h5 hown3 hgr3 hrun
  refine wp_region_any (by kernel_rfl) ?_
  change wpAny _ _ _ _ _ _ _ (World.drew _)
  refine take_at (i := 0) (v := ?_) 30 rfl (by kernel_rfl) (by kernel_rfl) (by kernel_rfl) rfl (fun _ _ _ h => h) (Or.inl ⟨by rfl, ?_⟩) ?_
  rotate_left; (intro w; go_simp; try with_reducible rfl); try simp only [Act.put, List.setIfInBounds_toArray, List.set_cons_zero, List.set_cons_succ]
  refine take_at (i := 1) (v := ?_) 31 rfl (by kernel_rfl) (by kernel_rfl) (by kernel_rfl) rfl (fun _ _ _ h => h) (Or.inl ⟨by rfl, ?_⟩) ?_
  rotate_left; (intro w; go_simp; try with_reducible rfl); try simp only [Act.put, List.setIfInBounds_toArray, List.set_cons_zero, List.set_cons_succ]
  refine take_at (i := 2) (v := ?_) 32 rfl (by kernel_rfl) (by kernel_rfl) (by kernel_rfl) rfl (fun _ _ _ h => h) (Or.inl ⟨by rfl, ?_⟩) ?_
  rotate_left; (intro w; go_simp; try with_reducible rfl); try simp only [Act.put, List.setIfInBounds_toArray, List.set_cons_zero, List.set_cons_succ]
  refine take_at (i := 3) (v := ?_) 33 rfl (by kernel_rfl) (by kernel_rfl) (by kernel_rfl) rfl (fun _ _ _ h => h) (Or.inl ⟨by rfl, ?_⟩) ?_
  rotate_left; (intro w; go_simp; try with_reducible rfl); try simp only [Act.put, List.setIfInBounds_toArray, List.set_cons_zero, List.set_cons_succ]
  refine take_at (i := 5) (v := ?_) 35 rfl (by kernel_rfl) (by kernel_rfl) (by kernel_rfl) rfl (fun _ _ _ h => h) (Or.inl ⟨by rfl, ?_⟩) ?_
  rotate_left; (intro w; go_simp; try with_reducible rfl); try simp only [Act.put, List.setIfInBounds_toArray, List.set_cons_zero, List.set_cons_succ]
  refine take_at (i := 6) (v := ?_) 36 rfl (by kernel_rfl) (by kernel_rfl) (by kernel_rfl) rfl (fun _ _ _ h => h) (Or.inl ⟨by rfl, ?_⟩) ?_
  rotate_left; (intro w; go_simp; try with_reducible rfl); try simp only [Act.put, List.setIfInBounds_toArray, List.set_cons_zero, List.set_cons_succ]
  refine take_at (i := 8) (v := ?_) 38 rfl (by kernel_rfl) (by kernel_rfl) (by kernel_rfl) rfl (fun _ _ _ h => h) (Or.inl ⟨by rfl, ?_⟩) ?_
  rotate_left; (intro w; go_simp; try with_reducible rfl); try simp only [Act.put, List.setIfInBounds_toArray, List.set_cons_zero, List.set_cons_succ]
  refine take_at (i := 9) (v := ?_) 39 rfl (by kernel_rfl) (by kernel_rfl) (by kernel_rfl) rfl (fun _ _ _ h => h) (Or.inl ⟨by rfl, ?_⟩) ?_
  rotate_left; (intro w; go_simp; try with_reducible rfl); try simp only [Act.put, List.setIfInBounds_toArray, List.set_cons_zero, List.set_cons_succ]
  refine wpAny_ready (rs := [4, 7]) (by kernel_rfl) (by simp) ?_
  refine AllReady.cons rfl (fun K hK => ?_) (AllReady.cons rfl (fun K hK => ?_) AllReady.nil)
  · skip
    go_simp
    refine hK _ _ ?_
    clear hK K
    try simp only [Act.put, List.setIfInBounds_toArray, List.set_cons_zero, List.set_cons_succ]
    refine wpAny_ready (rs := [7]) (by kernel_rfl) (by simp) ?_
    refine AllReady.cons rfl (fun K hK => ?_) AllReady.nil
    refine step_max_run rfl (.tmp 36) (.const (.int .i64 0)) 3 3 rfl _ _ rfl rfl ?_
    refine hK _ _ ?_
    clear hK K
    try simp only [Act.put, List.setIfInBounds_toArray, List.set_cons_zero, List.set_cons_succ]
    refine wpAny_ready (rs := [10]) (by kernel_rfl) (by simp) ?_
    refine AllReady.cons rfl (fun K hK => ?_) AllReady.nil
    refine step_min_run rfl (.tmp 37) (.tmp 39) 3 3 rfl _ _ _ rfl rfl HK ?_
    refine hK _ _ ?_
    clear hK K
    try simp only [Act.put, List.setIfInBounds_toArray, List.set_cons_zero, List.set_cons_succ]
    refine take_at (i := 11) (v := ?_) 41 rfl (by kernel_rfl) (by kernel_rfl) (by kernel_rfl) rfl (fun _ _ _ h => h) (Or.inl ⟨by rfl, ?_⟩) ?_
    rotate_left; (intro w; go_simp; try with_reducible rfl); try simp only [Act.put, List.setIfInBounds_toArray, List.set_cons_zero, List.set_cons_succ]
    refine wpAny_ready (rs := [12]) (by kernel_rfl) (by simp) ?_
    refine AllReady.cons rfl (fun K hK => ?_) AllReady.nil
    refine step_append_run rfl (.tmp 34) (.tmp 41) 26 26 rfl _ _ rfl rfl _ _ HR ?_
    refine hK _ _ ?_
    clear hK K
    try simp only [Act.put, List.setIfInBounds_toArray, List.set_cons_zero, List.set_cons_succ]
    refine take_at (i := 13) (v := ?_) 43 rfl (by kernel_rfl) (by kernel_rfl) (by kernel_rfl) rfl (fun _ _ _ h => h) (Or.inl ⟨by rfl, ?_⟩) ?_
    rotate_left; (intro w; go_simp; try with_reducible rfl); try simp only [Act.put, List.setIfInBounds_toArray, List.set_cons_zero, List.set_cons_succ]
    refine take_at (i := 14) (v := ?_) 44 rfl (by kernel_rfl) (by kernel_rfl) (by kernel_rfl) rfl (fun _ _ _ h => h) (Or.inl ⟨by rfl, ?_⟩) ?_
    rotate_left; (intro w; go_simp; try with_reducible rfl); try simp only [Act.put, List.setIfInBounds_toArray, List.set_cons_zero, List.set_cons_succ]
    refine wpAny_ready (rs := [15]) (by kernel_rfl) (by simp) ?_
    refine AllReady.cons rfl (fun K hK => ?_) AllReady.nil
    go_simp
    refine hK _ _ ?_
    clear hK K
    try simp only [Act.put, List.setIfInBounds_toArray, List.set_cons_zero, List.set_cons_succ]
    refine wpAny_done (by kernel_rfl) ?_ _
    go_wp2_with (fail)
    go_at_call 25; refine (crash_any _ m _ _ _ H5.out.1).mono ?_; rintro e w5 ⟨rfl, h6, hb6⟩
    have H6 := Lib.hid h6
    clear h6
    go_wp2_with (fail)
    go_ret
    exact ⟨rfl, H6.out, H5.out.2.trans hb6⟩
  · skip
    refine step_max_run rfl (.tmp 36) (.const (.int .i64 0)) 3 3 rfl _ _ rfl rfl ?_
    refine hK _ _ ?_
    clear hK K
    try simp only [Act.put, List.setIfInBounds_toArray, List.set_cons_zero, List.set_cons_succ]
    refine wpAny_ready (rs := [4, 10]) (by kernel_rfl) (by simp) ?_
    refine AllReady.cons rfl (fun K hK => ?_) (AllReady.cons rfl (fun K hK => ?_) AllReady.nil)
    · skip
      go_simp
      refine hK _ _ ?_
      clear hK K
      try simp only [Act.put, List.setIfInBounds_toArray, List.set_cons_zero, List.set_cons_succ]
      refine wpAny_ready (rs := [10]) (by kernel_rfl) (by simp) ?_
      refine AllReady.cons rfl (fun K hK => ?_) AllReady.nil
      refine step_min_run rfl (.tmp 37) (.tmp 39) 3 3 rfl _ _ _ rfl rfl HK ?_
      refine hK _ _ ?_
      clear hK K
      try simp only [Act.put, List.setIfInBounds_toArray, List.set_cons_zero, List.set_cons_succ]
      refine take_at (i := 11) (v := ?_) 41 rfl (by kernel_rfl) (by kernel_rfl) (by kernel_rfl) rfl (fun _ _ _ h => h) (Or.inl ⟨by rfl, ?_⟩) ?_
      rotate_left; (intro w; go_simp; try with_reducible rfl); try simp only [Act.put, List.setIfInBounds_toArray, List.set_cons_zero, List.set_cons_succ]
      refine wpAny_ready (rs := [12]) (by kernel_rfl) (by simp) ?_
      refine AllReady.cons rfl (fun K hK => ?_) AllReady.nil
      refine step_append_run rfl (.tmp 34) (.tmp 41) 26 26 rfl _ _ rfl rfl _ _ HR ?_
      refine hK _ _ ?_
      clear hK K
      try simp only [Act.put, List.setIfInBounds_toArray, List.set_cons_zero, List.set_cons_succ]
      refine take_at (i := 13) (v := ?_) 43 rfl (by kernel_rfl) (by kernel_rfl) (by kernel_rfl) rfl (fun _ _ _ h => h) (Or.inl ⟨by rfl, ?_⟩) ?_
      rotate_left; (intro w; go_simp; try with_reducible rfl); try simp only [Act.put, List.setIfInBounds_toArray, List.set_cons_zero, List.set_cons_succ]
      refine take_at (i := 14) (v := ?_) 44 rfl (by kernel_rfl) (by kernel_rfl) (by kernel_rfl) rfl (fun _ _ _ h => h) (Or.inl ⟨by rfl, ?_⟩) ?_
      rotate_left; (intro w; go_simp; try with_reducible rfl); try simp only [Act.put, List.setIfInBounds_toArray, List.set_cons_zero, List.set_cons_succ]
      refine wpAny_ready (rs := [15]) (by kernel_rfl) (by simp) ?_
      refine AllReady.cons rfl (fun K hK => ?_) AllReady.nil
      go_simp
      refine hK _ _ ?_
      clear hK K
      try simp only [Act.put, List.setIfInBounds_toArray, List.set_cons_zero, List.set_cons_succ]
      refine wpAny_done (by kernel_rfl) ?_ _
      go_wp2_with (fail)
      go_at_call 25; refine (crash_any _ m _ _ _ H5.out.1).mono ?_; rintro e w5 ⟨rfl, h6, hb6⟩
      have H6 := Lib.hid h6
      clear h6
      go_wp2_with (fail)
      go_ret
      exact ⟨rfl, H6.out, H5.out.2.trans hb6⟩
    · skip
      refine step_min_run rfl (.tmp 37) (.tmp 39) 3 3 rfl _ _ _ rfl rfl HK ?_
      refine hK _ _ ?_
      clear hK K
      try simp only [Act.put, List.setIfInBounds_toArray, List.set_cons_zero, List.set_cons_succ]
      refine take_at (i := 11) (v := ?_) 41 rfl (by kernel_rfl) (by kernel_rfl) (by kernel_rfl) rfl (fun _ _ _ h => h) (Or.inl ⟨by rfl, ?_⟩) ?_
      rotate_left; (intro w; go_simp; try with_reducible rfl); try simp only [Act.put, List.setIfInBounds_toArray, List.set_cons_zero, List.set_cons_succ]
      refine wpAny_ready (rs := [4]) (by kernel_rfl) (by simp) ?_
      refine AllReady.cons rfl (fun K hK => ?_) AllReady.nil
      go_simp
      refine hK _ _ ?_
      clear hK K
      try simp only [Act.put, List.setIfInBounds_toArray, List.set_cons_zero, List.set_cons_succ]
      refine wpAny_ready (rs := [12]) (by kernel_rfl) (by simp) ?_
      refine AllReady.cons rfl (fun K hK => ?_) AllReady.nil
      refine step_append_run rfl (.tmp 34) (.tmp 41) 26 26 rfl _ _ rfl rfl _ _ HR ?_
      refine hK _ _ ?_
      clear hK K
      try simp only [Act.put, List.setIfInBounds_toArray, List.set_cons_zero, List.set_cons_succ]
      refine take_at (i := 13) (v := ?_) 43 rfl (by kernel_rfl) (by kernel_rfl) (by kernel_rfl) rfl (fun _ _ _ h => h) (Or.inl ⟨by rfl, ?_⟩) ?_
      rotate_left; (intro w; go_simp; try with_reducible rfl); try simp only [Act.put, List.setIfInBounds_toArray, List.set_cons_zero, List.set_cons_succ]
      refine take_at (i := 14) (v := ?_) 44 rfl (by kernel_rfl) (by kernel_rfl) (by kernel_rfl) rfl (fun _ _ _ h => h) (Or.inl ⟨by rfl, ?_⟩) ?_
      rotate_left; (intro w; go_simp; try with_reducible rfl); try simp only [Act.put, List.setIfInBounds_toArray, List.set_cons_zero, List.set_cons_succ]
      refine wpAny_ready (rs := [15]) (by kernel_rfl) (by simp) ?_
      refine AllReady.cons rfl (fun K hK => ?_) AllReady.nil
      go_simp
      refine hK _ _ ?_
      clear hK K
      try simp only [Act.put, List.setIfInBounds_toArray, List.set_cons_zero, List.set_cons_succ]
      refine wpAny_done (by kernel_rfl) ?_ _
      go_wp2_with (fail)
      go_at_call 25; refine (crash_any _ m _ _ _ H5.out.1).mono ?_; rintro e w5 ⟨rfl, h6, hb6⟩
      have H6 := Lib.hid h6
      clear h6
      go_wp2_with (fail)
      go_ret
      exact ⟨rfl, H6.out, H5.out.2.trans hb6⟩
end Go.Proofs.Ytkcfcimophjomaa
