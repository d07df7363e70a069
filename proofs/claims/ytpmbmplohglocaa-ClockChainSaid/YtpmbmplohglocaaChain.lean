import Derived.Test.YtpmbmplohglocaaChain0
import Derived.Test.YtpmbmplohglocaaChain1
import Derived.Test.YtpmbmplohglocaaChain2
import Derived.Test.YtpmbmplohglocaaChain3
import Derived.Test.YtpmbmplohglocaaChain4
namespace Go.Proofs.Ytpmbmplohglocaa
open Go.RowKit

theorem chainLaw_any (a0 a1 a2 a3 a4 r n : Int) (w : World) (r0 : 0 ≤ r) (r1 : r ≤ 255) (n0 : 0 ≤ n) (n1 : n ≤ 255) :
    Calls Try.prog 8 #[.agg (C5 a0 a1 a2 a3 a4), .int .u8 r, .int .u8 n] w fun e w' => e = .returned (.bool true) ∧ Below w.heap.size w w' := by
  obtain ⟨m0, e0, p0, q0⟩ : ∃ m, bits .and .i64 a0 511 = m ∧ 0 ≤ m ∧ m ≤ 511 := ⟨_, rfl, (and_le a0 511 (by omega)).1, (and_le a0 511 (by omega)).2⟩
  obtain ⟨m1, e1, p1, q1⟩ : ∃ m, bits .and .i64 a1 511 = m ∧ 0 ≤ m ∧ m ≤ 511 := ⟨_, rfl, (and_le a1 511 (by omega)).1, (and_le a1 511 (by omega)).2⟩
  obtain ⟨m2, e2, p2, q2⟩ : ∃ m, bits .and .i64 a2 511 = m ∧ 0 ≤ m ∧ m ≤ 511 := ⟨_, rfl, (and_le a2 511 (by omega)).1, (and_le a2 511 (by omega)).2⟩
  obtain ⟨m3, e3, p3, q3⟩ : ∃ m, bits .and .i64 a3 511 = m ∧ 0 ≤ m ∧ m ≤ 511 := ⟨_, rfl, (and_le a3 511 (by omega)).1, (and_le a3 511 (by omega)).2⟩
  obtain ⟨m4, e4, p4, q4⟩ : ∃ m, bits .and .i64 a4 511 = m ∧ 0 ≤ m ∧ m ≤ 511 := ⟨_, rfl, (and_le a4 511 (by omega)).1, (and_le a4 511 (by omega)).2⟩
  have h5 : r % 5 = 0 ∨ r % 5 = 1 ∨ r % 5 = 2 ∨ r % 5 = 3 ∨ r % 5 = 4 := by omega
  rcases h5 with hk | hk | hk | hk | hk
  · exact chain0 a0 a1 a2 a3 a4 m0 m1 m2 m3 m4 r n w e0 p0 q0 e1 p1 q1 e2 p2 q2 e3 p3 q3 e4 p4 q4 r0 r1 n0 n1 hk
  · exact chain1 a0 a1 a2 a3 a4 m0 m1 m2 m3 m4 r n w e0 p0 q0 e1 p1 q1 e2 p2 q2 e3 p3 q3 e4 p4 q4 r0 r1 n0 n1 hk
  · exact chain2 a0 a1 a2 a3 a4 m0 m1 m2 m3 m4 r n w e0 p0 q0 e1 p1 q1 e2 p2 q2 e3 p3 q3 e4 p4 q4 r0 r1 n0 n1 hk
  · exact chain3 a0 a1 a2 a3 a4 m0 m1 m2 m3 m4 r n w e0 p0 q0 e1 p1 q1 e2 p2 q2 e3 p3 q3 e4 p4 q4 r0 r1 n0 n1 hk
  · exact chain4 a0 a1 a2 a3 a4 m0 m1 m2 m3 m4 r n w e0 p0 q0 e1 p1 q1 e2 p2 q2 e3 p3 q3 e4 p4 q4 r0 r1 n0 n1 hk
end Go.Proofs.Ytpmbmplohglocaa
