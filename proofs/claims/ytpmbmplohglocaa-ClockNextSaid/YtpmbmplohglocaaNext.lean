import Derived.Test.YtpmbmplohglocaaNext0
import Derived.Test.YtpmbmplohglocaaNext1
import Derived.Test.YtpmbmplohglocaaNext2
import Derived.Test.YtpmbmplohglocaaNext3
import Derived.Test.YtpmbmplohglocaaNext4
namespace Go.Proofs.Ytpmbmplohglocaa
open Go.RowKit

theorem nextLaw_any (a0 a1 a2 a3 a4 r R N : Int) (w : World) (r0 : 0 ≤ r) (r1 : r ≤ 255) :
    Calls Try.prog 7 #[.agg (C5 a0 a1 a2 a3 a4), .int .u8 r, .agg #[.int .i64 R, .int .i64 N]] w fun e w' => e = .returned (.bool true) ∧ Below w.heap.size w w' := by
  obtain ⟨m0, e0, p0, q0⟩ : ∃ m, bits .and .i64 a0 1048575 = m ∧ 0 ≤ m ∧ m ≤ 1048575 := ⟨_, rfl, (and_le a0 1048575 (by omega)).1, (and_le a0 1048575 (by omega)).2⟩
  obtain ⟨m1, e1, p1, q1⟩ : ∃ m, bits .and .i64 a1 1048575 = m ∧ 0 ≤ m ∧ m ≤ 1048575 := ⟨_, rfl, (and_le a1 1048575 (by omega)).1, (and_le a1 1048575 (by omega)).2⟩
  obtain ⟨m2, e2, p2, q2⟩ : ∃ m, bits .and .i64 a2 1048575 = m ∧ 0 ≤ m ∧ m ≤ 1048575 := ⟨_, rfl, (and_le a2 1048575 (by omega)).1, (and_le a2 1048575 (by omega)).2⟩
  obtain ⟨m3, e3, p3, q3⟩ : ∃ m, bits .and .i64 a3 1048575 = m ∧ 0 ≤ m ∧ m ≤ 1048575 := ⟨_, rfl, (and_le a3 1048575 (by omega)).1, (and_le a3 1048575 (by omega)).2⟩
  obtain ⟨m4, e4, p4, q4⟩ : ∃ m, bits .and .i64 a4 1048575 = m ∧ 0 ≤ m ∧ m ≤ 1048575 := ⟨_, rfl, (and_le a4 1048575 (by omega)).1, (and_le a4 1048575 (by omega)).2⟩
  have h5 : r % 5 = 0 ∨ r % 5 = 1 ∨ r % 5 = 2 ∨ r % 5 = 3 ∨ r % 5 = 4 := by omega
  rcases h5 with hk | hk | hk | hk | hk
  · by_cases hR : R = 0
    · subst hR
      by_cases hN : N = m0 + 1
      · subst hN
        exact next0_fresh a0 a1 a2 a3 a4 m0 m1 m2 m3 m4 r w e0 p0 q0 e1 p1 q1 e2 p2 q2 e3 p3 q3 e4 p4 q4 r0 r1 hk
      · have hN' : (N == m0 + 1) = false := by simpa using hN
        cases hA : has5 m0 m1 m2 m3 m4 0 N
        · exact next0_kf a0 a1 a2 a3 a4 m0 m1 m2 m3 m4 r N w e0 p0 q0 e1 p1 q1 e2 p2 q2 e3 p3 q3 e4 p4 q4 r0 r1 hk hN' hA
        · exact next0_kt a0 a1 a2 a3 a4 m0 m1 m2 m3 m4 r N w e0 p0 q0 e1 p1 q1 e2 p2 q2 e3 p3 q3 e4 p4 q4 r0 r1 hk hN' hA
    · have hR' : (R == 0) = false := by simpa using hR
      cases hA : has5 m0 m1 m2 m3 m4 R N
      · exact next0_rf a0 a1 a2 a3 a4 m0 m1 m2 m3 m4 r R N w e0 p0 q0 e1 p1 q1 e2 p2 q2 e3 p3 q3 e4 p4 q4 r0 r1 hk hR' hA
      · exact next0_rt a0 a1 a2 a3 a4 m0 m1 m2 m3 m4 r R N w e0 p0 q0 e1 p1 q1 e2 p2 q2 e3 p3 q3 e4 p4 q4 r0 r1 hk hR' hA
  · by_cases hR : R = 1
    · subst hR
      by_cases hN : N = m1 + 1
      · subst hN
        exact next1_fresh a0 a1 a2 a3 a4 m0 m1 m2 m3 m4 r w e0 p0 q0 e1 p1 q1 e2 p2 q2 e3 p3 q3 e4 p4 q4 r0 r1 hk
      · have hN' : (N == m1 + 1) = false := by simpa using hN
        cases hA : has5 m0 m1 m2 m3 m4 1 N
        · exact next1_kf a0 a1 a2 a3 a4 m0 m1 m2 m3 m4 r N w e0 p0 q0 e1 p1 q1 e2 p2 q2 e3 p3 q3 e4 p4 q4 r0 r1 hk hN' hA
        · exact next1_kt a0 a1 a2 a3 a4 m0 m1 m2 m3 m4 r N w e0 p0 q0 e1 p1 q1 e2 p2 q2 e3 p3 q3 e4 p4 q4 r0 r1 hk hN' hA
    · have hR' : (R == 1) = false := by simpa using hR
      cases hA : has5 m0 m1 m2 m3 m4 R N
      · exact next1_rf a0 a1 a2 a3 a4 m0 m1 m2 m3 m4 r R N w e0 p0 q0 e1 p1 q1 e2 p2 q2 e3 p3 q3 e4 p4 q4 r0 r1 hk hR' hA
      · exact next1_rt a0 a1 a2 a3 a4 m0 m1 m2 m3 m4 r R N w e0 p0 q0 e1 p1 q1 e2 p2 q2 e3 p3 q3 e4 p4 q4 r0 r1 hk hR' hA
  · by_cases hR : R = 2
    · subst hR
      by_cases hN : N = m2 + 1
      · subst hN
        exact next2_fresh a0 a1 a2 a3 a4 m0 m1 m2 m3 m4 r w e0 p0 q0 e1 p1 q1 e2 p2 q2 e3 p3 q3 e4 p4 q4 r0 r1 hk
      · have hN' : (N == m2 + 1) = false := by simpa using hN
        cases hA : has5 m0 m1 m2 m3 m4 2 N
        · exact next2_kf a0 a1 a2 a3 a4 m0 m1 m2 m3 m4 r N w e0 p0 q0 e1 p1 q1 e2 p2 q2 e3 p3 q3 e4 p4 q4 r0 r1 hk hN' hA
        · exact next2_kt a0 a1 a2 a3 a4 m0 m1 m2 m3 m4 r N w e0 p0 q0 e1 p1 q1 e2 p2 q2 e3 p3 q3 e4 p4 q4 r0 r1 hk hN' hA
    · have hR' : (R == 2) = false := by simpa using hR
      cases hA : has5 m0 m1 m2 m3 m4 R N
      · exact next2_rf a0 a1 a2 a3 a4 m0 m1 m2 m3 m4 r R N w e0 p0 q0 e1 p1 q1 e2 p2 q2 e3 p3 q3 e4 p4 q4 r0 r1 hk hR' hA
      · exact next2_rt a0 a1 a2 a3 a4 m0 m1 m2 m3 m4 r R N w e0 p0 q0 e1 p1 q1 e2 p2 q2 e3 p3 q3 e4 p4 q4 r0 r1 hk hR' hA
  · by_cases hR : R = 3
    · subst hR
      by_cases hN : N = m3 + 1
      · subst hN
        exact next3_fresh a0 a1 a2 a3 a4 m0 m1 m2 m3 m4 r w e0 p0 q0 e1 p1 q1 e2 p2 q2 e3 p3 q3 e4 p4 q4 r0 r1 hk
      · have hN' : (N == m3 + 1) = false := by simpa using hN
        cases hA : has5 m0 m1 m2 m3 m4 3 N
        · exact next3_kf a0 a1 a2 a3 a4 m0 m1 m2 m3 m4 r N w e0 p0 q0 e1 p1 q1 e2 p2 q2 e3 p3 q3 e4 p4 q4 r0 r1 hk hN' hA
        · exact next3_kt a0 a1 a2 a3 a4 m0 m1 m2 m3 m4 r N w e0 p0 q0 e1 p1 q1 e2 p2 q2 e3 p3 q3 e4 p4 q4 r0 r1 hk hN' hA
    · have hR' : (R == 3) = false := by simpa using hR
      cases hA : has5 m0 m1 m2 m3 m4 R N
      · exact next3_rf a0 a1 a2 a3 a4 m0 m1 m2 m3 m4 r R N w e0 p0 q0 e1 p1 q1 e2 p2 q2 e3 p3 q3 e4 p4 q4 r0 r1 hk hR' hA
      · exact next3_rt a0 a1 a2 a3 a4 m0 m1 m2 m3 m4 r R N w e0 p0 q0 e1 p1 q1 e2 p2 q2 e3 p3 q3 e4 p4 q4 r0 r1 hk hR' hA
  · by_cases hR : R = 4
    · subst hR
      by_cases hN : N = m4 + 1
      · subst hN
        exact next4_fresh a0 a1 a2 a3 a4 m0 m1 m2 m3 m4 r w e0 p0 q0 e1 p1 q1 e2 p2 q2 e3 p3 q3 e4 p4 q4 r0 r1 hk
      · have hN' : (N == m4 + 1) = false := by simpa using hN
        cases hA : has5 m0 m1 m2 m3 m4 4 N
        · exact next4_kf a0 a1 a2 a3 a4 m0 m1 m2 m3 m4 r N w e0 p0 q0 e1 p1 q1 e2 p2 q2 e3 p3 q3 e4 p4 q4 r0 r1 hk hN' hA
        · exact next4_kt a0 a1 a2 a3 a4 m0 m1 m2 m3 m4 r N w e0 p0 q0 e1 p1 q1 e2 p2 q2 e3 p3 q3 e4 p4 q4 r0 r1 hk hN' hA
    · have hR' : (R == 4) = false := by simpa using hR
      cases hA : has5 m0 m1 m2 m3 m4 R N
      · exact next4_rf a0 a1 a2 a3 a4 m0 m1 m2 m3 m4 r R N w e0 p0 q0 e1 p1 q1 e2 p2 q2 e3 p3 q3 e4 p4 q4 r0 r1 hk hR' hA
      · exact next4_rt a0 a1 a2 a3 a4 m0 m1 m2 m3 m4 r R N w e0 p0 q0 e1 p1 q1 e2 p2 q2 e3 p3 q3 e4 p4 q4 r0 r1 hk hR' hA
end Go.Proofs.Ytpmbmplohglocaa
