/- Plain mathematics for this seat (BigMath): no program in sight. -/
set_option linter.unusedVariables false
set_option linter.unusedSimpArgs false
/- Plain whole numbers of four words: no program in sight. -/
namespace Go.Proofs.YtjiloachlemlcaaDoor.Bn
def bv (a0 a1 a2 a3 : Int) : Int := a0 + a1 * 18446744073709551616 + a2 * 340282366920938463463374607431768211456 + a3 * 6277101735386680763835789423207666416102355444464034512896
def ok (a0 a1 a2 a3 : Int) : Prop := 0 ≤ a0 ∧ a0 < 18446744073709551616 ∧ 0 ≤ a1 ∧ a1 < 18446744073709551616 ∧ 0 ≤ a2 ∧ a2 < 18446744073709551616 ∧ 0 ≤ a3 ∧ a3 < 18446744073709551616
def nv (n : Bool) (a0 a1 a2 a3 : Int) : Int := if n = true then -bv a0 a1 a2 a3 else bv a0 a1 a2 a3
theorem bv_range {a0 a1 a2 a3 : Int} (h : ok a0 a1 a2 a3) : 0 ≤ bv a0 a1 a2 a3 ∧ bv a0 a1 a2 a3 < 115792089237316195423570985008687907853269984665640564039457584007913129639936 := by
  unfold ok at h; unfold bv; omega
theorem bv_small {x : Int} : bv x 0 0 0 = x := by unfold bv; omega
end Go.Proofs.YtjiloachlemlcaaDoor.Bn
