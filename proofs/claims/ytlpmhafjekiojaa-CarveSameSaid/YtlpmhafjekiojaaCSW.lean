/- CarveSame: the call answers true, of any four numbers. No conditions. -/
import Derived.Test.YtlpmhafjekiojaaCS0
import Derived.Test.YtlpmhafjekiojaaCS1
import Derived.Test.YtlpmhafjekiojaaCS2
import Derived.Test.YtlpmhafjekiojaaCS3
import Derived.Test.YtlpmhafjekiojaaCS4
import Derived.Test.YtlpmhafjekiojaaCS5
import Derived.Test.YtlpmhafjekiojaaCS6
import Derived.Test.YtlpmhafjekiojaaCS7
import Derived.Test.YtlpmhafjekiojaaCS8
import Derived.Test.YtlpmhafjekiojaaCS9
import Derived.Test.YtlpmhafjekiojaaCS10
import Derived.Test.YtlpmhafjekiojaaCS11
import Derived.Test.YtlpmhafjekiojaaCS12
import Derived.Test.YtlpmhafjekiojaaCS13
import Derived.Test.YtlpmhafjekiojaaCS14
import Derived.Test.YtlpmhafjekiojaaCS15
import Derived.Test.YtlpmhafjekiojaaCS16
open Go Eng Go.Proofs Go.RowKit
namespace carveSameW
open Base
theorem andL {x y : Bool} (h : (x && y) = true) : x = true := (Bool.and_eq_true _ _ ▸ h).1
theorem andR {x y : Bool} (h : (x && y) = true) : y = true := (Bool.and_eq_true _ _ ▸ h).2
theorem somes : ∀ n, n < 70 → some0 n = true
  | 0, _ => (andL e0)
  | 1, _ => (andL (andR e0))
  | 2, _ => (andL (andR (andR e0)))
  | 3, _ => (andL (andR (andR (andR (andR e0)))))
  | 4, _ => (andL (andR (andR (andR (andR (andR (andR e0)))))))
  | 5, _ => (andL (andR (andR (andR (andR (andR (andR (andR (andR e0)))))))))
  | 6, _ => (andL (andR (andR (andR (andR (andR (andR (andR (andR (andR (andR e0)))))))))))
  | 7, _ => (andL (andR (andR (andR (andR (andR (andR (andR (andR (andR (andR (andR (andR e0)))))))))))))
  | 8, _ => (andL (andR (andR (andR (andR (andR (andR (andR (andR (andR (andR (andR (andR (andR (andR e0)))))))))))))))
  | 9, _ => (andR (andR (andR (andR (andR (andR (andR (andR (andR (andR (andR (andR (andR (andR (andR (andR e0))))))))))))))))
  | 10, _ => (andL (andR e1))
  | 11, _ => (andL (andR (andR (andR e1))))
  | 12, _ => (andL (andR (andR (andR (andR (andR e1))))))
  | 13, _ => (andR (andR (andR (andR (andR (andR (andR e1)))))))
  | 14, _ => (andL (andR e2))
  | 15, _ => (andL (andR (andR (andR e2))))
  | 16, _ => (andR (andR (andR (andR (andR e2)))))
  | 17, _ => (andL (andR e3))
  | 18, _ => (andR (andR (andR e3)))
  | 19, _ => (andL (andR e4))
  | 20, _ => (andR (andR (andR e4)))
  | 21, _ => (andL (andR e5))
  | 22, _ => (andL e6)
  | 23, _ => (andR (andR (andR e6)))
  | 24, _ => (andR (andR e7))
  | 25, _ => (andR (andR e8))
  | 26, _ => (andR (andR e9))
  | 27, _ => (andR (andR e10))
  | 28, _ => (andR (andR e11))
  | 29, _ => (andR (andR e12))
  | 30, _ => (andR (andR e13))
  | 31, _ => (andR (andR e14))
  | 32, _ => (andR (andR e15))
  | 33, _ => (andR (andR e16))
  | 34, _ => (andR (andR e17))
  | 35, _ => (andL e19)
  | 36, _ => (andR (andR e20))
  | 37, _ => (andL (andR e22))
  | 38, _ => (andR (andR e23))
  | 39, _ => (andL (andR e25))
  | 40, _ => (andR (andR e26))
  | 41, _ => (andL (andR e28))
  | 42, _ => (andR (andR e29))
  | 43, _ => (andL (andR e31))
  | 44, _ => (andL e33)
  | 45, _ => (andL e35)
  | 46, _ => (andL (andR e37))
  | 47, _ => (andL (andR e39))
  | 48, _ => (andL (andR e41))
  | 49, _ => (andL (andR e43))
  | 50, _ => (andL (andR e45))
  | 51, _ => (andL (andR e47))
  | 52, _ => (andL (andR e49))
  | 53, _ => (andR e51)
  | 54, _ => (andL e54)
  | 55, _ => (andR (andR e56))
  | 56, _ => (andL (andR e59))
  | 57, _ => (andR (andR e61))
  | 58, _ => (andL (andR e64))
  | 59, _ => (andR (andR e66))
  | 60, _ => (andL (andR e69))
  | 61, _ => (andL e72)
  | 62, _ => (andL e75)
  | 63, _ => (andL (andR e78))
  | 64, _ => (andL (andR e81))
  | 65, _ => (andL (andR e84))
  | 66, _ => (andL (andR e87))
  | 67, _ => (andR e90)
  | 68, _ => (andL e94)
  | 69, _ => (andR (andR e97))
  | n + 70, h => absurd h (by omega)
theorem bcase {p : Bool → Prop} (h1 : p true) (h2 : p false) : ∀ b, p b
  | true => h1
  | false => h2
theorem mem_up : ∀ {n i x : Nat}, i ≤ x → x < i + n → x ∈ up i n := by
  intro n
  induction n with
  | zero => intro i x h1 h2; omega
  | succ n ih =>
    intro i x h1 h2
    by_cases e : x = i
    · rw [e]; exact List.mem_cons_self
    · exact List.mem_cons_of_mem _ (ih (by omega) (by omega))
theorem row {n i m x : Nat} (h : rows n i m = true) (h1 : i ≤ x) (h2 : x < i + m) : (caseT n x none && caseN n x) = true := List.all_eq_true.1 h x (mem_up h1 h2)
theorem row2 (i : Nat) (h1 : 1 ≤ i) (h2 : i < 2) : (caseT 2 i none && caseN 2 i) = true := by
  exact row (andL (andR (andR (andR e0)))) (by omega) (by omega)
theorem row3 (i : Nat) (h1 : 1 ≤ i) (h2 : i < 3) : (caseT 3 i none && caseN 3 i) = true := by
  exact row (andL (andR (andR (andR (andR (andR e0)))))) (by omega) (by omega)
theorem row4 (i : Nat) (h1 : 1 ≤ i) (h2 : i < 4) : (caseT 4 i none && caseN 4 i) = true := by
  exact row (andL (andR (andR (andR (andR (andR (andR (andR e0)))))))) (by omega) (by omega)
theorem row5 (i : Nat) (h1 : 1 ≤ i) (h2 : i < 5) : (caseT 5 i none && caseN 5 i) = true := by
  exact row (andL (andR (andR (andR (andR (andR (andR (andR (andR (andR e0)))))))))) (by omega) (by omega)
theorem row6 (i : Nat) (h1 : 1 ≤ i) (h2 : i < 6) : (caseT 6 i none && caseN 6 i) = true := by
  exact row (andL (andR (andR (andR (andR (andR (andR (andR (andR (andR (andR (andR e0)))))))))))) (by omega) (by omega)
theorem row7 (i : Nat) (h1 : 1 ≤ i) (h2 : i < 7) : (caseT 7 i none && caseN 7 i) = true := by
  exact row (andL (andR (andR (andR (andR (andR (andR (andR (andR (andR (andR (andR (andR (andR e0)))))))))))))) (by omega) (by omega)
theorem row8 (i : Nat) (h1 : 1 ≤ i) (h2 : i < 8) : (caseT 8 i none && caseN 8 i) = true := by
  exact row (andL (andR (andR (andR (andR (andR (andR (andR (andR (andR (andR (andR (andR (andR (andR (andR e0)))))))))))))))) (by omega) (by omega)
theorem row9 (i : Nat) (h1 : 1 ≤ i) (h2 : i < 9) : (caseT 9 i none && caseN 9 i) = true := by
  exact row (andL e1) (by omega) (by omega)
theorem row10 (i : Nat) (h1 : 1 ≤ i) (h2 : i < 10) : (caseT 10 i none && caseN 10 i) = true := by
  exact row (andL (andR (andR e1))) (by omega) (by omega)
theorem row11 (i : Nat) (h1 : 1 ≤ i) (h2 : i < 11) : (caseT 11 i none && caseN 11 i) = true := by
  exact row (andL (andR (andR (andR (andR e1))))) (by omega) (by omega)
theorem row12 (i : Nat) (h1 : 1 ≤ i) (h2 : i < 12) : (caseT 12 i none && caseN 12 i) = true := by
  exact row (andL (andR (andR (andR (andR (andR (andR e1))))))) (by omega) (by omega)
theorem row13 (i : Nat) (h1 : 1 ≤ i) (h2 : i < 13) : (caseT 13 i none && caseN 13 i) = true := by
  exact row (andL e2) (by omega) (by omega)
theorem row14 (i : Nat) (h1 : 1 ≤ i) (h2 : i < 14) : (caseT 14 i none && caseN 14 i) = true := by
  exact row (andL (andR (andR e2))) (by omega) (by omega)
theorem row15 (i : Nat) (h1 : 1 ≤ i) (h2 : i < 15) : (caseT 15 i none && caseN 15 i) = true := by
  exact row (andL (andR (andR (andR (andR e2))))) (by omega) (by omega)
theorem row16 (i : Nat) (h1 : 1 ≤ i) (h2 : i < 16) : (caseT 16 i none && caseN 16 i) = true := by
  exact row (andL e3) (by omega) (by omega)
theorem row17 (i : Nat) (h1 : 1 ≤ i) (h2 : i < 17) : (caseT 17 i none && caseN 17 i) = true := by
  exact row (andL (andR (andR e3))) (by omega) (by omega)
theorem row18 (i : Nat) (h1 : 1 ≤ i) (h2 : i < 18) : (caseT 18 i none && caseN 18 i) = true := by
  exact row (andL e4) (by omega) (by omega)
theorem row19 (i : Nat) (h1 : 1 ≤ i) (h2 : i < 19) : (caseT 19 i none && caseN 19 i) = true := by
  exact row (andL (andR (andR e4))) (by omega) (by omega)
theorem row20 (i : Nat) (h1 : 1 ≤ i) (h2 : i < 20) : (caseT 20 i none && caseN 20 i) = true := by
  exact row (andL e5) (by omega) (by omega)
theorem row21 (i : Nat) (h1 : 1 ≤ i) (h2 : i < 21) : (caseT 21 i none && caseN 21 i) = true := by
  exact row (andR (andR e5)) (by omega) (by omega)
theorem row22 (i : Nat) (h1 : 1 ≤ i) (h2 : i < 22) : (caseT 22 i none && caseN 22 i) = true := by
  by_cases h1 : i < 20
  · exact row (andL (andR e6)) (by omega) (by omega)
  exact row (andL (andR (andR e6))) (by omega) (by omega)
theorem row23 (i : Nat) (h1 : 1 ≤ i) (h2 : i < 23) : (caseT 23 i none && caseN 23 i) = true := by
  by_cases h1 : i < 20
  · exact row (andL e7) (by omega) (by omega)
  exact row (andL (andR e7)) (by omega) (by omega)
theorem row24 (i : Nat) (h1 : 1 ≤ i) (h2 : i < 24) : (caseT 24 i none && caseN 24 i) = true := by
  by_cases h1 : i < 20
  · exact row (andL e8) (by omega) (by omega)
  exact row (andL (andR e8)) (by omega) (by omega)
theorem row25 (i : Nat) (h1 : 1 ≤ i) (h2 : i < 25) : (caseT 25 i none && caseN 25 i) = true := by
  by_cases h1 : i < 19
  · exact row (andL e9) (by omega) (by omega)
  exact row (andL (andR e9)) (by omega) (by omega)
theorem row26 (i : Nat) (h1 : 1 ≤ i) (h2 : i < 26) : (caseT 26 i none && caseN 26 i) = true := by
  by_cases h1 : i < 19
  · exact row (andL e10) (by omega) (by omega)
  exact row (andL (andR e10)) (by omega) (by omega)
theorem row27 (i : Nat) (h1 : 1 ≤ i) (h2 : i < 27) : (caseT 27 i none && caseN 27 i) = true := by
  by_cases h1 : i < 19
  · exact row (andL e11) (by omega) (by omega)
  exact row (andL (andR e11)) (by omega) (by omega)
theorem row28 (i : Nat) (h1 : 1 ≤ i) (h2 : i < 28) : (caseT 28 i none && caseN 28 i) = true := by
  by_cases h1 : i < 18
  · exact row (andL e12) (by omega) (by omega)
  exact row (andL (andR e12)) (by omega) (by omega)
theorem row29 (i : Nat) (h1 : 1 ≤ i) (h2 : i < 29) : (caseT 29 i none && caseN 29 i) = true := by
  by_cases h1 : i < 18
  · exact row (andL e13) (by omega) (by omega)
  exact row (andL (andR e13)) (by omega) (by omega)
theorem row30 (i : Nat) (h1 : 1 ≤ i) (h2 : i < 30) : (caseT 30 i none && caseN 30 i) = true := by
  by_cases h1 : i < 18
  · exact row (andL e14) (by omega) (by omega)
  exact row (andL (andR e14)) (by omega) (by omega)
theorem row31 (i : Nat) (h1 : 1 ≤ i) (h2 : i < 31) : (caseT 31 i none && caseN 31 i) = true := by
  by_cases h1 : i < 18
  · exact row (andL e15) (by omega) (by omega)
  exact row (andL (andR e15)) (by omega) (by omega)
theorem row32 (i : Nat) (h1 : 1 ≤ i) (h2 : i < 32) : (caseT 32 i none && caseN 32 i) = true := by
  by_cases h1 : i < 17
  · exact row (andL e16) (by omega) (by omega)
  exact row (andL (andR e16)) (by omega) (by omega)
theorem row33 (i : Nat) (h1 : 1 ≤ i) (h2 : i < 33) : (caseT 33 i none && caseN 33 i) = true := by
  by_cases h1 : i < 17
  · exact row (andL e17) (by omega) (by omega)
  exact row (andL (andR e17)) (by omega) (by omega)
theorem row34 (i : Nat) (h1 : 1 ≤ i) (h2 : i < 34) : (caseT 34 i none && caseN 34 i) = true := by
  by_cases h1 : i < 17
  · exact row (andL e18) (by omega) (by omega)
  by_cases h17 : i < 33
  · exact row (andL (andR e18)) (by omega) (by omega)
  exact row (andR (andR e18)) (by omega) (by omega)
theorem row35 (i : Nat) (h1 : 1 ≤ i) (h2 : i < 35) : (caseT 35 i none && caseN 35 i) = true := by
  by_cases h1 : i < 17
  · exact row (andR e19) (by omega) (by omega)
  by_cases h17 : i < 33
  · exact row (andL e20) (by omega) (by omega)
  exact row (andL (andR e20)) (by omega) (by omega)
theorem row36 (i : Nat) (h1 : 1 ≤ i) (h2 : i < 36) : (caseT 36 i none && caseN 36 i) = true := by
  by_cases h1 : i < 16
  · exact row (andL e21) (by omega) (by omega)
  by_cases h16 : i < 31
  · exact row (andR e21) (by omega) (by omega)
  exact row (andL e22) (by omega) (by omega)
theorem row37 (i : Nat) (h1 : 1 ≤ i) (h2 : i < 37) : (caseT 37 i none && caseN 37 i) = true := by
  by_cases h1 : i < 16
  · exact row (andR (andR e22)) (by omega) (by omega)
  by_cases h16 : i < 31
  · exact row (andL e23) (by omega) (by omega)
  exact row (andL (andR e23)) (by omega) (by omega)
theorem row38 (i : Nat) (h1 : 1 ≤ i) (h2 : i < 38) : (caseT 38 i none && caseN 38 i) = true := by
  by_cases h1 : i < 16
  · exact row (andL e24) (by omega) (by omega)
  by_cases h16 : i < 31
  · exact row (andR e24) (by omega) (by omega)
  exact row (andL e25) (by omega) (by omega)
theorem row39 (i : Nat) (h1 : 1 ≤ i) (h2 : i < 39) : (caseT 39 i none && caseN 39 i) = true := by
  by_cases h1 : i < 16
  · exact row (andR (andR e25)) (by omega) (by omega)
  by_cases h16 : i < 31
  · exact row (andL e26) (by omega) (by omega)
  exact row (andL (andR e26)) (by omega) (by omega)
theorem row40 (i : Nat) (h1 : 1 ≤ i) (h2 : i < 40) : (caseT 40 i none && caseN 40 i) = true := by
  by_cases h1 : i < 16
  · exact row (andL e27) (by omega) (by omega)
  by_cases h16 : i < 31
  · exact row (andR e27) (by omega) (by omega)
  exact row (andL e28) (by omega) (by omega)
theorem row41 (i : Nat) (h1 : 1 ≤ i) (h2 : i < 41) : (caseT 41 i none && caseN 41 i) = true := by
  by_cases h1 : i < 15
  · exact row (andR (andR e28)) (by omega) (by omega)
  by_cases h15 : i < 29
  · exact row (andL e29) (by omega) (by omega)
  exact row (andL (andR e29)) (by omega) (by omega)
theorem row42 (i : Nat) (h1 : 1 ≤ i) (h2 : i < 42) : (caseT 42 i none && caseN 42 i) = true := by
  by_cases h1 : i < 15
  · exact row (andL e30) (by omega) (by omega)
  by_cases h15 : i < 29
  · exact row (andR e30) (by omega) (by omega)
  exact row (andL e31) (by omega) (by omega)
theorem row43 (i : Nat) (h1 : 1 ≤ i) (h2 : i < 43) : (caseT 43 i none && caseN 43 i) = true := by
  by_cases h1 : i < 15
  · exact row (andR (andR e31)) (by omega) (by omega)
  by_cases h15 : i < 29
  · exact row (andL e32) (by omega) (by omega)
  exact row (andR e32) (by omega) (by omega)
theorem row44 (i : Nat) (h1 : 1 ≤ i) (h2 : i < 44) : (caseT 44 i none && caseN 44 i) = true := by
  by_cases h1 : i < 15
  · exact row (andR e33) (by omega) (by omega)
  by_cases h15 : i < 29
  · exact row (andL e34) (by omega) (by omega)
  by_cases h29 : i < 43
  · exact row (andL (andR e34)) (by omega) (by omega)
  exact row (andR (andR e34)) (by omega) (by omega)
theorem row45 (i : Nat) (h1 : 1 ≤ i) (h2 : i < 45) : (caseT 45 i none && caseN 45 i) = true := by
  by_cases h1 : i < 15
  · exact row (andR e35) (by omega) (by omega)
  by_cases h15 : i < 29
  · exact row (andL e36) (by omega) (by omega)
  by_cases h29 : i < 43
  · exact row (andR e36) (by omega) (by omega)
  exact row (andL e37) (by omega) (by omega)
theorem row46 (i : Nat) (h1 : 1 ≤ i) (h2 : i < 46) : (caseT 46 i none && caseN 46 i) = true := by
  by_cases h1 : i < 15
  · exact row (andR (andR e37)) (by omega) (by omega)
  by_cases h15 : i < 29
  · exact row (andL e38) (by omega) (by omega)
  by_cases h29 : i < 43
  · exact row (andR e38) (by omega) (by omega)
  exact row (andL e39) (by omega) (by omega)
theorem row47 (i : Nat) (h1 : 1 ≤ i) (h2 : i < 47) : (caseT 47 i none && caseN 47 i) = true := by
  by_cases h1 : i < 14
  · exact row (andR (andR e39)) (by omega) (by omega)
  by_cases h14 : i < 27
  · exact row (andL e40) (by omega) (by omega)
  by_cases h27 : i < 40
  · exact row (andR e40) (by omega) (by omega)
  exact row (andL e41) (by omega) (by omega)
theorem row48 (i : Nat) (h1 : 1 ≤ i) (h2 : i < 48) : (caseT 48 i none && caseN 48 i) = true := by
  by_cases h1 : i < 14
  · exact row (andR (andR e41)) (by omega) (by omega)
  by_cases h14 : i < 27
  · exact row (andL e42) (by omega) (by omega)
  by_cases h27 : i < 40
  · exact row (andR e42) (by omega) (by omega)
  exact row (andL e43) (by omega) (by omega)
theorem row49 (i : Nat) (h1 : 1 ≤ i) (h2 : i < 49) : (caseT 49 i none && caseN 49 i) = true := by
  by_cases h1 : i < 14
  · exact row (andR (andR e43)) (by omega) (by omega)
  by_cases h14 : i < 27
  · exact row (andL e44) (by omega) (by omega)
  by_cases h27 : i < 40
  · exact row (andR e44) (by omega) (by omega)
  exact row (andL e45) (by omega) (by omega)
theorem row50 (i : Nat) (h1 : 1 ≤ i) (h2 : i < 50) : (caseT 50 i none && caseN 50 i) = true := by
  by_cases h1 : i < 14
  · exact row (andR (andR e45)) (by omega) (by omega)
  by_cases h14 : i < 27
  · exact row (andL e46) (by omega) (by omega)
  by_cases h27 : i < 40
  · exact row (andR e46) (by omega) (by omega)
  exact row (andL e47) (by omega) (by omega)
theorem row51 (i : Nat) (h1 : 1 ≤ i) (h2 : i < 51) : (caseT 51 i none && caseN 51 i) = true := by
  by_cases h1 : i < 14
  · exact row (andR (andR e47)) (by omega) (by omega)
  by_cases h14 : i < 27
  · exact row (andL e48) (by omega) (by omega)
  by_cases h27 : i < 40
  · exact row (andR e48) (by omega) (by omega)
  exact row (andL e49) (by omega) (by omega)
theorem row52 (i : Nat) (h1 : 1 ≤ i) (h2 : i < 52) : (caseT 52 i none && caseN 52 i) = true := by
  by_cases h1 : i < 14
  · exact row (andR (andR e49)) (by omega) (by omega)
  by_cases h14 : i < 27
  · exact row (andL e50) (by omega) (by omega)
  by_cases h27 : i < 40
  · exact row (andR e50) (by omega) (by omega)
  exact row (andL e51) (by omega) (by omega)
theorem row53 (i : Nat) (h1 : 1 ≤ i) (h2 : i < 53) : (caseT 53 i none && caseN 53 i) = true := by
  by_cases h1 : i < 14
  · exact row (andL e52) (by omega) (by omega)
  by_cases h14 : i < 27
  · exact row (andR e52) (by omega) (by omega)
  by_cases h27 : i < 40
  · exact row (andL e53) (by omega) (by omega)
  exact row (andR e53) (by omega) (by omega)
theorem row54 (i : Nat) (h1 : 1 ≤ i) (h2 : i < 54) : (caseT 54 i none && caseN 54 i) = true := by
  by_cases h1 : i < 13
  · exact row (andR e54) (by omega) (by omega)
  by_cases h13 : i < 25
  · exact row (andL e55) (by omega) (by omega)
  by_cases h25 : i < 37
  · exact row (andR e55) (by omega) (by omega)
  by_cases h37 : i < 49
  · exact row (andL e56) (by omega) (by omega)
  exact row (andL (andR e56)) (by omega) (by omega)
theorem row55 (i : Nat) (h1 : 1 ≤ i) (h2 : i < 55) : (caseT 55 i none && caseN 55 i) = true := by
  by_cases h1 : i < 13
  · exact row (andL e57) (by omega) (by omega)
  by_cases h13 : i < 25
  · exact row (andR e57) (by omega) (by omega)
  by_cases h25 : i < 37
  · exact row (andL e58) (by omega) (by omega)
  by_cases h37 : i < 49
  · exact row (andR e58) (by omega) (by omega)
  exact row (andL e59) (by omega) (by omega)
theorem row56 (i : Nat) (h1 : 1 ≤ i) (h2 : i < 56) : (caseT 56 i none && caseN 56 i) = true := by
  by_cases h1 : i < 13
  · exact row (andR (andR e59)) (by omega) (by omega)
  by_cases h13 : i < 25
  · exact row (andL e60) (by omega) (by omega)
  by_cases h25 : i < 37
  · exact row (andR e60) (by omega) (by omega)
  by_cases h37 : i < 49
  · exact row (andL e61) (by omega) (by omega)
  exact row (andL (andR e61)) (by omega) (by omega)
theorem row57 (i : Nat) (h1 : 1 ≤ i) (h2 : i < 57) : (caseT 57 i none && caseN 57 i) = true := by
  by_cases h1 : i < 13
  · exact row (andL e62) (by omega) (by omega)
  by_cases h13 : i < 25
  · exact row (andR e62) (by omega) (by omega)
  by_cases h25 : i < 37
  · exact row (andL e63) (by omega) (by omega)
  by_cases h37 : i < 49
  · exact row (andR e63) (by omega) (by omega)
  exact row (andL e64) (by omega) (by omega)
theorem row58 (i : Nat) (h1 : 1 ≤ i) (h2 : i < 58) : (caseT 58 i none && caseN 58 i) = true := by
  by_cases h1 : i < 13
  · exact row (andR (andR e64)) (by omega) (by omega)
  by_cases h13 : i < 25
  · exact row (andL e65) (by omega) (by omega)
  by_cases h25 : i < 37
  · exact row (andR e65) (by omega) (by omega)
  by_cases h37 : i < 49
  · exact row (andL e66) (by omega) (by omega)
  exact row (andL (andR e66)) (by omega) (by omega)
theorem row59 (i : Nat) (h1 : 1 ≤ i) (h2 : i < 59) : (caseT 59 i none && caseN 59 i) = true := by
  by_cases h1 : i < 13
  · exact row (andL e67) (by omega) (by omega)
  by_cases h13 : i < 25
  · exact row (andR e67) (by omega) (by omega)
  by_cases h25 : i < 37
  · exact row (andL e68) (by omega) (by omega)
  by_cases h37 : i < 49
  · exact row (andR e68) (by omega) (by omega)
  exact row (andL e69) (by omega) (by omega)
theorem row60 (i : Nat) (h1 : 1 ≤ i) (h2 : i < 60) : (caseT 60 i none && caseN 60 i) = true := by
  by_cases h1 : i < 13
  · exact row (andR (andR e69)) (by omega) (by omega)
  by_cases h13 : i < 25
  · exact row (andL e70) (by omega) (by omega)
  by_cases h25 : i < 37
  · exact row (andR e70) (by omega) (by omega)
  by_cases h37 : i < 49
  · exact row (andL e71) (by omega) (by omega)
  exact row (andR e71) (by omega) (by omega)
theorem row61 (i : Nat) (h1 : 1 ≤ i) (h2 : i < 61) : (caseT 61 i none && caseN 61 i) = true := by
  by_cases h1 : i < 13
  · exact row (andR e72) (by omega) (by omega)
  by_cases h13 : i < 25
  · exact row (andL e73) (by omega) (by omega)
  by_cases h25 : i < 37
  · exact row (andR e73) (by omega) (by omega)
  by_cases h37 : i < 49
  · exact row (andL e74) (by omega) (by omega)
  exact row (andR e74) (by omega) (by omega)
theorem row62 (i : Nat) (h1 : 1 ≤ i) (h2 : i < 62) : (caseT 62 i none && caseN 62 i) = true := by
  by_cases h1 : i < 12
  · exact row (andR e75) (by omega) (by omega)
  by_cases h12 : i < 23
  · exact row (andL e76) (by omega) (by omega)
  by_cases h23 : i < 34
  · exact row (andR e76) (by omega) (by omega)
  by_cases h34 : i < 45
  · exact row (andL e77) (by omega) (by omega)
  by_cases h45 : i < 56
  · exact row (andR e77) (by omega) (by omega)
  exact row (andL e78) (by omega) (by omega)
theorem row63 (i : Nat) (h1 : 1 ≤ i) (h2 : i < 63) : (caseT 63 i none && caseN 63 i) = true := by
  by_cases h1 : i < 12
  · exact row (andR (andR e78)) (by omega) (by omega)
  by_cases h12 : i < 23
  · exact row (andL e79) (by omega) (by omega)
  by_cases h23 : i < 34
  · exact row (andR e79) (by omega) (by omega)
  by_cases h34 : i < 45
  · exact row (andL e80) (by omega) (by omega)
  by_cases h45 : i < 56
  · exact row (andR e80) (by omega) (by omega)
  exact row (andL e81) (by omega) (by omega)
theorem row64 (i : Nat) (h1 : 1 ≤ i) (h2 : i < 64) : (caseT 64 i none && caseN 64 i) = true := by
  by_cases h1 : i < 12
  · exact row (andR (andR e81)) (by omega) (by omega)
  by_cases h12 : i < 23
  · exact row (andL e82) (by omega) (by omega)
  by_cases h23 : i < 34
  · exact row (andR e82) (by omega) (by omega)
  by_cases h34 : i < 45
  · exact row (andL e83) (by omega) (by omega)
  by_cases h45 : i < 56
  · exact row (andR e83) (by omega) (by omega)
  exact row (andL e84) (by omega) (by omega)
theorem row65 (i : Nat) (h1 : 1 ≤ i) (h2 : i < 65) : (caseT 65 i none && caseN 65 i) = true := by
  by_cases h1 : i < 12
  · exact row (andR (andR e84)) (by omega) (by omega)
  by_cases h12 : i < 23
  · exact row (andL e85) (by omega) (by omega)
  by_cases h23 : i < 34
  · exact row (andR e85) (by omega) (by omega)
  by_cases h34 : i < 45
  · exact row (andL e86) (by omega) (by omega)
  by_cases h45 : i < 56
  · exact row (andR e86) (by omega) (by omega)
  exact row (andL e87) (by omega) (by omega)
theorem row66 (i : Nat) (h1 : 1 ≤ i) (h2 : i < 66) : (caseT 66 i none && caseN 66 i) = true := by
  by_cases h1 : i < 12
  · exact row (andR (andR e87)) (by omega) (by omega)
  by_cases h12 : i < 23
  · exact row (andL e88) (by omega) (by omega)
  by_cases h23 : i < 34
  · exact row (andR e88) (by omega) (by omega)
  by_cases h34 : i < 45
  · exact row (andL e89) (by omega) (by omega)
  by_cases h45 : i < 56
  · exact row (andR e89) (by omega) (by omega)
  exact row (andL e90) (by omega) (by omega)
theorem row67 (i : Nat) (h1 : 1 ≤ i) (h2 : i < 67) : (caseT 67 i none && caseN 67 i) = true := by
  by_cases h1 : i < 12
  · exact row (andL e91) (by omega) (by omega)
  by_cases h12 : i < 23
  · exact row (andR e91) (by omega) (by omega)
  by_cases h23 : i < 34
  · exact row (andL e92) (by omega) (by omega)
  by_cases h34 : i < 45
  · exact row (andR e92) (by omega) (by omega)
  by_cases h45 : i < 56
  · exact row (andL e93) (by omega) (by omega)
  exact row (andR e93) (by omega) (by omega)
theorem row68 (i : Nat) (h1 : 1 ≤ i) (h2 : i < 68) : (caseT 68 i none && caseN 68 i) = true := by
  by_cases h1 : i < 12
  · exact row (andR e94) (by omega) (by omega)
  by_cases h12 : i < 23
  · exact row (andL e95) (by omega) (by omega)
  by_cases h23 : i < 34
  · exact row (andR e95) (by omega) (by omega)
  by_cases h34 : i < 45
  · exact row (andL e96) (by omega) (by omega)
  by_cases h45 : i < 56
  · exact row (andR e96) (by omega) (by omega)
  by_cases h56 : i < 67
  · exact row (andL e97) (by omega) (by omega)
  exact row (andL (andR e97)) (by omega) (by omega)
theorem row69 (i : Nat) (h1 : 1 ≤ i) (h2 : i < 69) : (caseT 69 i none && caseN 69 i) = true := by
  by_cases h1 : i < 12
  · exact row (andL e98) (by omega) (by omega)
  by_cases h12 : i < 23
  · exact row (andR e98) (by omega) (by omega)
  by_cases h23 : i < 34
  · exact row (andL e99) (by omega) (by omega)
  by_cases h34 : i < 45
  · exact row (andR e99) (by omega) (by omega)
  by_cases h45 : i < 56
  · exact row (andL e100) (by omega) (by omega)
  by_cases h56 : i < 67
  · exact row (andR e100) (by omega) (by omega)
  exact row e101 (by omega) (by omega)
theorem rowsAll : ∀ n, n < 70 → ∀ i, 1 ≤ i → i < n → (caseT n i none && caseN n i) = true
  | 0, _, i, h1, h2 => absurd h2 (by omega)
  | 1, _, i, h1, h2 => absurd h2 (by omega)
  | 2, _, i, h1, h2 => row2 i h1 h2
  | 3, _, i, h1, h2 => row3 i h1 h2
  | 4, _, i, h1, h2 => row4 i h1 h2
  | 5, _, i, h1, h2 => row5 i h1 h2
  | 6, _, i, h1, h2 => row6 i h1 h2
  | 7, _, i, h1, h2 => row7 i h1 h2
  | 8, _, i, h1, h2 => row8 i h1 h2
  | 9, _, i, h1, h2 => row9 i h1 h2
  | 10, _, i, h1, h2 => row10 i h1 h2
  | 11, _, i, h1, h2 => row11 i h1 h2
  | 12, _, i, h1, h2 => row12 i h1 h2
  | 13, _, i, h1, h2 => row13 i h1 h2
  | 14, _, i, h1, h2 => row14 i h1 h2
  | 15, _, i, h1, h2 => row15 i h1 h2
  | 16, _, i, h1, h2 => row16 i h1 h2
  | 17, _, i, h1, h2 => row17 i h1 h2
  | 18, _, i, h1, h2 => row18 i h1 h2
  | 19, _, i, h1, h2 => row19 i h1 h2
  | 20, _, i, h1, h2 => row20 i h1 h2
  | 21, _, i, h1, h2 => row21 i h1 h2
  | 22, _, i, h1, h2 => row22 i h1 h2
  | 23, _, i, h1, h2 => row23 i h1 h2
  | 24, _, i, h1, h2 => row24 i h1 h2
  | 25, _, i, h1, h2 => row25 i h1 h2
  | 26, _, i, h1, h2 => row26 i h1 h2
  | 27, _, i, h1, h2 => row27 i h1 h2
  | 28, _, i, h1, h2 => row28 i h1 h2
  | 29, _, i, h1, h2 => row29 i h1 h2
  | 30, _, i, h1, h2 => row30 i h1 h2
  | 31, _, i, h1, h2 => row31 i h1 h2
  | 32, _, i, h1, h2 => row32 i h1 h2
  | 33, _, i, h1, h2 => row33 i h1 h2
  | 34, _, i, h1, h2 => row34 i h1 h2
  | 35, _, i, h1, h2 => row35 i h1 h2
  | 36, _, i, h1, h2 => row36 i h1 h2
  | 37, _, i, h1, h2 => row37 i h1 h2
  | 38, _, i, h1, h2 => row38 i h1 h2
  | 39, _, i, h1, h2 => row39 i h1 h2
  | 40, _, i, h1, h2 => row40 i h1 h2
  | 41, _, i, h1, h2 => row41 i h1 h2
  | 42, _, i, h1, h2 => row42 i h1 h2
  | 43, _, i, h1, h2 => row43 i h1 h2
  | 44, _, i, h1, h2 => row44 i h1 h2
  | 45, _, i, h1, h2 => row45 i h1 h2
  | 46, _, i, h1, h2 => row46 i h1 h2
  | 47, _, i, h1, h2 => row47 i h1 h2
  | 48, _, i, h1, h2 => row48 i h1 h2
  | 49, _, i, h1, h2 => row49 i h1 h2
  | 50, _, i, h1, h2 => row50 i h1 h2
  | 51, _, i, h1, h2 => row51 i h1 h2
  | 52, _, i, h1, h2 => row52 i h1 h2
  | 53, _, i, h1, h2 => row53 i h1 h2
  | 54, _, i, h1, h2 => row54 i h1 h2
  | 55, _, i, h1, h2 => row55 i h1 h2
  | 56, _, i, h1, h2 => row56 i h1 h2
  | 57, _, i, h1, h2 => row57 i h1 h2
  | 58, _, i, h1, h2 => row58 i h1 h2
  | 59, _, i, h1, h2 => row59 i h1 h2
  | 60, _, i, h1, h2 => row60 i h1 h2
  | 61, _, i, h1, h2 => row61 i h1 h2
  | 62, _, i, h1, h2 => row62 i h1 h2
  | 63, _, i, h1, h2 => row63 i h1 h2
  | 64, _, i, h1, h2 => row64 i h1 h2
  | 65, _, i, h1, h2 => row65 i h1 h2
  | 66, _, i, h1, h2 => row66 i h1 h2
  | 67, _, i, h1, h2 => row67 i h1 h2
  | 68, _, i, h1, h2 => row68 i h1 h2
  | 69, _, i, h1, h2 => row69 i h1 h2
  | n + 70, h, _, _, _ => absurd h (by omega)
theorem walk (a b c d : Int) (w : World) : Calls Try.prog 6 #[.int .i64 a, .int .i64 b, .int .i64 c, .int .i64 d] w fun e w' => e = .returned (.bool true) ∧ Grown w w' := by
  obtain ⟨X, hX1, hX⟩ := low_nat (n := 70) (by omega) a
  obtain ⟨n, hn1, hn⟩ := low_nat (n := 70) (by omega) b
  obtain ⟨Y, hY1, hY⟩ := low_nat (n := 70) (by omega) c
  obtain ⟨Z, hZ1, hZ⟩ := low_nat (n := 70) (by omega) d
  have hs := somes n hn1
  simp only [some0, Bool.and_eq_true, Bool.or_eq_true] at hs
  obtain ⟨hD1, hD2, hs⟩ := hs
  by_cases hd : X + n ≤ Y ∨ n = 0
  · have hD : caseD n (decide (0 < Z)) = true := bcase (p := fun b => caseD n b = true) hD1 hD2 _
    have nz : ∀ (v r : Bool), (bif Nat.beq n 0 then none else some v) = some r → n ≠ 0 ∧ r = v := by
      intro v r hr
      cases n with
      | zero => cases hr
      | succ n => cases hr; exact ⟨by omega, rfl⟩
    exact leaf hX hn hY hZ hD (tab_ok hX1 hY1 hZ1 hn1 (by omega) (fun j hj => by omega) (fun h => absurd h (by omega)) (fun h => absurd h (by omega)) (fun h => nomatch h) (fun r hr => by cases hr; rfl)
      (fun r hr => by obtain ⟨h1, rfl⟩ := nz _ _ hr; exact (decide_eq_true (by omega)).symm) (fun r hr => by obtain ⟨h1, rfl⟩ := nz _ _ hr; exact (decide_eq_false (by omega)).symm) (fun r hr => by obtain ⟨h1, rfl⟩ := nz _ _ hr; exact (decide_eq_false (by omega)).symm) (fun r hr => nomatch hr)) w
  · have hn0 : Nat.beq n 0 = false := by cases n with | zero => exact absurd (.inr rfl) hd | succ n => rfl
    obtain ⟨hT1, hT2, hN1, hN2⟩ : caseT n 0 (some true) = true ∧ caseT n 0 (some false) = true ∧ case0 n true = true ∧ case0 n false = true := by
      rcases hs with e | e
      · rw [hn0] at e; cases e
      · exact e
    by_cases h0 : Y ≤ X
    · by_cases hin : X < Y + Z
      · have hT : caseT n 0 (some (decide (X + n ≤ Y + Z))) = true := bcase (p := fun b => caseT n 0 (some b) = true) hT1 hT2 _
        exact leaf hX hn hY hZ hT (tab_ok hX1 hY1 hZ1 hn1 (by omega) (fun j hj => by omega) (fun _ => by omega) (fun _ => (decide_eq_true (by omega)).symm) (fun _ => rfl) (fun r hr => by cases hr; exact (decide_eq_true (by omega)).symm) (fun r hr => by cases hr; exact (decide_eq_true (by omega)).symm)
          (fun r hr => by cases hr; exact (decide_eq_true (by omega)).symm) (fun r hr => by cases hr; exact (decide_eq_true (by omega)).symm) (fun r hr => by cases hr; rfl)) w
      · have hN : case0 n (decide (0 < Z)) = true := bcase (p := fun b => case0 n b = true) hN1 hN2 _
        exact leaf hX hn hY hZ hN (tab_ok hX1 hY1 hZ1 hn1 (by omega) (fun j hj => by omega) (fun _ => by omega) (fun _ => (decide_eq_false (by omega)).symm) (fun h => nomatch h) (fun r hr => by cases hr; rfl) (fun r hr => by cases hr; exact (decide_eq_false (by omega)).symm)
          (fun r hr => by cases hr; exact (decide_eq_true (by omega)).symm) (fun r hr => by cases hr; exact (decide_eq_true (by omega)).symm) (fun r hr => by cases hr; exact (decide_eq_false (by omega)).symm)) w
    · obtain ⟨i, hi⟩ : ∃ i, Y = X + i := ⟨Y - X, by omega⟩
      have hr := rowsAll n hn1 i (by omega) (by omega)
      simp only [Bool.and_eq_true] at hr
      have hi0 : Nat.beq i 0 = false := by cases i with | zero => exact absurd hi (by omega) | succ i => rfl
      by_cases hz : 0 < Z
      · exact leaf hX hn hY hZ hr.1 (tab_ok hX1 hY1 hZ1 hn1 (by omega) (fun j hj => by omega) (fun _ => by omega) (fun _ => (decide_eq_true (by omega)).symm) (fun _ => rfl) (fun r hr => by cases hr; exact (decide_eq_true (by omega)).symm) (fun r hr => by cases hr; exact (decide_eq_true (by omega)).symm)
          (fun r hr => by cases hr; exact (decide_eq_true (by omega)).symm) (fun r hr => by rw [hi0] at hr; cases hr; exact (decide_eq_false (by omega)).symm) (fun r hr => nomatch hr)) w
      · exact leaf hX hn hY hZ hr.2 (tab_ok hX1 hY1 hZ1 hn1 (by omega) (fun j hj => by omega) (fun _ => by omega) (fun _ => (decide_eq_false (by omega)).symm) (fun h => nomatch h) (fun r hr => by cases hr; exact (decide_eq_false (by omega)).symm) (fun r hr => nomatch hr)
          (fun r hr => nomatch hr) (fun r hr => by cases hr; exact (decide_eq_false (by omega)).symm) (fun r hr => nomatch hr)) w
end carveSameW
