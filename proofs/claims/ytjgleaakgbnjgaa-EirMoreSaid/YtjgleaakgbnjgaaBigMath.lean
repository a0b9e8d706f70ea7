/-
 Rows of 260 bits: sums, differences, quotients bit by bit, as plain laws of numbers.
 Conditions: none beyond those that each theorem names.
-/
import Derived.Lib.EndianBits
set_option linter.unusedSimpArgs false
set_option linter.unusedVariables false
namespace Go.Proofs.Ytjgleaakgbnjgaa.BigMath
open Go
def carry (a b i : Nat) : Nat := (a % 2 ^ i + b % 2 ^ i) / 2 ^ i
def borrow (a b i : Nat) : Nat := if a % 2 ^ i < b % 2 ^ i then 1 else 0
def turn (N i : Nat) : Nat := if N % 2 ^ i = 0 then 1 else 0
end Go.Proofs.Ytjgleaakgbnjgaa.BigMath
