/- Legendre's theorem for forms of three small terms, by a finite check: normal terms, and a zero in a box or an odd prime at which the form does not vanish. No program in sight. -/
import Derived.Test.YtpjgcjkodmkemaaLoc2
namespace Go.Proofs.Ytpjgcjkodmkemaa.Aid
open Go.RowKit Go.Proofs.YtpjgcjkodmkemaaW.PrintWords Go.Proofs.YtpjgcjkodmkemaaW.PrintLast Go.Proofs.YtpjgcjkodmkemaaW.PrintMore
def lpf : Nat → Nat → Nat → Nat
  | 0, _, d => d
  | f + 1, p, d => if d % p = 0 then p else lpf f (p + 1) d
def nrmN : Nat → Nat → Nat → Nat → Nat → Nat → Nat → Option (Nat × Nat × Nat × Nat × Nat × Nat)
  | 0, _, _, _, _, _, _ => none
  | f + 1, X, Y, Z, a, b, c =>
    if X = 0 ∨ Y = 0 ∨ Z = 0 ∨ 30000 < X * (Y * Z) ∨ 30 < a ∨ 30 < b ∨ 30 < c then none else
    if 1 < Nat.gcd X Y then (let p := lpf 200 2 (Nat.gcd X Y); if X % p = 0 ∧ Y % p = 0 ∧ 2 ≤ p ∧ Nat.gcd X Y ≤ 200 then (if Z % p = 0 then nrmN f (X / p) (Y / p) (Z / p) a b c else nrmN f (X / p) (Y / p) (Z * p) a b (c * p)) else none) else
    if 1 < Nat.gcd X Z then (let p := lpf 200 2 (Nat.gcd X Z); if X % p = 0 ∧ Z % p = 0 ∧ 2 ≤ p ∧ Nat.gcd X Z ≤ 200 then (if Y % p = 0 then nrmN f (X / p) (Y / p) (Z / p) a b c else nrmN f (X / p) (Y * p) (Z / p) a (b * p) c) else none) else
    if 1 < Nat.gcd Y Z then (let p := lpf 200 2 (Nat.gcd Y Z); if Y % p = 0 ∧ Z % p = 0 ∧ 2 ≤ p ∧ Nat.gcd Y Z ≤ 200 then (if X % p = 0 then nrmN f (X / p) (Y / p) (Z / p) a b c else nrmN f (X * p) (Y / p) (Z / p) (a * p) b c) else none) else
    some (X, Y, Z, a, b, c)
def CO : List Nat := [1, 2, 3, 5, 6, 7, 10, 11, 13, 14, 15, 17, 19, 21, 22, 23, 26, 29, 30]
def CERT : List (Nat × Nat × Nat) := [(1, 1, 1), (1, 0, 1), (1, 1, 0), (0, 1, 1), (1, 2, 1), (2, 1, 1), (1, 1, 2), (1, 3, 1), (3, 1, 1), (1, 1, 3), (1, 4, 1), (4, 1, 1), (1, 3, 2), (3, 1, 2), (2, 3, 1), (1, 1, 4), (3, 2, 1), (2, 1, 3), (1, 2, 3), (1, 5, 1), (5, 1, 1), (1, 1, 5), (7, 1, 1), (1, 7, 1), (1, 1, 7), (3, 4, 1), (4, 3, 1), (4, 1, 3), (1, 4, 3), (3, 1, 4), (1, 3, 4), (2, 5, 1), (5, 1, 2), (1, 5, 2), (3, 5, 1), (1, 5, 3), (5, 1, 3), (5, 2, 1), (2, 1, 5), (1, 2, 5), (5, 3, 1), (3, 1, 5), (1, 3, 5), (2, 9, 1), (9, 1, 2), (1, 9, 2), (5, 4, 1), (4, 5, 1), (7, 1, 2), (2, 1, 7), (1, 7, 2), (1, 2, 7), (9, 2, 1), (2, 1, 9), (1, 2, 9), (6, 1, 1), (1, 1, 6), (1, 6, 1), (7, 2, 1), (2, 7, 1), (5, 1, 4), (4, 1, 5), (1, 8, 1), (1, 5, 4), (1, 4, 5), (7, 3, 2), (7, 2, 3), (4, 1, 7), (2, 7, 3), (2, 3, 7), (3, 7, 2), (3, 2, 7), (11, 1, 1), (1, 11, 1), (1, 1, 11), (11, 2, 1), (11, 1, 2), (2, 11, 1), (1, 11, 2), (1, 2, 11), (1, 13, 1), (3, 8, 1), (8, 3, 1), (8, 1, 3), (3, 1, 8), (1, 8, 3), (1, 3, 8), (3, 10, 1), (10, 3, 1), (10, 1, 3), (5, 1, 8), (3, 1, 10), (8, 5, 1), (8, 1, 5), (5, 8, 1), (2, 1, 11), (1, 10, 3), (1, 3, 10), (1, 8, 5), (1, 5, 8), (3, 11, 1), (13, 1, 1), (11, 1, 3), (1, 11, 3), (8, 1, 1), (5, 3, 2), (3, 5, 2), (5, 2, 3), (3, 2, 5), (1, 1, 8), (2, 5, 3), (2, 3, 5), (3, 7, 1), (1, 9, 1), (7, 1, 3), (1, 1, 9), (9, 1, 1), (1, 7, 3), (4, 7, 1), (7, 4, 1), (7, 1, 4), (1, 7, 4), (1, 4, 7), (5, 1, 7), (1, 5, 7), (1, 12, 1), (3, 7, 4), (7, 3, 4), (7, 4, 3), (3, 4, 7), (4, 7, 3), (4, 3, 7), (11, 3, 1), (5, 9, 1), (3, 1, 11), (9, 5, 1), (9, 1, 5), (5, 7, 3), (5, 3, 7), (7, 5, 3), (7, 3, 5), (1, 9, 5), (1, 3, 11), (3, 7, 5), (3, 5, 7), (13, 2, 1), (13, 1, 2), (2, 1, 13), (2, 13, 1), (1, 13, 2), (1, 2, 13), (13, 1, 3), (1, 13, 3), (13, 3, 2), (13, 2, 3), (3, 13, 2), (3, 2, 13), (2, 13, 3), (2, 3, 13), (1, 17, 1), (1, 21, 1), (13, 18, 1), (13, 1, 18), (1, 18, 13), (7, 3, 1), (3, 1, 7), (1, 3, 7), (5, 6, 1), (5, 1, 6), (6, 5, 1), (6, 1, 5), (1, 6, 5), (1, 5, 6), (12, 1, 1), (7, 2, 5), (4, 1, 9), (9, 4, 1), (9, 1, 4), (7, 5, 2), (1, 9, 4), (5, 7, 2), (5, 2, 7), (1, 4, 9), (4, 9, 1), (2, 7, 5), (2, 5, 7), (7, 5, 4), (9, 5, 2), (5, 7, 4), (9, 2, 5), (5, 4, 7), (5, 9, 2), (5, 2, 9), (7, 4, 5), (2, 9, 5), (2, 5, 9), (4, 7, 5), (4, 5, 7), (7, 9, 1), (9, 7, 1), (13, 3, 1), (11, 5, 1), (11, 1, 5), (7, 1, 9), (9, 1, 7), (3, 13, 1), (3, 1, 13), (5, 11, 1), (5, 1, 11), (1, 11, 5), (1, 5, 11), (1, 9, 7), (1, 7, 9), (1, 3, 13), (8, 3, 7), (9, 5, 4), (5, 9, 4), (5, 4, 9), (7, 8, 3), (7, 3, 8), (8, 7, 3), (2, 9, 7), (2, 7, 9), (3, 8, 7), (3, 7, 8), (9, 4, 5), (17, 1, 1), (5, 14, 1), (7, 1, 12), (5, 1, 14), (12, 1, 7), (12, 7, 1), (8, 5, 7), (8, 7, 5), (1, 14, 5), (5, 8, 7), (5, 7, 8), (9, 4, 7), (9, 7, 4), (7, 8, 5), (7, 5, 8), (4, 9, 7), (4, 7, 9), (7, 9, 4), (7, 4, 9), (21, 1, 1), (4, 19, 1), (4, 1, 19), (1, 4, 19), (5, 27, 1), (5, 1, 27), (1, 5, 27)]
def holz (X Y Z pat : Nat) : Bool := CERT.any fun v =>
  match pat with
  | 0 => Nat.beq (Y * (v.2.1 * v.2.1) + Z * (v.2.2 * v.2.2)) (X * (v.1 * v.1)) && (Nat.ble (v.1 * v.1) (Y * Z) && Nat.ble (v.2.1 * v.2.1) (X * Z))
  | 1 => Nat.beq (X * (v.1 * v.1) + Z * (v.2.2 * v.2.2)) (Y * (v.2.1 * v.2.1)) && (Nat.ble (v.1 * v.1) (Y * Z) && Nat.ble (v.2.1 * v.2.1) (X * Z))
  | _ => Nat.beq (X * (v.1 * v.1) + Y * (v.2.1 * v.2.1)) (Z * (v.2.2 * v.2.2)) && (Nat.ble (v.1 * v.1) (Y * Z) && Nat.ble (v.2.1 * v.2.1) (X * Z))
def clN (p : Nat) (s : Bool) (n : Nat) : Bool × Bool := if n % p = 0 then (true, xor (chi p (n / p % p)) (s && ((p - 1) / 2 % 2 == 1))) else (false, xor (chi p (n % p)) (s && ((p - 1) / 2 % 2 == 1)))
def locOk (s t u : Bool) (a b c : Nat) : Bool := OP.all fun p => (a % p != 0 && (b % p != 0 && c % p != 0)) || vanB ((p - 1) / 2 % 2 == 1) [clN p s a, clN p t b, clN p u c]
def rootN (n : Nat) : Nat → Nat
  | 0 => 1
  | r + 1 => if n % ((r + 1) * (r + 1)) = 0 then r + 1 else rootN n r
def legA (a b c X Y Z x y z : Nat) : Bool :=
  Nat.ble 1 X && (Nat.ble 1 Y && (Nat.ble 1 Z && (Nat.ble (X * (Y * Z)) 30000 && (Nat.ble X 900 && (Nat.ble Y 900 && (Nat.ble Z 900 && (Nat.beq (Nat.gcd X Y) 1 && (Nat.beq (Nat.gcd X Z) 1 && (Nat.beq (Nat.gcd Y Z) 1 &&
  (Nat.beq (rootN X 29) 1 && (Nat.beq (rootN Y 29) 1 && (Nat.beq (rootN Z 29) 1 && (Nat.ble 1 x && (Nat.ble 1 y && (Nat.ble 1 z && (Nat.ble x b && (Nat.ble x c && (Nat.ble y a && (Nat.ble y c && (Nat.ble z a && (Nat.ble z b &&
  (Nat.beq (a * (x * x) * Y) (b * (y * y) * X) && Nat.beq (a * (x * x) * Z) (c * (z * z) * X)))))))))))))))))))))))
def legB (a b c : Nat) : Bool :=
  match nrmN 6 a b c 1 1 1 with
  | none => false
  | some (X, Y, Z, x, y, z) => legA a b c X Y Z x y z && ((!(locOk true false false a b c) || holz X Y Z 0) && ((!(locOk false true false a b c) || holz X Y Z 1) && (!(locOk false false true a b c) || holz X Y Z 2)))
theorem legB_all : (CO.all fun a => CO.all fun b => CO.all fun c => legB a b c) = true := by decide +kernel
end Go.Proofs.Ytpjgcjkodmkemaa.Aid
