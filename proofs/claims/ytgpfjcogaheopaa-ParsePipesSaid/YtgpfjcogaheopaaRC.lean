/- Pipes, reckoned by the kernel. -/
import Derived.Test.YtgpfjcogaheopaaRA
namespace Go.Proofs.Ytgpfjcogaheopaa
open Lx
set_option maxRecDepth 100000

def pipeT (i : Nat) : List UInt8 := [99] ++ [UInt8.ofNat (48 + i % 10)] ++ [32, 120]
def pipeG (s : List UInt8) : Nat → List UInt8
  | 0 => s
  | n + 1 => (if 0 < n then pipeG s n ++ [32, 124, 10] else pipeG s n) ++ pipeT n
def pipeS (b : Bool) (m : Nat) : List UInt8 := pipeG (if b = true then [33, 32] else []) m
def cmdB (n : Nd) (i : Nat) : Bool := n.kind == 1 && n.words.length == 2 && (n.words.getD 0 [] == [99, UInt8.ofNat (48 + i % 10)])
def cmdsB : List Nd → Nat → Nat → Bool
  | _, 0, _ => true
  | [], _ + 1, _ => false
  | n :: r, m + 1, i => cmdB n i && cmdsB r m (i + 1)
def lenP (m : Nat) (b : Bool) : Nat := m + (if 1 < m then 1 else 0) + (if b = true then 1 else 0)
def pipeB (m : Nat) (l : List Nd) : Bool := match l with | n :: _ => n.kind == 3 && n.kids == (List.range m).map Int.ofNat | [] => false
def notB (b : Bool) (l : Option Nd) : Bool := match l with | some n => (n.kind == 2) == b | none => false
def okP (m : Nat) (b : Bool) : Bool := let p := parseN (pipeS b m); p.e == 0 && p.ns.length == lenP m b && cmdsB p.ns m 0 && (decide (m = 1) || pipeB m (p.ns.drop m)) && notB b p.ns.getLast?
theorem pF : allB (fun m => okP (m + 1) false) 16 = true := by kernel_rfl
theorem pT : allB (fun m => okP (m + 1) true) 16 = true := by kernel_rfl
theorem pF2 : allB (fun m => okP (m + 17) false) 8 = true := by kernel_rfl
theorem pT2 : allB (fun m => okP (m + 17) true) 8 = true := by kernel_rfl
theorem pF3 : allB (fun m => okP (m + 25) false) 8 = true := by kernel_rfl
theorem pT3 : allB (fun m => okP (m + 25) true) 8 = true := by kernel_rfl
theorem pipe_all (m : Nat) (h1 : 1 ≤ m) (h : m ≤ 32) (b : Bool) : okP m b = true := by
  by_cases hs : m ≤ 16
  · obtain ⟨k, rfl⟩ : ∃ k, m = k + 1 := ⟨m - 1, by omega⟩
    cases b with
    | false => exact allB_at pF k (by omega)
    | true => exact allB_at pT k (by omega)
  · by_cases h2 : m ≤ 24
    · obtain ⟨k, rfl⟩ : ∃ k, m = k + 17 := ⟨m - 17, by omega⟩
      cases b with
      | false => exact allB_at pF2 k (by omega)
      | true => exact allB_at pT2 k (by omega)
    · obtain ⟨k, rfl⟩ : ∃ k, m = k + 25 := ⟨m - 25, by omega⟩
      cases b with
      | false => exact allB_at pF3 k (by omega)
      | true => exact allB_at pT3 k (by omega)

end Go.Proofs.Ytgpfjcogaheopaa
