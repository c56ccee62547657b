/-
  A disk as a list of files: what its functions answer. Plain Lean.
-/
import Derived.Below
namespace Go
/-- A file. -/
structure FE where
  nm : ByteArray
  bs : List Nat
  sure : Nat
deriving DecidableEq, Inhabited
/-- A disk: its files in the map's order, its units, whether the power is off. -/
structure DS where
  L : List FE
  left : Int
  off : Bool
deriving DecidableEq, Inhabited
namespace DS
def get (d : DS) (s : ByteArray) : Option FE := d.L.find? fun f => decide (f.nm = s)
def putL (L : List FE) (f : FE) : List FE := if (L.find? fun g => decide (g.nm = f.nm)).isSome then L.map (fun g => if g.nm = f.nm then f else g) else L ++ [f]
def del (L : List FE) (s : ByteArray) : List FE := L.filter fun f => !decide (f.nm = s)
def new : DS := ⟨[], -1, false⟩
/-- Units used: how many there were. -/
def useN (d : DS) (n : Nat) : Nat := if d.left < 0 then n else min n d.left.toNat
def used (d : DS) (n : Nat) : DS := if d.left < 0 then d else { d with left := d.left - (min n d.left.toNat : Nat), off := decide (d.left.toNat < n) }
def useOk (d : DS) (n : Nat) : Bool := decide (d.left < 0 ∨ n ≤ d.left.toNat)
def fuse (d : DS) (n : Int) : DS := if d.off then d else { d with left := max n (-1) }
def leftS (d : DS) : Int := if d.off then 0 else d.left
/-- Append: the disk behind it, the error. -/
def app (name : ByteArray → Bool) (d : DS) (s : ByteArray) (b : List Nat) : DS × Nat :=
  if d.off then (d, 20)
  else if name s = false then (d, 1)
  else if (d.get s).isNone ∧ 8 ≤ d.L.length then (d, 3)
  else if 1048576 < b.length ∨ 1048576 < (((d.get s).map (·.bs)).getD []).length + b.length then (d, 3)
  else
    let f : FE := ⟨s, ((d.get s).map (·.bs)).getD [] ++ b.take (d.useN b.length), ((d.get s).map (·.sure)).getD 0⟩
    ({ d.used b.length with L := putL d.L f }, if d.useOk b.length then 0 else 20)
/-- One unit, then an act on the files. -/
def one (d : DS) (act : List FE → List FE) : DS × Nat := if d.useOk 1 then ({ d.used 1 with L := act d.L }, 0) else (d.used 1, 20)
def sync (d : DS) (s : ByteArray) : DS × Nat :=
  if d.off then (d, 20) else
  match d.get s with
  | none => (d, 4)
  | some f => d.one fun L => putL L ⟨s, f.bs, f.bs.length⟩
def ren (name : ByteArray → Bool) (d : DS) (a b : ByteArray) : DS × Nat :=
  if d.off then (d, 20) else
  match d.get a with
  | none => (d, 4)
  | some f => if name b = false then (d, 1) else d.one fun L => putL (del L a) ⟨b, f.bs, f.sure⟩
def cut (d : DS) (s : ByteArray) (n : Int) : DS × Nat :=
  if d.off then (d, 20) else
  match d.get s with
  | none => (d, 4)
  | some f => if n < 0 ∨ (f.bs.length : Int) < n then (d, 1) else d.one fun L => putL L ⟨s, f.bs.take n.toNat, min f.sure n.toNat⟩
def rem (d : DS) (s : ByteArray) : DS × Nat :=
  if d.off then (d, 20) else
  match d.get s with
  | none => (d, 4)
  | some _ => d.one fun L => del L s
def read (d : DS) (s : ByteArray) : List Nat × Nat :=
  if d.off then ([], 20) else
  match d.get s with
  | none => ([], 4)
  | some f => (f.bs, 0)
def crash1 (keep : Int) (f : FE) : FE := let n := f.sure + min (max keep 0).toNat (f.bs.length - f.sure); ⟨f.nm, f.bs.take n, n⟩
def crash (d : DS) (keep : Int) : DS := ⟨d.L.map (crash1 keep), -1, false⟩
end DS
end Go
