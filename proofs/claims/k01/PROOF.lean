import PyProof.Rows.All
import Wide.All
import OpenK.AllK
import Wide.FinOn
import HandS.Base
import HandS.Call
import HandS.List
import HandS.Comp
import HandS.Dict
import HandS.Iter
import HandS.Text
import HandS.Exc
import HandS.ExcOwn
import HandS.Ends
import HandS.Words
import HandS.IsInst
import HandS.ExcInit
import HandS.CallSlots
import HandS.WordsExc
import HandS.Star
import HandS.WordsDict
import HandS.Property
import HandS.ClsMeth
import HandS.ExcIs
import PyProof.ReprRoads
import PyProof.Rows.StrIntSpec
import HandS.Style
import PyProof.InstNe
import PySem.Challenge.RW_queueeffect_k01_items_steps_sequences
/-! DLP: data values, environments, and what expressions and statements do to them (no machine in sight). -/
set_option linter.all false
namespace DL
abbrev Tx := List Nat
inductive Ky where
  | int (i : Int)
  | str (x : Tx)
  deriving DecidableEq
/-- a value as plain data -/
inductive D where
  | non
  | bl (b : Bool)
  | int (i : Int)
  | str (x : Tx)
  | lst (xs : List D)
  | tup (xs : List D)
  | dct (kvs : List (Ky × D))
  | obj (c : Nat) (fs : List D)
  | frl (xs : List D)
  | cls (c : Nat)
/-- a value that is settled, or a new object that nobody else holds -/
inductive R where
  | fz (d : D)
  | fr (d : D)
def R.d : R → D
  | .fz d => d
  | .fr d => d
/-- a name's slot: nothing known, a settled value, an object of one's own -/
inductive Slot where
  | no
  | fz (d : D)
  | own (d : D)
abbrev Env := List Slot
/-- an exception: its class, its one field -/
structure Exc where
  cls : Nat
  val : D
abbrev EK := Exc → Env → Prop
abbrev DE := Env → (R → Env → Prop) → EK → Prop
abbrev DT := Env → (Bool → Env → Prop) → EK → Prop
abbrev DI := Env → (List D → Env → Prop) → EK → Prop
abbrev DG := D → Env → (Env → Prop) → Prop
structure DEnds where
  nx : Env → Prop
  rt : R → Env → Prop
  bk : Env → Prop := fun _ => False
  ct : Env → Prop := fun _ => False
abbrev DS := DEnds → Env → EK → Prop
/-- a def by its arguments: what it hands back, what it raises; with the arguments' slots behind -/
abbrev Con := List Slot → (R → List Slot → Prop) → (Exc → List Slot → Prop) → Prop

def Env.at (ρ : Env) (i : Nat) : Slot := (ρ[i]?).getD .no

/-! ### operations on data -/
abbrev maxTx : Nat := 16777216
def addD : D → D → (R → Prop) → Prop
  | .int i, .int j, k => k (.fz (.int (i + j)))
  | .str a, .str b, k => a.length + b.length ≤ maxTx ∧ k (.fz (.str (a ++ b)))
  | .lst a, .lst b, k => a.length + b.length ≤ maxTx ∧ k (.fr (.lst (a ++ b)))
  | _, _, _ => False
/-- += on what cannot change -/
def iaddD : D → D → (R → Prop) → Prop
  | .int i, .int j, k => k (.fz (.int (i + j)))
  | .str a, .str b, k => a.length + b.length ≤ maxTx ∧ k (.fz (.str (a ++ b)))
  | _, _, _ => False
def subD : D → D → (R → Prop) → Prop
  | .int i, .int j, k => k (.fz (.int (i - j)))
  | _, _, _ => False
def mulD : D → D → (R → Prop) → Prop
  | .int i, .int j, k => ((-(2 ^ 64) < i ∧ i < 2 ^ 64) ∨ (-(2 ^ 64) < j ∧ j < 2 ^ 64)) ∧ k (.fz (.int (i * j)))
  | .str a, .int n, k => (-(2 ^ 62) ≤ n ∧ n < 2 ^ 62 ∧ a.length * n.toNat ≤ maxTx) ∧ k (.fz (.str (List.replicate n.toNat a).flatten))
  | .lst a, .int n, k => (-(2 ^ 62) ≤ n ∧ n < 2 ^ 62 ∧ a.length * n.toNat ≤ maxTx) ∧ k (.fr (.lst (List.replicate n.toNat a).flatten))
  | _, _, _ => False
def fdivD : D → D → (R → Prop) → Prop
  | .int i, .int j, k => (0 < j ∧ j < 1073741824) ∧ k (.fz (.int (i / j)))
  | _, _, _ => False
def modD : D → D → (R → Prop) → Prop
  | .int i, .int j, k => 0 < j ∧ k (.fz (.int (i % j)))
  | _, _, _ => False
def powD : D → D → (R → Prop) → Prop
  | .int i, .int j, k => (0 ≤ j ∧ j ≤ 1000000 ∧ i.natAbs < 2 ^ 64) ∧ k (.fz (.int (i ^ j.toNat)))
  | _, _, _ => False
def negD : D → (R → Prop) → Prop
  | .int i, k => k (.fz (.int (-i)))
  | _, _ => False
mutual
def D.eqv : D → D → Bool
  | .non, .non => true
  | .bl a, .bl b => a == b
  | .bl a, .int j => (if a then 1 else 0) == j
  | .int i, .bl b => i == (if b then 1 else 0)
  | .int i, .int j => i == j
  | .str x, .str y => x == y
  | .lst xs, .lst ys => D.eqvL xs ys
  | .tup xs, .tup ys => D.eqvL xs ys
  | _, _ => false
def D.eqvL : List D → List D → Bool
  | [], [] => true
  | x :: xs, y :: ys => D.eqv x y && D.eqvL xs ys
  | _, _ => false
end
mutual
/-- data that may be compared at depth (at most n) -/
def D.eqOk : Nat → D → Bool
  | _, .non => true
  | _, .bl _ => true
  | _, .int _ => true
  | _, .str _ => true
  | n + 1, .lst xs => D.eqOkL n xs
  | n + 1, .tup xs => D.eqOkL n xs
  | _, _ => false
def D.eqOkL : Nat → List D → Bool
  | _, [] => true
  | n, x :: xs => D.eqOk n x && D.eqOkL n xs
end
def scalD : D → D → Bool
  | .non, .non => true | .non, .int _ => true | .int _, .non => true | .non, .bl _ => true | .bl _, .non => true | .non, .str _ => true | .str _, .non => true
  | .int _, .int _ => true | .bl _, .bl _ => true | .str _, .str _ => true
  | .int _, .str _ => true | .str _, .int _ => true | .bl _, .str _ => true | .str _, .bl _ => true
  | _, _ => false
def eqC (x y : D) : Prop := scalD x y = true ∨ (x.eqOk 60 = true ∧ y.eqOk 60 = true)
def eqD (x y : D) (k : R → Prop) : Prop := eqC x y ∧ k (.fz (.bl (D.eqv x y)))
def neD (x y : D) (k : R → Prop) : Prop := eqC x y ∧ k (.fz (.bl (!D.eqv x y)))
def ltD : D → D → (R → Prop) → Prop
  | .int i, .int j, k => k (.fz (.bl (decide (i < j))))
  | _, _, _ => False
def leD : D → D → (R → Prop) → Prop
  | .int i, .int j, k => k (.fz (.bl (decide (i ≤ j))))
  | _, _, _ => False
def gtD : D → D → (R → Prop) → Prop
  | .int i, .int j, k => k (.fz (.bl (decide (j < i))))
  | _, _, _ => False
def geD : D → D → (R → Prop) → Prop
  | .int i, .int j, k => k (.fz (.bl (decide (j ≤ i))))
  | _, _, _ => False
def D.isNon : D → Bool
  | .non => true
  | _ => false
def isD (x : D) (k : R → Prop) : Prop := k (.fz (.bl x.isNon))
def isnD (x : D) (k : R → Prop) : Prop := k (.fz (.bl (!x.isNon)))
/-- is, is not with True or False -/
def isBD : D → D → (R → Prop) → Prop
  | .bl a, .bl b, k => k (.fz (.bl (a == b)))
  | _, _, _ => False
def notBD : D → D → (R → Prop) → Prop
  | .bl a, .bl b, k => k (.fz (.bl (!(a == b))))
  | _, _, _ => False
def revD : D → (R → Prop) → Prop
  | .lst xs, k => k (.fr (.lst xs.reverse))
  | _, _ => False
def D.flat : D → Bool
  | .non => true | .bl _ => true | .int _ => true | .str _ => true
  | _ => false
/-- one sign in a text; a flat thing in a list or tuple of flat things -/
def inD : D → D → (Bool → Prop) → Prop
  | .str [c], .str t, k => k (decide (c ∈ t))
  | x, .lst ys, k => x.flat = true ∧ ys.all D.flat = true ∧ k (ys.any fun y => D.eqv y x)
  | x, .tup ys, k => x.flat = true ∧ ys.all D.flat = true ∧ k (ys.any fun y => D.eqv y x)
  | _, _, _ => False
def inDv (x y : D) (k : R → Prop) : Prop := inD x y fun b => k (.fz (.bl b))
def ninDv (x y : D) (k : R → Prop) : Prop := inD x y fun b => k (.fz (.bl (!b)))
/-- the place of an index -/
def ixN (n : Nat) (i : Int) : Option Nat := if 0 ≤ i then (if i < n then some i.toNat else none) else if -(n : Int) ≤ i then some (i + n).toNat else none
def ixD : D → D → (R → Prop) → Prop
  | .lst xs, .int i, k => ∃ j d, ixN xs.length i = some j ∧ xs[j]? = some d ∧ k (.fz d)
  | .tup xs, .int i, k => ∃ j d, ixN xs.length i = some j ∧ xs[j]? = some d ∧ k (.fz d)
  | .str x, .int i, k => ∃ j c, ixN x.length i = some j ∧ x[j]? = some c ∧ k (.fz (.str [c]))
  | _, _, _ => False
def sIx (n d : Nat) : Option Int → Nat
  | none => d
  | some i => if i < 0 then (i + (n : Int)).toNat else min i.toNat n
def cut {α : Type} (xs : List α) (lo hi : Option Int) : List α := (xs.drop (sIx xs.length 0 lo)).take (sIx xs.length xs.length hi - sIx xs.length 0 lo)
def slD : D → Option Int → Option Int → (R → Prop) → Prop
  | .lst xs, lo, hi, k => k (.fr (.lst (cut xs lo hi)))
  | .frl xs, lo, hi, k => k (.fr (.lst (cut xs lo hi)))
  | .str x, lo, hi, k => k (.fz (.str (cut x lo hi)))
  | _, _, _, _ => False
def lenD : D → (R → Prop) → Prop
  | .lst xs, k => k (.fz (.int xs.length))
  | .tup xs, k => k (.fz (.int xs.length))
  | .frl xs, k => k (.fz (.int xs.length))
  | .str x, k => k (.fz (.int x.length))
  | .dct kvs, k => k (.fz (.int kvs.length))
  | _, _ => False
/-- truth -/
def D.tru : D → Option Bool
  | .non => some false
  | .bl b => some b
  | .int i => some (i != 0)
  | .str x => some (!x.isEmpty)
  | .lst xs => some (!xs.isEmpty)
  | .tup xs => some (!xs.isEmpty)
  | .dct kvs => some (!kvs.isEmpty)
  | _ => none

/-! ### built-in functions -/
def lenF : List D → (R → Prop) → Prop
  | [x], k => lenD x k
  | _, _ => False
def allF : List D → (R → Prop) → Prop
  | [.lst xs], k => ∃ bs : List Bool, xs = bs.map D.bl ∧ k (.fz (.bl (bs.all id)))
  | _, _ => False
def anyF : List D → (R → Prop) → Prop
  | [.lst xs], k => ∃ bs : List Bool, xs = bs.map D.bl ∧ k (.fz (.bl (bs.any id)))
  | _, _ => False
def maxF : List D → (R → Prop) → Prop
  | [.int i, .int j], k => k (.fz (.int (if j > i then j else i)))
  | [.lst xs], k => ∃ ns : List Int, xs = ns.map D.int ∧ 0 < ns.length ∧ ∀ m, m ∈ ns → (∀ y, y ∈ ns → y ≤ m) → k (.fz (.int m))
  | _, _ => False
def minF : List D → (R → Prop) → Prop
  | [.int i, .int j], k => k (.fz (.int (if j < i then j else i)))
  | [.lst xs], k => ∃ ns : List Int, xs = ns.map D.int ∧ 0 < ns.length ∧ ∀ m, m ∈ ns → (∀ y, y ∈ ns → m ≤ y) → k (.fz (.int m))
  | _, _ => False
def sumF : List D → (R → Prop) → Prop
  | [.lst xs], k => ∃ ns : List Int, xs = ns.map D.int ∧ k (.fz (.int ns.sum))
  | _, _ => False
def absF : List D → (R → Prop) → Prop
  | [.int i], k => k (.fz (.int (if i < 0 then -i else i)))
  | _, _ => False
def intF : List D → (R → Prop) → Prop
  | [.int i], k => k (.fz (.int i))
  | [.bl b], k => k (.fz (.int (if b then 1 else 0)))
  | _, _ => False
def listF : List D → (R → Prop) → Prop
  | [.lst xs], k => k (.fr (.lst xs))
  | [.tup xs], k => k (.fr (.lst xs))
  | [.frl xs], k => k (.fr (.lst xs))
  | _, _ => False
def tupleF : List D → (R → Prop) → Prop
  | [.lst xs], k => k (.fr (.tup xs))
  | [.tup xs], k => k (.fz (.tup xs))
  | _, _ => False
/-- isinstance with a built-in type -/
inductive Ty where | str | int | bool | list | tuple | dict
  deriving DecidableEq
def D.isTy : Ty → D → Option Bool
  | .str, .str _ => some true
  | .int, .int _ => some true
  | .int, .bl _ => some true
  | .bool, .bl _ => some true
  | .list, .lst _ => some true
  | .list, .frl _ => some true
  | .tuple, .tup _ => some true
  | .dict, .dct _ => some true
  | _, .obj _ _ => none
  | _, .cls _ => none
  | _, _ => some false
/-! ### methods of texts -/
def joinT (S : Tx) : List Tx → Tx
  | [] => []
  | [p] => p
  | p :: q :: r => p ++ (S ++ joinT S (q :: r))
def joinM (a : Tx) : List D → (R → Prop) → Prop
  | [.lst xs], k => ∃ ys : List Tx, xs = ys.map D.str ∧ (ys.map (·.length)).sum + ys.length * a.length ≤ maxTx ∧ k (.fz (.str (joinT a ys)))
  | _, _ => False
def swM (a : Tx) : List D → (R → Prop) → Prop
  | [.str b], k => k (.fz (.bl (a.take b.length == b)))
  | _, _ => False
def ewM (a : Tx) : List D → (R → Prop) → Prop
  | [.str b], k => k (.fz (.bl (decide (b.length ≤ a.length) && (a.drop (a.length - b.length) == b))))
  | _, _ => False
/-! ### what repr shows -/
/-- an int in decimal -/
def intT (i : Int) : Tx := (toString i).toList.map Char.toNat
/-- a sign that repr shows as it is -/
def okC (c : Nat) : Bool := decide (32 ≤ c) && decide (c < 127) && c != 39 && c != 92
mutual
def D.rep : D → Tx
  | .non => [78, 111, 110, 101]
  | .bl b => if b then [84, 114, 117, 101] else [70, 97, 108, 115, 101]
  | .int i => intT i
  | .str x => 39 :: (x ++ [39])
  | .lst xs => 91 :: (joinT [44, 32] (D.repL xs) ++ [93])
  | .tup xs => 40 :: (joinT [44, 32] (D.repL xs) ++ (if xs.length == 1 then [44, 41] else [41]))
  | .dct _ => [123, 125]
  | _ => []
def D.repL : List D → List Tx
  | [] => []
  | x :: xs => D.rep x :: D.repL xs
end
mutual
/-- data that repr shows so: of depth at most n -/
def D.repOk : Nat → D → Bool
  | _, .non => true
  | _, .bl _ => true
  | _, .int i => decide (i.natAbs < 10 ^ 120)
  | _, .str x => x.all okC
  | n + 1, .lst xs => D.repOkL n xs
  | n + 1, .tup xs => D.repOkL n xs
  | _, _ => false
def D.repOkL : Nat → List D → Bool
  | _, [] => true
  | n, x :: xs => D.repOk n x && D.repOkL n xs
end
mutual
/-- no shorter than what repr shows -/
def D.wt : D → Nat
  | .int _ => 128
  | .str x => x.length + 2
  | .lst xs => D.wtL xs + 2
  | .tup xs => D.wtL xs + 4
  | _ => 5
def D.wtL : List D → Nat
  | [] => 0
  | x :: xs => D.wt x + 2 + D.wtL xs
end
def D.noD : D → Bool
  | .dct [] => true
  | _ => false
def repF : List D → (R → Prop) → Prop
  | [d], k => ((d.repOk 40 = true ∧ d.wt ≤ maxTx) ∨ d.noD = true) ∧ k (.fz (.str d.rep))
  | _, _ => False
/-! ### expressions -/
def dC (d : D) : DE := fun ρ Q _ => Q (.fz d) ρ
def dVar (i : Nat) : DE := fun ρ Q _ => match ρ.at i with
  | .fz d => Q (.fz d) ρ
  | .own d => Q (.fz d) (ρ.set i (.fz d))
  | .no => False
def dOp (op : D → D → (R → Prop) → Prop) (f g : DE) : DE := fun ρ Q E => f ρ (fun r ρ1 => g ρ1 (fun s ρ2 => op r.d s.d fun t => Q t ρ2) E) E
def dUn (op : D → (R → Prop) → Prop) (f : DE) : DE := fun ρ Q E => f ρ (fun r ρ1 => op r.d fun t => Q t ρ1) E
/-- arguments, from the left: settled values -/
def dArgs : List DE → Env → (List D → Env → Prop) → EK → Prop
  | [], ρ, Q, _ => Q [] ρ
  | f :: fs, ρ, Q, E => f ρ (fun r ρ1 => dArgs fs ρ1 (fun ds ρ2 => Q (r.d :: ds) ρ2) E) E
def dLst (fs : List DE) : DE := fun ρ Q E => dArgs fs ρ (fun ds ρ1 => ds.length ≤ maxTx ∧ Q (.fr (.lst ds)) ρ1) E
def dTup (fs : List DE) : DE := fun ρ Q E => dArgs fs ρ (fun ds ρ1 => ds.length ≤ maxTx ∧ Q (.fr (.tup ds)) ρ1) E
def dDct0 : DE := fun ρ Q _ => Q (.fr (.dct [])) ρ
/-- a built-in function of settled values -/
def dFn (op : List D → (R → Prop) → Prop) (fs : List DE) : DE := fun ρ Q E => dArgs fs ρ (fun ds ρ1 => op ds fun t => Q t ρ1) E
def dIsi (t : Ty) (f : DE) : DE := fun ρ Q E => f ρ (fun r ρ1 => ∃ b, r.d.isTy t = some b ∧ Q (.fz (.bl b)) ρ1) E
/-- a method of a text -/
def dMs (op : Tx → List D → (R → Prop) → Prop) (f : DE) (fs : List DE) : DE := fun ρ Q E => f ρ (fun r ρ1 => match r.d with
  | .str a => dArgs fs ρ1 (fun ds ρ2 => op a ds fun t => Q t ρ2) E
  | _ => False) E
/-- part of a slice -/
def dPart : Option DE → Env → (Option Int → Env → Prop) → EK → Prop
  | none, ρ, Q, _ => Q none ρ
  | some f, ρ, Q, E => f ρ (fun r ρ1 => match r.d with | .int i => Q (some i) ρ1 | _ => False) E
def dSl (f : DE) (lo hi : Option DE) : DE := fun ρ Q E => f ρ (fun r ρ1 => dPart lo ρ1 (fun l ρ2 => dPart hi ρ2 (fun h ρ3 => slD r.d l h fun t => Q t ρ3) E) E) E
def dIfE (c : DT) (f g : DE) : DE := fun ρ Q E => c ρ (fun b ρ1 => if b = true then f ρ1 Q E else g ρ1 Q E) E
/-- an item of the object that a name holds, which stays its own -/
def Slot.known : Slot → Bool
  | .no => false
  | _ => true
def dIxN (i : Nat) (g : DE) : DE := fun ρ Q E => (ρ.at i).known = true ∧ g ρ (fun s ρ1 => match ρ1.at i with
  | .own d => ixD d s.d fun t => Q t ρ1
  | .fz d => ixD d s.d fun t => Q t ρ1
  | .no => False) E
/-- read with one's own objects as they stand, for a flat answer -/
def Slot.calm : Slot → Slot
  | .own d => .fz d
  | s => s
/-- a built-in function of a name whose object stays its own; its answer is flat -/
def dFnN (op : List D → (R → Prop) → Prop) (i : Nat) : DE := fun ρ Q _ => match ρ.at i with
  | .own d => op [d] fun t => t.d.flat = true ∧ Q t ρ
  | .fz d => op [d] fun t => Q t ρ
  | .no => False
def dLook (f : DE) : DE := fun ρ Q _ => f (ρ.map Slot.calm) (fun r _ => r.d.flat = true ∧ Q (.fz r.d) ρ) fun _ _ => False
/-- tests -/
def tVal (f : DE) : DT := fun ρ Q E => f ρ (fun r ρ1 => match r.d with | .bl b => Q b ρ1 | _ => False) E
def tTru (f : DE) : DT := fun ρ Q E => f ρ (fun r ρ1 => ∃ b, r.d.tru = some b ∧ Q b ρ1) E
def tAnd (c d : DT) : DT := fun ρ Q E => c ρ (fun b ρ1 => if b = true then d ρ1 Q E else Q false ρ1) E
def tOr (c d : DT) : DT := fun ρ Q E => c ρ (fun b ρ1 => if b = true then Q true ρ1 else d ρ1 Q E) E
def tNot (c : DT) : DT := fun ρ Q E => c ρ (fun b ρ1 => Q (!b) ρ1) E
/-- and, or, not as values: all truth values -/
def dAnd (c : DE) (d : DE) : DE := fun ρ Q E => c ρ (fun r ρ1 => match r.d with | .bl b => (if b = true then d ρ1 Q E else Q (.fz (.bl false)) ρ1) | _ => False) E
def dOr (c : DE) (d : DE) : DE := fun ρ Q E => c ρ (fun r ρ1 => match r.d with | .bl b => (if b = true then Q (.fz (.bl true)) ρ1 else d ρ1 Q E) | _ => False) E
def dNot (c : DE) : DE := fun ρ Q E => c ρ (fun r ρ1 => match r.d with | .bl b => Q (.fz (.bl (!b))) ρ1 | _ => False) E
/-- a chain x op y op z -/
def dChain (op op' : D → D → (R → Prop) → Prop) (f g h : DE) : DE := fun ρ Q E => f ρ (fun r ρ1 => g ρ1 (fun s ρ2 => op r.d s.d fun t => match t.d with
  | .bl b => (if b = true then h ρ2 (fun u ρ3 => op' s.d u.d fun t' => Q t' ρ3) E else Q (.fz (.bl false)) ρ2)
  | _ => False) E) E

/-! ### what is walked -/
def iLst (f : DE) : DI := fun ρ Q E => f ρ (fun r ρ1 => match r.d with | .lst xs => Q xs ρ1 | _ => False) E
def iTup (f : DE) : DI := fun ρ Q E => f ρ (fun r ρ1 => match r.d with | .tup xs => Q xs ρ1 | _ => False) E
def iStr (f : DE) : DI := fun ρ Q E => f ρ (fun r ρ1 => match r.d with | .str x => Q (x.map fun c => .str [c]) ρ1 | _ => False) E
def rng (lo : Int) (n : Nat) : List D := (List.range n).map fun (k : Nat) => .int (lo + (k : Int))
def iRng1 (f : DE) : DI := fun ρ Q E => f ρ (fun r ρ1 => match r.d with | .int n => (-(2 ^ 62) ≤ n ∧ n < 2 ^ 62) ∧ Q (rng 0 n.toNat) ρ1 | _ => False) E
def iRng2 (f g : DE) : DI := fun ρ Q E => f ρ (fun r ρ1 => g ρ1 (fun s ρ2 => match r.d, s.d with
  | .int a, .int b => (-(2 ^ 62) ≤ a ∧ a < 2 ^ 62 ∧ -(2 ^ 62) ≤ b ∧ b < 2 ^ 62) ∧ Q (rng a (b - a).toNat) ρ2
  | _, _ => False) E) E
def enumD (xs : List D) : List D := (List.range xs.length).zipWith (fun (i : Nat) x => .tup [.int (i : Int), x]) xs
def iEnum (f : DE) : DI := fun ρ Q E => f ρ (fun r ρ1 => match r.d with | .lst xs => Q (enumD xs) ρ1 | _ => False) E
def iZip (f g : DE) : DI := fun ρ Q E => f ρ (fun r ρ1 => g ρ1 (fun s ρ2 => match r.d, s.d with
  | .lst xs, .lst ys => Q (xs.zipWith (fun x y => .tup [x, y]) ys) ρ2
  | _, _ => False) E) E

/-! ### targets -/
def gN (i : Nat) : DG := fun d ρ k => k (ρ.set i (.fz d))
def gNs : List Nat → List D → Env → (Env → Prop) → Prop
  | [], [], ρ, k => k ρ
  | i :: is, d :: ds, ρ, k => gNs is ds (ρ.set i (.fz d)) k
  | _, _, _, _ => False
def gT (is : List Nat) : DG := fun d ρ k => match d with
  | .tup ds => gNs is ds ρ k
  | _ => False

/-! ### comprehensions -/
def wipeE : List Nat → Env → Env
  | [], ρ => ρ
  | v :: vs, ρ => (wipeE vs ρ).set v .no
/-- behind the block: its own names stand as before -/
def backE : List Nat → Env → Env → Env
  | [], _, ρ => ρ
  | v :: vs, ρ0, ρ => (backE vs ρ0 ρ).set v (ρ0.at v)
def noE : EK := fun _ _ => False
def lcL (vs : List Nat) (g : DG) (t : DT) (e : DE) (Q : List D → Env → Prop) : List D → List D → Env → Prop
  | [], acc, ρ => Q acc ρ
  | x :: xs, acc, ρ => g x ρ fun ρ1 => t ρ1 (fun b ρ2 => if b = true then e ρ2 (fun r ρ3 => acc.length < maxTx ∧ lcL vs g t e Q xs (acc ++ [r.d]) (wipeE vs ρ3)) noE
    else lcL vs g t e Q xs acc (wipeE vs ρ2)) noE
def tYes : DT := fun ρ Q _ => Q true ρ
def dLc (vs : List Nat) (it : DI) (g : DG) (t : DT) (e : DE) : DE := fun ρ Q E => it ρ (fun xs ρ1 => (∀ i ∈ vs, ∀ d, ρ1.at i ≠ .own d) ∧
  lcL vs g t e (fun acc ρ2 => Q (.fr (.lst acc)) (backE vs ρ1 ρ2)) xs [] (wipeE vs ρ1)) E

/-! ### calls of defs -/
/-- a target that is a name, or a tuple of names -/
inductive Tgt where
  | one (i : Nat)
  | tup (is : List Nat)
def Tgt.g : Tgt → DG
  | .one i => gN i
  | .tup is => gT is
def Tgt.is : Tgt → List Nat
  | .one i => [i]
  | .tup is => is
def D.isRef : D → Bool
  | .lst _ => true
  | .tup _ => true
  | .dct _ => true
  | .obj _ _ => true
  | _ => false
/-- an argument: a value; a settled object where the def may change it (it does not); the object that a name holds, to be changed -/
inductive DA where
  | v (f : DE)
  | r (f : DE)
  | m (i : Nat)
inductive AV where
  | v (d : D)
  | m (i : Nat)
def Slot.isOwn : Slot → Bool
  | .own _ => true
  | _ => false
def dAVs : List DA → Env → (List AV → Env → Prop) → EK → Prop
  | [], ρ, Q, _ => Q [] ρ
  | .v f :: as, ρ, Q, E => f ρ (fun r ρ1 => dAVs as ρ1 (fun vs ρ2 => Q (.v r.d :: vs) ρ2) E) E
  | .r f :: as, ρ, Q, E => f ρ (fun r ρ1 => r.d.isRef = true ∧ dAVs as ρ1 (fun vs ρ2 => Q (.v r.d :: vs) ρ2) E) E
  | .m i :: as, ρ, Q, E => (ρ.at i).known = true ∧ dAVs as ρ (fun vs ρ2 => Q (.m i :: vs) ρ2) E
def avSlot (ρ : Env) : AV → Slot
  | .v d => .fz d
  | .m i => ρ.at i
def AV.ok (ρ : Env) : AV → Bool
  | .v _ => true
  | .m i => (ρ.at i).isOwn
def backA : List AV → List Slot → Env → Env
  | .m i :: as, s :: ss, ρ => backA as ss (ρ.set i s)
  | .v _ :: as, _ :: ss, ρ => backA as ss ρ
  | _, _, ρ => ρ
def dCall (con : Con) (as : List DA) : DE := fun ρ Q E => dAVs as ρ (fun vs ρ1 => vs.all (AV.ok ρ1) = true ∧ con (vs.map (avSlot ρ1)) (fun r outs => Q r (backA vs outs ρ1)) fun x outs => E x (backA vs outs ρ1)) E
/-- the places of the arguments that the def may change -/
def DA.mut : DA → Bool
  | .v _ => false
  | _ => true
def DA.slot? : DA → Option Nat
  | .m i => some i
  | _ => none

/-! ### defs with *args -/
def dCallV (con : Con) (fs : List DE) : DE := fun ρ Q E => dArgs fs ρ (fun ds ρ1 => ds.length ≤ maxTx ∧ con [.fz (.tup ds)] (fun r _ => Q r ρ1) fun x _ => E x ρ1) E
/-- f(*e), e a list or a tuple -/
def dCallS (con : Con) (f : DE) : DE := fun ρ Q E => f ρ (fun r ρ1 => match r.d with
  | .lst ds => ds.length ≤ maxTx ∧ con [.fz (.tup ds)] (fun r _ => Q r ρ1) fun x _ => E x ρ1
  | .tup ds => ds.length ≤ maxTx ∧ con [.fz (.tup ds)] (fun r _ => Q r ρ1) fun x _ => E x ρ1
  | _ => False) E
/-! ### own classes: attributes, making, storing -/
def dFld (c j : Nat) (f : DE) : DE := fun ρ Q E => f ρ (fun r ρ1 => match r.d with
  | .obj c' fs => c' = c ∧ ∃ d, fs[j]? = some d ∧ Q (.fz d) ρ1
  | _ => False) E
def mkC (c : Nat) (con : Con) (ds : List D) (ρ : Env) (Q : R → Env → Prop) (E : EK) : Prop :=
  con (.own (.obj c []) :: ds.map .fz) (fun r outs => r.d = .non ∧ ∃ d, outs.head? = some (.own d) ∧ Q (.fr d) ρ) fun x _ => E x ρ
def dMake (c : Nat) (con : Con) (fs : List DE) : DE := fun ρ Q E => dArgs fs ρ (fun ds ρ1 => ds.length = fs.length ∧ mkC c con ds ρ1 Q E) E
/-- .. through a name that holds the class -/
def dMakeV (i c : Nat) (con : Con) (fs : List DE) : DE := fun ρ Q E => (match ρ.at i with | .fz (.cls c') => c' = c | _ => False) ∧ dArgs fs ρ (fun ds ρ1 => ds.length = fs.length ∧ mkC c con ds ρ1 Q E) E
/-- an object of that class -/
def D.isObj (c : Nat) : D → Bool
  | .obj c' _ => c' == c
  | _ => false
def dObj (c : Nat) (f : DE) : DE := fun ρ Q E => f ρ (fun r ρ1 => r.d.isObj c = true ∧ Q r ρ1) E
def Slot.isObj (c : Nat) : Slot → Bool
  | .own d => d.isObj c
  | .fz d => d.isObj c
  | .no => false
/-- x.m(..), x the name's own object -/
def dMethM (i c : Nat) (con : Con) (as : List DA) : DE := fun ρ Q E => (ρ.at i).isObj c = true ∧ dCall con (.m i :: as) ρ Q E
/-- C.m(..), m a classmethod -/
def dCm (c : Nat) (con : Con) (fs : List DE) : DE := fun ρ Q E => dArgs fs ρ (fun ds ρ1 => ds.length = fs.length ∧ con ((D.cls c :: ds).map .fz) (fun r _ => Q r ρ1) fun x _ => E x ρ1) E

def D.isCls (c : Nat) : D → Option Bool
  | .obj c' _ => if c' = c then some true else none
  | .cls _ => none
  | _ => some false
def dIsO (c : Nat) (f : DE) : DE := fun ρ Q E => f ρ (fun r ρ1 => ∃ b, r.d.isCls c = some b ∧ Q (.fz (.bl b)) ρ1) E
/-- a == b, a != b by the own == of a's class -/
def D.eqTo (c : Nat) : D → Bool
  | .obj c' _ => c' == c
  | .cls _ => false
  | .frl _ => false
  | _ => true
def dEqO (c : Nat) (con : Con) (neg : Bool) (f g : DE) : DE := fun ρ Q E => f ρ (fun r ρ1 => g ρ1 (fun s ρ2 => r.d.isObj c = true ∧ (if neg = true then s.d.isObj c = true else s.d.eqTo c = true) ∧
  con [.fz r.d, .fz s.d] (fun t _ => ∃ b, t.d = .bl b ∧ Q (.fz (.bl (if neg = true then !b else b))) ρ2) fun _ _ => False) E) E
/-! ### statements -/
/-- x.f = e, x the name's own object: a new attribute, or one that is there -/
def sFld (i c j : Nat) (f : DE) : DS := fun D ρ E => f ρ (fun r ρ1 => match ρ1.at i with
  | .own (.obj c' fs) => c' = c ∧ j ≤ fs.length ∧ D.nx (ρ1.set i (.own (.obj c (if j < fs.length then fs.set j r.d else fs ++ [r.d]))))
  | _ => False) E
def sNx : DS := fun D ρ _ => D.nx ρ
def sSeq (f g : DS) : DS := fun D ρ E => f { D with nx := fun ρ1 => g D ρ1 E } ρ E
def sRet (f : DE) : DS := fun D ρ E => f ρ D.rt E
def sRetN : DS := fun D ρ _ => D.rt (.fz .non) ρ
def sExp (f : DE) : DS := fun D ρ E => f ρ (fun _ ρ1 => D.nx ρ1) E
def sAsg (g : DG) (f : DE) : DS := fun D ρ E => f ρ (fun r ρ1 => g r.d ρ1 D.nx) E
/-- a new object becomes the name's own -/
def sAsgO (i : Nat) (f : DE) : DS := fun D ρ E => f ρ (fun r ρ1 => match r with | .fr d => D.nx (ρ1.set i (.own d)) | .fz _ => False) E
def sIf (c : DT) (f g : DS) : DS := fun D ρ E => c ρ (fun b ρ1 => if b = true then f D ρ1 E else g D ρ1 E) E
def sAug (i : Nat) (op : D → D → (R → Prop) → Prop) (f : DE) : DS := fun D ρ E => match ρ.at i with
  | .fz x => f ρ (fun r ρ1 => op x r.d fun t => D.nx (ρ1.set i (.fz t.d))) E
  | _ => False
def forL (g : DG) (body : DS) (J : DEnds) (E : EK) : List D → Env → Prop
  | [], ρ => J.nx ρ
  | x :: xs, ρ => g x ρ fun ρ1 => body { nx := forL g body J E xs, ct := forL g body J E xs, bk := J.nx, rt := J.rt } ρ1 E
def sFor (it : DI) (g : DG) (body : DS) : DS := fun D ρ E => it ρ (fun xs ρ1 => forL g body D E xs ρ1) E
def whL (c : DT) (body : DS) (J : DEnds) (E : EK) : Nat → Env → Prop
  | 0, _ => False
  | n + 1, ρ => c ρ (fun b ρ1 => if b = true then body { nx := whL c body J E n, ct := whL c body J E n, bk := J.nx, rt := J.rt } ρ1 E else J.nx ρ1) E
def sWh (c : DT) (body : DS) : DS := fun D ρ E => ∃ n, whL c body D E n ρ
def sBrk : DS := fun D ρ _ => D.bk ρ
def sCnt : DS := fun D ρ _ => D.ct ρ
def sRaise (c : Nat) (f : DE) : DS := fun D ρ E => f ρ (fun r ρ1 => E ⟨c, r.d⟩ ρ1) E
def Slot.ownL : Slot → Bool
  | .own (.lst _) => true
  | _ => false
/-- x.append(e), x the name's own list -/
def sApp (i : Nat) (f : DE) : DS := fun D ρ E => (ρ.at i).ownL = true ∧ f ρ (fun r ρ1 => match ρ1.at i with
  | .own (.lst xs) => xs.length < maxTx ∧ D.nx (ρ1.set i (.own (.lst (xs ++ [r.d]))))
  | _ => False) E
/-- x[k] = e, x the name's own list -/
def sPut (i : Nat) (k : DE) (f : DE) : DS := fun D ρ E => f ρ (fun r ρ1 => (ρ1.at i).ownL = true ∧ k ρ1 (fun s ρ2 => match ρ2.at i, s.d with
  | .own (.lst xs), .int z => ∃ j, ixN xs.length z = some j ∧ D.nx (ρ2.set i (.own (.lst (xs.set j r.d))))
  | _, _ => False) E) E
/-- a, b = f, g: two different names -/
def sPar (i j : Nat) (f g : DE) : DS := fun D ρ E => f ρ (fun r ρ1 => g ρ1 (fun s ρ2 => D.nx ((ρ2.set i (.fz r.d)).set j (.fz s.d))) E) E
/-- a, b = f, []: the second name's own -/
def sParL (i j : Nat) (f : DE) : DS := fun D ρ E => f ρ (fun r ρ1 => D.nx ((ρ1.set i (.fz r.d)).set j (.own (.lst [])))) E
/-- a, b, c = f, g, h: three different names -/
def sPar3 (i j l : Nat) (f g h : DE) : DS := fun D ρ E => f ρ (fun r ρ1 => g ρ1 (fun s ρ2 => h ρ2 (fun t ρ3 => D.nx (((ρ3.set i (.fz r.d)).set j (.fz s.d)).set l (.fz t.d))) E) E) E
/-- try: the clauses, each with its name's slot, its class, its suite by the exception -/
abbrev DClause := Nat × Nat × (Exc → DS)
def DEnds.unname (D : DEnds) (i : Nat) : DEnds := { nx := fun ρ => D.nx (ρ.set i .no), rt := D.rt, bk := fun ρ => D.bk (ρ.set i .no), ct := fun ρ => D.ct (ρ.set i .no) }
def catchD : List DClause → DEnds → EK → EK
  | [], _, E => E
  | (i, c, suite) :: r, D, E => fun x ρ => if x.cls = c then i < ρ.length ∧ suite x (D.unname i) (ρ.set i .no) noE else catchD r D E x ρ
def sTrys (cl : List DClause) (body : DS) : DS := fun D ρ E => body D ρ (catchD cl D E)
/-- a def's body -/
def startE (n : Nat) (args : List Slot) : Env := args ++ List.replicate (n - args.length) .no
/-- the first n slots -/
def outsE : Nat → Env → List Slot
  | 0, _ => []
  | n + 1, [] => .no :: outsE n []
  | n + 1, s :: ρ => s :: outsE n ρ
def runD (n : Nat) (body : DS) : Con := fun args Q E => body { nx := fun ρ => Q (.fz .non) (outsE args.length ρ), rt := fun r ρ => Q r (outsE args.length ρ) } (startE n args) fun x ρ => E x (outsE args.length ρ)
end DL

set_option Elab.async false
set_option linter.all false
set_option autoImplicit false
set_option maxRecDepth 100000
/-! DLX: how data lies in the heap; expressions, statements, defs by what they do to data. -/
namespace DL
open PySem PySem.Spec PyProof.Rows L2

def tx (l : Tx) : Str := ⟨l.toArray⟩
theorem tx_len (l : Tx) : (tx l).length = l.length := by simp [tx, Str.length]
theorem tx_app (a b : Tx) : tx a ++ tx b = tx (a ++ b) := by
  show Str.append (tx a) (tx b) = _
  unfold Str.append tx
  simp
theorem tx_inj {a b : Tx} (h : tx a = tx b) : a = b := by
  have := congrArg (fun s => s.cps.toList) h
  simpa [tx] using this
theorem tx_list (l : Tx) : (tx l).cps.toList = l := by simp [tx]
def okTx (l : Tx) : Prop := (∀ c ∈ l, c < 0x110000) ∧ l.length ≤ sizeLine
def kyV : Ky → Key
  | .int i => .inl i
  | .str x => .inr (tx x)
def okKy : Ky → Prop
  | .int _ => True
  | .str x => okTx x
theorem kyV_inj : ∀ {a b : Ky}, kyV a = kyV b → a = b
  | .int i, .int j, h => by cases h; rfl
  | .str x, .str y, h => by
    have : tx x = tx y := Sum.inr.inj h
    rw [tx_inj this]
  | .int i, .str y, h => nomatch h
  | .str x, .int j, h => nomatch h

/-- an own class: where it stands, its instances' attributes in the order of their storing -/
structure CI where
  addr : Addr
  names : List Str
/-- an own exception class: where it stands, its one attribute -/
structure EI where
  addr : Addr
  field : Str
structure Tb where
  cl : Nat → Option CI
  ex : Nat → Option EI
section
variable (K : PySem.W.Frag) (T : Tb) (F : Hp)
mutual
inductive Rep : V → D → Prop
  | non : Rep .non .non
  | bl (b : Bool) : Rep (.bl b) (.bl b)
  | int (i : Int) : Rep (.int i) (.int i)
  | str {l : Tx} : okTx l → Rep (.str (tx l)) (.str l)
  | ref {a : Addr} {o : HO} {d : D} : F a = some o → RepO o d → Rep (.ref a) d
  | frl {a : Addr} {vs : List V} {xs : List D} : SqL K F a vs → RepL vs xs → Rep (.ref a) (.frl xs)
  | cls {c : Nat} {ci : CI} : T.cl c = some ci → Rep (.ref ci.addr) (.cls c)
inductive RepO : HO → D → Prop
  | lst {vs : List V} {xs : List D} : RepL vs xs → RepO (.lst vs) (.lst xs)
  | tup {vs : List V} {xs : List D} : RepL vs xs → RepO (.tup vs) (.tup xs)
  | dct {kvs : List (Key × V)} {ds : List (Ky × D)} : RepK kvs ds → RepO (.dK kvs) (.dct ds)
  | obj {c : Nat} {ci : CI} {dx : Addr} {vs : List V} {xs : List D} : T.cl c = some ci → vs.length ≤ ci.names.length → RepL vs xs → RepO (.ins ci.addr dx (ci.names.zip vs)) (.obj c xs)
inductive RepL : List V → List D → Prop
  | nil : RepL [] []
  | cons {v : V} {d : D} {vs : List V} {xs : List D} : Rep v d → RepL vs xs → RepL (v :: vs) (d :: xs)
inductive RepK : List (Key × V) → List (Ky × D) → Prop
  | nil : RepK [] []
  | cons {k : Ky} {v : V} {d : D} {r : List (Key × V)} {s : List (Ky × D)} : okKy k → Rep v d → RepK r s → RepK ((kyV k, v) :: r) ((k, d) :: s)
end
end
section
variable {K : PySem.W.Frag} {T : Tb} {F F' : Hp}
mutual
theorem Rep.mono (h : Same F F') : ∀ {v : V} {d : D}, Rep K T F v d → Rep K T F' v d
  | _, _, .non => .non
  | _, _, .bl b => .bl b
  | _, _, .int i => .int i
  | _, _, .str z => .str z
  | _, _, .ref e r => .ref (h _ _ e) (RepO.mono h r)
  | _, _, .frl e r => .frl (h.seq e) (RepL.mono h r)
  | _, _, .cls e => .cls e
theorem RepO.mono (h : Same F F') : ∀ {o : HO} {d : D}, RepO K T F o d → RepO K T F' o d
  | _, _, .lst r => .lst (RepL.mono h r)
  | _, _, .tup r => .tup (RepL.mono h r)
  | _, _, .dct r => .dct (RepK.mono h r)
  | _, _, .obj e l r => .obj e l (RepL.mono h r)
theorem RepL.mono (h : Same F F') : ∀ {vs : List V} {xs : List D}, RepL K T F vs xs → RepL K T F' vs xs
  | _, _, .nil => .nil
  | _, _, .cons a b => .cons (Rep.mono h a) (RepL.mono h b)
theorem RepK.mono (h : Same F F') : ∀ {vs : List (Key × V)} {xs : List (Ky × D)}, RepK K T F vs xs → RepK K T F' vs xs
  | _, _, .nil => .nil
  | _, _, .cons z a b => .cons z (Rep.mono h a) (RepK.mono h b)
end
theorem RepL.length : ∀ {vs : List V} {xs : List D}, RepL K T F vs xs → vs.length = xs.length
  | _, _, .nil => rfl
  | _, _, .cons _ b => congrArg (· + 1) (RepL.length b)
theorem RepK.length : ∀ {vs : List (Key × V)} {xs : List (Ky × D)}, RepK K T F vs xs → vs.length = xs.length
  | _, _, .nil => rfl
  | _, _, .cons _ _ b => congrArg (· + 1) (RepK.length b)
theorem RepL.get : ∀ {vs : List V} {xs : List D} {i : Nat} {d : D}, RepL K T F vs xs → xs[i]? = some d → ∃ v, vs[i]? = some v ∧ Rep K T F v d
  | _, _, _, _, .nil, h => by simp at h
  | _, _, 0, _, .cons a _, h => by simp at h; subst h; exact ⟨_, rfl, a⟩
  | _, _, i + 1, d, .cons _ b, h => by
    obtain ⟨v, h1, h2⟩ := RepL.get (i := i) (d := d) b (by simpa using h)
    exact ⟨v, by simpa using h1, h2⟩
theorem RepL.getV : ∀ {vs : List V} {xs : List D} {i : Nat} {v : V}, RepL K T F vs xs → vs[i]? = some v → ∃ d, xs[i]? = some d ∧ Rep K T F v d
  | _, _, _, _, .nil, h => by simp at h
  | _, _, 0, _, .cons a _, h => by simp at h; subst h; exact ⟨_, rfl, a⟩
  | _, _, i + 1, d, .cons _ b, h => by
    obtain ⟨v, h1, h2⟩ := RepL.getV (i := i) (v := d) b (by simpa using h)
    exact ⟨v, by simpa using h1, h2⟩
theorem RepL.append : ∀ {vs ws : List V} {xs ys : List D}, RepL K T F vs xs → RepL K T F ws ys → RepL K T F (vs ++ ws) (xs ++ ys)
  | _, _, _, _, .nil, h => h
  | _, _, _, _, .cons a b, h => .cons a (RepL.append b h)
theorem RepL.take : ∀ {vs : List V} {xs : List D} (n : Nat), RepL K T F vs xs → RepL K T F (vs.take n) (xs.take n)
  | _, _, 0, _ => .nil
  | _, _, _ + 1, .nil => .nil
  | _, _, n + 1, .cons a b => .cons a (RepL.take n b)
theorem RepL.drop : ∀ {vs : List V} {xs : List D} (n : Nat), RepL K T F vs xs → RepL K T F (vs.drop n) (xs.drop n)
  | _, _, 0, h => h
  | _, _, _ + 1, .nil => .nil
  | _, _, n + 1, .cons a b => RepL.drop n b
theorem RepL.set : ∀ {vs : List V} {xs : List D} {v : V} {d : D} (n : Nat), Rep K T F v d → RepL K T F vs xs → RepL K T F (vs.set n v) (xs.set n d)
  | _, _, _, _, _, _, .nil => .nil
  | _, _, _, _, 0, h, .cons a b => .cons h b
  | _, _, _, _, n + 1, h, .cons a b => .cons a (RepL.set n h b)
theorem RepL.of_all : ∀ {vs : List V} {xs : List D}, vs.length = xs.length → (∀ (i : Nat) (v : V) (d : D), vs[i]? = some v → xs[i]? = some d → Rep K T F v d) → RepL K T F vs xs
  | [], [], _, _ => .nil
  | v :: vs, d :: xs, hl, h => .cons (h 0 v d rfl rfl) (RepL.of_all (by simpa using hl) fun i a b e1 e2 => h (i + 1) a b (by simpa using e1) (by simpa using e2))
  | [], _ :: _, hl, _ => by simp at hl
  | _ :: _, [], hl, _ => by simp at hl
/-- what a value is, by its data -/
theorem Rep.int_inv {v : V} {i : Int} (r : Rep K T F v (.int i)) : v = .int i := by
  cases r with
  | int => rfl
  | ref e r => cases r
theorem Rep.bl_inv {v : V} {b : Bool} (r : Rep K T F v (.bl b)) : v = .bl b := by
  cases r with
  | bl => rfl
  | ref e r => cases r
theorem Rep.non_inv {v : V} (r : Rep K T F v .non) : v = .non := by
  cases r with
  | non => rfl
  | ref e r => cases r
theorem Rep.str_inv {v : V} {l : Tx} (r : Rep K T F v (.str l)) : v = .str (tx l) ∧ okTx l := by
  cases r with
  | str z => exact ⟨rfl, z⟩
  | ref e r => cases r
theorem Rep.lst_inv {v : V} {xs : List D} (r : Rep K T F v (.lst xs)) : ∃ a vs, v = .ref a ∧ F a = some (.lst vs) ∧ RepL K T F vs xs := by
  cases r with
  | ref e r =>
    cases r with
    | lst r => exact ⟨_, _, rfl, e, r⟩
theorem Rep.tup_inv {v : V} {xs : List D} (r : Rep K T F v (.tup xs)) : ∃ a vs, v = .ref a ∧ F a = some (.tup vs) ∧ RepL K T F vs xs := by
  cases r with
  | ref e r =>
    cases r with
    | tup r => exact ⟨_, _, rfl, e, r⟩
theorem Rep.dct_inv {v : V} {xs : List (Ky × D)} (r : Rep K T F v (.dct xs)) : ∃ a vs, v = .ref a ∧ F a = some (.dK vs) ∧ RepK K T F vs xs := by
  cases r with
  | ref e r =>
    cases r with
    | dct r => exact ⟨_, _, rfl, e, r⟩
theorem Rep.obj_inv {v : V} {c : Nat} {xs : List D} (r : Rep K T F v (.obj c xs)) : ∃ a ci dx vs, v = .ref a ∧ T.cl c = some ci ∧ F a = some (.ins ci.addr dx (ci.names.zip vs)) ∧ vs.length ≤ ci.names.length ∧ RepL K T F vs xs := by
  cases r with
  | ref e r =>
    cases r with
    | obj h1 h2 h3 => exact ⟨_, _, _, _, rfl, h1, e, h2, h3⟩
theorem Rep.frl_inv {v : V} {xs : List D} (r : Rep K T F v (.frl xs)) : ∃ a vs, v = .ref a ∧ SqL K F a vs ∧ RepL K T F vs xs := by
  cases r with
  | ref e r => cases r
  | frl e r => exact ⟨_, _, rfl, e, r⟩
end

theorem Rep.cls_inv {K : PySem.W.Frag} {T : Tb} {F : Hp} {v : V} {c : Nat} (r : Rep K T F v (.cls c)) : ∃ ci, T.cl c = some ci ∧ v = .ref ci.addr := by
  cases r with
  | ref e r => cases r
  | cls e => exact ⟨_, e, rfl⟩
/-! ### states -/
/-- a def's entry: what was settled, the heap, the objects handed in to be changed, the names that hold them -/
structure Bs where
  F0 : Hp
  H0 : Hp
  O0 : Addr → Prop
  P : Nat → V
section
variable (K : PySem.W.Frag) (T : Tb)
def SlotOk (F H : Hp) (s : Option (Option V)) : Slot → Prop
  | .no => True
  | .fz d => ∃ v, s = some (some v) ∧ Rep K T F v d
  | .own d => ∃ p o, s = some (some (.ref p)) ∧ F p = none ∧ H p = some o ∧ RepO K T F o d
structure SR (B : Bs) (M : List Nat) (F H : Hp) (ρ : Env) (σ : L2.St) : Prop where
  sub : Same F H
  keep : ∀ b o, B.H0 b = some o → ¬ B.O0 b → H b = some o
  live : ∀ b o, B.H0 b = some o → ∃ o', H b = some o'
  f0 : Same B.F0 F
  fnew : ∀ b o, F b = some o → B.F0 b = some o ∨ B.H0 b = none ∨ B.O0 b
  len : ρ.length = σ.length
  slot : ∀ i, SlotOk K T F H (σ[i]?) (ρ.at i)
  newown : ∀ i d p, ρ.at i = .own d → σ[i]? = some (some (.ref p)) → B.H0 p = none ∨ B.O0 p
  inj : ∀ i j d e p, ρ.at i = .own d → ρ.at j = .own e → σ[i]? = some (some (.ref p)) → σ[j]? = some (some (.ref p)) → i = j
  pin : ∀ i ∈ M, σ[i]? = some (some (B.P i))
/-- a result: settled, or a new object that is nobody's -/
def RetV (B : Bs) (F H : Hp) (ρ : Env) (σ : L2.St) (v : V) : R → Prop
  | .fz d => Rep K T F v d
  | .fr d => ∃ p o, v = .ref p ∧ F p = none ∧ H p = some o ∧ RepO K T F o d ∧ B.H0 p = none ∧ ∀ i e, ρ.at i = .own e → σ[i]? ≠ some (some (.ref p))
/-- what an operation hands back at once -/
def NewR (F H : Hp) (v : V) (H' : Hp) (r : R) : Prop :=
  (∃ d, r = .fz d ∧ H' = H ∧ Rep K T F v d) ∨ ∃ p o d, r = .fr d ∧ v = .ref p ∧ H p = none ∧ H' = upd H p o ∧ RepO K T F o d
end
theorem Env.at_set_same {ρ : Env} {i : Nat} {s : Slot} (h : i < ρ.length) : Env.at (ρ.set i s) i = s := by
  unfold Env.at
  rw [List.getElem?_set_self h]
  rfl
theorem Env.at_set_ne {ρ : Env} {i j : Nat} {s : Slot} (h : i ≠ j) : Env.at (ρ.set i s) j = ρ.at j := by
  unfold Env.at
  rw [List.getElem?_set_ne h]
theorem Env.at_lt {ρ : Env} {i : Nat} (h : ρ.at i ≠ .no) : i < ρ.length := by
  unfold Env.at at h
  by_cases hi : i < ρ.length
  · exact hi
  · rw [List.getElem?_eq_none (by omega)] at h
    exact absurd rfl h
theorem same_upd {H : Hp} {p : Addr} {o : HO} (h : H p = none) : Same H (upd H p o) := fun b x e => by
  rw [upd_ne (ne_of_none e h)]
  exact e
section
variable {K : PySem.W.Frag} {T : Tb} {B : Bs} {M : List Nat} {F F' H H' : Hp} {ρ ρ' : Env} {σ : L2.St} {v : V} {r : R} {p : Addr} {o : HO} {d : D} {i : Nat}
theorem SlotOk.mono {s : Option (Option V)} {sl : Slot} (h : Same F F') (hH : Same H H') (hn : ∀ d p, sl = .own d → s = some (some (.ref p)) → F' p = none) : SlotOk K T F H s sl → SlotOk K T F' H' s sl := by
  cases sl with
  | no => exact fun _ => trivial
  | fz d =>
    rintro ⟨v, e, r⟩
    exact ⟨v, e, r.mono h⟩
  | own d =>
    rintro ⟨p, o, e, n, hp, r⟩
    exact ⟨p, o, e, hn d p rfl e, hH _ _ hp, r.mono h⟩
/-- a new object is laid -/
theorem SR.lay (S : SR K T B M F H ρ σ) (hp : H p = none) : SR K T B M F (upd H p o) ρ σ := by
  have su : Same H (upd H p o) := same_upd hp
  refine ⟨S.sub.trans su, fun b u e n => su _ _ (S.keep b u e n), fun b u e => ?_, S.f0, S.fnew, S.len, fun i => (S.slot i).mono (Same.refl _) su fun d q e1 e2 => ?_, S.newown, S.inj, S.pin⟩
  · obtain ⟨u', e'⟩ := S.live b u e
    exact ⟨u', su _ _ e'⟩
  · have := S.slot i
    rw [e1] at this
    obtain ⟨q', o', e3, n, _⟩ := this
    rw [e2] at e3
    cases e3
    exact n
theorem SR.new (S : SR K T B M F H ρ σ) (n : NewR K T F H v H' r) : SR K T B M F H' ρ σ ∧ RetV K T B F H' ρ σ v r := by
  rcases n with ⟨d, rfl, rfl, h⟩ | ⟨p, o, d, rfl, rfl, hp, rfl, h⟩
  · exact ⟨S, h⟩
  · refine ⟨S.lay hp, p, o, rfl, S.sub.free hp, upd_same, h, ?_, fun i e hi hs => ?_⟩
    · cases q : B.H0 p with
      | none => rfl
      | some u =>
        obtain ⟨u', e⟩ := S.live p u q
        rw [hp] at e
        cases e
    · have := S.slot i
      rw [hi] at this
      obtain ⟨q, o', e3, _, e4, _⟩ := this
      rw [hs] at e3
      cases e3
      rw [hp] at e4
      cases e4
/-- a loose object is settled -/
theorem SR.settle (S : SR K T B M F H ρ σ) (hF : F p = none) (hH : H p = some o) (hn : B.H0 p = none ∨ B.O0 p) (hno : ∀ i e, ρ.at i = .own e → σ[i]? ≠ some (some (.ref p))) : SR K T B M (upd F p o) H ρ σ := by
  have su : Same F (upd F p o) := same_upd hF
  refine ⟨fun b u e => ?_, S.keep, S.live, S.f0.trans su, fun b u e => ?_, S.len, fun i => (S.slot i).mono su (Same.refl _) fun d q e1 e2 => ?_, S.newown, S.inj, S.pin⟩
  · by_cases hb : b = p
    · subst hb; rw [upd_same] at e; cases e; exact hH
    · rw [upd_ne hb] at e; exact S.sub _ _ e
  · by_cases hb : b = p
    · subst hb; exact .inr hn
    · rw [upd_ne hb] at e; exact S.fnew b u e
  · have hq : q ≠ p := fun z => hno i d e1 (z ▸ e2)
    rw [upd_ne hq]
    have := S.slot i
    rw [e1] at this
    obtain ⟨q', o', e3, n, _⟩ := this
    rw [e2] at e3
    cases e3
    exact n
theorem SR.fix (S : SR K T B M F H ρ σ) (h : RetV K T B F H ρ σ v r) : ∃ F', Same F F' ∧ SR K T B M F' H ρ σ ∧ Rep K T F' v r.d := by
  cases r with
  | fz d => exact ⟨F, Same.refl _, S, h⟩
  | fr d =>
    obtain ⟨p, o, rfl, hF, hH, ro, hn, hno⟩ := h
    have su : Same F (upd F p o) := same_upd hF
    exact ⟨upd F p o, su, S.settle hF hH (.inl hn) hno, .ref upd_same (ro.mono su)⟩
/-- a slot's word is weakened -/
theorem SR.slots (S : SR K T B M F H ρ σ) (hl : ρ'.length = ρ.length) (h : ∀ i, ρ'.at i = ρ.at i ∨ (∃ d, ρ'.at i = .fz d ∧ ∃ v, σ[i]? = some (some v) ∧ Rep K T F v d) ∨ ρ'.at i = .no) : SR K T B M F H ρ' σ := by
  have own_of : ∀ i d, ρ'.at i = .own d → ρ.at i = .own d := fun i d e => by
    rcases h i with q | ⟨_, q, _⟩ | q
    · rw [← q]; exact e
    · rw [e] at q; cases q
    · rw [e] at q; cases q
  refine ⟨S.sub, S.keep, S.live, S.f0, S.fnew, hl.trans S.len, fun i => ?_, fun i d p e => S.newown i d p (own_of i d e), fun i j d e p e1 e2 => S.inj i j d e p (own_of i d e1) (own_of j e e2), S.pin⟩
  rcases h i with q | ⟨d, q, hv⟩ | q
  · rw [q]; exact S.slot i
  · rw [q]; exact hv
  · rw [q]; trivial
/-- a name's own object is settled -/
theorem SR.calmAt (S : SR K T B M F H ρ σ) (h : ρ.at i = .own d) : ∃ F' v, Same F F' ∧ SR K T B M F' H (ρ.set i (.fz d)) σ ∧ σ[i]? = some (some v) ∧ Rep K T F' v d := by
  have hs := S.slot i
  rw [h] at hs
  obtain ⟨p, o, e, hF, hH, ro⟩ := hs
  have su : Same F (upd F p o) := same_upd hF
  have hi : i < ρ.length := Env.at_lt (by rw [h]; exact fun z => nomatch z)
  -- first the slot is forgotten, then its object is settled
  have S1 : SR K T B M F H (ρ.set i .no) σ := S.slots (by simp) fun j => by
    by_cases hj : i = j
    · subst hj; exact .inr (.inr (Env.at_set_same hi))
    · exact .inl (Env.at_set_ne hj)
  have S2 : SR K T B M (upd F p o) H (ρ.set i .no) σ := S1.settle hF hH (S.newown i d p h e) fun j e' hj hs => by
    by_cases hij : i = j
    · subst hij; rw [Env.at_set_same hi] at hj; cases hj
    · rw [Env.at_set_ne hij] at hj
      exact hij (S.inj i j d e' p h hj e hs)
  have rr : Rep K T (upd F p o) (.ref p) d := .ref upd_same (ro.mono su)
  refine ⟨upd F p o, .ref p, su, ?_, e, rr⟩
  have e3 : (ρ.set i .no).set i (.fz d) = ρ.set i (.fz d) := by simp
  have S3 : SR K T B M (upd F p o) H ((ρ.set i .no).set i (.fz d)) σ := S2.slots (by simp) fun j => by
    by_cases hj : i = j
    · subst hj; exact .inr (.inl ⟨d, Env.at_set_same (by simpa using hi), _, e, rr⟩)
    · exact .inl (Env.at_set_ne hj)
  rw [e3] at S3
  exact S3
end
end DL

set_option Elab.async false
set_option linter.all false
set_option autoImplicit false
set_option maxRecDepth 100000
/-! DLX2: readings by data; expressions. -/
namespace DL
open PySem PySem.Spec PyProof.Rows L2
/-- an exception as it lies -/
def ExR (K : PySem.W.Frag) (T : Tb) (F : Hp) (cls : Value) (d : Option Addr) (x : Exc) : Prop :=
  ∃ ei da v, T.ex x.cls = some ei ∧ cls = .ref ei.addr ∧ d = some da ∧ F da = some (.xd [(ei.field, v)]) ∧ Rep K T F v x.val
section
variable (K : PySem.W.Frag) (T : Tb) (B : Bs) (M : List Nat) (W : EK)
def lE (f : DE) : TE := fun σ H Q => ∃ F ρ Qd, SR K T B M F H ρ σ ∧ f ρ Qd W ∧ ∀ F' H' ρ' v r, Same F F' → SR K T B M F' H' ρ' σ → RetV K T B F' H' ρ' σ v r → Qd r ρ' → Q v H'
def lT (f : DT) : TT := fun σ H Q => ∃ F ρ Qd, SR K T B M F H ρ σ ∧ f ρ Qd W ∧ ∀ F' H' ρ' b, Same F F' → SR K T B M F' H' ρ' σ → Qd b ρ' → Q b H'
def lA (fs : List DE) : TA := fun σ H Q => ∃ F ρ Qd, SR K T B M F H ρ σ ∧ dArgs fs ρ Qd W ∧ ∀ F' H' ρ' vs ds, Same F F' → SR K T B M F' H' ρ' σ → RepL K T F' vs ds → Qd ds ρ' → Q vs H'
def lW : WX := fun cls d σ H => ∃ F ρ x, SR K T B M F H ρ σ ∧ ExR K T F cls d x ∧ W x ρ
/-- what a walked thing yields -/
def ItOk (K : PySem.W.Frag) (T : Tb) (F : Hp) (J : It) (xs : List D) : Prop :=
  ∀ i F1 H, Same F F1 → Same F1 H → (i < xs.length → J.go i H ∧ ∀ x H', J.yld i H x H' → ∃ r, xs[i]? = some r.d ∧ NewR K T F1 H x H' r) ∧ (xs.length ≤ i → J.stop i H)
def lI (f : DI) : TI := fun σ H R => ∃ F ρ Qd, SR K T B M F H ρ σ ∧ f ρ Qd W ∧ ∀ F' H' ρ' xs J, Same F F' → SR K T B M F' H' ρ' σ → ItOk K T F' J xs → Qd xs ρ' → R J H'
end
section
variable (X : Cx) (T : Tb) (B : Bs) (M : List Nat) (W : EK)
abbrev PD (e : Expr) (f : DE) : Prop := PE X e (lE X.K T B M W f)
abbrev PDT (e : Expr) (f : DT) : Prop := PT X e (lT X.K T B M W f)
abbrev PDW (e : Expr) (f : DT) : Prop := PW X e (lT X.K T B M W f)
abbrev PDA (es : List Expr) (fs : List DE) : Prop := PA X es (lA X.K T B M W fs)
abbrev PDI (tg e : Expr) (f : DI) : Prop := PI X tg e (lI X.K T B M W f)
end
theorem pe_imp {X : Cx} {e : Expr} {t t' : TE} (h : PE X e t) (k : ∀ σ H Q, t' σ H Q → t σ H Q) : PE X e t' := ⟨fun pins s σ H Q I q => h.run pins s σ H Q I (k σ H Q q)⟩
theorem pt_imp {X : Cx} {e : Expr} {t t' : TT} (h : PT X e t) (k : ∀ σ H Q, t' σ H Q → t σ H Q) : PT X e t' := ⟨fun pins s σ H Q I q => h.run pins s σ H Q I (k σ H Q q)⟩
theorem pw_imp {X : Cx} {e : Expr} {t t' : TT} (h : PW X e t) (k : ∀ σ H Q, t' σ H Q → t σ H Q) : PW X e t' := ⟨fun w pins s σ H Q I q => h.run w pins s σ H Q I (k σ H Q q)⟩
theorem pa_imp {X : Cx} {es : List Expr} {t t' : TA} (h : PA X es t) (k : ∀ σ H Q, t' σ H Q → t σ H Q) : PA X es t' := ⟨fun pos pins s σ H Q I q => h.run pos pins s σ H Q I (k σ H Q q)⟩
theorem pi_imp {X : Cx} {tg e : Expr} {t t' : TI} (h : PI X tg e t) (k : ∀ σ H Q, t' σ H Q → t σ H Q) : PI X tg e t' := ⟨fun pins s σ H Q I q => h.run pins s σ H Q I (k σ H Q q)⟩
section
variable {X : Cx} {T : Tb} {B : Bs} {M : List Nat} {W : EK} {F H : Hp} {ρ : Env} {σ : L2.St}
/-- a part is read, its value settled -/
theorem lE_run {f : DE} {Qd : R → Env → Prop} {Q : VK} (S : SR X.K T B M F H ρ σ) (h : f ρ Qd W) (k : ∀ F' H' ρ' v r, Same F F' → SR X.K T B M F' H' ρ' σ → Rep X.K T F' v r.d → Qd r ρ' → Q v H') : lE X.K T B M W f σ H Q :=
  ⟨F, ρ, Qd, S, h, fun F' H' ρ' v r e S' R q => by
    obtain ⟨F2, e2, S2, R2⟩ := S'.fix R
    exact k F2 H' ρ' v r (e.trans e2) S2 R2 q⟩
theorem lT_run {f : DT} {Qd : Bool → Env → Prop} {Q : Bool → Hp → Prop} (S : SR X.K T B M F H ρ σ) (h : f ρ Qd W) (k : ∀ F' H' ρ' b, Same F F' → SR X.K T B M F' H' ρ' σ → Qd b ρ' → Q b H') : lT X.K T B M W f σ H Q := ⟨F, ρ, Qd, S, h, k⟩
theorem lA_run {fs : List DE} {Qd : List D → Env → Prop} {Q : List V → Hp → Prop} (S : SR X.K T B M F H ρ σ) (h : dArgs fs ρ Qd W) (k : ∀ F' H' ρ' vs ds, Same F F' → SR X.K T B M F' H' ρ' σ → RepL X.K T F' vs ds → Qd ds ρ' → Q vs H') : lA X.K T B M W fs σ H Q := ⟨F, ρ, Qd, S, h, k⟩
/-- the end of an operation -/
theorem lE_end {F0 : Hp} {Qd : R → Env → Prop} {Q : VK} {v : V} {H' : Hp} {r : R} (k : ∀ F' H' ρ' v r, Same F0 F' → SR X.K T B M F' H' ρ' σ → RetV X.K T B F' H' ρ' σ v r → Qd r ρ' → Q v H') (e : Same F0 F) (S : SR X.K T B M F H ρ σ) (n : NewR X.K T F H v H' r) (q : Qd r ρ) : Q v H' :=
  let ⟨S', R⟩ := S.new n
  k F H' ρ v r e S' R q
theorem NewR.fz {K : PySem.W.Frag} {v : V} {d : D} (h : Rep K T F v d) : NewR K T F H v H (.fz d) := .inl ⟨d, rfl, rfl, h⟩
theorem NewR.fr {K : PySem.W.Frag} {p : Addr} {o : HO} {d : D} (hp : H p = none) (h : RepO K T F o d) : NewR K T F H (.ref p) (upd H p o) (.fr d) := .inr ⟨p, o, d, rfl, rfl, hp, rfl, h⟩

/-! ### constants and names -/
theorem pd_const {e : Expr} {v : V} {d : D} (he : PE X e (tC v)) (r : ∀ F, Rep X.K T F v d) : PD X T B M W e (dC d) :=
  pe_imp he fun σ H Q ⟨F, ρ, Qd, S, h, k⟩ => k F H ρ v (.fz d) (Same.refl _) S (r F) h
theorem pd_int {i : Int} {j pos} : PD X T B M W (.Constant (.int i) j pos) (dC (.int i)) := pd_const pe_int fun _ => .int i
theorem pd_bl {b : Bool} {j pos} : PD X T B M W (.Constant (.bool b) j pos) (dC (.bl b)) := pd_const pe_bl fun _ => .bl b
theorem pd_non {j pos} : PD X T B M W (.Constant .none j pos) (dC .non) := pd_const pe_non fun _ => .non
def okTxB (l : Tx) : Bool := l.all (· < 0x110000) && decide (l.length ≤ 1000000)
theorem okTx_of {l : Tx} (h : okTxB l = true) : okTx l := by
  unfold okTxB at h
  rw [Bool.and_eq_true, List.all_eq_true] at h
  refine ⟨fun c hc => of_decide_eq_true (h.1 c hc), Nat.le_trans (of_decide_eq_true h.2) (by rw [sizeLine_eq]; decide)⟩
theorem pd_str {x : Str} {l : Tx} {j pos} (e : x = tx l) (h : okTxB l = true) : PD X T B M W (.Constant (.str x) j pos) (dC (.str l)) := by
  subst e
  exact pd_const pe_str fun _ => .str (okTx_of h)
/-- a constant of the module -/
theorem pd_glob {x : Str} {v : V} {d : D} {u : Value} {pos : Pos} (hg : Gl X x) (hm : X.mg x = some u) (r : RelV v u) (rd : ∀ F, Rep X.K T F v d) (hd : (x == ("__debug__" : Str)) = false := by decide) : PD X T B M W (.Name x pos) (dC d) := pd_const (pe_glob hg hm r hd) rd
theorem pd_var {i : Nat} {x : Str} {pos : Pos} (hN : X.N[i]? = some x) (hv : Vis X.env.scope x) (hd : (x == ("__debug__" : Str)) = false := by decide) (hcd : (x == ("__classdict__" : Str)) = false := by decide) : PD X T B M W (.Name x pos) (dVar i) := by
  refine pe_imp (pe_var hN hv hd hcd) fun σ H Q ⟨F, ρ, Qd, S, h, k⟩ => ?_
  unfold dVar at h
  have hs := S.slot i
  cases e : ρ.at i with
  | no => rw [e] at h; exact h.elim
  | fz d =>
    rw [e] at h hs
    obtain ⟨v, e1, r⟩ := hs
    exact ⟨v, e1, k F H ρ v (.fz d) (Same.refl _) S r h⟩
  | own d =>
    rw [e] at h
    obtain ⟨F', v, su, S', e1, r⟩ := S.calmAt e
    exact ⟨v, e1, k F' H _ v (.fz d) su S' r h⟩

/-! ### operators -/
/-- the rule r of an operator does what op says of data -/
def OpOk (K : PySem.W.Frag) (T : Tb) (op : D → D → (R → Prop) → Prop) (r : R2) : Prop :=
  ∀ F H x y dx dy k Q, Same F H → Rep K T F x dx → Rep K T F y dy → op dx dy k → (∀ v H' t, NewR K T F H v H' t → k t → Q v H') → r x y H Q
def UnOk (K : PySem.W.Frag) (T : Tb) (op : D → (R → Prop) → Prop) (r : V → Hp → VK → Prop) : Prop :=
  ∀ F H x dx k Q, Same F H → Rep K T F x dx → op dx k → (∀ v H' t, NewR K T F H v H' t → k t → Q v H') → r x H Q
theorem tOp_of {op : D → D → (R → Prop) → Prop} {r : R2} {f g : DE} (ho : OpOk X.K T op r) {H : Hp} {Q : VK} (h : lE X.K T B M W (dOp op f g) σ H Q) : tOp r (lE X.K T B M W f) (lE X.K T B M W g) σ H Q := by
  obtain ⟨F, ρ, Qd, S, h, k⟩ := h
  refine lE_run S h fun F1 H1 ρ1 v1 r1 e1 S1 R1 h1 => lE_run S1 h1 fun F2 H2 ρ2 v2 r2 e2 S2 R2 h2 => ?_
  exact ho F2 H2 v1 v2 _ _ _ _ S2.sub (R1.mono e2) R2 h2 fun v H' t n q => lE_end k (e1.trans e2) S2 n q
variable {a b c e : Expr} {f g h : DE} {pos : Pos}
theorem pd_op {o : Operator} {op : D → D → (R → Prop) → Prop} {r : R2} (hr : OpR X (binaryOp o) r) (ho : OpOk X.K T op r) (ha : PD X T B M W a f) (hb : PD X T B M W b g) : PD X T B M W (.BinOp a o b pos) (dOp op f g) :=
  pe_imp (pe_op hr ha hb) fun σ H Q z => tOp_of ho z
theorem pd_cmp {o : CmpOp} {op : D → D → (R → Prop) → Prop} {r : R2} (hr : OpR X (compareOp o) r) (ho : OpOk X.K T op r) (ha : PD X T B M W a f) (hb : PD X T B M W b g) (hm : behindInMarks o b = false) : PD X T B M W (.Compare a [o] [b] pos) (dOp op f g) :=
  pe_imp (pe_cmpR hr ha hb hm) fun σ H Q z => tOp_of ho z
theorem pd_un {o : UnaryOp} {op : D → (R → Prop) → Prop} {r : V → Hp → VK → Prop} (hr : UnR X (unaryOp o) r) (ho : UnOk X.K T op r) (ha : PD X T B M W a f) : PD X T B M W (.UnaryOp o a pos) (dUn op f) := by
  refine pe_imp (pe_un hr ha) fun σ H Q ⟨F, ρ, Qd, S, h, k⟩ => ?_
  refine lE_run S h fun F1 H1 ρ1 v1 r1 e1 S1 R1 h1 => ?_
  exact ho F1 H1 v1 _ _ _ S1.sub R1 h1 fun v H' t n q => lE_end k e1 S1 n q
/-- ints -/
theorem OpOk.ints {op : D → D → (R → Prop) → Prop} {C : Int → Int → Prop} {gv : Int → Int → V} (h : ∀ dx dy k, op dx dy k → ∃ i j d, dx = .int i ∧ dy = .int j ∧ C i j ∧ k (.fz d) ∧ ∀ F, Rep X.K T F (gv i j) d) : OpOk X.K T op (rI C gv) := by
  intro F H x y dx dy k Q s rx ry ho kk
  obtain ⟨i, j, d, rfl, rfl, hc, hk, hd⟩ := h dx dy k ho
  exact ⟨i, j, rx.int_inv, ry.int_inv, hc, kk _ _ _ (.fz (hd F)) hk⟩
theorem OpOk.ints0 {op : D → D → (R → Prop) → Prop} {gv : Int → Int → V} (h : ∀ dx dy k, op dx dy k → ∃ i j d, dx = .int i ∧ dy = .int j ∧ k (.fz d) ∧ ∀ F, Rep X.K T F (gv i j) d) : OpOk X.K T op (rI0 gv) := by
  intro F H x y dx dy k Q s rx ry ho kk
  obtain ⟨i, j, d, rfl, rfl, hk, hd⟩ := h dx dy k ho
  exact ⟨i, j, rx.int_inv, ry.int_inv, kk _ _ _ (.fz (hd F)) hk⟩
theorem ok_sub : OpOk X.K T subD (rI0 fun i j => .int (i - j)) := OpOk.ints0 fun dx dy k h => by
  cases dx <;> cases dy <;> first | exact h.elim | exact ⟨_, _, _, rfl, rfl, h, fun _ => .int _⟩
theorem ok_fdiv : OpOk X.K T fdivD (rI CDiv fun i j => .int (i / j)) := OpOk.ints fun dx dy k h => by
  cases dx <;> cases dy <;> first | exact h.elim | exact ⟨_, _, _, rfl, rfl, h.1, h.2, fun _ => .int _⟩
theorem ok_mod : OpOk X.K T modD (rI (fun _ j => 0 < j) fun i j => .int (i % j)) := OpOk.ints fun dx dy k h => by
  cases dx <;> cases dy <;> first | exact h.elim | exact ⟨_, _, _, rfl, rfl, h.1, h.2, fun _ => .int _⟩
theorem ok_pow : OpOk X.K T powD (rI CPow fun i j => .int (i ^ j.toNat)) := OpOk.ints fun dx dy k h => by
  cases dx <;> cases dy <;> first | exact h.elim | exact ⟨_, _, _, rfl, rfl, h.1, h.2, fun _ => .int _⟩
theorem ok_lt : OpOk X.K T ltD (rI0 fun i j => .bl (decide (i < j))) := OpOk.ints0 fun dx dy k h => by
  cases dx <;> cases dy <;> first | exact h.elim | exact ⟨_, _, _, rfl, rfl, h, fun _ => .bl _⟩
theorem ok_le : OpOk X.K T leD (rI0 fun i j => .bl (decide (i ≤ j))) := OpOk.ints0 fun dx dy k h => by
  cases dx <;> cases dy <;> first | exact h.elim | exact ⟨_, _, _, rfl, rfl, h, fun _ => .bl _⟩
theorem ok_gt : OpOk X.K T gtD (rI0 fun i j => .bl (decide (j < i))) := OpOk.ints0 fun dx dy k h => by
  cases dx <;> cases dy <;> first | exact h.elim | exact ⟨_, _, _, rfl, rfl, h, fun _ => .bl _⟩
theorem ok_ge : OpOk X.K T geD (rI0 fun i j => .bl (decide (j ≤ i))) := OpOk.ints0 fun dx dy k h => by
  cases dx <;> cases dy <;> first | exact h.elim | exact ⟨_, _, _, rfl, rfl, h, fun _ => .bl _⟩
theorem ok_neg : UnOk X.K T negD (rU fun i => .int (-i)) := by
  intro F H x dx k Q s rx ho kk
  cases dx with
  | int i => exact ⟨i, rx.int_inv, kk _ _ _ (.fz (.int _)) ho⟩
  | _ => exact ho.elim
theorem maxTx_eq : maxTx = sizeLine := by rw [sizeLine_eq]
theorem okTx.append {a b : Tx} (ha : okTx a) (hb : okTx b) (h : a.length + b.length ≤ maxTx) : okTx (a ++ b) :=
  ⟨fun c hc => (List.mem_append.mp hc).elim (ha.1 c) (hb.1 c), by rw [List.length_append, ← maxTx_eq]; exact h⟩
/-- a + b: ints, texts, lists -/
def rAddA (X : Cx) : R2 := fun x y H Q => (rI0 (fun i j => .int (i + j))) x y H Q ∨ (∃ i j, x = .str i ∧ y = .str j ∧ i.length + j.length ≤ sizeLine ∧ Q (.str (i ++ j)) H) ∨ rCat x y H Q
theorem op_addA : OpR X (binaryOp .Add) (rAddA X) := op_add.or (op_add_str.or op_cat)
theorem ok_add : OpOk X.K T addD (rAddA X) := by
  intro F H x y dx dy k Q s rx ry ho kk
  cases dx with
  | int i =>
    cases dy with
    | int j => exact .inl ⟨i, j, rx.int_inv, ry.int_inv, kk _ _ _ (.fz (.int _)) ho⟩
    | _ => exact ho.elim
  | str a =>
    cases dy with
    | str b =>
      obtain ⟨ex, ha⟩ := rx.str_inv
      obtain ⟨ey, hb⟩ := ry.str_inv
      have hl : (tx a).length + (tx b).length ≤ sizeLine := by rw [tx_len, tx_len, ← maxTx_eq]; exact ho.1
      refine .inr (.inl ⟨_, _, ex, ey, hl, ?_⟩)
      rw [tx_app]
      exact kk _ _ _ (.fz (.str (ha.append hb ho.1))) ho.2
    | _ => exact ho.elim
  | lst a =>
    cases dy with
    | lst b =>
      obtain ⟨p, vs, rfl, hp, ra⟩ := rx.lst_inv
      obtain ⟨q, ws, rfl, hq, rb⟩ := ry.lst_inv
      refine .inr (.inr ⟨p, q, vs, ws, rfl, rfl, s _ _ hp, s _ _ hq, by rw [ra.length, rb.length, ← maxTx_eq]; exact ho.1, fun z hz => ?_⟩)
      exact kk _ _ _ (.fr hz (.lst (ra.append rb))) ho.2
    | _ => exact ho.elim
  | _ => exact ho.elim
theorem ok_addS : OpOk X.K T addD (rAddA X) := ok_add
theorem CMul.of {i j : Int} (h : (-(2 ^ 64) < i ∧ i < 2 ^ 64) ∨ (-(2 ^ 64) < j ∧ j < 2 ^ 64)) : CMul i j := h
/-- what a text repeated is, comes later -/
def mulI : D → D → (R → Prop) → Prop
  | .int i, .int j, k => ((-(2 ^ 64) < i ∧ i < 2 ^ 64) ∨ (-(2 ^ 64) < j ∧ j < 2 ^ 64)) ∧ k (.fz (.int (i * j)))
  | _, _, _ => False
theorem ok_mulI : OpOk X.K T mulI (rI CMul fun i j => .int (i * j)) := OpOk.ints fun dx dy k h => by
  cases dx <;> cases dy <;> first | exact h.elim | exact ⟨_, _, _, rfl, rfl, h.1, h.2, fun _ => .int _⟩
end
end DL

set_option Elab.async false
set_option linter.all false
set_option autoImplicit false
set_option maxRecDepth 100000
/-! DLX3: comparisons, subscripts, arguments, tests. -/
namespace DL
open PySem PySem.Spec PyProof.Rows L2
section
variable {X : Cx} {T : Tb} {B : Bs} {M : List Nat} {W : EK} {F H : Hp} {ρ : Env} {σ : L2.St}
variable {a b c e : Expr} {f g h : DE} {pos : Pos}
/-! ### equality -/
mutual
def D.toP : D → PyData
  | .non => .none
  | .bl b => .bool b
  | .int i => .int i
  | .str x => .str (tx x)
  | .lst xs => .list (D.toPL xs)
  | .tup xs => .tuple (D.toPL xs)
  | .dct _ => .none
  | .obj _ _ => .none
  | .frl _ => .none
  | .cls _ => .none
def D.toPL : List D → List PyData
  | [] => []
  | x :: xs => D.toP x :: D.toPL xs
end
theorem tx_beq (x y : Tx) : (tx x == tx y) = (x == y) := by
  by_cases h : x = y
  · subst h; simp
  · have : tx x ≠ tx y := fun z => h (tx_inj z)
    rw [beq_eq_false_iff_ne.mpr h, beq_eq_false_iff_ne.mpr this]
mutual
theorem eqv_toP : ∀ (n m : Nat) (x y : D), D.eqOk n x = true → D.eqOk m y = true → PyData.eqv x.toP y.toP = D.eqv x y
  | n, m, .non, y, _, h2 => by cases y <;> first | rfl | (cases m <;> cases h2)
  | n, m, .bl a, y, _, h2 => by cases y <;> first | rfl | (cases m <;> cases h2)
  | n, m, .int a, y, _, h2 => by cases y <;> first | rfl | (cases m <;> cases h2)
  | n, m, .str a, y, _, h2 => by
    cases y with
    | str b => exact tx_beq a b
    | _ => first | rfl | (cases m <;> cases h2)
  | 0, _, .lst xs, y, h1, _ => by cases h1
  | n + 1, m, .lst xs, y, h1, h2 => by
    cases y with
    | lst ys =>
      cases m with
      | zero => cases h2
      | succ m => exact eqvL_toP n m xs ys h1 h2
    | _ => first | rfl | (cases m <;> cases h2)
  | 0, _, .tup xs, y, h1, _ => by cases h1
  | n + 1, m, .tup xs, y, h1, h2 => by
    cases y with
    | tup ys =>
      cases m with
      | zero => cases h2
      | succ m => exact eqvL_toP n m xs ys h1 h2
    | _ => first | rfl | (cases m <;> cases h2)
  | n, _, .dct _, _, h1, _ => by cases n <;> cases h1
  | n, _, .obj _ _, _, h1, _ => by cases n <;> cases h1
  | n, _, .frl _, _, h1, _ => by cases n <;> cases h1
theorem eqvL_toP : ∀ (n m : Nat) (xs ys : List D), D.eqOkL n xs = true → D.eqOkL m ys = true → PyData.eqvAll (D.toPL xs) (D.toPL ys) = D.eqvL xs ys
  | _, _, [], [], _, _ => rfl
  | _, _, [], _ :: _, _, _ => rfl
  | _, _, _ :: _, [], _, _ => rfl
  | n, m, x :: xs, y :: ys, h1, h2 => by
    unfold D.eqOkL at h1 h2
    rw [Bool.and_eq_true] at h1 h2
    show (PyData.eqv x.toP y.toP && PyData.eqvAll (D.toPL xs) (D.toPL ys)) = (D.eqv x y && D.eqvL xs ys)
    rw [eqv_toP n m x y h1.1 h2.1, eqvL_toP n m xs ys h1.2 h2.2]
end
mutual
theorem Rep.dp (s : Same F H) : ∀ (n : Nat) (d : D) (v : V), D.eqOk n d = true → Rep X.K T F v d → Dp X.K H v d.toP ∧ d.toP.canLay0 = true ∧ d.toP.depth ≤ n
  | n, .non, v, _, r => by rw [r.non_inv]; exact ⟨.non, rfl, Nat.zero_le _⟩
  | n, .bl b, v, _, r => by rw [r.bl_inv]; exact ⟨.bl b, rfl, Nat.zero_le _⟩
  | n, .int b, v, _, r => by rw [r.int_inv]; exact ⟨.int b, rfl, Nat.zero_le _⟩
  | n, .str b, v, _, r => by
    obtain ⟨rfl, z⟩ := r.str_inv
    refine ⟨.str _, ?_, Nat.zero_le _⟩
    show PyData.strOk (tx b) = true
    unfold PyData.strOk tx
    simp only [List.all_toArray, List.all_eq_true, decide_eq_true_eq]
    exact z.1
  | 0, .lst _, _, h, _ => by cases h
  | n + 1, .lst xs, v, h, r => by
    obtain ⟨p, vs, rfl, hp, ra⟩ := r.lst_inv
    obtain ⟨h1, h2, h3⟩ := RepL.dp s n xs vs h ra
    exact ⟨.lst (.of (s _ _ hp)) h1, h2, Nat.succ_le_succ h3⟩
  | 0, .tup _, _, h, _ => by cases h
  | n + 1, .tup xs, v, h, r => by
    obtain ⟨p, vs, rfl, hp, ra⟩ := r.tup_inv
    obtain ⟨h1, h2, h3⟩ := RepL.dp s n xs vs h ra
    exact ⟨.tup (.of (s _ _ hp)) h1, h2, Nat.succ_le_succ h3⟩
  | n, .dct _, _, h, _ => by cases n <;> cases h
  | n, .obj _ _, _, h, _ => by cases n <;> cases h
  | n, .frl _, _, h, _ => by cases n <;> cases h
theorem RepL.dp (s : Same F H) : ∀ (n : Nat) (xs : List D) (vs : List V), D.eqOkL n xs = true → RepL X.K T F vs xs → DpAll X.K H vs (D.toPL xs) ∧ PyData.canLayAll0 (D.toPL xs) = true ∧ PyData.depthAll (D.toPL xs) ≤ n
  | n, [], _, _, .nil => ⟨.nil, rfl, Nat.zero_le _⟩
  | n, x :: xs, _, h, .cons r rs => by
    unfold D.eqOkL at h
    rw [Bool.and_eq_true] at h
    obtain ⟨a1, a2, a3⟩ := Rep.dp s n x _ h.1 r
    obtain ⟨b1, b2, b3⟩ := RepL.dp s n xs _ h.2 rs
    refine ⟨.cons a1 b1, ?_, ?_⟩
    · show (x.toP.canLay0 && PyData.canLayAll0 (D.toPL xs)) = true
      rw [a2, b2]; rfl
    · show max x.toP.depth (PyData.depthAll (D.toPL xs)) ≤ n
      exact Nat.max_le.mpr ⟨a3, b3⟩
end
theorem Rep.shaped (s : Same F H) {d : D} {v : V} (h : d.eqOk 60 = true) (r : Rep X.K T F v d) : Dp X.K H v d.toP ∧ SeqAt.shaped d.toP = true := by
  obtain ⟨h1, h2, h3⟩ := Rep.dp s 60 d v h r
  refine ⟨h1, ?_⟩
  unfold SeqAt.shaped
  rw [h2, decide_eq_true (by omega)]
  rfl
def rEqA (X : Cx) : R2 := fun x y H Q => rEq x y H Q ∨ rEqD X.K x y H Q
def rNeA (X : Cx) : R2 := fun x y H Q => rNe x y H Q ∨ rNeD X.K x y H Q
theorem op_eqA (hu : X.A.units + 64 < cLine) : OpR X (compareOp .Eq) (rEqA X) := op_eq.or (op_eqD hu)
theorem op_neA (hu : X.A.units + 64 < cLine) : OpR X (compareOp .NotEq) (rNeA X) := op_ne.or (op_neD hu)
theorem scal_of {x y : D} {v w : V} (h : scalD x y = true) (rx : Rep X.K T F v x) (ry : Rep X.K T F w y) : scal v w = true ∧ decide (v = w) = D.eqv x y := by
  cases x <;> cases y <;> first
    | (cases h; done)
    | (rw [rx.non_inv, ry.non_inv]; exact ⟨rfl, rfl⟩)
    | (rw [rx.non_inv, ry.int_inv]; exact ⟨rfl, rfl⟩)
    | (rw [rx.int_inv, ry.non_inv]; exact ⟨rfl, rfl⟩)
    | (rw [rx.non_inv, ry.bl_inv]; exact ⟨rfl, rfl⟩)
    | (rw [rx.bl_inv, ry.non_inv]; exact ⟨rfl, rfl⟩)
    | (rw [rx.non_inv, ry.str_inv.1]; exact ⟨rfl, rfl⟩)
    | (rw [rx.str_inv.1, ry.non_inv]; exact ⟨rfl, rfl⟩)
    | (rw [rx.int_inv, ry.int_inv]; exact ⟨rfl, dec_int⟩)
    | (rw [rx.bl_inv, ry.bl_inv]; exact ⟨rfl, dec_bl⟩)
    | (rw [rx.str_inv.1, ry.str_inv.1]; exact ⟨rfl, dec_str.trans (tx_beq _ _)⟩)
    | (rw [rx.int_inv, ry.str_inv.1]; exact ⟨rfl, rfl⟩)
    | (rw [rx.str_inv.1, ry.int_inv]; exact ⟨rfl, rfl⟩)
    | (rw [rx.bl_inv, ry.str_inv.1]; exact ⟨rfl, rfl⟩)
    | (rw [rx.str_inv.1, ry.bl_inv]; exact ⟨rfl, rfl⟩)
theorem ok_eq : OpOk X.K T eqD (rEqA X) := by
  intro F H x y dx dy k Q s rx ry ho kk
  obtain ⟨hc, hk⟩ := ho
  rcases hc with hc | ⟨h1, h2⟩
  · obtain ⟨e1, e2⟩ := scal_of hc rx ry
    exact .inl ⟨e1, by rw [e2]; exact kk _ _ _ (.fz (.bl _)) hk⟩
  · obtain ⟨d1, s1⟩ := rx.shaped s h1
    obtain ⟨d2, s2⟩ := ry.shaped s h2
    exact .inr ⟨_, _, d1, d2, s1, s2, by rw [eqv_toP 60 60 _ _ h1 h2]; exact kk _ _ _ (.fz (.bl _)) hk⟩
theorem ok_ne : OpOk X.K T neD (rNeA X) := by
  intro F H x y dx dy k Q s rx ry ho kk
  obtain ⟨hc, hk⟩ := ho
  rcases hc with hc | ⟨h1, h2⟩
  · obtain ⟨e1, e2⟩ := scal_of hc rx ry
    exact .inl ⟨e1, by rw [e2]; exact kk _ _ _ (.fz (.bl _)) hk⟩
  · obtain ⟨d1, s1⟩ := rx.shaped s h1
    obtain ⟨d2, s2⟩ := ry.shaped s h2
    exact .inr ⟨_, _, d1, d2, s1, s2, by rw [eqv_toP 60 60 _ _ h1 h2]; exact kk _ _ _ (.fz (.bl _)) hk⟩
/-! ### is None -/
theorem isNon_of {d : D} {v : V} (r : Rep X.K T F v d) : decide (v = .non) = d.isNon := by
  cases r <;> first | rfl | (rename_i o r; cases r <;> rfl)
def rIsN : R2 := fun x y H Q => y = .non ∧ Q (.bl (decide (x = .non))) H
def rIsnN : R2 := fun x y H Q => y = .non ∧ Q (.bl (!decide (x = .non))) H
theorem pd_isN {k} {p2 : Pos} (ha : PD X T B M W a f) : PD X T B M W (.Compare a [.Is] [.Constant .none k p2] pos) (dUn isD f) := by
  refine pe_imp (pe_cmp (pc_isN ha) rfl) fun σ H Q ⟨F, ρ, Qd, S, h, k⟩ => ?_
  refine lE_run S h fun F1 H1 ρ1 v1 r1 e1 S1 R1 h1 => ?_
  rw [isNon_of R1]
  exact lE_end k e1 S1 (.fz (.bl _)) h1
theorem pd_isnN {k} {p2 : Pos} (ha : PD X T B M W a f) : PD X T B M W (.Compare a [.IsNot] [.Constant .none k p2] pos) (dUn isnD f) := by
  refine pe_imp (pe_cmp (pc_notN ha) rfl) fun σ H Q ⟨F, ρ, Qd, S, h, k⟩ => ?_
  refine lE_run S h fun F1 H1 ρ1 v1 r1 e1 S1 R1 h1 => ?_
  rw [isNon_of R1]
  exact lE_end k e1 S1 (.fz (.bl _)) h1
/-! ### in -/
theorem flat_of {K : PySem.W.Frag} {d : D} {v : V} (h : d.flat = true) (r : Rep K T F v d) : flatV v = true := by
  cases r <;> first | rfl | cases h | (rename_i o r; cases r <;> cases h)
theorem eqV_of {K : PySem.W.Frag} {x y : D} {v w : V} (hx : x.flat = true) (hy : y.flat = true) (rx : Rep K T F v x) (ry : Rep K T F w y) : eqV v w = D.eqv x y := by
  cases x <;> cases y <;> first
    | (cases hx; done)
    | (cases hy; done)
    | (rw [rx.non_inv, ry.non_inv]; rfl)
    | (rw [rx.non_inv, ry.int_inv]; rfl)
    | (rw [rx.int_inv, ry.non_inv]; rfl)
    | (rw [rx.non_inv, ry.bl_inv]; rfl)
    | (rw [rx.bl_inv, ry.non_inv]; rfl)
    | (rw [rx.non_inv, ry.str_inv.1]; rfl)
    | (rw [rx.str_inv.1, ry.non_inv]; rfl)
    | (rw [rx.int_inv, ry.int_inv]; first | rfl | simp [eqV, D.eqv])
    | (rw [rx.bl_inv, ry.bl_inv]; first | rfl | simp [eqV, D.eqv])
    | (rw [rx.bl_inv, ry.int_inv]; first | rfl | simp [eqV, D.eqv])
    | (rw [rx.int_inv, ry.bl_inv]; first | rfl | simp [eqV, D.eqv])
    | (rw [rx.str_inv.1, ry.str_inv.1]; simp only [eqV, D.eqv, tx_beq]; done)
    | (rw [rx.int_inv, ry.str_inv.1]; rfl)
    | (rw [rx.str_inv.1, ry.int_inv]; rfl)
    | (rw [rx.bl_inv, ry.str_inv.1]; rfl)
    | (rw [rx.str_inv.1, ry.bl_inv]; rfl)
theorem any_of {K : PySem.W.Frag} {x : D} {v : V} (hx : x.flat = true) (rx : Rep K T F v x) : ∀ {ys : List D} {vs : List V}, ys.all D.flat = true → RepL K T F vs ys → vs.all flatV = true ∧ inV v vs = ys.any fun y => D.eqv y x
  | _, _, _, .nil => ⟨rfl, rfl⟩
  | _ :: _, _ :: _, h, .cons r rs => by
    rw [List.all_cons, Bool.and_eq_true] at h
    obtain ⟨h1, h2⟩ := any_of hx rx h.2 rs
    refine ⟨by rw [List.all_cons, flat_of h.1 r, h1]; rfl, ?_⟩
    show ((_ :: _).any fun y => eqV y v) = _
    rw [List.any_cons, List.any_cons, eqV_of h.1 hx r rx, ← h2]
    rfl
def rInA (X : Cx) (n : Bool) : R2 := fun x y H Q => (∃ (c : Nat) (z : Str), x = .str ⟨#[c]⟩ ∧ y = .str z ∧ Q (.bl (if n then !decide (c ∈ z.cps.toList) else decide (c ∈ z.cps.toList))) H) ∨ rIn X.K n x y H Q
theorem op_inA : OpR X (compareOp .In) (rInA X false) := op_in_sign.or op_in_seq
theorem op_ninA : OpR X (compareOp .NotIn) (rInA X true) := op_notIn_sign.or op_notIn_seq
theorem in_of {n : Bool} {x y : D} {v w : V} {k : Bool → Prop} {Q : VK} (s : Same F H) (rx : Rep X.K T F v x) (ry : Rep X.K T F w y) (h : inD x y k) (kk : ∀ b, k b → Q (.bl (if n then !b else b)) H) : rInA X n v w H Q := by
  unfold inD at h
  split at h
  · obtain ⟨ex, _⟩ := rx.str_inv
    obtain ⟨ey, _⟩ := ry.str_inv
    refine .inl ⟨_, _, ex, ey, ?_⟩
    have := kk _ h
    rw [tx_list]
    exact this
  · obtain ⟨hx, hy, hk⟩ := h
    obtain ⟨p, vs, rfl, hp, ra⟩ := ry.lst_inv
    obtain ⟨h1, h2⟩ := any_of hx rx hy ra
    exact .inr ⟨p, vs, rfl, .inl (.of (s _ _ hp)), flat_of hx rx, h1, by rw [h2]; exact kk _ hk⟩
  · obtain ⟨hx, hy, hk⟩ := h
    obtain ⟨p, vs, rfl, hp, ra⟩ := ry.tup_inv
    obtain ⟨h1, h2⟩ := any_of hx rx hy ra
    exact .inr ⟨p, vs, rfl, .inr (.of (s _ _ hp)), flat_of hx rx, h1, by rw [h2]; exact kk _ hk⟩
  · exact h.elim
theorem ok_in : OpOk X.K T inDv (rInA X false) := by
  intro F H x y dx dy k Q s rx ry ho kk
  exact in_of s rx ry ho fun b hb => kk _ _ _ (.fz (.bl _)) hb
theorem ok_nin : OpOk X.K T ninDv (rInA X true) := by
  intro F H x y dx dy k Q s rx ry ho kk
  exact in_of s rx ry ho fun b hb => kk _ _ _ (.fz (.bl _)) hb
/-! ### subscripts -/
theorem ixN_eq (n : Nat) (i : Int) : DL.ixN n i = L2.ixN n i := rfl
theorem atI_of {α : Type} {xs : List α} {i : Int} {j : Nat} {v : α} (h1 : DL.ixN xs.length i = some j) (h2 : xs[j]? = some v) : atI xs i = some v := by
  unfold atI
  rw [← ixN_eq, h1]
  exact h2
theorem okTx.len {l : Tx} (h : okTx l) : (tx l).length ≤ sizeLine := by rw [tx_len]; exact h.2
theorem ok_ix : OpOk X.K T ixD (rIx X.K) := by
  intro F H x y dx dy k Q s rx ry ho kk
  unfold ixD at ho
  split at ho
  · obtain ⟨j, d, h1, h2, hk⟩ := ho
    obtain ⟨p, vs, rfl, hp, ra⟩ := rx.lst_inv
    obtain ⟨v, e1, e2⟩ := ra.get h2
    exact .inl ⟨p, vs, _, v, rfl, ry.int_inv, .of (s _ _ hp), atI_of (by rw [ra.length]; exact h1) e1, kk _ _ _ (.fz e2) hk⟩
  · obtain ⟨j, d, h1, h2, hk⟩ := ho
    obtain ⟨p, vs, rfl, hp, ra⟩ := rx.tup_inv
    obtain ⟨v, e1, e2⟩ := ra.get h2
    exact .inr (.inl ⟨p, vs, _, v, rfl, ry.int_inv, .of (s _ _ hp), atI_of (by rw [ra.length]; exact h1) e1, kk _ _ _ (.fz e2) hk⟩)
  · rename_i l i k
    obtain ⟨j, c, h1, h2, hk⟩ := ho
    obtain ⟨ex, z⟩ := rx.str_inv
    refine .inr (.inr ⟨_, _, c, ex, ry.int_inv, z.len, ?_, ?_⟩)
    · rw [tx_list]; exact atI_of h1 h2
    · have hc := z.1 c (List.mem_of_getElem? h2)
      exact kk (.str (tx [c])) _ _ (.fz (.str ⟨fun c' h => by rw [List.mem_singleton] at h; rw [h]; exact hc, by show 1 ≤ sizeLine; rw [sizeLine_eq]; decide⟩)) hk
  · exact ho.elim
theorem pd_ix (ha : PD X T B M W a f) (hb : PD X T B M W b g) (hs : PlainIx b := by exact fun _ _ => rfl) : PD X T B M W (.Subscript a b pos) (dOp ixD f g) :=
  pe_imp (pe_ix ix_seq ha hb hs) fun σ H Q z => tOp_of ok_ix z
theorem sIx_eq (n d : Nat) (o : Option Int) : DL.sIx n d o = HT.sIx n d o := by
  cases o with
  | none => rfl
  | some i => rfl
theorem RepL.cut {vs : List V} {xs : List D} (lo hi : Option Int) (h : RepL X.K T F vs xs) : RepL X.K T F (cutV vs lo hi) (DL.cut xs lo hi) := by
  unfold cutV DL.cut
  rw [sIx_eq, sIx_eq, h.length]
  exact (h.drop _).take _
end
end DL

set_option Elab.async false
set_option linter.all false
set_option autoImplicit false
set_option maxRecDepth 100000
/-! DLX4: slices, arguments, built-in functions, tests, and, or, not. -/
namespace DL
open PySem PySem.Spec PyProof.Rows L2
section
variable {X : Cx} {T : Tb} {B : Bs} {M : List Nat} {W : EK} {F H : Hp} {ρ : Env} {σ : L2.St}
variable {a b c e : Expr} {f g h : DE} {pos : Pos}
/-! ### slices -/
def lO (K : PySem.W.Frag) (T : Tb) (B : Bs) (M : List Nat) (W : EK) (o : Option DE) : TO := fun σ H Q => ∃ F ρ Qd, SR K T B M F H ρ σ ∧ dPart o ρ Qd W ∧ ∀ F' H' ρ' i, Same F F' → SR K T B M F' H' ρ' σ → Qd i ρ' → Q i H'
theorem po_imp {e : Option Expr} {t t' : TO} (h : PO X e t) (k : ∀ σ H Q, t' σ H Q → t σ H Q) : PO X e t' := ⟨fun pins s σ H Q I q => h.run pins s σ H Q I (k σ H Q q)⟩
theorem pdo_none : PO X none (lO X.K T B M W none) := po_imp po_none fun σ H Q ⟨F, ρ, Qd, S, h, k⟩ => k F H ρ none (Same.refl _) S h
theorem pdo_some (he : PD X T B M W e f) : PO X (some e) (lO X.K T B M W (some f)) := po_imp (po_some he) fun σ H Q ⟨F, ρ, Qd, S, h, k⟩ => by
  refine lE_run S h fun F1 H1 ρ1 v1 r1 e1 S1 R1 h1 => ?_
  cases hd : r1.d with
  | int i =>
    rw [hd] at h1 R1
    exact ⟨i, R1.int_inv, k F1 H1 ρ1 (some i) e1 S1 h1⟩
  | _ => rw [hd] at h1; exact h1.elim
def rSlA (X : Cx) : V → Option Int → Option Int → Hp → VK → Prop := fun x lo hi H Q => rSlL X.K x lo hi H Q ∨ rSlS x lo hi H Q
theorem sl_A : SlR X (rSlA X) := sl_list.or sl_str
theorem cutS_tx (l : Tx) (lo hi : Option Int) : cutS (tx l) lo hi = tx (DL.cut l lo hi) := by
  unfold cutS DL.cut
  rw [tx_len, tx_list, sIx_eq, sIx_eq]
  rfl
theorem okTx.cut {l : Tx} (h : okTx l) (lo hi : Option Int) : okTx (DL.cut l lo hi) := by
  unfold DL.cut
  refine ⟨fun c hc => h.1 c (List.mem_of_mem_drop (List.mem_of_mem_take hc)), ?_⟩
  rw [List.length_take, List.length_drop]
  exact Nat.le_trans (Nat.le_trans (Nat.min_le_right _ _) (Nat.sub_le _ _)) h.2
theorem pd_sl {lo hi : Option Expr} {l u : Option DE} {p2 : Pos} (he : PD X T B M W e f) (hl : PO X lo (lO X.K T B M W l)) (hh : PO X hi (lO X.K T B M W u)) : PD X T B M W (.Subscript e (.Slice lo hi none p2) pos) (dSl f l u) := by
  refine pe_imp (pe_slice sl_A he hl hh) fun σ H Q ⟨F, ρ, Qd, S, h, k⟩ => ?_
  refine lE_run S h fun F1 H1 ρ1 v1 r1 e1 S1 R1 h1 => ?_
  refine ⟨F1, ρ1, _, S1, h1, fun F2 H2 ρ2 i e2 S2 h2 => ?_⟩
  refine ⟨F2, ρ2, _, S2, h2, fun F3 H3 ρ3 j e3 S3 h3 => ?_⟩
  have R := R1.mono (e2.trans e3)
  have e := e1.trans (e2.trans e3)
  cases hd : r1.d with
  | lst xs =>
    rw [hd] at h3 R
    obtain ⟨p, vs, rfl, hp, ra⟩ := R.lst_inv
    exact .inl ⟨p, vs, rfl, .of (S3.sub _ _ hp), fun q hq => lE_end k e S3 (.fr hq (.lst (ra.cut i j))) h3⟩
  | frl xs =>
    rw [hd] at h3 R
    obtain ⟨p, vs, rfl, hp, ra⟩ := R.frl_inv
    exact .inl ⟨p, vs, rfl, S3.sub.seq hp, fun q hq => lE_end k e S3 (.fr hq (.lst (ra.cut i j))) h3⟩
  | str x =>
    rw [hd] at h3 R
    obtain ⟨ex, z⟩ := R.str_inv
    refine .inr ⟨_, ex, z.len, ?_⟩
    rw [cutS_tx]
    exact lE_end k e S3 (.fz (.str (z.cut i j))) h3
  | _ => rw [hd] at h3; exact h3.elim
/-! ### arguments, displays -/
theorem pda_nil : PDA X T B M W [] [] := pa_imp pa_nil fun σ H Q ⟨F, ρ, Qd, S, h, k⟩ => k F H ρ [] [] (Same.refl _) S .nil h
theorem pda_cons {es : List Expr} {fs : List DE} (he : PD X T B M W e f) (hr : PDA X T B M W es fs) (hs : starEach (e :: es) X.env = (false, eval e X.env) :: starEach es X.env := by rfl) : PDA X T B M W (e :: es) (f :: fs) :=
  pa_imp (pa_cons he hr hs) fun σ H Q ⟨F, ρ, Qd, S, h, k⟩ => by
    refine lE_run S h fun F1 H1 ρ1 v1 r1 e1 S1 R1 h1 => ?_
    refine lA_run S1 h1 fun F2 H2 ρ2 vs ds e2 S2 R2 h2 => ?_
    exact k F2 H2 ρ2 _ _ (e1.trans e2) S2 (.cons (R1.mono e2) R2) h2
theorem pd_lst {es : List Expr} {fs : List DE} (h : PDA X T B M W es fs) : PD X T B M W (.List es pos) (dLst fs) :=
  pe_imp (pe_lst h) fun σ H Q ⟨F, ρ, Qd, S, h, k⟩ => by
    refine lA_run S h fun F1 H1 ρ1 vs ds e1 S1 R1 h1 => ?_
    exact ⟨by rw [R1.length, ← maxTx_eq]; exact h1.1, fun p hp => lE_end k e1 S1 (.fr hp (.lst R1)) h1.2⟩
theorem pd_tup {x1} {es : List Expr} {fs : List DE} (h : PDA X T B M W es fs) : PD X T B M W (.Tuple es x1 pos) (dTup fs) :=
  pe_imp (pe_tup h) fun σ H Q ⟨F, ρ, Qd, S, h, k⟩ => by
    refine lA_run S h fun F1 H1 ρ1 vs ds e1 S1 R1 h1 => ?_
    exact ⟨by rw [R1.length, ← maxTx_eq]; exact h1.1, fun p hp => lE_end k e1 S1 (.fr hp (.tup R1)) h1.2⟩
/-- a built-in's rule does what op says of data -/
def FnR (K : PySem.W.Frag) (T : Tb) (op : List D → (R → Prop) → Prop) (r : List V → Hp → VK → Prop) : Prop :=
  ∀ F H vs ds k Q, Same F H → RepL K T F vs ds → op ds k → (∀ v H' t, NewR K T F H v H' t → k t → Q v H') → r vs H Q
theorem tCB_of {op : List D → (R → Prop) → Prop} {r : List V → Hp → VK → Prop} {fs : List DE} (ho : FnR X.K T op r) {H : Hp} {Q : VK} (h : lE X.K T B M W (dFn op fs) σ H Q) : tCB r (lA X.K T B M W fs) σ H Q := by
  obtain ⟨F, ρ, Qd, S, h, k⟩ := h
  refine lA_run S h fun F1 H1 ρ1 vs ds e1 S1 R1 h1 => ?_
  exact ho F1 H1 vs ds _ _ S1.sub R1 h1 fun v H' t n q => lE_end k e1 S1 n q
variable {es : List Expr} {fs : List DE} {x : Str} {p : Pos} {id : String} {op : List D → (R → Prop) → Prop} {r : List V → Hp → VK → Prop}
theorem pd_callB (ho : FnR X.K T op r) (hc : CallR X (.builtin id) r) (hg : Gl X x) (hm : X.mg x = none) (hv : bootBuiltins x = some (.builtin id)) (ha : PDA X T B M W (e :: es) fs) (hn : x ≠ "__name__" := by decide) (hdb : (x == ("__debug__" : Str)) = false := by decide)
    (he : starEach (e :: es) X.env = (false, eval e X.env) :: starEach es X.env := by rfl) (hpl : (backTo pos (starEach es X.env)).any (·.1) = false := by rfl) : PD X T B M W (.Call (.Name x p) (e :: es) [] pos) (dFn op fs) :=
  pe_imp (pe_callB hc hg hm hv ha hn hdb he hpl) fun σ H Q z => tCB_of ho z
theorem pd_callTy (ho : FnR X.K T op r) (hc : CallR X (.type id) r) (hg : Gl X x) (hm : X.mg x = none) (hv : bootBuiltins x = some (.type id)) (ha : PDA X T B M W (e :: es) fs) (hn : x ≠ "__name__" := by decide) (hdb : (x == ("__debug__" : Str)) = false := by decide)
    (he : starEach (e :: es) X.env = (false, eval e X.env) :: starEach es X.env := by rfl) (hpl : (backTo pos (starEach es X.env)).any (·.1) = false := by rfl) : PD X T B M W (.Call (.Name x p) (e :: es) [] pos) (dFn op fs) :=
  pe_imp (pe_callTy hc hg hm hv ha hn hdb he hpl) fun σ H Q z => tCB_of ho z
/-! ### tests -/
theorem pdt_val (he : PD X T B M W e f) (hh : ∀ whole, isTrue e X.env whole = (do let v ← whole; standAt e.pos; holding [v] (truthy v)) := by intro _; rfl) : PDT X T B M W e (tVal f) :=
  pt_imp (pt_val he hh) fun σ H Q ⟨F, ρ, Qd, S, h, k⟩ => by
    refine lE_run S h fun F1 H1 ρ1 v1 r1 e1 S1 R1 h1 => ?_
    cases hd : r1.d with
    | bl b => rw [hd] at h1 R1; exact ⟨b, R1.bl_inv, k F1 H1 ρ1 b e1 S1 h1⟩
    | _ => rw [hd] at h1; exact h1.elim
/-- a comparison as a test -/
theorem pdt_cmp {o : CmpOp} {op : D → D → (R → Prop) → Prop} {r : R2} (hr : OpR X (compareOp o) r) (ho : OpOk X.K T op r) (ha : PD X T B M W a f) (hb : PD X T B M W b g) (hm : behindInMarks o b = false) : PDT X T B M W (.Compare a [o] [b] pos) (tVal (dOp op f g)) :=
  pt_imp (pt_cmpR hr ha hb hm) fun σ H Q ⟨F, ρ, Qd, S, h, k⟩ => by
    refine tOp_of (op := op) (f := f) (g := g) ho ⟨F, ρ, _, S, h, fun F1 H1 ρ1 v1 r1 e1 S1 R1 h1 => ?_⟩
    obtain ⟨F2, e2, S2, R2⟩ := S1.fix R1
    cases hd : r1.d with
    | bl b => rw [hd] at h1 R2; exact ⟨b, R2.bl_inv, k F2 H1 ρ1 b (e1.trans e2) S2 h1⟩
    | _ => rw [hd] at h1; exact h1.elim
theorem pdt_isN {k} {p2 : Pos} (ha : PD X T B M W a f) : PDT X T B M W (.Compare a [.Is] [.Constant .none k p2] pos) (tVal (dUn isD f)) :=
  pt_imp (pt_cmp (pc_isN ha) rfl) fun σ H Q ⟨F, ρ, Qd, S, h, k⟩ => by
    refine lE_run S h fun F1 H1 ρ1 v1 r1 e1 S1 R1 h1 => ?_
    rw [isNon_of R1]
    exact ⟨_, rfl, k F1 H1 ρ1 _ e1 S1 h1⟩
theorem pdt_isnN {k} {p2 : Pos} (ha : PD X T B M W a f) : PDT X T B M W (.Compare a [.IsNot] [.Constant .none k p2] pos) (tVal (dUn isnD f)) :=
  pt_imp (pt_cmp (pc_notN ha) rfl) fun σ H Q ⟨F, ρ, Qd, S, h, k⟩ => by
    refine lE_run S h fun F1 H1 ρ1 v1 r1 e1 S1 R1 h1 => ?_
    rw [isNon_of R1]
    exact ⟨_, rfl, k F1 H1 ρ1 _ e1 S1 h1⟩
variable {tA tB' : DT} {rest : List Expr}
theorem pdw_and1 (ha : PDT X T B M W a tA) : PDW X T B M W (.BoolOp .And [a] pos) tA := pw_and1 ha
theorem pdw_or1 (ha : PDT X T B M W a tA) : PDW X T B M W (.BoolOp .Or [a] pos) tA := pw_or1 ha
theorem pdw_and (ha : PDT X T B M W a tA) (hb : PDW X T B M W (.BoolOp .And (b :: rest) pos) tB') : PDW X T B M W (.BoolOp .And (a :: b :: rest) pos) (DL.tAnd tA tB') :=
  pw_imp (pw_and ha hb) fun σ H Q ⟨F, ρ, Qd, S, h, k⟩ => by
    refine lT_run S h fun F1 H1 ρ1 z e1 S1 h1 => ?_
    cases z with
    | true => exact ⟨F1, ρ1, _, S1, h1, fun F2 H2 ρ2 z e2 => k F2 H2 ρ2 z (e1.trans e2)⟩
    | false => exact k F1 H1 ρ1 false e1 S1 h1
theorem pdw_or (ha : PDT X T B M W a tA) (hb : PDW X T B M W (.BoolOp .Or (b :: rest) pos) tB') : PDW X T B M W (.BoolOp .Or (a :: b :: rest) pos) (DL.tOr tA tB') :=
  pw_imp (pw_or ha hb) fun σ H Q ⟨F, ρ, Qd, S, h, k⟩ => by
    refine lT_run S h fun F1 H1 ρ1 z e1 S1 h1 => ?_
    cases z with
    | false => exact ⟨F1, ρ1, _, S1, h1, fun F2 H2 ρ2 z e2 => k F2 H2 ρ2 z (e1.trans e2)⟩
    | true => exact k F1 H1 ρ1 true e1 S1 h1
theorem pdt_w (h : PDW X T B M W e tA) : PDT X T B M W e tA := h.pt
theorem pdt_not (ha : PDT X T B M W a tA) : PDT X T B M W (.UnaryOp .Not a pos) (DL.tNot tA) :=
  pt_imp (pt_not ha) fun σ H Q ⟨F, ρ, Qd, S, h, k⟩ => lT_run S h fun F1 H1 ρ1 z e1 S1 h1 => k F1 H1 ρ1 _ e1 S1 h1
theorem pd_one {o} (h : PD X T B M W a f) : PD X T B M W (.BoolOp o [a] pos) f := pe_one h
theorem bl_run {Qd : R → Env → Prop} {Q : VK} {G : Bool → Env → Prop} (S : SR X.K T B M F H ρ σ) (h : f ρ (fun r ρ1 => match r.d with | .bl z => G z ρ1 | _ => False) W)
    (k : ∀ F' H' ρ' z, Same F F' → SR X.K T B M F' H' ρ' σ → G z ρ' → Q (.bl z) H') : lE X.K T B M W f σ H Q := by
  refine lE_run S h fun F1 H1 ρ1 v1 r1 e1 S1 R1 h1 => ?_
  cases hd : r1.d with
  | bl z => rw [hd] at h1 R1; rw [R1.bl_inv]; exact k F1 H1 ρ1 z e1 S1 h1
  | _ => rw [hd] at h1; exact h1.elim
theorem pd_and (ha : PD X T B M W a f) (hb : PD X T B M W (.BoolOp .And (b :: rest) pos) g) : PD X T B M W (.BoolOp .And (a :: b :: rest) pos) (dAnd f g) :=
  pe_imp (pe_and ha hb) fun σ H Q ⟨F, ρ, Qd, S, h, k⟩ => by
    refine bl_run (Qd := Qd) (G := fun z ρ1 => if z = true then g ρ1 Qd W else Qd (.fz (.bl false)) ρ1) S h fun F1 H1 ρ1 z e1 S1 h1 => ⟨z, rfl, ?_⟩
    cases z with
    | true => exact ⟨F1, ρ1, _, S1, h1, fun F2 H2 ρ2 v r e2 => k F2 H2 ρ2 v r (e1.trans e2)⟩
    | false => exact k F1 H1 ρ1 _ (.fz (.bl false)) e1 S1 (.bl false) h1
theorem pd_or (ha : PD X T B M W a f) (hb : PD X T B M W (.BoolOp .Or (b :: rest) pos) g) : PD X T B M W (.BoolOp .Or (a :: b :: rest) pos) (dOr f g) :=
  pe_imp (pe_or ha hb) fun σ H Q ⟨F, ρ, Qd, S, h, k⟩ => by
    refine bl_run (Qd := Qd) (G := fun z ρ1 => if z = true then Qd (.fz (.bl true)) ρ1 else g ρ1 Qd W) S h fun F1 H1 ρ1 z e1 S1 h1 => ⟨z, rfl, ?_⟩
    cases z with
    | false => exact ⟨F1, ρ1, _, S1, h1, fun F2 H2 ρ2 v r e2 => k F2 H2 ρ2 v r (e1.trans e2)⟩
    | true => exact k F1 H1 ρ1 _ (.fz (.bl true)) e1 S1 (.bl true) h1
theorem pd_not (ha : PD X T B M W a f) : PD X T B M W (.UnaryOp .Not a pos) (dNot f) :=
  pe_imp (pe_not ha) fun σ H Q ⟨F, ρ, Qd, S, h, k⟩ => by
    refine bl_run (Qd := Qd) (G := fun z ρ1 => Qd (.fz (.bl (!z))) ρ1) S h fun F1 H1 ρ1 z e1 S1 h1 => ⟨z, rfl, ?_⟩
    exact k F1 H1 ρ1 _ (.fz (.bl (!z))) e1 S1 (.bl _) h1
theorem pd_if {c : Expr} (hc : PDT X T B M W c tA) (ha : PD X T B M W a f) (hb : PD X T B M W b g) : PD X T B M W (.IfExp c a b pos) (dIfE tA f g) :=
  pe_imp (pe_ifExp hc ha hb) fun σ H Q ⟨F, ρ, Qd, S, h, k⟩ => by
    refine lT_run S h fun F1 H1 ρ1 z e1 S1 h1 => ?_
    cases z with
    | true => exact ⟨F1, ρ1, _, S1, h1, fun F2 H2 ρ2 v r e2 => k F2 H2 ρ2 v r (e1.trans e2)⟩
    | false => exact ⟨F1, ρ1, _, S1, h1, fun F2 H2 ρ2 v r e2 => k F2 H2 ρ2 v r (e1.trans e2)⟩
theorem tChain_of {op op' : D → D → (R → Prop) → Prop} {r r' : R2} (ho : OpOk X.K T op r) (ho' : OpOk X.K T op' r') {H : Hp} {Q : VK} (z : lE X.K T B M W (dChain op op' f g h) σ H Q) : tChain r r' (lE X.K T B M W f) (lE X.K T B M W g) (lE X.K T B M W h) σ H Q := by
  obtain ⟨F, ρ, Qd, S, h0, k⟩ := z
  refine lE_run S h0 fun F1 H1 ρ1 v1 r1 e1 S1 R1 h1 => lE_run S1 h1 fun F2 H2 ρ2 v2 r2 e2 S2 R2 h2 => ?_
  refine ho F2 H2 v1 v2 _ _ _ _ S2.sub (R1.mono e2) R2 h2 fun v H' t n q => ?_
  obtain ⟨S3, RV⟩ := S2.new n
  obtain ⟨F3, e3, S3, R3⟩ := S3.fix RV
  cases hd : t.d with
  | bl z =>
    rw [hd] at q R3
    refine ⟨z, R3.bl_inv, ?_⟩
    cases z with
    | false => exact k F3 H' ρ2 _ (.fz (.bl false)) (e1.trans (e2.trans e3)) S3 (.bl false) q
    | true =>
      have q : h ρ2 (fun u ρ3 => op' r2.d u.d fun t' => Qd t' ρ3) W := q
      refine lE_run S3 q fun F4 H4 ρ4 v4 r4 e4 S4 R4 h4 => ?_
      exact ho' F4 H4 v2 v4 _ _ _ _ S4.sub (R2.mono (e3.trans e4)) R4 h4 fun v H' t n q => lE_end k (e1.trans (e2.trans (e3.trans e4))) S4 n q
  | _ => rw [hd] at q; exact q.elim
theorem pd_chain {o o' : CmpOp} {op op' : D → D → (R → Prop) → Prop} {r r' : R2} (hr : OpR X (compareOp o) r) (ho : OpOk X.K T op r) (hr' : OpR X (compareOp o') r') (ho' : OpOk X.K T op' r') (ha : PD X T B M W a f) (hb : PD X T B M W b g) (hc : PD X T B M W c h)
    (hm : lastMarks [o, o'] [b, c] = false := by with_unfolding_all rfl) : PD X T B M W (.Compare a [o, o'] [b, c] pos) (dChain op op' f g h) :=
  pe_imp (pe_chain hr hr' ha hb hc hm) fun σ H Q z => tChain_of ho ho' z
theorem pdt_chain {o o' : CmpOp} {op op' : D → D → (R → Prop) → Prop} {r r' : R2} (hr : OpR X (compareOp o) r) (ho : OpOk X.K T op r) (hr' : OpR X (compareOp o') r') (ho' : OpOk X.K T op' r') (ha : PD X T B M W a f) (hb : PD X T B M W b g) (hc : PD X T B M W c h)
    (hm : lastMarks [o, o'] [b, c] = false := by with_unfolding_all rfl) : PDT X T B M W (.Compare a [o, o'] [b, c] pos) (tVal (dChain op op' f g h)) :=
  pt_imp (pt_chain hr hr' ha hb hc hm) fun σ H Q ⟨F, ρ, Qd, S, h0, k⟩ => by
    refine tChain_of (f := f) (g := g) (h := h) ho ho' ⟨F, ρ, _, S, h0, fun F1 H1 ρ1 v1 r1 e1 S1 R1 h1 => ?_⟩
    obtain ⟨F2, e2, S2, R2⟩ := S1.fix R1
    cases hd : r1.d with
    | bl b => rw [hd] at h1 R2; exact ⟨b, R2.bl_inv, k F2 H1 ρ1 b (e1.trans e2) S2 h1⟩
    | _ => rw [hd] at h1; exact h1.elim
theorem ix_own {K : PySem.W.Frag} {p : Addr} {o : HO} {d dy : D} {w : V} {k : R → Prop} {Q : VK} (hH : H p = some o) (ro : RepO K T F o d) (ry : Rep K T F w dy) (h : ixD d dy k) (kk : ∀ v t, Rep K T F v t → k (.fz t) → Q v H) : rIx K (.ref p) w H Q := by
  cases ro with
  | lst ra =>
    cases dy with
    | int i =>
      obtain ⟨j, t, h1, h2, hk⟩ := h
      obtain ⟨v, e1, e2⟩ := ra.get h2
      exact .inl ⟨p, _, _, v, rfl, ry.int_inv, .of hH, atI_of (by rw [ra.length]; exact h1) e1, kk _ _ e2 hk⟩
    | _ => exact h.elim
  | tup ra =>
    cases dy with
    | int i =>
      obtain ⟨j, t, h1, h2, hk⟩ := h
      obtain ⟨v, e1, e2⟩ := ra.get h2
      exact .inr (.inl ⟨p, _, _, v, rfl, ry.int_inv, .of hH, atI_of (by rw [ra.length]; exact h1) e1, kk _ _ e2 hk⟩)
    | _ => exact h.elim
  | dct _ => cases dy <;> exact h.elim
  | obj _ _ _ => cases dy <;> exact h.elim
/-! ### an item of an object that stays its name's own -/
theorem pd_ixN {i : Nat} {x : Str} {px : Pos} (hN : X.N[i]? = some x) (hv : Vis X.env.scope x) (hb : PD X T B M W b g) (hs : PlainIx b := by exact fun _ _ => rfl) (hd : (x == ("__debug__" : Str)) = false := by decide) (hcd : (x == ("__classdict__" : Str)) = false := by decide) :
    PD X T B M W (.Subscript (.Name x px) b pos) (dIxN i g) :=
  pe_imp (pe_ix ix_seq (pe_var hN hv hd hcd) hb hs) fun σ H Q ⟨F, ρ, Qd, S, h, k⟩ => by
    unfold dIxN at h
    obtain ⟨hkn, h⟩ := h
    have hv0 : ∃ v, σ[i]? = some (some v) := by
      have hs := S.slot i
      cases e : ρ.at i with
      | no => rw [e] at hkn; cases hkn
      | fz d => rw [e] at hs; obtain ⟨v, q, _⟩ := hs; exact ⟨v, q⟩
      | own d => rw [e] at hs; obtain ⟨p, o, q, _⟩ := hs; exact ⟨_, q⟩
    obtain ⟨v, ev⟩ := hv0
    refine ⟨v, ev, ?_⟩
    refine lE_run S h fun F1 H1 ρ1 v2 r1 e1 S1 R2 h1 => ?_
    have hs := S1.slot i
    cases hd : ρ1.at i with
    | no => rw [hd] at h1; exact h1.elim
    | fz d =>
      rw [hd] at hs h1
      obtain ⟨v', ev', r⟩ := hs
      rw [ev] at ev'
      cases ev'
      exact ok_ix (X := X) F1 H1 v v2 d r1.d _ Q S1.sub r R2 h1 fun v H' t n q => lE_end k e1 S1 n q
    | own d =>
      rw [hd] at hs h1
      obtain ⟨p, o, ep, hF, hH, ro⟩ := hs
      rw [ev] at ep
      cases ep
      have h1 : ixD d r1.d (fun t => Qd t ρ1) := h1
      exact ix_own hH ro R2 h1 fun v t r q => lE_end k e1 S1 (.fz r) q
end
end DL

set_option Elab.async false
set_option linter.all false
set_option autoImplicit false
set_option maxRecDepth 100000
/-! DLX5: what is walked, targets, statements, loops. -/
namespace DL
open PySem PySem.Spec PyProof.Rows L2
/-- what is wanted behind a statement, over data -/
def lS (K : PySem.W.Frag) (T : Tb) (B : Bs) (M : List Nat) (W : EK) (f : DS) : TS := fun J σ H => ∃ F ρ Jd, SR K T B M F H ρ σ ∧ f Jd ρ W ∧
  (∀ F' H' ρ' σ', Same F F' → SR K T B M F' H' ρ' σ' → Jd.nx ρ' → J.nx σ' H') ∧
  (∀ F' H' ρ' σ' v r, Same F F' → SR K T B M F' H' ρ' σ' → RetV K T B F' H' ρ' σ' v r → Jd.rt r ρ' → J.rt v H') ∧
  (∀ F' H' ρ' σ', Same F F' → SR K T B M F' H' ρ' σ' → Jd.bk ρ' → J.bk σ' H') ∧
  (∀ F' H' ρ' σ', Same F F' → SR K T B M F' H' ρ' σ' → Jd.ct ρ' → J.ct σ' H')
def lG (K : PySem.W.Frag) (T : Tb) (B : Bs) (M : List Nat) (g : DG) : TG := fun v σ H Q => ∃ F ρ d Qd, SR K T B M F H ρ σ ∧ Rep K T F v d ∧ g d ρ Qd ∧ ∀ F' H' ρ' σ', Same F F' → SR K T B M F' H' ρ' σ' → Qd ρ' → Q σ' H'
abbrev PDS (X : Cx) (T : Tb) (B : Bs) (M : List Nat) (W : EK) (s : Stmt) (f : DS) : Prop := PS X s (lS X.K T B M W f)
abbrev PDSs (X : Cx) (T : Tb) (B : Bs) (M : List Nat) (W : EK) (s : List Stmt) (f : DS) : Prop := PSs X s (lS X.K T B M W f)
abbrev PDG (X : Cx) (T : Tb) (B : Bs) (M : List Nat) (e : Expr) (g : DG) : Prop := PG X e (lG X.K T B M g)
theorem ps_imp {X : Cx} {s : Stmt} {t t' : TS} (h : PS X s t) (k : ∀ J σ H, t' J σ H → t J σ H) : PS X s t' := ⟨fun pins s σ H J I q => h.run pins s σ H J I (k J σ H q)⟩
theorem pss_imp {X : Cx} {s : List Stmt} {t t' : TS} (h : PSs X s t) (k : ∀ J σ H, t' J σ H → t J σ H) : PSs X s t' := ⟨fun pins s σ H J I q => h.run pins s σ H J I (k J σ H q)⟩
theorem pg_imp {X : Cx} {e : Expr} {t t' : TG} (h : PG X e t) (k : ∀ v σ H Q, t' v σ H Q → t v σ H Q) : PG X e t' := ⟨fun pins s σ H v u Q I r q => h.run pins s σ H v u Q I r (k v σ H Q q)⟩
section
variable {X : Cx} {T : Tb} {B : Bs} {M : List Nat} {W : EK} {F H : Hp} {ρ : Env} {σ : L2.St}
variable {a b c e : Expr} {f g h : DE} {pos : Pos} {tg : Expr}
/-! ### a name's slot is stored -/
theorem SR.put {i : Nat} {v : V} {s : Slot} (S : SR X.K T B M F H ρ σ) (hi : i ∉ M) (hs : SlotOk X.K T F H (some (some v)) s) (hn : ∀ d p, s = .own d → v = .ref p → (B.H0 p = none ∨ B.O0 p) ∧ ∀ j e, j ≠ i → ρ.at j = .own e → σ[j]? ≠ some (some (.ref p))) :
    SR X.K T B M F H (ρ.set i s) (σ.set i (some v)) := by
  by_cases hl : i < ρ.length
  · have hl' : i < σ.length := by rw [← S.len]; exact hl
    refine ⟨S.sub, S.keep, S.live, S.f0, S.fnew, by simp [S.len], fun j => ?_, fun j d p e1 e2 => ?_, fun j k d d' p e1 e2 e3 e4 => ?_, fun j hj => ?_⟩
    · by_cases hj : i = j
      · subst hj
        rw [Env.at_set_same hl, List.getElem?_set_self hl']
        exact hs
      · rw [Env.at_set_ne hj, List.getElem?_set_ne hj]
        exact S.slot j
    · by_cases hj : i = j
      · subst hj
        rw [Env.at_set_same hl] at e1
        rw [List.getElem?_set_self hl'] at e2
        cases e2
        exact (hn d p e1 rfl).1
      · rw [Env.at_set_ne hj] at e1
        rw [List.getElem?_set_ne hj] at e2
        exact S.newown j d p e1 e2
    · by_cases hj : i = j
      · subst hj
        by_cases hk : i = k
        · exact hk
        · rw [Env.at_set_same hl] at e1
          rw [Env.at_set_ne hk] at e2
          rw [List.getElem?_set_self hl'] at e3
          rw [List.getElem?_set_ne hk] at e4
          cases e3
          exact absurd e4 ((hn d p e1 rfl).2 k d' (Ne.symm hk) e2)
      · by_cases hk : i = k
        · subst hk
          rw [Env.at_set_ne hj] at e1
          rw [Env.at_set_same hl] at e2
          rw [List.getElem?_set_ne hj] at e3
          rw [List.getElem?_set_self hl'] at e4
          cases e4
          exact absurd e3 ((hn d' p e2 rfl).2 j d (Ne.symm hj) e1)
        · rw [Env.at_set_ne hj] at e1
          rw [Env.at_set_ne hk] at e2
          rw [List.getElem?_set_ne hj] at e3
          rw [List.getElem?_set_ne hk] at e4
          exact S.inj j k d d' p e1 e2 e3 e4
    · have : i ≠ j := fun z => hi (z ▸ hj)
      rw [List.getElem?_set_ne this]
      exact S.pin j hj
  · rw [List.set_eq_of_length_le (by omega), List.set_eq_of_length_le (by rw [← S.len]; omega)]
    exact S
theorem SR.putFz {i : Nat} {v : V} {d : D} (S : SR X.K T B M F H ρ σ) (hi : i ∉ M) (r : Rep X.K T F v d) : SR X.K T B M F H (ρ.set i (.fz d)) (σ.set i (some v)) :=
  S.put hi ⟨v, rfl, r⟩ fun _ _ z => nomatch z
/-! ### targets -/
theorem pdg_name {i : Nat} {x : Str} (hN : X.N.Nodup) (hi : X.N[i]? = some x) (hx : Loc X.env.scope x) (hM : i ∉ M) (hf : X.fn x = true ∨ X.env.scope.names.lookup x = some .local := by first | exact .inl rfl | exact .inr rfl | assumption) : PDG X T B M (.Name x pos) (gN i) :=
  pg_imp (pg_name hN hi hx hf) fun v σ H Q ⟨F, ρ, d, Qd, S, r, h, k⟩ => k F H _ _ (Same.refl _) (S.putFz hM r) h
def lGs (K : PySem.W.Frag) (T : Tb) (B : Bs) (M : List Nat) (is : List Nat) : TGs := fun vs σ H Q => ∃ F ρ ds Qd, SR K T B M F H ρ σ ∧ RepL K T F vs ds ∧ gNs is ds ρ Qd ∧ ∀ F' H' ρ' σ', Same F F' → SR K T B M F' H' ρ' σ' → Qd ρ' → Q σ' H'
abbrev PDGs (X : Cx) (T : Tb) (B : Bs) (M : List Nat) (es : List Expr) (is : List Nat) : Prop := PGs X es (lGs X.K T B M is)
theorem pgs_imp {es : List Expr} {t t' : TGs} (h : PGs X es t) (k : ∀ v σ H Q, t' v σ H Q → t v σ H Q) : PGs X es t' := ⟨fun pins s σ H v u Q I r q => h.run pins s σ H v u Q I r (k v σ H Q q)⟩
theorem pdgs_nil : PDGs X T B M [] [] := pgs_imp pgs_nil fun vs σ H Q ⟨F, ρ, ds, Qd, S, r, h, k⟩ => by
  cases r with
  | nil => exact ⟨rfl, k F H ρ σ (Same.refl _) S h⟩
  | cons _ _ => exact h.elim
theorem pdgs_cons {es : List Expr} {is : List Nat} {i : Nat} {x : Str} (hN : X.N.Nodup) (hi : X.N[i]? = some x) (hx : Loc X.env.scope x) (hM : i ∉ M) (h2 : PDGs X T B M es is)
    (hs : (assignEach (Expr.Name x pos :: es) X.env).map (·.2) = assign (Expr.Name x pos) X.env :: (assignEach es X.env).map (·.2) := by rfl) (hf : X.fn x = true ∨ X.env.scope.names.lookup x = some .local := by first | exact .inl rfl | exact .inr rfl | assumption) : PDGs X T B M (.Name x pos :: es) (i :: is) :=
  pgs_imp (pgs_cons (pdg_name (T := T) (B := B) hN hi hx hM hf) h2 hs) fun vs σ H Q ⟨F, ρ, ds, Qd, S, r, h, k⟩ => by
    cases r with
    | nil => exact h.elim
    | @cons v d vs ds r rs =>
      refine ⟨v, vs, rfl, F, ρ, d, fun ρ' => gNs is ds ρ' Qd, S, r, h, fun F' H' ρ' σ' e' S' q' => ?_⟩
      exact ⟨F', ρ', ds, Qd, S', rs.mono e', q', fun F2 H2 ρ2 σ2 e2 => k F2 H2 ρ2 σ2 (e'.trans e2)⟩
theorem gNs_len : ∀ {is : List Nat} {ds : List D} {ρ : Env} {k : Env → Prop}, gNs is ds ρ k → ds.length = is.length
  | [], [], _, _, _ => rfl
  | _ :: is, _ :: ds, _, _, h => congrArg (· + 1) (gNs_len (is := is) (ds := ds) h)
  | [], _ :: _, _, _, h => h.elim
  | _ :: _, [], _, _, h => h.elim
theorem pdg_tup {es : List Expr} {k : Nat} {is : List Nat} (hc : X.calm = true) (h : PDGs X T B M es is) (hn : (assignEach es X.env).length = is.length := by rfl) (hst : (assignEach es X.env).findIdx? (·.1) = none := by rfl) : PDG X T B M (.Tuple es k pos) (gT is) :=
  pg_imp (pg_tup (n := is.length) hc h hn hst) fun v σ H Q ⟨F, ρ, d, Qd, S, r, h, k⟩ => by
    cases d with
    | tup ds =>
      obtain ⟨p, vs, rfl, hp, ra⟩ := r.tup_inv
      exact ⟨p, vs, rfl, .of (S.sub _ _ hp), by rw [ra.length]; exact gNs_len h, F, ρ, ds, Qd, S, ra, h, k⟩
    | _ => exact h.elim
/-! ### what is walked -/
theorem sqL_inj {K : PySem.W.Frag} {H : Hp} {p : Addr} {vs : List V} (h : H p = some (.lst vs)) : SqL K H p vs := .of h
theorem itOk_list {K : PySem.W.Frag} {p : Addr} {vs : List V} {xs : List D} (hp : F p = some (.lst vs)) (r : RepL K T F vs xs) : ItOk K T F (Itl K p) xs := fun i F1 H e1 e2 => by
  have hq : SqL K H p vs := .of (e2 _ _ (e1 _ _ hp))
  refine ⟨fun hi => ?_, fun hi => ⟨vs, hq, by rw [r.length]; exact hi⟩⟩
  obtain ⟨v, hv, rv⟩ := r.get (List.getElem?_eq_getElem hi)
  refine ⟨⟨vs, v, hq, hv⟩, fun x H' hy => ?_⟩
  obtain ⟨rfl, hx⟩ := hy
  have e := (hx vs hq).symm.trans hv
  cases e
  exact ⟨.fz xs[i], List.getElem?_eq_getElem hi, .fz (rv.mono e1)⟩
theorem pdi_lst (he : PD X T B M W e f) : PDI X T B M W tg e (iLst f) :=
  pi_imp (pi_list he) fun σ H R ⟨F, ρ, Qd, S, h, k⟩ => by
    refine lE_run S h fun F1 H1 ρ1 v1 r1 e1 S1 R1 h1 => ?_
    cases hd : r1.d with
    | lst xs =>
      rw [hd] at h1 R1
      obtain ⟨p, vs, rfl, hp, ra⟩ := R1.lst_inv
      exact ⟨p, rfl, ⟨vs, .of (S1.sub _ _ hp)⟩, k F1 H1 ρ1 xs _ e1 S1 (itOk_list hp ra) h1⟩
    | _ => rw [hd] at h1; exact h1.elim
theorem itOk_tup {K : PySem.W.Frag} {p : Addr} {vs : List V} {xs : List D} (hp : F p = some (.tup vs)) (r : RepL K T F vs xs) : ItOk K T F (Itt K p) xs := fun i F1 H e1 e2 => by
  have hq : SqT K H p vs := .of (e2 _ _ (e1 _ _ hp))
  refine ⟨fun hi => ?_, fun hi => ⟨vs, hq, by rw [r.length]; exact hi⟩⟩
  obtain ⟨v, hv, rv⟩ := r.get (List.getElem?_eq_getElem hi)
  refine ⟨⟨vs, v, hq, hv⟩, fun x H' hy => ?_⟩
  obtain ⟨rfl, hx⟩ := hy
  have e := (hx vs hq).symm.trans hv
  cases e
  exact ⟨.fz xs[i], List.getElem?_eq_getElem hi, .fz (rv.mono e1)⟩
theorem pdi_tup (he : PD X T B M W e f) : PDI X T B M W tg e (DL.iTup f) :=
  pi_imp (pi_tup he) fun σ H R ⟨F, ρ, Qd, S, h, k⟩ => by
    refine lE_run S h fun F1 H1 ρ1 v1 r1 e1 S1 R1 h1 => ?_
    cases hd : r1.d with
    | tup xs =>
      rw [hd] at h1 R1
      obtain ⟨p, vs, rfl, hp, ra⟩ := R1.tup_inv
      exact ⟨p, rfl, ⟨vs, .of (S1.sub _ _ hp)⟩, k F1 H1 ρ1 xs _ e1 S1 (itOk_tup hp ra) h1⟩
    | _ => rw [hd] at h1; exact h1.elim
theorem itOk_str {K : PySem.W.Frag} {l : Tx} (z : okTx l) : ItOk K T F (Its (tx l)) (l.map fun c => .str [c]) := fun i F1 H e1 e2 => by
  refine ⟨fun hi => ?_, fun hi => by show (tx l).cps.size ≤ i; simpa [tx] using hi⟩
  have hi' : i < l.length := by simpa using hi
  refine ⟨by show i < (tx l).cps.size; simpa [tx] using hi', fun x H' hy => ?_⟩
  obtain ⟨rfl, c, hc, rfl⟩ := hy
  have hc' : l[i]? = some c := by simpa [tx] using hc
  refine ⟨.fz (.str [c]), by simp [hc', R.d], .fz ?_⟩
  have h1 := z.1 c (List.mem_of_getElem? hc')
  exact .str (l := [c]) ⟨fun c' h => by rw [List.mem_singleton] at h; rw [h]; exact h1, by show 1 ≤ sizeLine; rw [sizeLine_eq]; decide⟩
theorem pdi_str (he : PD X T B M W e f) : PDI X T B M W tg e (DL.iStr f) :=
  pi_imp (pi_str he) fun σ H R ⟨F, ρ, Qd, S, h, k⟩ => by
    refine lE_run S h fun F1 H1 ρ1 v1 r1 e1 S1 R1 h1 => ?_
    cases hd : r1.d with
    | str xs =>
      rw [hd] at h1 R1
      obtain ⟨rfl, z⟩ := R1.str_inv
      exact ⟨_, rfl, k F1 H1 ρ1 _ _ e1 S1 (itOk_str z) h1⟩
    | _ => rw [hd] at h1; exact h1.elim
theorem itOk_rng {K : PySem.W.Frag} {lo : Int} {n : Nat} : ItOk K T F (Itr lo n) (rng lo n) := fun i F1 H e1 e2 => by
  have hl : (rng lo n).length = n := by simp [rng]
  refine ⟨fun hi => ⟨by rw [hl] at hi; exact hi, fun x H' hy => ?_⟩, fun hi => by rw [hl] at hi; exact hi⟩
  obtain ⟨rfl, rfl⟩ := hy
  rw [hl] at hi
  refine ⟨.fz (.int (lo + i)), ?_, .fz (.int _)⟩
  simp [rng, hi, R.d]
theorem pdi_rng1 {p : Pos} (hg : Gl X "range") (hm : X.mg "range" = none) (ha : PD X T B M W a f) (hs : starEach [a] X.env = [(false, eval a X.env)] := by rfl) : PDI X T B M W tg (.Call (.Name "range" p) [a] [] pos) (DL.iRng1 f) :=
  pi_imp (pi_range1 hg hm (pda_cons ha pda_nil hs) hs) fun σ H R ⟨F, ρ, Qd, S, h, k⟩ => by
    refine lA_run (fs := [f]) (Qd := fun ds ρ1 => match ds with | [.int n] => (-(2 ^ 62) ≤ n ∧ n < 2 ^ 62) ∧ Qd (rng 0 n.toNat) ρ1 | _ => False) S ?_ fun F1 H1 ρ1 vs ds e1 S1 R1 h1 => ?_
    · refine (congrArg (fun z => f ρ z W) (funext fun r => funext fun ρ1 => ?_)).mp h
      show _ = (match [r.d] with | [.int n] => (-(2 ^ 62) ≤ n ∧ n < 2 ^ 62) ∧ Qd (rng 0 n.toNat) ρ1 | _ => False)
      cases r.d <;> rfl
    · split at h1
      · cases R1 with
        | cons r rs =>
          cases rs
          rw [r.int_inv]
          exact ⟨_, rfl, h1.1.1, h1.1.2, k F1 H1 ρ1 _ _ e1 S1 itOk_rng h1.2⟩
      · exact h1.elim
theorem pdi_rng2 {p : Pos} (hg : Gl X "range") (hm : X.mg "range" = none) (ha : PD X T B M W a f) (hb : PD X T B M W b g) (hs : starEach [a, b] X.env = [(false, eval a X.env), (false, eval b X.env)] := by rfl) (hs2 : starEach [b] X.env = [(false, eval b X.env)] := by rfl) :
    PDI X T B M W tg (.Call (.Name "range" p) [a, b] [] pos) (DL.iRng2 f g) :=
  pi_imp (pi_range2 hg hm (pda_cons ha (pda_cons hb pda_nil hs2) (by rw [hs, hs2])) hs hs2) fun σ H R ⟨F, ρ, Qd, S, h, k⟩ => by
    refine lA_run (fs := [f, g]) (Qd := fun ds ρ1 => match ds with | [.int i, .int j] => (-(2 ^ 62) ≤ i ∧ i < 2 ^ 62 ∧ -(2 ^ 62) ≤ j ∧ j < 2 ^ 62) ∧ Qd (rng i (j - i).toNat) ρ1 | _ => False) S ?_ fun F1 H1 ρ1 vs ds e1 S1 R1 h1 => ?_
    · refine (congrArg (fun z => f ρ z W) (funext fun r => funext fun ρ1 => congrArg (fun z => g ρ1 z W) (funext fun s => funext fun ρ2 => ?_))).mp h
      show _ = (match [r.d, s.d] with | [.int i, .int j] => (-(2 ^ 62) ≤ i ∧ i < 2 ^ 62 ∧ -(2 ^ 62) ≤ j ∧ j < 2 ^ 62) ∧ Qd (rng i (j - i).toNat) ρ2 | _ => False)
      cases r.d <;> cases s.d <;> rfl
    · split at h1
      · cases R1 with
        | cons r rs =>
          cases rs with
          | cons r' rs' =>
            cases rs'
            rw [r.int_inv, r'.int_inv]
            exact ⟨_, _, rfl, h1.1, k F1 H1 ρ1 _ _ e1 S1 itOk_rng h1.2⟩
      · exact h1.elim
theorem enumD_len (xs : List D) : (enumD xs).length = xs.length := by simp [enumD]
theorem enumD_at {xs : List D} {i : Nat} {d : D} (h : xs[i]? = some d) : (enumD xs)[i]? = some (.tup [.int (i : Int), d]) := by
  have hi := (List.getElem?_eq_some_iff.mp h).1
  unfold enumD
  rw [List.getElem?_zipWith, h, List.getElem?_range hi]
theorem itOk_enum {K : PySem.W.Frag} {p : Addr} {vs : List V} {xs : List D} (hp : F p = some (.lst vs)) (r : RepL K T F vs xs) : ItOk K T F (Ite K p) (enumD xs) := fun i F1 H e1 e2 => by
  have hq : SqL K H p vs := .of (e2 _ _ (e1 _ _ hp))
  rw [enumD_len]
  refine ⟨fun hi => ?_, fun hi => ⟨vs, hq, by rw [r.length]; exact hi⟩⟩
  obtain ⟨v, hv, rv⟩ := r.get (List.getElem?_eq_getElem hi)
  refine ⟨⟨vs, v, hq, hv⟩, fun x H' hy => ?_⟩
  obtain ⟨t, y, rfl, ht, rfl, hx⟩ := hy
  have e := (hx vs hq).symm.trans hv
  cases e
  exact ⟨.fr (.tup [.int i, xs[i]]), enumD_at (List.getElem?_eq_getElem hi), .fr ht (.tup (.cons (.int _) (.cons (rv.mono e1) .nil)))⟩
theorem pdi_enum {p tpos : Pos} {elts : List Expr} {kk : Nat} (hg : Gl X "enumerate") (hm : X.mg "enumerate" = none) (ha : PD X T B M W e f) (hs : starEach [e] X.env = [(false, eval e X.env)] := by rfl) : PDI X T B M W (.Tuple elts kk tpos) (.Call (.Name "enumerate" p) [e] [] pos) (DL.iEnum f) :=
  pi_imp (pi_enum hg hm (pda_cons ha pda_nil hs) hs) fun σ H R ⟨F, ρ, Qd, S, h, k⟩ => by
    refine lA_run (fs := [f]) (Qd := fun ds ρ1 => match ds with | [.lst xs] => Qd (enumD xs) ρ1 | _ => False) S ?_ fun F1 H1 ρ1 vs ds e1 S1 R1 h1 => ?_
    · refine (congrArg (fun z => f ρ z W) (funext fun r => funext fun ρ1 => ?_)).mp h
      show _ = (match [r.d] with | [.lst xs] => Qd (enumD xs) ρ1 | _ => False)
      cases r.d <;> rfl
    · split at h1
      · cases R1 with
        | cons r rs =>
          cases rs
          obtain ⟨p, vs, rfl, hp, ra⟩ := r.lst_inv
          exact ⟨p, vs, rfl, .of (S1.sub _ _ hp), k F1 H1 ρ1 _ _ e1 S1 (itOk_enum hp ra) h1⟩
      · exact h1.elim
theorem itOk_zip {K : PySem.W.Frag} {p q : Addr} {vs ws : List V} {xs ys : List D} (hp : F p = some (.lst vs)) (hq : F q = some (.lst ws)) (r : RepL K T F vs xs) (r' : RepL K T F ws ys) : ItOk K T F (Itz K p q) (xs.zipWith (fun x y => .tup [x, y]) ys) := fun i F1 H e1 e2 => by
  have h1 : SqL K H p vs := .of (e2 _ _ (e1 _ _ hp))
  have h2 : SqL K H q ws := .of (e2 _ _ (e1 _ _ hq))
  rw [List.length_zipWith]
  refine ⟨fun hi => ?_, fun hi => ⟨vs, ws, h1, h2, by rw [r.length, r'.length]; omega⟩⟩
  have hi1 : i < xs.length := by omega
  have hi2 : i < ys.length := by omega
  obtain ⟨v, hv, rv⟩ := r.get (List.getElem?_eq_getElem hi1)
  obtain ⟨w, hw, rw'⟩ := r'.get (List.getElem?_eq_getElem hi2)
  refine ⟨⟨vs, ws, v, w, h1, h2, hv, hw⟩, fun x H' hy => ?_⟩
  obtain ⟨t, y, z, rfl, ht, rfl, hx, hz⟩ := hy
  have e := (hx vs h1).symm.trans hv
  cases e
  have e := (hz ws h2).symm.trans hw
  cases e
  refine ⟨.fr (.tup [xs[i], ys[i]]), ?_, .fr ht (.tup (.cons (rv.mono e1) (.cons (rw'.mono e1) .nil)))⟩
  rw [List.getElem?_zipWith, List.getElem?_eq_getElem hi1, List.getElem?_eq_getElem hi2]
  rfl
theorem pdi_zip {p tpos : Pos} {elts : List Expr} {kk : Nat} (hg : Gl X "zip") (hm : X.mg "zip" = none) (ha : PD X T B M W a f) (hb : PD X T B M W b g) (hs : starEach (a :: [b]) X.env = (false, eval a X.env) :: starEach [b] X.env := by rfl) (hs2 : starEach [b] X.env = [(false, eval b X.env)] := by rfl)
    (hpl : (backTo pos (starEach [b] X.env)).any (·.1) = false := by rfl) :
    PDI X T B M W (.Tuple elts kk tpos) (.Call (.Name "zip" p) [a, b] [] pos) (DL.iZip f g) :=
  pi_imp (pi_zip hg hm (pda_cons ha (pda_cons hb pda_nil hs2) hs) hs hpl) fun σ H R ⟨F, ρ, Qd, S, h, k⟩ => by
    refine lA_run (fs := [f, g]) (Qd := fun ds ρ1 => match ds with | [.lst xs, .lst ys] => Qd (xs.zipWith (fun x y => .tup [x, y]) ys) ρ1 | _ => False) S ?_ fun F1 H1 ρ1 vs ds e1 S1 R1 h1 => ?_
    · refine (congrArg (fun z => f ρ z W) (funext fun r => funext fun ρ1 => congrArg (fun z => g ρ1 z W) (funext fun s => funext fun ρ2 => ?_))).mp h
      show _ = (match [r.d, s.d] with | [.lst xs, .lst ys] => Qd (xs.zipWith (fun x y => .tup [x, y]) ys) ρ2 | _ => False)
      cases r.d <;> cases s.d <;> rfl
    · split at h1
      · cases R1 with
        | cons r rs =>
          cases rs with
          | cons r' rs' =>
            cases rs'
            obtain ⟨p, vs, rfl, hp, ra⟩ := r.lst_inv
            obtain ⟨q, ws, rfl, hq, rb⟩ := r'.lst_inv
            exact ⟨p, q, vs, ws, rfl, .of (S1.sub _ _ hp), .of (S1.sub _ _ hq), k F1 H1 ρ1 _ _ e1 S1 (itOk_zip hp hq ra rb) h1⟩
      · exact h1.elim
/-! ### statements -/
variable {st : Stmt} {sts : List Stmt} {u w : DS}
theorem pds_nil : PDSs X T B M W [] sNx := pss_imp pss_nil fun J σ H ⟨F, ρ, Jd, S, h, k, _⟩ => k F H ρ σ (Same.refl _) S h
theorem lS_mono {J J' : Ends} {H : Hp} (h : lS X.K T B M W u J σ H) (h1 : J.nx = J'.nx) (h2 : J.rt = J'.rt) (h3 : J.bk = J'.bk) (h4 : J.ct = J'.ct) : lS X.K T B M W u J' σ H := by
  cases J; cases J'
  cases h1; cases h2; cases h3; cases h4
  exact h
theorem pds_cons (h1 : PDS X T B M W st u) (h2 : PDSs X T B M W sts w) : PDSs X T B M W (st :: sts) (sSeq u w) :=
  pss_imp (pss_cons h1 h2) fun J σ H ⟨F, ρ, Jd, S, h, k1, k2, k3, k4⟩ => by
    refine ⟨F, ρ, _, S, h, fun F1 H1 ρ1 σ1 e1 S1 q1 => ?_, k2, k3, k4⟩
    exact ⟨F1, ρ1, Jd, S1, q1, fun F2 H2 ρ2 σ2 e2 => k1 F2 H2 ρ2 σ2 (e1.trans e2), fun F2 H2 ρ2 σ2 v r e2 => k2 F2 H2 ρ2 σ2 v r (e1.trans e2), fun F2 H2 ρ2 σ2 e2 => k3 F2 H2 ρ2 σ2 (e1.trans e2), fun F2 H2 ρ2 σ2 e2 => k4 F2 H2 ρ2 σ2 (e1.trans e2)⟩
theorem pds_one (h1 : PDS X T B M W st u) : PDSs X T B M W [st] u := pss_one h1
theorem pds_pass : PDS X T B M W (.Pass pos) sNx := ps_imp ps_pass fun J σ H ⟨F, ρ, Jd, S, h, k, _⟩ => k F H ρ σ (Same.refl _) S h
theorem pds_break : PDS X T B M W (.Break pos) sBrk := ps_imp ps_break fun J σ H ⟨F, ρ, Jd, S, h, _, _, k, _⟩ => k F H ρ σ (Same.refl _) S h
theorem pds_continue : PDS X T B M W (.Continue pos) sCnt := ps_imp ps_continue fun J σ H ⟨F, ρ, Jd, S, h, _, _, _, k⟩ => k F H ρ σ (Same.refl _) S h
theorem pds_expr (he : PD X T B M W e f) (hs : swapsWith e none pos.line X.env = pure false := by rfl) : PDS X T B M W (.Expr e pos) (sExp f) :=
  ps_imp (ps_expr he hs) fun J σ H ⟨F, ρ, Jd, S, h, k, _⟩ => ⟨F, ρ, _, S, h, fun F1 H1 ρ1 v r e1 S1 _ q => k F1 H1 ρ1 σ e1 S1 q⟩
theorem pds_ret (he : PD X T B M W e f) : PDS X T B M W (.Return (some e) pos) (sRet f) :=
  ps_imp (ps_ret he) fun J σ H ⟨F, ρ, Jd, S, h, _, k, _⟩ => ⟨F, ρ, _, S, h, fun F1 H1 ρ1 v r e1 S1 R q => k F1 H1 ρ1 σ v r e1 S1 R q⟩
theorem pds_retN : PDS X T B M W (.Return none pos) sRetN :=
  ps_imp ps_retN fun J σ H ⟨F, ρ, Jd, S, h, _, k, _⟩ => k F H ρ σ .non (.fz .non) (Same.refl _) S .non h
theorem pds_if {c : Expr} {x y : List Stmt} {t : DT} (hc : PDT X T B M W c t) (hx : PDSs X T B M W x u) (hy : PDSs X T B M W y w) : PDS X T B M W (.If c x y pos) (sIf t u w) :=
  ps_imp (ps_if hc hx hy) fun J σ H ⟨F, ρ, Jd, S, h, k1, k2, k3, k4⟩ => by
    refine lT_run S h fun F1 H1 ρ1 z e1 S1 h1 => ?_
    have fin : ∀ {s : DS}, s Jd ρ1 W → lS X.K T B M W s J σ H1 := fun {s} q => ⟨F1, ρ1, Jd, S1, q, fun F2 H2 ρ2 σ2 e2 => k1 F2 H2 ρ2 σ2 (e1.trans e2), fun F2 H2 ρ2 σ2 v r e2 => k2 F2 H2 ρ2 σ2 v r (e1.trans e2), fun F2 H2 ρ2 σ2 e2 => k3 F2 H2 ρ2 σ2 (e1.trans e2), fun F2 H2 ρ2 σ2 e2 => k4 F2 H2 ρ2 σ2 (e1.trans e2)⟩
    cases z with
    | true => exact fin h1
    | false => exact fin h1
theorem pds_asg {G : DG} (he : PD X T B M W e f) (hg : PDG X T B M tg G) (hs : swapsWithSole [tg] e pos.line X.env = pure false := by rfl) (hw : swappedStores [tg] e X.env = pure none := by rfl)
    (h1 : (assignEach [tg] X.env).map (·.2) = [assign tg X.env] := by rfl) : PDS X T B M W (.Assign [tg] e pos) (sAsg G f) :=
  ps_imp (ps_asg he hg hs hw h1) fun J σ H ⟨F, ρ, Jd, S, h, k, _⟩ => by
    refine lE_run S h fun F1 H1 ρ1 v r e1 S1 R1 q => ?_
    exact ⟨F1, ρ1, r.d, Jd.nx, S1, R1, q, fun F2 H2 ρ2 σ2 e2 => k F2 H2 ρ2 σ2 (e1.trans e2)⟩
theorem pds_set {i : Nat} {x : Str} {px : Pos} (hN : X.N.Nodup) (hi : X.N[i]? = some x) (hx : Loc X.env.scope x) (hM : i ∉ M) (he : PD X T B M W e f) (hs : swapsWith e (some (.Name x px)) pos.line X.env = pure false := by rfl) (hf : X.fn x = true ∨ X.env.scope.names.lookup x = some .local := by first | exact .inl rfl | exact .inr rfl | assumption) :
    PDS X T B M W (.Assign [.Name x px] e pos) (sAsg (gN i) f) :=
  ps_imp (ps_set hN hi hx he hs hf) fun J σ H ⟨F, ρ, Jd, S, h, k, _⟩ => by
    refine lE_run S h fun F1 H1 ρ1 v r e1 S1 R1 q => ?_
    exact k F1 H1 _ _ e1 (S1.putFz hM R1) q
theorem pds_setO {i : Nat} {x : Str} {px : Pos} (hN : X.N.Nodup) (hi : X.N[i]? = some x) (hx : Loc X.env.scope x) (hM : i ∉ M) (he : PD X T B M W e f) (hs : swapsWith e (some (.Name x px)) pos.line X.env = pure false := by rfl) (hf : X.fn x = true ∨ X.env.scope.names.lookup x = some .local := by first | exact .inl rfl | exact .inr rfl | assumption) :
    PDS X T B M W (.Assign [.Name x px] e pos) (sAsgO i f) :=
  ps_imp (ps_set hN hi hx he hs hf) fun J σ H ⟨F, ρ, Jd, S, h, k, _⟩ => by
    refine ⟨F, ρ, _, S, h, fun F1 H1 ρ1 v r e1 S1 R1 q => ?_⟩
    cases r with
    | fz d => exact q.elim
    | fr d =>
      obtain ⟨p, o, rfl, hF, hH, ro, hn, hno⟩ := R1
      exact k F1 H1 _ _ e1 (S1.put (s := .own d) hM ⟨p, o, rfl, hF, hH, ro⟩ fun d' p' _ e' => by cases e'; exact ⟨.inl hn, fun j e' _ he => hno j e' he⟩) q
end
end DL

set_option Elab.async false
set_option linter.all false
set_option autoImplicit false
set_option maxRecDepth 100000
/-! DLX6: loops, stores into one's own objects, comprehensions. -/
namespace DL
open PySem PySem.Spec PyProof.Rows L2
section
variable {X : Cx} {T : Tb} {B : Bs} {M : List Nat} {W : EK} {F H : Hp} {ρ : Env} {σ : L2.St}
variable {a b c e : Expr} {f g h : DE} {pos : Pos} {tg : Expr} {u w : DS}
theorem drop_at {α : Type} {xs : List α} {i : Nat} {d : α} (h : xs[i]? = some d) : xs.drop i = d :: xs.drop (i + 1) := by
  obtain ⟨hi, e⟩ := List.getElem?_eq_some_iff.mp h
  rw [← e, List.drop_eq_getElem_cons hi]
theorem pds_for {iter : Expr} {body : List Stmt} {it : DI} {G : DG} (hp : PassesOwn (model X.prog X.w) X.A X.env X.xe) (hc : X.calm = true) (hi : PDI X T B M W tg iter it) (hg : PDG X T B M tg G) (hb : PDSs X T B M W body u)
    (hs : ∀ x, foldedSetIterable iter X.env x = pure x := by intro _; rfl) : PDS X T B M W (.For tg iter body [] pos) (sFor it G u) :=
  ps_imp (ps_for hp hc hi hg hb hs) fun J σ H ⟨F, ρ, Jd, S, h, k1, k2, k3, k4⟩ => by
    refine ⟨F, ρ, _, S, h, fun F1 H1 ρ1 xs It e1 S1 io q => ?_⟩
    refine ⟨fun i m σ' H' => m = xs.length - i ∧ i ≤ xs.length ∧ ∃ F' ρ', Same F1 F' ∧ SR X.K T B M F' H' ρ' σ' ∧ forL G u Jd W (xs.drop i) ρ', ⟨xs.length, by simp, Nat.zero_le _, F1, ρ1, Same.refl _, S1, q⟩, ?_⟩
    rintro i m σ' H' ⟨rfl, hi, F', ρ', e2, S2, q2⟩
    by_cases hlt : i < xs.length
    · obtain ⟨go, yl⟩ := (io i F' H' e2 S2.sub).1 hlt
      refine .inr ⟨go, fun σ3 H3 => ∃ F3 ρ3, Same F1 F3 ∧ SR X.K T B M F3 H3 ρ3 σ3 ∧ forL G u Jd W (xs.drop (i + 1)) ρ3, fun σ3 H3 hN => ⟨xs.length - (i + 1), by omega, rfl, hlt, hN⟩, fun x H'' hy => ?_⟩
      obtain ⟨r, hx, n⟩ := yl x H'' hy
      obtain ⟨S3, RV⟩ := S2.new n
      obtain ⟨F3, e3, S3, R3⟩ := S3.fix RV
      rw [drop_at hx] at q2
      have q2 : G r.d ρ' (fun ρ1 => u { nx := forL G u Jd W (xs.drop (i + 1)), ct := forL G u Jd W (xs.drop (i + 1)), bk := Jd.nx, rt := Jd.rt } ρ1 W) := q2
      refine ⟨F3, ρ', r.d, _, S3, R3, q2, fun F4 H4 ρ4 σ4 e4 S4 q4 => ?_⟩
      have e5 := e1.trans (e2.trans (e3.trans e4))
      exact ⟨F4, ρ4, _, S4, q4, fun F5 H5 ρ5 σ5 e6 S5 q5 => ⟨F5, ρ5, e2.trans (e3.trans (e4.trans e6)), S5, q5⟩, fun F5 H5 ρ5 σ5 v r e6 => k2 F5 H5 ρ5 σ5 v r (e5.trans e6),
        fun F5 H5 ρ5 σ5 e6 => k1 F5 H5 ρ5 σ5 (e5.trans e6), fun F5 H5 ρ5 σ5 e6 S5 q5 => ⟨F5, ρ5, e2.trans (e3.trans (e4.trans e6)), S5, q5⟩⟩
    · have e : i = xs.length := by omega
      subst e
      rw [List.drop_length] at q2
      exact .inl ⟨(io _ F' H' e2 S2.sub).2 (Nat.le_refl _), k1 F' H' ρ' σ' (e1.trans e2) S2 q2⟩
theorem pds_while {c : Expr} {body : List Stmt} {t : DT} (hp : PassesOwn (model X.prog X.w) X.A X.env X.xe) (hc : PDT X T B M W c t) (hb : PDSs X T B M W body u) : PDS X T B M W (.While c body [] pos) (sWh t u) :=
  ps_imp (ps_while hp hc hb) fun J σ H ⟨F, ρ, Jd, S, ⟨n, h⟩, k1, k2, k3, k4⟩ => by
    refine ⟨fun m σ' H' => ∃ F' ρ', Same F F' ∧ SR X.K T B M F' H' ρ' σ' ∧ whL t u Jd W m ρ', ⟨n, F, ρ, Same.refl _, S, h⟩, ?_⟩
    rintro m σ' H' ⟨F1, ρ1, e1, S1, q1⟩
    cases m with
    | zero => exact q1.elim
    | succ m =>
      have q1 : t ρ1 (fun b ρ2 => if b = true then u { nx := whL t u Jd W m, ct := whL t u Jd W m, bk := Jd.nx, rt := Jd.rt } ρ2 W else Jd.nx ρ2) W := q1
      refine lT_run S1 q1 fun F2 H2 ρ2 z e2 S2 q2 => ?_
      cases z with
      | false => exact k1 F2 H2 ρ2 σ' (e1.trans e2) S2 q2
      | true =>
        refine ⟨fun σ3 H3 => ∃ F3 ρ3, Same F F3 ∧ SR X.K T B M F3 H3 ρ3 σ3 ∧ whL t u Jd W m ρ3, fun σ3 H3 hN => ⟨m, Nat.lt_succ_self m, hN⟩, ?_⟩
        have e5 := e1.trans e2
        exact ⟨F2, ρ2, _, S2, q2, fun F5 H5 ρ5 σ5 e6 S5 q5 => ⟨F5, ρ5, e5.trans e6, S5, q5⟩, fun F5 H5 ρ5 σ5 v r e6 => k2 F5 H5 ρ5 σ5 v r (e5.trans e6),
          fun F5 H5 ρ5 σ5 e6 => k1 F5 H5 ρ5 σ5 (e5.trans e6), fun F5 H5 ρ5 σ5 e6 S5 q5 => ⟨F5, ρ5, e5.trans e6, S5, q5⟩⟩
/-! ### name op= e -/
def IpOk (K : PySem.W.Frag) (T : Tb) (op : D → D → (R → Prop) → Prop) (r : R2) : Prop := OpOk K T op r
theorem pip_of {o : Operator} {r : R2} (h : OpR X (inplaceOp o) r) : PIp X o r := fun pins s σ H x y v u Q I r1 r2 q => h pins s σ H x y v u Q I r1 r2 q
theorem pds_aug {i : Nat} {x : Str} {px : Pos} {o : Operator} {op : D → D → (R → Prop) → Prop} {r : R2} (hN : X.N.Nodup) (hi : X.N[i]? = some x) (hx : Loc X.env.scope x) (hM : i ∉ M) (he : PD X T B M W e f) (hr : PIp X o r) (ho : OpOk X.K T op r)
    (hf : X.fn x = true ∨ X.env.scope.names.lookup x = some .local := by first | exact .inl rfl | exact .inr rfl | assumption) : PDS X T B M W (.AugAssign (.Name x px) o e pos) (sAug i op f) :=
  ps_imp (ps_aug hN hi hx he hr hf) fun J σ H ⟨F, ρ, Jd, S, h, k1, k2, k3, k4⟩ => by
    unfold sAug at h
    have hs := S.slot i
    cases hd : ρ.at i with
    | no => rw [hd] at h; exact h.elim
    | own d => rw [hd] at h; exact h.elim
    | fz d =>
      rw [hd] at h hs
      obtain ⟨v, ev, rv⟩ := hs
      refine ⟨v, ev, lE_run S h fun F1 H1 ρ1 v1 r1 e1 S1 R1 q => ?_⟩
      refine ho F1 H1 v v1 d r1.d _ _ S1.sub (rv.mono e1) R1 q fun z H' t n q2 => ?_
      obtain ⟨S2, RV⟩ := S1.new n
      obtain ⟨F2, e2, S2, R2⟩ := S2.fix RV
      exact k1 F2 H' _ _ (e1.trans e2) (S2.putFz hM R2) q2
/-! ### stores into one's own objects -/
theorem SR.store {i : Nat} {p : Addr} {d d' : D} {o' : HO} (S : SR X.K T B M F H ρ σ) (hi : ρ.at i = .own d) (hp : σ[i]? = some (some (.ref p))) (r : RepO X.K T F o' d') : SR X.K T B M F (upd H p o') (ρ.set i (.own d')) σ := by
  have hs := S.slot i
  rw [hi] at hs
  obtain ⟨p', o, e, hF, hH, ro⟩ := hs
  rw [hp] at e
  cases e
  have hl : i < ρ.length := Env.at_lt (by rw [hi]; exact fun z => nomatch z)
  have old : ∀ j, i ≠ j → Env.at (ρ.set i (.own d')) j = ρ.at j := fun j hj => Env.at_set_ne hj
  have same : Env.at (ρ.set i (.own d')) i = .own d' := Env.at_set_same hl
  refine ⟨fun b u e => ?_, fun b u e n => ?_, fun b u e => ?_, S.f0, S.fnew, by simp [S.len], fun j => ?_, fun j t q e1 e2 => ?_, fun j k t t' q e1 e2 e3 e4 => ?_, S.pin⟩
  · have hb : b ≠ p := fun z => by subst z; rw [hF] at e; cases e
    rw [upd_ne hb]
    exact S.sub _ _ e
  · have hb : b ≠ p := fun z => by
      subst z
      rcases S.newown i d b hi hp with q | q
      · rw [q] at e; cases e
      · exact n q
    rw [upd_ne hb]
    exact S.keep _ _ e n
  · by_cases hb : b = p
    · subst hb; exact ⟨_, upd_same⟩
    · rw [upd_ne hb]; exact S.live _ _ e
  · by_cases hj : i = j
    · subst hj
      rw [same]
      exact ⟨p, o', hp, hF, upd_same, r⟩
    · rw [old j hj]
      have hs := S.slot j
      cases hd : ρ.at j with
      | no => trivial
      | fz t => rw [hd] at hs; exact hs
      | own t =>
        rw [hd] at hs
        obtain ⟨q, oq, e1, e2, e3, e4⟩ := hs
        have hq : q ≠ p := fun z => hj (S.inj i j d t p hi hd hp (z ▸ e1))
        exact ⟨q, oq, e1, e2, by rw [upd_ne hq]; exact e3, e4⟩
  · by_cases hj : i = j
    · subst hj; exact S.newown i d q hi e2
    · rw [old j hj] at e1; exact S.newown j t q e1 e2
  · have f1 : ∃ t, ρ.at j = .own t := by
      by_cases hj : i = j
      · subst hj; exact ⟨d, hi⟩
      · rw [old j hj] at e1; exact ⟨t, e1⟩
    have f2 : ∃ t, ρ.at k = .own t := by
      by_cases hk : i = k
      · subst hk; exact ⟨d, hi⟩
      · rw [old k hk] at e2; exact ⟨t', e2⟩
    obtain ⟨t1, f1⟩ := f1
    obtain ⟨t2, f2⟩ := f2
    exact S.inj j k t1 t2 q f1 f2 e3 e4
theorem ownL_inv {s : Slot} (h : s.ownL = true) : ∃ xs, s = .own (.lst xs) := by
  cases s with
  | own d => cases d <;> first | exact ⟨_, rfl⟩ | cases h
  | _ => cases h
theorem SR.ownAt {i : Nat} {d : D} (S : SR X.K T B M F H ρ σ) (hi : ρ.at i = .own d) : ∃ p o, σ[i]? = some (some (.ref p)) ∧ F p = none ∧ H p = some o ∧ RepO X.K T F o d := by
  have hs := S.slot i
  rw [hi] at hs
  exact hs
theorem repO_lst {K : PySem.W.Frag} {o : HO} {xs : List D} (r : RepO K T F o (.lst xs)) : ∃ vs, o = .lst vs ∧ RepL K T F vs xs := by
  cases r with
  | lst r => exact ⟨_, rfl, r⟩
theorem pds_app {i : Nat} {x : Str} {px apos cpos : Pos} (hN : X.N[i]? = some x) (hv : Vis X.env.scope x) (he : PD X T B M W e f) (hd : (x == ("__debug__" : Str)) = false := by decide) (hcd : (x == ("__classdict__" : Str)) = false := by decide)
    (hbase : attributeBase (.Name x px) "append" X.env (eval (.Name x px) X.env) = eval (.Name x px) X.env := by rfl)
    (hfew : ((backTo cpos (starEach [e] X.env)).all (fun x => !x.1) && (backToKw cpos (keywordEach [] X.env)).all (fun x => x.1.isSome)
      && decide (([e] : List Expr).length + ([] : List Keyword).length + (if ([] : List Keyword).isEmpty then 0 else 1) < 30)) = true := by rfl)
    (hline : (apos.endLine == cpos.line) = true := by rfl) (hse : starEach [e] X.env = (false, eval e X.env) :: starEach [] X.env := by rfl) (hplain : (backTo cpos (starEach [] X.env)).any (·.1) = false := by rfl)
    (hs : swapsWith (.Call (.Attribute (.Name x px) "append" apos) [e] [] cpos) none pos.line X.env = pure false := by rfl) : PDS X T B M W (.Expr (.Call (.Attribute (.Name x px) "append" apos) [e] [] cpos) pos) (sApp i f) :=
  ps_imp (ps_expr (pe_bm PySem.F.plainAttrs_list PySem.F.slot_list_append PySem.F.type_list_append mt_append (pe_var hN hv hd hcd) (pa_cons he pa_nil hse) hbase hfew hline hse hplain) hs) fun J σ H ⟨F, ρ, Jd, S, ⟨h0, h⟩, k1, k2, k3, k4⟩ => by
    obtain ⟨xs0, hx0⟩ := ownL_inv h0
    obtain ⟨p, o, ep, hF, hH, ro⟩ := S.ownAt hx0
    obtain ⟨vs, rfl, ra⟩ := repO_lst ro
    refine ⟨.ref p, ep, .inl ⟨rfl, _, .inl (.inl hH)⟩, ?_⟩
    refine lE_run S h fun F1 H1 ρ1 v1 r1 e1 S1 R1 q => ?_
    have hs := S1.slot i
    cases hd : ρ1.at i with
    | own d =>
      cases d with
      | lst xs =>
        rw [hd] at q
        obtain ⟨p', o', ep', hF', hH', ro'⟩ := S1.ownAt hd
        rw [ep] at ep'
        cases ep'
        obtain ⟨ws, rfl, rb⟩ := repO_lst ro'
        refine ⟨p, ws, v1, rfl, rfl, hH', by rw [rb.length, ← maxTx_eq]; exact q.1, ?_⟩
        exact k1 F1 _ _ _ e1 (S1.store hd ep (.lst (rb.append (.cons R1 .nil)))) q.2
      | _ => rw [hd] at q; exact q.elim
    | _ => rw [hd] at q; exact q.elim
theorem pds_put {i : Nat} {x : Str} {px ppos : Pos} (hN : X.N[i]? = some x) (hv : Vis X.env.scope x) (he : PD X T B M W e f) (hk : PD X T B M W b g) (hd : (x == ("__debug__" : Str)) = false := by decide) (hcd : (x == ("__classdict__" : Str)) = false := by decide)
    (ha : ∀ v, assign (.Subscript (.Name x px) b ppos) X.env v = (do
      let ov ← holding [v] (eval (.Name x px) X.env)
      let iv ← holding [v, ov] (eval b X.env)
      standAt ppos
      holding [v, ov, iv] (setItem ov iv v)
      release [v, ov, iv] []) := by intro _; rfl)
    (hs : swapsWithSole [.Subscript (.Name x px) b ppos] e pos.line X.env = pure false := by rfl) (hw : swappedStores [.Subscript (.Name x px) b ppos] e X.env = pure none := by rfl)
    (h1 : (assignEach [.Subscript (.Name x px) b ppos] X.env).map (·.2) = [assign (.Subscript (.Name x px) b ppos) X.env] := by rfl) : PDS X T B M W (.Assign [.Subscript (.Name x px) b ppos] e pos) (sPut i g f) :=
  ps_imp (ps_asg he (pg_sub (pe_var hN hv hd hcd) hk set_list ha) hs hw h1) fun J σ H ⟨F, ρ, Jd, S, h, k1, k2, k3, k4⟩ => by
    refine lE_run S h fun F1 H1 ρ1 v1 r1 e1 S1 R1 q => ?_
    obtain ⟨h0, q⟩ := q
    obtain ⟨xs0, hx0⟩ := ownL_inv h0
    obtain ⟨p, o, ep, hF, hH, ro⟩ := S1.ownAt hx0
    refine ⟨.ref p, ep, ?_⟩
    refine lE_run S1 q fun F2 H2 ρ2 v2 r2 e2 S2 R2 q2 => ?_
    cases hd : ρ2.at i with
    | own d =>
      cases d with
      | lst xs =>
        rw [hd] at q2
        cases hz : r2.d with
        | int z =>
          rw [hz] at q2 R2
          obtain ⟨j, hj, q3⟩ := q2
          obtain ⟨p', o', ep', hF', hH', ro'⟩ := S2.ownAt hd
          rw [ep] at ep'
          cases ep'
          obtain ⟨ws, rfl, rb⟩ := repO_lst ro'
          refine ⟨p, ws, z, j, rfl, R2.int_inv, hH', by rw [rb.length]; exact hj, ?_⟩
          exact k1 F2 _ _ _ (e1.trans e2) (S2.store hd ep (.lst (rb.set j (R1.mono e2)))) q3
        | _ => rw [hz] at q2; exact q2.elim
      | _ => rw [hd] at q2; exact q2.elim
    | _ => rw [hd] at q2; exact q2.elim
end
end DL

set_option Elab.async false
set_option linter.all false
set_option autoImplicit false
set_option maxRecDepth 100000
/-! DLX7: comprehensions. -/
namespace DL
open PySem PySem.Spec PyProof.Rows L2
/-- the own objects of a frame -/
def OwnOf (ρ : Env) (σ : L2.St) (b : Addr) : Prop := ∃ i d, ρ.at i = .own d ∧ σ[i]? = some (some (.ref b))
/-- the base at a place within a body -/
def baseAt (B : Bs) (F H : Hp) (ρ : Env) (σ : L2.St) : Bs := ⟨F, H, OwnOf ρ σ, B.P⟩
section
variable {K : PySem.W.Frag} {T : Tb} {B : Bs} {M : List Nat} {F F2 H H2 : Hp} {ρ ρ2 : Env} {σ σ2 : L2.St}
theorem SR.base (S : SR K T B M F H ρ σ) : SR K T (baseAt B F H ρ σ) M F H ρ σ :=
  ⟨S.sub, fun b o e _ => e, fun b o e => ⟨o, e⟩, Same.refl _, fun b o e => .inl e, S.len, S.slot, fun i d p e1 e2 => .inr ⟨i, d, e1, e2⟩, S.inj, S.pin⟩
theorem SR.gone (S : SR K T B M F H ρ σ) {b : Addr} (e : H b = none) : B.H0 b = none := by
  cases q : B.H0 b with
  | none => rfl
  | some o =>
    obtain ⟨o', z⟩ := S.live b o q
    rw [e] at z
    cases z
theorem SR.trans (S : SR K T B M F H ρ σ) (S2 : SR K T (baseAt B F H ρ σ) M F2 H2 ρ2 σ2) : SR K T B M F2 H2 ρ2 σ2 := by
  have own : ∀ b, OwnOf ρ σ b → B.H0 b = none ∨ B.O0 b := fun b ⟨i, d, e1, e2⟩ => S.newown i d b e1 e2
  refine ⟨S2.sub, fun b o e n => ?_, fun b o e => ?_, S.f0.trans S2.f0, fun b o e => ?_, S2.len, S2.slot, fun i d p e1 e2 => ?_, S2.inj, S2.pin⟩
  · refine S2.keep b o (S.keep b o e n) fun z => ?_
    rcases own b z with q | q
    · rw [q] at e; cases e
    · exact n q
  · obtain ⟨o', e'⟩ := S.live b o e
    exact S2.live b o' e'
  · rcases S2.fnew b o e with q | q | q
    · exact S.fnew b o q
    · exact .inr (.inl (S.gone q))
    · exact .inr (own b q)
  · rcases S2.newown i d p e1 e2 with q | q
    · exact .inl (S.gone q)
    · exact own p q
/-- a loose object stays loose -/
theorem SR.loose (S : SR K T B M F H ρ σ) (S2 : SR K T (baseAt B F H ρ σ) M F2 H2 ρ2 σ2) {p : Addr} {o : HO} (hH : H p = some o) (hF : F p = none) (hn : ¬ OwnOf ρ σ p) : H2 p = some o ∧ F2 p = none ∧ ¬ OwnOf ρ2 σ2 p := by
  refine ⟨S2.keep p o hH hn, ?_, fun ⟨i, d, e1, e2⟩ => ?_⟩
  · cases q : F2 p with
    | none => rfl
    | some u =>
      rcases S2.fnew p u q with z | z | z
      · have z : F p = some u := z
        rw [hF] at z; cases z
      · have z : H p = none := z
        rw [hH] at z; cases z
      · exact absurd z hn
  · rcases S2.newown i d p e1 e2 with z | z
    · have z : H p = none := z
      rw [hH] at z; cases z
    · exact hn z
theorem wipeE_len : ∀ (vs : List Nat) (ρ : Env), (wipeE vs ρ).length = ρ.length
  | [], _ => rfl
  | v :: vs, ρ => by unfold wipeE; rw [List.length_set, wipeE_len vs ρ]
theorem backE_len : ∀ (vs : List Nat) (ρ0 ρ : Env), (backE vs ρ0 ρ).length = ρ.length
  | [], _, _ => rfl
  | v :: vs, ρ0, ρ => by unfold backE; rw [List.length_set, backE_len vs ρ0 ρ]
theorem wipeE_out : ∀ {vs : List Nat} {ρ : Env} {i : Nat}, i ∉ vs → (wipeE vs ρ).at i = ρ.at i
  | [], _, _, _ => rfl
  | v :: vs, ρ, i, h => by
    unfold wipeE
    rw [Env.at_set_ne (fun z => h (by rw [z]; exact List.mem_cons_self)), wipeE_out fun z => h (List.mem_cons_of_mem _ z)]
theorem at_oob {ρ : Env} {i : Nat} (h : ¬ i < ρ.length) : ρ.at i = .no := by
  unfold Env.at
  rw [List.getElem?_eq_none (by omega)]
  rfl
theorem wipeE_in : ∀ {vs : List Nat} {ρ : Env} {i : Nat}, i ∈ vs → (wipeE vs ρ).at i = .no
  | v :: vs, ρ, i, h => by
    unfold wipeE
    by_cases hi : v = i
    · subst hi
      by_cases hl : v < (wipeE vs ρ).length
      · rw [Env.at_set_same hl]
      · rw [at_oob (by simpa using hl)]
    · rw [Env.at_set_ne hi]
      exact wipeE_in ((List.mem_cons.mp h).resolve_left fun z => hi z.symm)
theorem backE_out : ∀ {vs : List Nat} {ρ0 ρ : Env} {i : Nat}, i ∉ vs → (backE vs ρ0 ρ).at i = ρ.at i
  | [], _, _, _, _ => rfl
  | v :: vs, ρ0, ρ, i, h => by
    unfold backE
    rw [Env.at_set_ne (fun z => h (by rw [z]; exact List.mem_cons_self)), backE_out fun z => h (List.mem_cons_of_mem _ z)]
theorem backE_in : ∀ {vs : List Nat} {ρ0 ρ : Env} {i : Nat}, i ∈ vs → (backE vs ρ0 ρ).at i = ρ0.at i ∨ (backE vs ρ0 ρ).at i = .no
  | v :: vs, ρ0, ρ, i, h => by
    unfold backE
    by_cases hi : v = i
    · subst hi
      by_cases hl : v < (backE vs ρ0 ρ).length
      · exact .inl (Env.at_set_same hl)
      · exact .inr (at_oob (by simpa using hl))
    · rw [Env.at_set_ne hi]
      exact backE_in ((List.mem_cons.mp h).resolve_left fun z => hi z.symm)
theorem wipe_out' {σ : L2.St} {i : Nat} : ∀ {vs : List Nat}, i ∉ vs → (wipe σ vs)[i]? = σ[i]?
  | [], _ => rfl
  | v :: vs, h => by
    unfold wipe
    rw [List.getElem?_set_ne (fun z => h (by rw [z]; exact List.mem_cons_self)), wipe_out' fun z => h (List.mem_cons_of_mem _ z)]
theorem wipe_set {σ : L2.St} {x : Option V} : ∀ {vs : List Nat} {i : Nat}, i ∈ vs → wipe (σ.set i x) vs = wipe σ vs
  | v :: vs, i, h => by
    unfold wipe
    by_cases hi : i ∈ vs
    · rw [wipe_set hi]
    · have hv : i = v := (List.mem_cons.mp h).resolve_right hi
      subst hv
      have : wipe (σ.set i x) vs = (wipe σ vs).set i x := by
        clear h
        induction vs with
        | nil => rfl
        | cons w vs ih =>
          unfold wipe
          rw [ih fun z => hi (List.mem_cons_of_mem _ z), List.set_comm _ _ (fun z => hi (by rw [z]; exact List.mem_cons_self))]
      rw [this, List.set_set]
theorem SR.wipe {vs : List Nat} (S : SR K T B M F H ρ σ) (hM : ∀ i ∈ M, i ∉ vs) : SR K T B M F H (wipeE vs ρ) (L2.wipe σ vs) := by
  have fact : ∀ i, (wipeE vs ρ).at i = .no ∨ ((wipeE vs ρ).at i = ρ.at i ∧ (L2.wipe σ vs)[i]? = σ[i]?) := fun i => by
    by_cases hi : i ∈ vs
    · exact .inl (wipeE_in hi)
    · exact .inr ⟨wipeE_out hi, wipe_out' hi⟩
  have own : ∀ i d, (wipeE vs ρ).at i = .own d → ρ.at i = .own d ∧ (L2.wipe σ vs)[i]? = σ[i]? := fun i d e => by
    rcases fact i with q | ⟨q1, q2⟩
    · rw [e] at q; cases q
    · exact ⟨q1 ▸ e, q2⟩
  refine ⟨S.sub, S.keep, S.live, S.f0, S.fnew, by rw [wipeE_len, wipe_length, S.len], fun i => ?_, fun i d p e1 e2 => ?_, fun i j d e p e1 e2 e3 e4 => ?_, fun i hi => ?_⟩
  · rcases fact i with q | ⟨q1, q2⟩
    · rw [q]; trivial
    · rw [q1, q2]; exact S.slot i
  · obtain ⟨q1, q2⟩ := own i d e1
    rw [q2] at e2
    exact S.newown i d p q1 e2
  · obtain ⟨q1, q2⟩ := own i d e1
    obtain ⟨q3, q4⟩ := own j e e2
    rw [q2] at e3
    rw [q4] at e4
    exact S.inj i j d e p q1 q3 e3 e4
  · rw [wipe_out' (hM i hi)]
    exact S.pin i hi
/-- out of the block again -/
theorem SR.unwipe {vs : List Nat} (S : SR K T B M F H ρ σ) (hv : ∀ i ∈ vs, ∀ d, ρ.at i ≠ .own d) (e : Same F F2) (S2 : SR K T B M F2 H2 ρ2 (L2.wipe σ vs)) : SR K T B M F2 H2 (backE vs ρ ρ2) σ := by
  have fact : ∀ i, (backE vs ρ ρ2).at i = .no ∨ (i ∈ vs ∧ (backE vs ρ ρ2).at i = ρ.at i) ∨ ((backE vs ρ ρ2).at i = ρ2.at i ∧ (L2.wipe σ vs)[i]? = σ[i]?) := fun i => by
    by_cases hi : i ∈ vs
    · rcases backE_in (ρ0 := ρ) (ρ := ρ2) hi with q | q
      · exact .inr (.inl ⟨hi, q⟩)
      · exact .inl q
    · exact .inr (.inr ⟨backE_out hi, wipe_out' hi⟩)
  have own : ∀ i d, (backE vs ρ ρ2).at i = .own d → ρ2.at i = .own d ∧ (L2.wipe σ vs)[i]? = σ[i]? := fun i d h => by
    rcases fact i with q | ⟨q1, q2⟩ | ⟨q1, q2⟩
    · rw [h] at q; cases q
    · rw [h] at q2; exact absurd q2.symm (hv i q1 d)
    · exact ⟨q1 ▸ h, q2⟩
  refine ⟨S2.sub, S2.keep, S2.live, S2.f0, S2.fnew, by rw [backE_len, S2.len, wipe_length], fun i => ?_, fun i d p e1 e2 => ?_, fun i j d e' p e1 e2 e3 e4 => ?_, S.pin⟩
  · rcases fact i with q | ⟨q1, q2⟩ | ⟨q1, q2⟩
    · rw [q]; trivial
    · rw [q2]
      have hs := S.slot i
      cases hd : ρ.at i with
      | no => trivial
      | own d => exact absurd hd (hv i q1 d)
      | fz d =>
        rw [hd] at hs
        obtain ⟨v, h1, h2⟩ := hs
        exact ⟨v, h1, h2.mono e⟩
    · rw [q1, ← q2]; exact S2.slot i
  · obtain ⟨q1, q2⟩ := own i d e1
    rw [← q2] at e2
    exact S2.newown i d p q1 e2
  · obtain ⟨q1, q2⟩ := own i d e1
    obtain ⟨q3, q4⟩ := own j e' e2
    rw [← q2] at e3
    rw [← q4] at e4
    exact S2.inj i j d e' p q1 q3 e3 e4
end
/-! ### targets of a comprehension -/
theorem SR.storeLoose {K : PySem.W.Frag} {T : Tb} {B : Bs} {M : List Nat} {F H : Hp} {ρ : Env} {σ : L2.St} {p : Addr} {o o' : HO} (S : SR K T B M F H ρ σ) (hH : H p = some o) (hF : F p = none) (hn : ∀ i d, ρ.at i = .own d → σ[i]? ≠ some (some (.ref p))) (hB : B.H0 p = none) : SR K T B M F (upd H p o') ρ σ := by
  refine ⟨fun b u e => ?_, fun b u e n => ?_, fun b u e => ?_, S.f0, S.fnew, S.len, fun j => ?_, S.newown, S.inj, S.pin⟩
  · have hb : b ≠ p := fun z => by subst z; rw [hF] at e; cases e
    rw [upd_ne hb]
    exact S.sub _ _ e
  · have hb : b ≠ p := fun z => by subst z; rw [hB] at e; cases e
    rw [upd_ne hb]
    exact S.keep _ _ e n
  · by_cases hb : b = p
    · subst hb; exact ⟨_, upd_same⟩
    · rw [upd_ne hb]; exact S.live _ _ e
  · have hs := S.slot j
    cases hd : ρ.at j with
    | no => trivial
    | fz t => rw [hd] at hs; exact hs
    | own t =>
      rw [hd] at hs
      obtain ⟨q, oq, e1, e2, e3, e4⟩ := hs
      have hq : q ≠ p := fun z => hn j t hd (z ▸ e1)
      exact ⟨q, oq, e1, e2, by rw [upd_ne hq]; exact e3, e4⟩
def gHs : List Nat → TGs
  | [] => gNil
  | i :: is => gCons (gName i) (gHs is)
def Tgt.h (K : PySem.W.Frag) : Tgt → TG
  | .one i => gName i
  | .tup is => gTup K is.length (gHs is)
section
variable {X : Cx} {T : Tb} {B : Bs} {M : List Nat} {W : EK} {F H : Hp} {ρ : Env} {σ : L2.St}
theorem gHs_of {vs : List Nat} : ∀ {is : List Nat} {ds : List D} {us : List V} {ρ : Env} {σ : L2.St} {k : Env → Prop}, SR X.K T B M F H ρ σ → RepL X.K T F us ds → gNs is ds ρ k → (∀ i ∈ is, i ∈ vs) → (∀ i ∈ is, i ∉ M) →
    gHs is us σ H fun σ2 H2 => wipe σ2 vs = wipe σ vs ∧ H2 = H ∧ ∃ ρ2, SR X.K T B M F H ρ2 σ2 ∧ k ρ2
  | [], [], _, ρ, σ, k, S, .nil, h, _, _ => ⟨rfl, rfl, rfl, ρ, S, h⟩
  | i :: is, d :: ds, _, ρ, σ, k, S, .cons (v := v) (vs := us) r rs, h, h1, h2 => by
    refine ⟨v, us, rfl, ?_⟩
    have q := gHs_of (vs := vs) (S.putFz (h2 i List.mem_cons_self) r) rs h (fun j hj => h1 j (List.mem_cons_of_mem _ hj)) (fun j hj => h2 j (List.mem_cons_of_mem _ hj))
    rw [wipe_set (h1 i List.mem_cons_self)] at q
    exact q
  | [], _ :: _, _, _, _, _, _, _, h, _, _ => h.elim
  | _ :: _, [], _, _, _, _, _, _, h, _, _ => h.elim
theorem Tgt.of {t : Tgt} {vs : List Nat} {v : V} {d : D} {k : Env → Prop} (S : SR X.K T B M F H ρ σ) (r : Rep X.K T F v d) (h : t.g d ρ k) (h1 : ∀ i ∈ t.is, i ∈ vs) (h2 : ∀ i ∈ t.is, i ∉ M) :
    t.h X.K v σ H fun σ2 H2 => wipe σ2 vs = wipe σ vs ∧ H2 = H ∧ ∃ ρ2, SR X.K T B M F H ρ2 σ2 ∧ k ρ2 := by
  cases t with
  | one i => exact ⟨wipe_set (h1 i List.mem_cons_self), rfl, _, S.putFz (h2 i List.mem_cons_self) r, h⟩
  | tup is =>
    cases d with
    | tup ds =>
      obtain ⟨p, us, rfl, hp, ra⟩ := r.tup_inv
      exact ⟨p, us, rfl, .of (S.sub _ _ hp), by rw [ra.length]; exact gNs_len h, gHs_of S ra h h1 h2⟩
    | _ => exact h.elim
theorem pgh_one {i : Nat} {x : Str} {pos : Pos} (hN : X.N.Nodup) (hi : X.N[i]? = some x) (hx : Loc X.env.scope x) (hf : X.fn x = true ∨ X.env.scope.names.lookup x = some .local := by first | exact .inl rfl | exact .inr rfl | assumption) : PG X (.Name x pos) ((Tgt.one i).h X.K) := pg_name hN hi hx hf
theorem pgh_nil : PGs X [] (gHs []) := pgs_nil
theorem pgh_cons {i : Nat} {is : List Nat} {x : Str} {pos : Pos} {es : List Expr} (hN : X.N.Nodup) (hi : X.N[i]? = some x) (hx : Loc X.env.scope x) (h2 : PGs X es (gHs is)) (hs : (assignEach (Expr.Name x pos :: es) X.env).map (·.2) = assign (Expr.Name x pos) X.env :: (assignEach es X.env).map (·.2) := by rfl)
    (hf : X.fn x = true ∨ X.env.scope.names.lookup x = some .local := by first | exact .inl rfl | exact .inr rfl | assumption) : PGs X (.Name x pos :: es) (gHs (i :: is)) := pgs_cons (pg_name hN hi hx hf) h2 hs
theorem pgh_tup {is : List Nat} {es : List Expr} {k : Nat} {pos : Pos} (hc : X.calm = true) (h : PGs X es (gHs is)) (hn : (assignEach es X.env).length = is.length := by rfl) (hst : (assignEach es X.env).findIdx? (·.1) = none := by rfl) : PG X (.Tuple es k pos) ((Tgt.tup is).h X.K) := pg_tup hc h hn hst
abbrev PDTs (X : Cx) (T : Tb) (B : Bs) (M : List Nat) (W : EK) (ifs : List Expr) (t : DT) : Prop := PTs X ifs (lT X.K T B M W t)
theorem pts_imp {ifs : List Expr} {t t' : TT} (h : PTs X ifs t) (k : ∀ σ H Q, t' σ H Q → t σ H Q) : PTs X ifs t' := ⟨fun pins s σ H Q I q => h.run pins s σ H Q I (k σ H Q q)⟩
theorem pdts_nil : PDTs X T B M W [] DL.tYes := pts_imp pts_nil fun σ H Q ⟨F, ρ, Qd, S, h, k⟩ => k F H ρ true (Same.refl _) S h
theorem pdts_one {c : Expr} {t : DT} (h : PDT X T B M W c t) : PDTs X T B M W [c] t := pts_one h
def lEx (K : PySem.W.Frag) (T : Tb) (M : List Nat) (W : EK) (f : DE) : TE := fun σ H Q => ∃ B, lE K T B M W f σ H Q
def lTx (K : PySem.W.Frag) (T : Tb) (M : List Nat) (W : EK) (f : DT) : TT := fun σ H Q => ∃ B, lT K T B M W f σ H Q
theorem pe_ex {e : Expr} {f : DE} (h : ∀ B, PD X T B M W e f) : PE X e (lEx X.K T M W f) := ⟨fun pins s σ H Q I ⟨B, q⟩ => (h B).run pins s σ H Q I q⟩
theorem pts_ex {e : List Expr} {f : DT} (h : ∀ B, PDTs X T B M W e f) : PTs X e (lTx X.K T M W f) := ⟨fun pins s σ H Q I ⟨B, q⟩ => (h B).run pins s σ H Q I q⟩
theorem wipe_in {σ : L2.St} {i : Nat} : ∀ {vs : List Nat}, i ∈ vs → (wipe σ vs)[i]? = if i < σ.length then some none else none
  | v :: vs, h => by
    unfold wipe
    by_cases hv : v = i
    · subst hv
      by_cases hl : v < σ.length
      · rw [List.getElem?_set_self (by rw [wipe_length]; exact hl), if_pos hl]
      · rw [List.getElem?_eq_none (by rw [List.length_set, wipe_length]; omega), if_neg hl]
    · rw [List.getElem?_set_ne hv]
      exact wipe_in ((List.mem_cons.mp h).resolve_left fun z => hv z.symm)
theorem wipe_wipe {σ : L2.St} {vs : List Nat} : wipe (wipe σ vs) vs = wipe σ vs := by
  apply List.ext_getElem?
  intro i
  by_cases h : i ∈ vs
  · rw [wipe_in h, wipe_in h, wipe_length]
  · rw [wipe_out' h]
theorem Tgt.h_mono {K : PySem.W.Frag} {t : Tgt} {v : V} {σ : L2.St} {H : Hp} {k k' : L2.St → Hp → Prop} (h : t.h K v σ H k) (hm : ∀ σ H, k σ H → k' σ H) : t.h K v σ H k' := by
  cases t with
  | one i => exact hm _ _ h
  | tup is =>
    obtain ⟨a, us, e1, e2, e3, h⟩ := h
    refine ⟨a, us, e1, e2, e3, ?_⟩
    clear e1 e2 e3
    induction is generalizing us σ H with
    | nil => exact ⟨h.1, hm _ _ h.2⟩
    | cons i is ih =>
      obtain ⟨w, r, e, h⟩ := h
      exact ⟨w, r, e, ih _ h⟩
theorem backE_own {vs : List Nat} {ρ ρ2 : Env} {j : Nat} {d : D} (hv : ∀ i ∈ vs, ∀ d, ρ.at i ≠ .own d) (h : (backE vs ρ ρ2).at j = .own d) : ρ2.at j = .own d ∧ j ∉ vs := by
  by_cases hj : j ∈ vs
  · rcases backE_in (ρ0 := ρ) (ρ := ρ2) hj with q | q
    · rw [h] at q; exact absurd q.symm (hv j hj d)
    · rw [h] at q; cases q
  · rw [backE_out hj] at h
    exact ⟨h, hj⟩
theorem not_own_wipe {vs : List Nat} {ρ : Env} {σ σ' : L2.St} {b : Addr} (e : wipe σ' vs = wipe σ vs) (h : ¬ OwnOf ρ σ' b) : ¬ OwnOf (wipeE vs ρ) (wipe σ vs) b := fun ⟨i, d, e1, e2⟩ => by
  by_cases hi : i ∈ vs
  · rw [wipeE_in hi] at e1; cases e1
  · rw [wipeE_out hi] at e1
    rw [← e, wipe_out' hi] at e2
    exact h ⟨i, d, e1, e2⟩
/-- the loop of a comprehension -/
theorem lc_of {it : DI} {t : Tgt} {tt : DT} {g : DE} {vs : List Nat} {TT' : TT} {TE' : TE} (h1 : ∀ i ∈ t.is, i ∈ vs) (h2 : ∀ i ∈ t.is, i ∉ M) (hM : ∀ i ∈ M, i ∉ vs) {H : Hp} {Q : VK}
    (h : lE X.K T B M W (dLc vs it t.g tt g) σ H Q) (hT : TT' = lTx X.K T M noE tt) (hE : TE' = lEx X.K T M noE g) :
    tLc (lI X.K T B M W it) (t.h X.K) TT' TE' vs σ H Q := by
  obtain ⟨F, ρ, Qd, S, h, k⟩ := h
  refine ⟨F, ρ, _, S, h, fun F1 H1 ρ1 xs J e1 S1 io q D' hD => ?_⟩
  obtain ⟨hv, q⟩ := q
  refine ⟨fun i m H' => m = xs.length - i ∧ i ≤ xs.length ∧ ∃ F' ρ' acc as, Same F1 F' ∧ SR X.K T B M F' H' ρ' (wipe σ vs) ∧ (H' D' = some (.lst acc) ∧ F' D' = none ∧ ¬ OwnOf ρ' (wipe σ vs) D' ∧ B.H0 D' = none) ∧ RepL X.K T F' acc as ∧
    lcL vs t.g tt g (fun acc ρ2 => Qd (.fr (.lst acc)) (backE vs ρ1 ρ2)) (xs.drop i) as ρ', ⟨xs.length, by simp, Nat.zero_le _, F1, _, [], [], Same.refl _, (S1.lay hD).wipe hM, ⟨upd_same, S1.sub.free hD, ?_, S1.gone hD⟩, .nil, q⟩, ?_⟩
  · rintro ⟨i, d, e2, e3⟩
    obtain ⟨p, o, e4, _, e5, _⟩ := (S1.wipe hM).ownAt e2
    rw [e3] at e4
    cases e4
    rw [hD] at e5
    cases e5
  rintro i m H' ⟨rfl, hi, F', ρ', acc, as, e2, S2, ⟨hD1, hD2, hD3, hD4⟩, ra, q2⟩
  by_cases hlt : i < xs.length
  · obtain ⟨go, yl⟩ := (io i F' H' e2 S2.sub).1 hlt
    refine .inr ⟨go, fun H3 => ∃ F3 ρ3 acc as, Same F1 F3 ∧ SR X.K T B M F3 H3 ρ3 (wipe σ vs) ∧ (H3 D' = some (.lst acc) ∧ F3 D' = none ∧ ¬ OwnOf ρ3 (wipe σ vs) D' ∧ B.H0 D' = none) ∧ RepL X.K T F3 acc as ∧
      lcL vs t.g tt g (fun acc ρ2 => Qd (.fr (.lst acc)) (backE vs ρ1 ρ2)) (xs.drop (i + 1)) as ρ3, fun H3 hN => ⟨xs.length - (i + 1), by omega, rfl, hlt, hN⟩, fun x H'' hy => ?_⟩
    obtain ⟨r, hx, n⟩ := yl x H'' hy
    have S2b := S2.base
    obtain ⟨S3b, RVb⟩ := S2b.new n
    obtain ⟨F3, e3, S3b, R3⟩ := S3b.fix RVb
    have S3 := S2.trans S3b
    obtain ⟨d1, d2, d3⟩ := S2.loose S3b hD1 hD2 hD3
    rw [drop_at hx] at q2
    have q2 : t.g r.d ρ' (fun ρ1' => tt ρ1' (fun b ρ2 => if b = true then g ρ2 (fun r' ρ3 => as.length < maxTx ∧ lcL vs t.g tt g (fun acc ρ2 => Qd (.fr (.lst acc)) (backE vs ρ1 ρ2)) (xs.drop (i + 1)) (as ++ [r'.d]) (wipeE vs ρ3)) noE
      else lcL vs t.g tt g (fun acc ρ2 => Qd (.fr (.lst acc)) (backE vs ρ1 ρ2)) (xs.drop (i + 1)) as (wipeE vs ρ2)) noE) := q2
    refine Tgt.h_mono (Tgt.of (X := X) (vs := vs) S3.base R3 q2 h1 h2) ?_
    rintro σ2 H2 ⟨hw, rfl, ρ4, S4, q4⟩
    have hw : wipe σ2 vs = wipe σ vs := hw.trans wipe_wipe
    refine ⟨hw, ?_⟩
    rw [hT]
    refine ⟨baseAt B F3 H2 ρ' (wipe σ vs), F3, ρ4, _, S4, q4, fun F5 H5 ρ5 b e5 S5 q5 => ?_⟩
    cases b with
    | false =>
      obtain ⟨l1, l2, l3⟩ := S3.loose S5 d1 d2 d3
      have S6 := (S3.trans S5).wipe hM
      rw [hw] at S6
      exact ⟨F5, _, acc, as, e2.trans (e3.trans e5), S6, ⟨l1, l2, not_own_wipe hw l3, hD4⟩, ra.mono (e3.trans e5), q5⟩
    | true =>
      have q5 : g ρ5 (fun r' ρ3 => as.length < maxTx ∧ lcL vs t.g tt g (fun acc ρ2 => Qd (.fr (.lst acc)) (backE vs ρ1 ρ2)) (xs.drop (i + 1)) (as ++ [r'.d]) (wipeE vs ρ3)) noE := q5
      show TE' σ2 H5 _
      rw [hE]
      refine ⟨baseAt B F3 H2 ρ' (wipe σ vs), lE_run (S5) q5 fun F6 H6 ρ6 v6 r6 e6 S6 R6 q6 => ?_⟩
      obtain ⟨l1, l2, l3⟩ := S3.loose S6 d1 d2 d3
      have S7 := (S3.trans S6).wipe hM
      rw [hw] at S7
      have l3' := not_own_wipe hw l3
      have hno : ∀ i d, (wipeE vs ρ6).at i = .own d → (wipe σ vs)[i]? ≠ some (some (.ref D')) := fun i d z1 z2 => l3' ⟨i, d, z1, z2⟩
      refine ⟨acc, l1, by rw [ra.length, ← maxTx_eq]; exact q6.1, F6, _, _, _, e2.trans (e3.trans (e5.trans e6)), ?_, ⟨upd_same, l2, l3', hD4⟩, (ra.mono (e3.trans (e5.trans e6))).append (.cons R6 .nil), q6.2⟩
      exact S7.storeLoose l1 l2 hno hD4
  · have e : i = xs.length := by omega
    subst e
    rw [List.drop_length] at q2
    refine .inl ⟨(io _ F' H' e2 S2.sub).2 (Nat.le_refl _), ?_⟩
    exact k F' H' _ (.ref D') (.fr (.lst as)) (e1.trans e2) (S1.unwipe hv e2 S2) ⟨D', _, rfl, hD2, hD1, .lst ra, hD4, fun j d hj hs => by
      obtain ⟨z1, z2⟩ := backE_own hv hj
      exact hD3 ⟨j, d, z1, by rw [wipe_out' z2]; exact hs⟩⟩ q2
variable {elt tg iter : Expr} {ifs : List Expr} {scope : Scope} {own : List (Str × Nat)} {pos : Pos} {it : DI} {t : Tgt} {tt : DT} {g : DE}
theorem pd_lc (hc : X.calm = true) (hN : X.N.Nodup) (hi : PDI X T B M W tg iter it) (ok : BlkOk X.N X.env.scope scope own) (hv : (t.is.all fun i => (own.map (·.2)).contains i && !M.contains i) = true) (hM : (M.all fun i => !(own.map (·.2)).contains i) = true)
    (hg : ∀ (s : Shared) (H : Hp) (C : Addr) (cl : List (Str × Addr)) (fp : List Addr), PG (X.blk s H scope (compEnvC scope cl C X.env) fp) tg (t.h X.K)) (ht : ∀ (s : Shared) (H : Hp) (C : Addr) (cl : List (Str × Addr)) (fp : List Addr) B, PDTs (X.blk s H scope (compEnvC scope cl C X.env) fp) T B M noE ifs tt)
    (he : ∀ (s : Shared) (H : Hp) (C : Addr) (cl : List (Str × Addr)) (fp : List Addr) B, PD (X.blk s H scope (compEnvC scope cl C X.env) fp) T B M noE elt g) (hs : ∀ x, foldedSetIterable iter X.env x = pure x := by intro _; rfl) :
    PD X T B M W (.ListComp elt [⟨tg, iter, ifs, 0⟩] scope pos) (dLc (own.map (·.2)) it t.g tt g) := by
  have a1 : ∀ i ∈ t.is, i ∈ own.map (·.2) ∧ i ∉ M := fun i h => by
    have := List.all_eq_true.mp hv i h
    rw [Bool.and_eq_true] at this
    exact ⟨by simpa using this.1, by simpa using this.2⟩
  have a2 : ∀ i ∈ M, i ∉ own.map (·.2) := fun i h => by
    have := List.all_eq_true.mp hM i h
    simpa using this
  refine pe_imp (pe_lc (te := lEx X.K T M noE g) (tt := lTx X.K T M noE tt) hc hN hi ok hg (fun s H C cl fp => pts_ex (ht s H C cl fp)) (fun s H C cl fp => pe_ex (he s H C cl fp)) hs) fun σ H Q z => ?_
  exact lc_of (fun i h => (a1 i h).1) (fun i h => (a1 i h).2) a2 z rfl rfl
end
end DL

set_option Elab.async false
set_option linter.all false
set_option autoImplicit false
set_option maxRecDepth 100000
/-! DLX8: name = [..], a, b = x, y; calls of defs; defs. -/
namespace DL
open PySem PySem.Spec PyProof.Rows L2
section
variable {X : Cx} {T : Tb} {B : Bs} {M : List Nat} {W : EK} {F H : Hp} {ρ : Env} {σ : L2.St}
variable {a b c e : Expr} {f : DE} {pos : Pos}
variable {elt tg iter : Expr} {ifs : List Expr} {scope : Scope} {own : List (Str × Nat)} {it : DI} {t : Tgt} {tt : DT} {g : DE}
theorem lcM {vs : List Nat} (hv : (t.is.all fun i => vs.contains i && !M.contains i) = true) (hM : (M.all fun i => !vs.contains i) = true) : (∀ i ∈ t.is, i ∈ vs) ∧ (∀ i ∈ t.is, i ∉ M) ∧ ∀ i ∈ M, i ∉ vs := by
  refine ⟨fun i h => ?_, fun i h => ?_, fun i h => ?_⟩
  · have := List.all_eq_true.mp hv i h
    rw [Bool.and_eq_true] at this
    simpa using this.1
  · have := List.all_eq_true.mp hv i h
    rw [Bool.and_eq_true] at this
    simpa using this.2
  · have := List.all_eq_true.mp hM i h
    simpa using this
theorem setLc_core {i : Nat} {y : Str} {py spos : Pos} (hc : X.calm = true) (hN : X.N.Nodup) (hy : X.N[i]? = some y) (hyl : X.env.scope.names.lookup y = some .local)
    (hsw : swapsWith (.ListComp elt [⟨tg, iter, ifs, 0⟩] scope pos) (some (.Name y py)) spos.line X.env = pure true) (hi : PDI X T B M W tg iter it) (ok : BlkOk X.N X.env.scope scope own) (hv : (t.is.all fun i => (own.map (·.2)).contains i && !M.contains i) = true) (hM : (M.all fun i => !(own.map (·.2)).contains i) = true)
    (hg : ∀ (s : Shared) (H : Hp) (C : Addr) (cl : List (Str × Addr)) (fp : List Addr), PG (X.blk s H scope (compEnvC scope cl C X.env) fp) tg (t.h X.K)) (ht : ∀ (s : Shared) (H : Hp) (C : Addr) (cl : List (Str × Addr)) (fp : List Addr) B, PDTs (X.blk s H scope (compEnvC scope cl C X.env) fp) T B M noE ifs tt)
    (he : ∀ (s : Shared) (H : Hp) (C : Addr) (cl : List (Str × Addr)) (fp : List Addr) B, PD (X.blk s H scope (compEnvC scope cl C X.env) fp) T B M noE elt g) (hs : ∀ x, foldedSetIterable iter X.env x = pure x := by intro _; rfl) :
    PS X (.Assign [.Name y py] (.ListComp elt [⟨tg, iter, ifs, 0⟩] scope pos) spos) (fun J σ H => lE X.K T B M W (dLc (own.map (·.2)) it t.g tt g) σ H fun x H1 => J.nx (σ.set i (some x)) H1) := by
  obtain ⟨a1, a2, a3⟩ := lcM hv hM
  exact ps_imp (ps_setLc (te := lEx X.K T M noE g) (tt := lTx X.K T M noE tt) hc hN hy hyl hsw hi ok hg (fun s H C cl fp => pts_ex (ht s H C cl fp)) (fun s H C cl fp => pe_ex (he s H C cl fp)) hs) fun J σ H z =>
    lc_of (Q := fun x H1 => J.nx (σ.set i (some x)) H1) a1 a2 a3 z rfl rfl
theorem pds_setLc {i : Nat} {y : Str} {py spos : Pos} (hc : X.calm = true) (hN : X.N.Nodup) (hy : X.N[i]? = some y) (hyl : X.env.scope.names.lookup y = some .local) (hiM : i ∉ M)
    (hsw : swapsWith (.ListComp elt [⟨tg, iter, ifs, 0⟩] scope pos) (some (.Name y py)) spos.line X.env = pure true) (hi : PDI X T B M W tg iter it) (ok : BlkOk X.N X.env.scope scope own) (hv : (t.is.all fun i => (own.map (·.2)).contains i && !M.contains i) = true) (hM : (M.all fun i => !(own.map (·.2)).contains i) = true)
    (hg : ∀ (s : Shared) (H : Hp) (C : Addr) (cl : List (Str × Addr)) (fp : List Addr), PG (X.blk s H scope (compEnvC scope cl C X.env) fp) tg (t.h X.K)) (ht : ∀ (s : Shared) (H : Hp) (C : Addr) (cl : List (Str × Addr)) (fp : List Addr) B, PDTs (X.blk s H scope (compEnvC scope cl C X.env) fp) T B M noE ifs tt)
    (he : ∀ (s : Shared) (H : Hp) (C : Addr) (cl : List (Str × Addr)) (fp : List Addr) B, PD (X.blk s H scope (compEnvC scope cl C X.env) fp) T B M noE elt g) (hs : ∀ x, foldedSetIterable iter X.env x = pure x := by intro _; rfl) :
    PDS X T B M W (.Assign [.Name y py] (.ListComp elt [⟨tg, iter, ifs, 0⟩] scope pos) spos) (sAsg (gN i) (dLc (own.map (·.2)) it t.g tt g)) :=
  ps_imp (setLc_core hc hN hy hyl hsw hi ok hv hM hg ht he hs) fun J σ H ⟨F, ρ, Jd, S, h, k, _⟩ =>
    lE_run S h fun F1 H1 ρ1 v r e1 S1 R1 q => k F1 H1 _ _ e1 (S1.putFz hiM R1) q
theorem pds_setLcO {i : Nat} {y : Str} {py spos : Pos} (hc : X.calm = true) (hN : X.N.Nodup) (hy : X.N[i]? = some y) (hyl : X.env.scope.names.lookup y = some .local) (hiM : i ∉ M)
    (hsw : swapsWith (.ListComp elt [⟨tg, iter, ifs, 0⟩] scope pos) (some (.Name y py)) spos.line X.env = pure true) (hi : PDI X T B M W tg iter it) (ok : BlkOk X.N X.env.scope scope own) (hv : (t.is.all fun i => (own.map (·.2)).contains i && !M.contains i) = true) (hM : (M.all fun i => !(own.map (·.2)).contains i) = true)
    (hg : ∀ (s : Shared) (H : Hp) (C : Addr) (cl : List (Str × Addr)) (fp : List Addr), PG (X.blk s H scope (compEnvC scope cl C X.env) fp) tg (t.h X.K)) (ht : ∀ (s : Shared) (H : Hp) (C : Addr) (cl : List (Str × Addr)) (fp : List Addr) B, PDTs (X.blk s H scope (compEnvC scope cl C X.env) fp) T B M noE ifs tt)
    (he : ∀ (s : Shared) (H : Hp) (C : Addr) (cl : List (Str × Addr)) (fp : List Addr) B, PD (X.blk s H scope (compEnvC scope cl C X.env) fp) T B M noE elt g) (hs : ∀ x, foldedSetIterable iter X.env x = pure x := by intro _; rfl) :
    PDS X T B M W (.Assign [.Name y py] (.ListComp elt [⟨tg, iter, ifs, 0⟩] scope pos) spos) (sAsgO i (dLc (own.map (·.2)) it t.g tt g)) :=
  ps_imp (setLc_core hc hN hy hyl hsw hi ok hv hM hg ht he hs) fun J σ H ⟨F, ρ, Jd, S, h, k, _⟩ => by
    refine ⟨F, ρ, _, S, h, fun F1 H1 ρ1 v r e1 S1 R1 q => ?_⟩
    cases r with
    | fz d => exact q.elim
    | fr d =>
      obtain ⟨p, o, rfl, hF, hH, ro, hn, hno⟩ := R1
      exact k F1 H1 _ _ e1 (S1.put (s := .own d) hiM ⟨p, o, rfl, hF, hH, ro⟩ fun d' p' _ e' => by cases e'; exact ⟨.inl hn, fun j e' _ he => hno j e' he⟩) q
/-! ### a, b = x, y -/
theorem pds_par {i j : Nat} {x y : Str} {px py pt pt2 : Pos} {kt k2} (hc : X.calm = true) (hN : X.N.Nodup) (hi : X.N[i]? = some x) (hj : X.N[j]? = some y) (hij : i ≠ j) (hiM : i ∉ M) (hjM : j ∉ M)
    (hx : X.env.scope.names.lookup x = some .local) (hy : X.env.scope.names.lookup y = some .local) (ha : PDA X T B M W [a, b] [f, g])
    (hw : swappedStores [.Tuple [.Name x px, .Name y py] kt pt] (.Tuple [a, b] k2 pt2) X.env = pure (some [x, y]) := by rfl)
    (hs : swapsWithSole [.Tuple [.Name x px, .Name y py] kt pt] (.Tuple [a, b] k2 pt2) pos.line X.env = pure false := by rfl) :
    PDS X T B M W (.Assign [.Tuple [.Name x px, .Name y py] kt pt] (.Tuple [a, b] k2 pt2) pos) (sPar i j f g) :=
  ps_imp (ps_par hc hN hi hj hij hx hy ha hw hs) fun J σ H ⟨F, ρ, Jd, S, h, k, _⟩ => by
    refine lA_run (fs := [f, g]) (Qd := fun ds ρ2 => ∃ d d', ds = [d, d'] ∧ Jd.nx ((ρ2.set i (.fz d)).set j (.fz d'))) S ?_ fun F1 H1 ρ1 vs ds e1 S1 R1 h1 => ?_
    · refine (congrArg (fun z => f ρ z W) (funext fun r => funext fun ρ1 => congrArg (fun z => g ρ1 z W) (funext fun s => funext fun ρ2 => propext ⟨fun q => ⟨_, _, rfl, q⟩, fun ⟨d, d', e, q⟩ => ?_⟩))).mp h
      cases e
      exact q
    · obtain ⟨d, d', rfl, q⟩ := h1
      cases R1 with
      | cons r rs =>
        cases rs with
        | cons r' rs' =>
          cases rs'
          exact ⟨_, _, rfl, k F1 H1 _ _ e1 ((S1.putFz hiM r).putFz hjM r') q⟩
theorem pds_parL {i j : Nat} {x y : Str} {px py pt pt2 pl : Pos} {kt k2} (hc : X.calm = true) (hN : X.N.Nodup) (hi : X.N[i]? = some x) (hj : X.N[j]? = some y) (hij : i ≠ j) (hiM : i ∉ M) (hjM : j ∉ M)
    (hx : X.env.scope.names.lookup x = some .local) (hy : X.env.scope.names.lookup y = some .local) (ha : PD X T B M W a f)
    (h1 : starEach [a, .List [] pl] X.env = (false, eval a X.env) :: starEach [.List [] pl] X.env := by rfl) (h2 : starEach [.List [] pl] X.env = (false, eval (.List [] pl) X.env) :: starEach [] X.env := by rfl)
    (hw : swappedStores [.Tuple [.Name x px, .Name y py] kt pt] (.Tuple [a, .List [] pl] k2 pt2) X.env = pure (some [x, y]) := by rfl)
    (hs : swapsWithSole [.Tuple [.Name x px, .Name y py] kt pt] (.Tuple [a, .List [] pl] k2 pt2) pos.line X.env = pure false := by rfl) :
    PDS X T B M W (.Assign [.Tuple [.Name x px, .Name y py] kt pt] (.Tuple [a, .List [] pl] k2 pt2) pos) (sParL i j f) :=
  ps_imp (ps_par hc hN hi hj hij hx hy (pa_cons ha (pa_cons (pe_lst pa_nil) pa_nil h2) h1) hw hs) fun J σ H ⟨F, ρ, Jd, S, h, k, _⟩ => by
    refine lE_run S h fun F1 H1 ρ1 v1 r1 e1 S1 R1 q => ?_
    refine ⟨Nat.zero_le _, fun p hp => ⟨v1, .ref p, rfl, ?_⟩⟩
    have S2 := S1.lay (o := .lst []) hp
    have S3 := S2.putFz hiM R1
    refine k F1 _ _ _ e1 (S3.put (s := .own (.lst [])) hjM ⟨p, .lst [], rfl, S1.sub.free hp, upd_same, .lst .nil⟩ fun d' p' _ e' => ?_) q
    cases e'
    refine ⟨.inl (S1.gone hp), fun l e' hl he hz => ?_⟩
    obtain ⟨p2, o2, z1, z2, z3, z4⟩ := S3.ownAt he
    rw [hz] at z1
    cases z1
    -- the slot is not i (its own is settled), and what it holds stood before
    by_cases hli : i = l
    · subst hli
      by_cases hlt : i < ρ1.length
      · rw [Env.at_set_same hlt] at he; cases he
      · rw [at_oob (by simpa using hlt)] at he; cases he
    · rw [Env.at_set_ne hli] at he
      rw [List.getElem?_set_ne hli] at hz
      obtain ⟨p3, o3, y1, y2, y3, y4⟩ := S1.ownAt he
      rw [hz] at y1
      cases y1
      rw [hp] at y3
      cases y3
end
end DL

set_option Elab.async false
set_option linter.all false
set_option autoImplicit false
set_option maxRecDepth 100000
set_option maxHeartbeats 2000000
/-! DLE: own exception classes with one field, over several built-in bases. -/
namespace DLE
open PySem PySem.W PySem.Calls PyProof.Rows PySem.HandSPX Builtin Builtin.ObjectAttr
/-- what is asked of a built-in exception class -/
structure EB (B newId initId : String) (tail : List Value) : Prop where
  facts : ExcBaseFacts B newId initId tail
  pass : ∀ self, refuseLoop self "__setattr__" tail = pure ()
  obj : tail.contains (.type "object") = true
theorem eb_ValueError : EB "ValueError" "ValueError.__new__" "ValueError.__init__" [.type "ValueError", .type "Exception", .type "BaseException", .type "object"] := ⟨F.excBase_ValueError, fun self => by kernel_rfl, by decide +kernel⟩
theorem eb_RuntimeError : EB "RuntimeError" "RuntimeError.__new__" "RuntimeError.__init__" [.type "RuntimeError", .type "Exception", .type "BaseException", .type "object"] := ⟨F.excBase_RuntimeError, fun self => by kernel_rfl, by decide +kernel⟩
theorem eb_OverflowError : EB "OverflowError" "OverflowError.__new__" "OverflowError.__init__" [.type "OverflowError", .type "ArithmeticError", .type "Exception", .type "BaseException", .type "object"] := ⟨F.excBase_OverflowError, fun self => by kernel_rfl, by decide +kernel⟩
theorem eb_LookupError : EB "LookupError" "LookupError.__new__" "LookupError.__init__" [.type "LookupError", .type "Exception", .type "BaseException", .type "object"] := ⟨F.excBase_LookupError, fun self => by kernel_rfl, by decide +kernel⟩
/-! ### the text of __init__(self, f): self.f = f -/
def iA (f : String) (p1 p2 : Pos) : Arguments := { posonlyargs := [], args := [{ arg := "self", annotation := none, pos := p1 }, { arg := f, annotation := none, pos := p2 }], vararg := none, kwonlyargs := [], kw_defaults := [], kwarg := none, defaults := [] }
def iB (f : String) (q1 q2 q3 q4 : Pos) : List Stmt := [.Assign [.Attribute (.Name "self" q1) f q2] (.Name f q3) q4]
def iS (f : String) : Scope := { kind := .function, names := [(PySem.Str.ofString "self", .local), (PySem.Str.ofString f, .local)], isGenerator := false, isCoroutine := false, more := [] }
/-- what the written part says of the class at C, and of its __init__, at fI -/
structure ETxt (K : Frag) (f : String) (newId initId B : String) (tail : List Value) (C fI : Addr) : Prop where
  eb : EB B newId initId tail
  fne : f ≠ "self" ∧ f ≠ "__debug__"
  bd : ∀ (qual : Str) (doc pm : Value) (an : Option Addr) (cdv ct : Value) (p1 p2 q1 q2 q3 q4 : Pos) (a b : Value), bindArgs (fnOf "__init__" qual (iA f p1 p2) (iB f q1 q2 q3 q4) (iS f) .none .none doc pm an cdv ct) ⟨[a, b], []⟩ = pure [(Str.ofString "self", a), (Str.ofString f, b)]
  cls : ∃ nm q N bs sn sub ab col dd k0 k1 k2 k3 k5, K.lookup C = some (excClassObj nm q C N bs tail true sn sub ab col dd k0 k1 k2 k3 k5 newId)
  sa : findIn K (.ref C) "__setattr__" = some (some (.builtin "object.__setattr__"))
  ga : findIn K (.ref C) "__getattribute__" = some (some (.builtin "BaseException.__getattribute__"))
  gg : findIn K (.ref C) "__getattr__" = some none
  noN : findIn K (.ref C) f = some none
  iC : findIn K (.ref C) "__init__" = some (some (.ref fI))
  tC : typeIn K (.ref fI) = some (.type "function")
  kC : keepIn K (.ref C) = true
  exC : subIn K (.ref C) (.type "BaseException") = some true
  tyC : typeIn K (.ref C) = some (.type "type")
  hdC : hasDictIn K C = true
  fn : ∃ (qual : Str) (oc : Value) (od : Option Addr) (doc pm : Value) (an : Option Addr) (cdv ct : Value) (osl : Array (Option Value)) (p1 p2 q1 q2 q3 q4 : Pos),
    K.lookup fI = some ⟨oc, od, .func (fnOf "__init__" qual (iA f p1 p2) (iB f q1 q2 q3 q4) (iS f) .none .none doc pm an cdv ct), osl⟩ ∧ codeIn K cdv qual = true
theorem one_size (v : Value) : [v].length ≤ sizeLine := by
  rw [sizeLine_eq]
  exact (by decide : 1 ≤ 16777216)
section
variable {prog : Program} {w : World} {A : Around} {E : Value → Shared → Prop} {R : Result → Shared → Prop} {hp : Heap} {g : Array GenState} {d : Drawn} {t : Nat} {os : OsState}
theorem osa_new {K : W.Frag} {name : Str} {tk : Tok} {v : Value} {x C : Addr} {fv : Array Value} {cd : ClassData} {B newId initId : String} {tail : List Value} (T : EB B newId initId tail)
    (X : K.In hp) (hx : hp.get? x = some { cls := .ref C, data := .fields fv }) (hcd : W.clsIn K C = some cd) (hm : cd.mro = .ref C :: tail) (hh : cd.hasDict = true) (ha : W.findIn K (.ref C) name = some none)
    (hq : ∀ h' tk' dx, (∀ b o, b ≠ x → hp.get? b = some o → h'.get? b = some o) → hp.objs.size ≤ dx → dx ≠ x → h'.get? x = some { cls := .ref C, dict := some dx, data := .fields fv } →
      h'.Ns1 dx (fun y => if y = name then some v else none) → R (.ok (.ret .none)) ⟨h', g, d, tk', os⟩) :
    codeAny (model prog w) A (.call (.builtin "object.__setattr__") ⟨[.ref x, .str name tk, v], []⟩) R ⟨hp, g, d, t, os⟩ := by
  have I : W.InstAt hp x { cls := .ref C, data := .fields fv } C none := ⟨hx, rfl, rfl, trivial⟩
  have SF := F.store_object
  have ne : cd.mro.isEmpty = false := by rw [hm]; rfl
  have hob : cd.mro.contains (.type "object") = true := by rw [hm, List.contains_cons, T.obj, Bool.or_true]
  have hxs : x ≠ hp.objs.size := Nat.ne_of_lt (Heap.lt_size hx)
  have sub : W.Looks (model prog w) hp (isInstance (.ref x) (.type "object")) true := I.type.andThen (W.looks_mroIn X (by unfold W.mroIn; rw [hcd, Option.bind_some, if_neg (by rw [ne]; decide), hob]))
  refine codeAny_call_builtin SF.slot.plain SF.entry (@W.check_slot (model prog w) _ _ ⟨hp, g, d, t, os⟩ "object.__setattr__" "object" "__setattr__" (.ref x) [.str name tk, v] [] _ SF.kind SF.split sub (SF.args (.ref x) (.str name tk) v) ?_)
  have hmr : W.Looks (model prog w) hp (mroOf (.ref C)) cd.mro := (W.looks_clsIn X hcd).andThen .now
  have L3 : W.Looks (model prog w) hp (storeTaker? none) none := .now
  have hcls : W.Looks (model prog w) hp (classData C) cd := W.looks_clsIn X hcd
  rw [W.osa_eq, refuse_eq]
  refine wpAny_bind (wpAny_bind (I.type.at (wpAny_bind (hmr.at ?_))))
  rw [hm, refuseLoop_ref, T.pass]
  refine wpAny_pure (wpAny_bind (I.type.at (wpAny_bind ((W.looks_findIn X ha).at (wpAny_bind (L3.at ?_))))))
  show wpAny _ _ (Builtin.ObjectAttr.storeInOwnDict (.ref x) (.ref C) (.str name tk) name v false) _ _ _
  obtain ⟨nm, bs, mro, ns, qn, hd, sn, sb, ab, col, del⟩ := cd
  dsimp only at hh
  subst hh
  unfold Builtin.ObjectAttr.storeInOwnDict Builtin.ObjectAttr.ownDictForStores
  repeat (first | with_reducible refine store_in_new ?_ ?_ | with_reducible refine wpAny_loadPart_at hx ?_ | with_reducible refine hcls.at ?_ | wp_step)
  · exact ⟨_, #[], _, (Heap.get?_update_ne _ _ _ _ hxs.symm).trans (Heap.get?_push_at rfl rfl), rfl, fun e he => absurd he (by simp), fun _ => rfl⟩
  · intro h' tk' hn' hs
    have hx₁ : (hp.push { cls := .type "dict", data := .dict #[] }).get? x = some { cls := .ref C, data := .fields fv } := Heap.get?_push_of_some _ hx
    refine hq h' tk' hp.objs.size (fun b o hb ho => ?_) (Nat.le_refl _) hxs.symm ?_ hn'
    · exact (hs.2 b (Nat.ne_of_lt (Heap.lt_size ho))).trans ((Heap.get?_update_ne _ _ _ _ hb).trans (Heap.get?_push_of_some _ ho))
    · exact (hs.2 x hxs).trans (Heap.get?_update_self _ hx₁ rfl)
end
theorem ldC {M : Model} {s : Shared} {name : Str} {scope : Scope} {L a : Addr} {cd : Value} {m : Str → Option Value} {x : Str} {pos : Pos} {v : Value} {Q : Value → Shared → Prop} {A : Around} {E : Value → Shared → Prop} (hn : s.heap.Ns L m) (hv : m x = some v) (h : Q v s)
    (hk : scope.kind = .function) (hl : (envOfC name scope L a cd).kindOf x = some .local) (hd : (x == ("__debug__" : Str)) = false) :
    wpAny M A (eval (.Name x pos) (envOfC name scope L a cd)) Q E s := wpAny_Name (wpAny_loadName_local hk hl hn hv h) hd
/-- what __init__ leaves of a fresh exception at x -/
structure InitEnd (f : Str) (h h' : Heap) (x C dx t1 : Addr) (v : Value) : Prop where
  keep : ∀ b o, b ≠ x → h.get? b = some o → h'.get? b = some o
  obj : h'.get? x = some { cls := .ref C, dict := some dx, data := .fields #[.ref t1, .none, .none, .none, .bool false, .none] }
  dbig : h.objs.size ≤ dx
  dne : dx ≠ x
  ns : h'.Ns1 dx (fun y => if y = f then some v else none)
structure OwnMade (f : Str) (h h' : Heap) (e C d : Addr) (v : Value) : Prop where
  keep : ∀ b o, h.get? b = some o → h'.get? b = some o
  new : h.objs.size ≤ e
  obj : ∃ oe vs, h'.get? e = some oe ∧ oe.cls = .ref C ∧ oe.dict = some d ∧ oe.data = .fields vs ∧ vs[1]? = some .none
  dbig : h.objs.size ≤ d
  dne : d ≠ e
  ns : h'.Ns1 d (fun y => if y = f then some v else none)
theorem str_ne {a b : String} (h : a ≠ b) : (Str.ofString a) ≠ Str.ofString b := fun e => h (by
  rw [Str.ofString_eq_toList, Str.ofString_eq_toList] at e
  have e2 : a.toList.map Char.toNat = b.toList.map Char.toNat := by
    have := congrArg (fun s => s.cps.toList) e
    simpa using this
  have e3 : a.toList = b.toList := by
    have inj : ∀ {l m : List Char}, l.map Char.toNat = m.map Char.toNat → l = m := by
      intro l
      induction l with
      | nil => intro m h; cases m with
        | nil => rfl
        | cons _ _ => cases h
      | cons c l ih =>
        intro m h
        cases m with
        | nil => cases h
        | cons c' m =>
          have h1 : c.toNat = c'.toNat := List.head_eq_of_cons_eq h
          have h2 := ih (List.tail_eq_of_cons_eq h)
          rw [h2, Char.toNat_inj.mp h1]
    exact inj e2
  exact String.toList_inj.mp e3)
section
variable {prog : Program} {w : World} {A : Around} {E : Value → Shared → Prop} {R : Result → Shared → Prop} {s : Shared} {K : Frag} {f B newId initId : String} {tail : List Value} {C fI : Addr}
theorem own_init (T : ETxt K f newId initId B tail C fI) {x t0 : Addr} {v : Value} (X : K.In s.heap) (hlim : s.heap.NoLimit) (hx : s.heap.get? x = some (excO C t0)) (hroom : A.depth < recursionLimit)
    (hq : ∀ h' tk dx, InitEnd f s.heap h' x C dx t0 v → R (.ok (.ret .none)) { s with heap := h', toks := tk }) :
    codeAny (model prog w) A (.call (.ref fI) ⟨[.ref x, v], []⟩) R s := by
  obtain ⟨qual, oc, od, doc, pm, an, cdv, ct, osl, p1, p2, q1, q2, q3, q4, ho, hcd⟩ := T.fn
  obtain ⟨nm, q, N, bs, sn, sub, ab, col, dd, k0, k1, k2, k3, k5, hC⟩ := T.cls
  have hcl : clsIn K C = some { name := nm, bases := bs, mro := .ref C :: tail, ns := N, qualname := q, hasDict := true, slotNames := sn, subclasses := sub, abstract := ab, collection := col, hasDel := false } := by unfold clsIn; rw [hC] <;> rfl
  have nfs : Str.ofString f ≠ Str.ofString "self" := str_ne T.fne.1
  have look_self : (iS f).names.lookup (Str.ofString "self") = some .local := by simp [iS, List.lookup]
  have look_f : (iS f).names.lookup (Str.ofString f) = some .local := by
    have : (Str.ofString f == Str.ofString "self") = false := by simpa using nfs
    simp [iS, List.lookup, this]
  have dbg : (Str.ofString f == ("__debug__" : Str)) = false := by
    have := str_ne T.fne.2
    simpa using this
  refine Att.call_fn (binds := [(Str.ofString "self", .ref x), (Str.ofString f, v)]) X hlim ho hcd hroom (BindsTo.of_eq (T.bd _ _ _ _ _ _ _ _ _ _ _ _ _ _)) (by simp [look_self, look_f]) (fun s₁ IC => ?_) rfl rfl rfl
  obtain ⟨h₁, tk₁, rfl⟩ := IC.toInCall.same
  have k : ∀ b o, s.heap.get? b = some o → h₁.get? b = some o := IC.toInCall.keep
  have hn := IC.toInCall.ns
  have hxL : s.heap.objs.size ≠ x := Nat.ne_of_gt (Heap.lt_size hx)
  have X₁ : K.In h₁ := X.keeps k
  have hx₁ := k _ _ hx
  have ks : (envOfC qual (iS f) s.heap.objs.size fI cdv).kindOf (Str.ofString "self") = some .local := look_self
  have kf : (envOfC qual (iS f) s.heap.objs.size fI cdv).kindOf (Str.ofString f) = some .local := look_f
  -- self.f = f
  show wpAny _ _ (execs _ _) _ _ _
  refine wpAny_execs_cons (plainObj_wpAny_Assign_Attribute ?_)
  refine ldC (v := v) hn ?_ (ldC (v := .ref x) hn ?_ ?_ rfl ks rfl) rfl kf dbg
  · unfold bindL
    rw [show bindL (envOfC qual (iS f) s.heap.objs.size fI cdv).kindOf [(Str.ofString f, v)] _ = _ from rfl]
    unfold bindL
    simp [kf, bindL]
  · unfold bindL
    simp [ks, kf, bindL, Ne.symm nfs]
  refine set_plain X₁ (ox := excO C t0) (od := none) ⟨hx₁, rfl, rfl, trivial⟩ T.sa ?_
  refine osa_new T.eb X₁ hx₁ hcl rfl rfl T.noN (fun h₃ tk₃ dx k₃ dn dne hx₃ hn₃ => ?_)
  show wpAny _ _ (execs _ _) _ _ _
  have z : s.heap.objs.size < h₁.objs.size := hn.lt
  exact wpAny_execs_nil (hq h₃ tk₃ dx ⟨fun b o hb e => k₃ b o hb (k b o e), hx₃, Nat.le_of_lt (Nat.lt_of_lt_of_le z dn), dne, hn₃⟩)
theorem own_made (T : ETxt K f newId initId B tail C fI) {v : Value} (X : K.In s.heap) (hlim : s.heap.NoLimit) (hroom : A.depth + 1 < recursionLimit)
    (hq : ∀ h' tk e d, OwnMade f s.heap h' e C d v → R (.ok (.ret (.ref e))) { s with heap := h', toks := tk }) :
    codeAny (model prog w) A (.call (.ref C) ⟨[v], []⟩) R s := by
  obtain ⟨nm, q, N, bs, sn, sub, ab, col, dd, k0, k1, k2, k3, k5, hC⟩ := T.cls
  obtain ⟨hp, g, dr, tk, os⟩ := s
  have k : ∀ b o, hp.get? b = some o → ((hp.push (kdv_tup [v])).push (excO C hp.objs.size)).get? b = some o := fun b o e => Heap.get?_push_of_some _ (Heap.get?_push_of_some _ e)
  have hget : ((hp.push (kdv_tup [v])).push (excO C hp.objs.size)).get? (hp.objs.size + 1) = some (excO C hp.objs.size) := by heap_get
  refine call_own T.eb.facts (fun X => rfl) (X _ _ hC) (looks_findIn X T.iC) (fun self => bind_fn X self T.tC) (one_size v) ?_
  refine own_init (s := ⟨(hp.push (kdv_tup [v])).push (excO C hp.objs.size), g, dr, tk, os⟩) T (X.keeps k) (hlim.keeps k) hget ?_ fun h' tk' dx ⟨k', hx, dn, dne, hns⟩ => ?_
  · show A.depth + 1 < recursionLimit
    exact hroom
  · have old : ∀ b o, hp.get? b = some o → h'.get? b = some o := fun b o e => k' b o (Nat.ne_of_lt (Nat.lt_succ_of_lt (Heap.lt_size e))) (k b o e)
    have z : hp.objs.size + 1 + 1 ≤ dx := by
      first
        | (simpa only [Heap.size_push] using dn)
        | exact dn
        | (have q := dn; rw [Heap.size_push, Heap.size_push] at q; exact q)
    exact ⟨rfl, hq h' tk' (hp.objs.size + 1) dx ⟨old, Nat.le_succ _, ⟨_, _, hx, rfl, rfl, rfl, rfl⟩, Nat.le_trans (Nat.le_trans (Nat.le_succ _) (Nat.le_succ _)) z, dne, hns⟩⟩
end
end DLE

set_option Elab.async false
set_option linter.all false
set_option autoImplicit false
set_option maxRecDepth 100000
/-! DLX9: raise; calls of defs; a def by its body. -/
namespace DL
open PySem PySem.Spec PyProof.Rows L2
theorem relO_f {f : Str} {v : V} {v' : Value} (r : RelV v v') (y : Str) : RelO (List.lookup y [(f, v)]) (if y = f then some v' else none) := by
  by_cases hw : y = f
  · subst hw
    rw [if_pos rfl]
    have q : List.lookup y [(y, v)] = some v := by simp [List.lookup]
    rw [q]
    exact r
  · rw [if_neg hw]
    have qw : (y == f) = false := by simpa using hw
    have q2 : List.lookup y [(f, v)] = none := by simp [List.lookup, qw]
    rw [q2]
    trivial
section
variable {X : Cx} {C fI : Addr} {f B newId initId : String} {tail : List Value}
/-- C(e), an own exception -/
def tMkE (C : Addr) (f : Str) (ta : TA) : L2.St → Hp → XK → Prop := fun σ H Q => ta σ H fun vs H1 => ∃ v, vs = [v] ∧ ∀ d, H1 d = none → Q (.ref C) (some d) (upd H1 d (.xd [(f, v)]))
theorem pmk_own {a : Expr} {ta : TA} {x : Str} {p pos : Pos} {k : Nat} (T : DLE.ETxt X.K f newId initId B tail C fI) (hr : Room k X.A) (ha : PA X [a] ta) (hg : Gl X x) (hm : X.mg x = some (.ref C)) (hdb : (x == ("__debug__" : Str)) = false := by decide)
    (he : starEach (a :: []) X.env = (false, eval a X.env) :: starEach [] X.env := by rfl) (hpl : (backTo pos (starEach [] X.env)).any (·.1) = false := by rfl) :
    PMk X (.Call (.Name x p) [a] [] pos) (tMkE C f ta) := by
  intro pins s σ H Q I h
  refine wpAny_Call_Name_kw (ld_glob I hg hm ?_ hdb)
  refine PySem.W.callWith_K (h₀ := X.base) I.ok.mod.kin T.kC (thn (ha.run pos pins s σ H _ I h) fun us s1 hh => ?_) he hpl
  obtain ⟨vs, H1, I1, r1, v, ev, q1⟩ := hh
  subst ev
  refine ⟨I1.kIn, ?_⟩
  cases r1 with
  | cons rv rn =>
    rename_i v' us'
    cases rn
    show wpAny _ _ (call (.ref C) [v']) _ _ _
    have hlim := I1.nolimit
    obtain ⟨hp, g, dr, tk, os⟩ := s1
    refine wpAny_call (DLE.own_made T I1.kIn hlim (by have := hr.dp; omega) fun h' tk' e d M => ?_)
    show MkP X pins σ Q (.ref e) ⟨h', g, dr, tk', os⟩
    obtain ⟨oe, fv, hoe, hc, hd, hdat, h1⟩ := M.obj
    have hns := M.ns
    obtain ⟨G', g1, g2⟩ := restrict h' fun b => decide (b ≠ e)
    have gk : ∀ b, b ≠ e → G'.get? b = h'.get? b := fun b hb => g1 b (decide_eq_true hb)
    have ge : G'.get? e = none := g2 e (by simp)
    have old : ∀ b o, hp.get? b = some o → G'.get? b = some o := fun b o q => (gk b (Nat.ne_of_lt (Nat.lt_of_lt_of_le (Heap.lt_size q) M.new))).trans (M.keep b o q)
    have ob : ObjOk X.prog X.w (upd H1 d (.xd [(Str.ofString f, v)])) G' d (.xd [(Str.ofString f, v)]) :=
      ⟨_, hns.at (fun o q => (gk d M.dne).trans q), fun f => relO_f rv f⟩
    have J : Inv X pins σ (upd H1 d (.xd [(Str.ofString f, v)])) ⟨G', g, dr, tk', os⟩ := I1.laid (t' := tk') old M.dbig ob
    refine ⟨e, oe, fv, ⟨G', g, dr, tk', os⟩, _, .ref C, some d, rfl, J, fun b o q => ?_, ge, hoe, ⟨hc, hd⟩, hdat, h1, ?_, rfl, I1.bare, raises_own T.exC T.tyC, q1 d (I1.hok.fresh M.dbig)⟩
    · by_cases hb : b = e
      · have q' : G'.get? b = some o := q
        rw [hb, ge] at q'; cases q'
      · exact (gk b hb).symm.trans q
    · rw [upd_ne (Ne.symm M.dne)]
      exact I1.hok.fresh M.new
/-- n.f, n the exception that the suite holds (at a; its class cls, its dict d) -/
def tByE (C : Addr) (f : Str) (a : Addr) (cls : Value) (d : Option Addr) (te : TE) : TE := fun σ H Q => te σ H fun x H1 => x = .ref a ∧ cls = .ref C ∧ ∃ (dd : Addr) (v : V), d = some dd ∧ H1 dd = some (.xd [(f, v)]) ∧ Q v H1
theorem pe_byE {a : Addr} {oe : Obj} {cls : Value} {d : Option Addr} {pn : List (Addr × Obj)} {e : Expr} {te : TE} {pos : Pos} (T : DLE.ETxt X.K f newId initId B tail C fI) (hz : Zc cls d oe) (hf : ∃ vs, oe.data = .fields vs) (he : PE (X.suite a ((a, oe) :: pn)) e te)
    (hb : attributeBase e f X.env (eval e X.env) = eval e X.env := by rfl) :
    PE (X.suite a ((a, oe) :: pn)) (.Attribute e f pos) (tByE C f a cls d te) := by
  refine ⟨fun pins s σ H Q I h => ?_⟩
  refine attr_of hb (thn (he.run pins s σ H _ I h) fun u s1 hh => ?_)
  obtain ⟨x, H1, I1, rx, ex, ec, dd, v, ed, ea, q⟩ := hh
  subst ex
  obtain rfl : u = Value.ref a := rx
  subst ec
  subst ed
  obtain ⟨ha, _⟩ := I1.pin (a, oe) (List.mem_append_left _ List.mem_cons_self)
  obtain ⟨vs, hd⟩ := hf
  have hx : ObjOk X.prog X.w H1 s1.heap dd (.xd [(Str.ofString f, v)]) := I1.hok dd _ ea
  obtain ⟨mA, hns, hr⟩ := hx
  obtain ⟨od, ho, hl⟩ := lookIn_ns hns
  have l : List.lookup (Str.ofString f) [(Str.ofString f, v)] = some v := by simp [List.lookup]
  obtain ⟨u, hu, ru⟩ := RelO.some_of (v := v) (o := mA (Str.ofString f)) (by rw [← l]; exact hr (Str.ofString f))
  have J : PySem.W.InstAt s1.heap a oe C (some od) := ⟨ha, hz.1, by unfold PySem.W.notCls; rw [hd] <;> rfl, by rw [hz.2]; exact ho⟩
  exact HandSPX.exc_get I1.kIn J T.ga T.gg T.exC (PySem.W.findObj_own T.hdC T.noN rfl (by rw [hl, hu])) (handed_of ru) ⟨v, H1, I1.tok _, ru, q⟩
end
section
variable {X : Cx} {T : Tb} {B : Bs} {M : List Nat} {W : EK} {F H : Hp} {ρ : Env} {σ : L2.St}
theorem pds_raise {f newId initId Bn : String} {tail : List Value} {C fI : Addr} {c : Nat} {a : Expr} {g : DE} {x : Str} {p pos pos2 : Pos} {k : Nat} (hc : X.calm = true) (tk : Takes X (lW X.K T B M W)) (ET : DLE.ETxt X.K f newId initId Bn tail C fI) (hT : T.ex c = some ⟨C, Str.ofString f⟩) (hr : Room k X.A) (ha : PD X T B M W a g) (hg : Gl X x) (hm : X.mg x = some (.ref C)) (hdb : (x == ("__debug__" : Str)) = false := by decide)
    (he : starEach (a :: []) X.env = (false, eval a X.env) :: starEach [] X.env := by rfl) (hpl : (backTo pos (starEach [] X.env)).any (·.1) = false := by rfl) : PDS X T B M W (.Raise (some (.Call (.Name x p) [a] [] pos)) none pos2) (sRaise c g) :=
  ps_imp (ps_raise hc tk (pmk_own ET hr (pa_cons ha pa_nil he) hg hm hdb he hpl)) fun J σ H ⟨F, ρ, Jd, S, h, _⟩ => by
    refine lE_run S h fun F1 H1 ρ1 v r e1 S1 R1 q => ?_
    refine ⟨v, rfl, fun d hd => ?_⟩
    have S2 := S1.lay (o := .xd [(Str.ofString f, v)]) hd
    have hno : ∀ i e, ρ1.at i = .own e → σ[i]? ≠ some (some (.ref d)) := fun i e hi hs => by
      obtain ⟨p', o', z1, z2, z3, z4⟩ := S1.ownAt hi
      rw [hs] at z1
      cases z1
      rw [hd] at z3
      cases z3
    have su : Same F1 (upd F1 d (.xd [(Str.ofString f, v)])) := same_upd (S1.sub.free hd)
    have S3 := S2.settle (S1.sub.free hd) upd_same (.inl (S1.gone hd)) hno
    exact ⟨_, ρ1, ⟨c, r.d⟩, S3, ⟨_, d, v, hT, rfl, rfl, upd_same, R1.mono su⟩, q⟩
end
end DL

set_option Elab.async false
set_option linter.all false
set_option autoImplicit false
set_option maxRecDepth 100000
/-! DLG: defs whose callers show no repr (no guard stands on the stack). -/
namespace DL
open PySem PySem.Spec PyProof.Rows L2
/-- room for k levels of calls, and no guard -/
structure RoomG (k : Nat) (A : Around) : Prop where
  rm : Room k A
  gd : A.guards = some []
namespace RoomG
variable {k : Nat} {A : Around}
theorem mono {j : Nat} (r : RoomG k A) (h : j ≤ k) : RoomG j A := ⟨r.rm.mono h, r.gd⟩
theorem deeper (r : RoomG (k + 1) A) (env : PySem.Env) : RoomG k (A.deeper env) := ⟨r.rm.deeper env, r.gd⟩
theorem un0 (r : RoomG k A) : A.units + 200 < cLine := by have := r.rm.un; omega
theorem units (r : RoomG k A) : A.units + 64 < cLine := r.rm.units
theorem make_guards {C : Addr} {us : List Value} {kw : List (Str × Value)} : (Code.builtin "type.__call__" ⟨.ref C :: us, kw⟩).guards = [] := by
  unfold Code.guards
  rw [if_neg]
  show ¬ (guardIds.contains "type.__call__") = true
  decide +kernel
theorem make (r : RoomG (k + 1) A) (C : Addr) (us : List Value) (kw : List (Str × Value)) : RoomG k (A.under (.builtin "type.__call__" ⟨.ref C :: us, kw⟩)) := by
  refine ⟨r.rm.make C us kw, ?_⟩
  show pushGuards (Code.builtin "type.__call__" ⟨.ref C :: us, kw⟩).guards A.guards = some []
  rw [make_guards, r.gd]
  rfl
end RoomG
/-- a def's promise where no guard stands -/
structure FnG (P : Program) (w : World) (K : PySem.W.Frag) (mg : Str → Option Value) (base : Heap) (CX : CXT) (k : Nat) (f : Addr) (fd : FuncData) (ps : List Str) (sp : Sp) : Prop where
  len : ∀ vs H Q E, sp vs H Q E → vs.length = ps.length
  run : ∀ (A : Around) (outer : List PySem.Env) (s : Shared) (H : Hp) (args : Args) (us : List Value) (vs : List V) (Q : VK) (E : XK), RoomG k A → Env0 P w K mg base A outer s H →
    BindsTo s fd args (ps.zip us) → Vals vs us → sp vs H Q E → codeAny (model P w) A (.call (.ref f) args) (CR CX outer P w H s Q E) s
section
variable {P : Program} {w : World} {K : PySem.W.Frag} {mg : Str → Option Value} {base : Heap} {CX : CXT} {k : Nat} {f : Addr} {fd : FuncData} {ps : List Str} {sp sp' : Sp}
theorem FnG.imp (G : FnG P w K mg base CX k f fd ps sp) (h : ∀ vs H Q E, sp' vs H Q E → sp vs H Q E) : FnG P w K mg base CX k f fd ps sp' where
  len vs H Q E q := G.len vs H Q E (h _ _ _ _ q)
  run A outer s H args us vs Q E hr e0 hb hv hs := G.run A outer s H args us vs Q E hr e0 hb hv (h _ _ _ _ hs)
theorem FnG.of (G : FnOk P w K mg base CX k f fd ps sp) : FnG P w K mg base CX k f fd ps sp where
  len := G.len
  run A outer s H args us vs Q E hr := G.run A outer s H args us vs Q E hr.rm
theorem fnG_of {x qual : Str} {st : Stmt} {N : List Str} (Fn : Fun K x qual st f fd) (S : FnScope N ps (defScope st)) (len : ∀ vs H Q E, sp vs H Q E → vs.length = ps.length)
    (hbody : ∀ (cdv : Value) (A : Around) (outer : List PySem.Env) (s : Shared) (H : Hp) (vs : List V) (Q : VK) (E : XK), RoomG k (A.deeper (envOfC qual (defScope st) s.heap.objs.size f cdv)) → sp vs H Q E →
      ∃ t, PSs (cxOf (L2.CX P w) P w K mg base N qual (defScope st) f cdv A outer s H E) (defBody st) t ∧ t { nx := fun _ H' => Q .non H', rt := Q } (start N vs) H) : FnG P w K mg base (L2.CX P w) (k + 1) f fd ps sp := by
  obtain ⟨oc, od, kV, doc, pm, an, cdv, ct, osl, rfl, lk, hcd⟩ := Fn.ex
  refine ⟨len, fun A outer s H args us vs Q E hr e0 hb r hsp => ?_⟩
  refine StX.run_bnd (G := fun vs' H' => vs' = vs ∧ H' = H) lk hcd S hr.rm e0 (fun A' Ex Q' h => ?_) fun s2 H2 vs2 g hr2 => ?_
  · exact hb _ _ _ _ (h s H vs us e0 Un.refl rfl (fun e s' z => z) r (len _ _ _ _ hsp) ⟨rfl, rfl⟩)
  · obtain ⟨rfl, rfl⟩ := g
    exact hbody cdv A outer s2 H2 vs2 Q E ⟨hr2, hr.gd⟩ hsp
end
section
variable {X : Cx} {CX : CXT} {k : Nat} {f : Addr} {fd : FuncData} {ps : List Str} {sp : Sp} {E : L2.St → XK} {x : Str} {p pos : Pos} {e : Expr} {es : List Expr} {t : TA} {σ : L2.St} {H : Hp}
theorem run_fnG {pins : List (Addr × Obj)} {s : Shared} {Q : VK} {us : List Value} {vs : List V} (G : FnG X.prog X.w X.K X.mg X.base CX k f fd ps sp) (hr : RoomG k X.A) (hb : Binds X.K fd ps []) (hx : PassesAt CX X σ (E σ))
    (I : Inv X pins σ H s) (r : Vals vs us) (h : sp vs H Q (E σ)) : wpAny (model X.prog X.w) X.A (call (.ref f) us) (EP X pins σ Q) X.xe s := by
  have hl := G.len _ _ _ _ h
  rw [r.length] at hl
  have bd := hb s us I.kIn (by simpa using hl)
  simp only [List.append_nil] at bd
  refine wpAny_call (codeAny_mono (G.run X.A X.stack s H ⟨us, []⟩ us vs Q (E σ) hr I.env0 bd r h) fun res s' z => ?_)
  match res, z with
  | .error e, z => exact hx pins H s e s' I z
  | .ok (.ret u), z => exact I.after z
theorem pe_callG (G : FnG X.prog X.w X.K X.mg X.base CX k f fd ps sp) (hr : RoomG k X.A) (hg : Gl X x) (hm : X.mg x = some (.ref f)) (hk : PySem.W.keepIn X.K (.ref f) = true) (hb : Binds X.K fd ps []) (hx : ∀ σ, PassesAt CX X σ (E σ))
    (ha : PA X (e :: es) t) (hdb : (x == ("__debug__" : Str)) = false := by decide) (he : starEach (e :: es) X.env = (false, eval e X.env) :: starEach es X.env := by rfl) (hpl : (backTo pos (starEach es X.env)).any (·.1) = false := by rfl) :
    PE X (.Call (.Name x p) (e :: es) [] pos) (tCallS sp E t) where
  run pins s σ H Q I h := by
    refine wpAny_Call_Name_kw (ld_glob I hg hm (PySem.W.callWith_K (h₀ := X.base) I.ok.mod.kin hk (thn (ha.run pos pins s σ H _ I h) ?_) he hpl) hdb)
    rintro us s1 ⟨vs, H1, I1, r, q⟩
    exact ⟨I1.kIn, run_fnG G hr hb (hx σ) I1 r q⟩
theorem pe_callG0 (G : FnG X.prog X.w X.K X.mg X.base CX k f fd ps sp) (hr : RoomG k X.A) (hg : Gl X x) (hm : X.mg x = some (.ref f)) (hk : PySem.W.keepIn X.K (.ref f) = true) (hb : Binds X.K fd ps []) (hx : ∀ σ, PassesAt CX X σ (E σ))
    (hdb : (x == ("__debug__" : Str)) = false := by decide) : PE X (.Call (.Name x p) [] [] pos) (tCallS sp E tNil) where
  run pins s σ H Q I h := wpAny_Call_Name_kw (ld_glob I hg hm (PySem.W.callWith_K0 I.kIn hk (run_fnG (us := []) G hr hb (hx σ) I .nil h)) hdb)
end
end DL

set_option Elab.async false
set_option linter.all false
set_option autoImplicit false
set_option maxRecDepth 100000
/-! DLX10: calls of defs; a def by its body. -/
namespace DL
open PySem PySem.Spec PyProof.Rows L2
section
variable (K : PySem.W.Frag) (T : Tb)
/-- an argument as it is handed in -/
def ArgOk (F H : Hp) (v : V) : Slot → Prop
  | .no => True
  | .fz d => Rep K T F v d
  | .own d => ∃ p o, v = .ref p ∧ F p = none ∧ H p = some o ∧ RepO K T F o d
/-- the objects that are handed in to be changed -/
def OwnA (vs : List V) (args : List Slot) (b : Addr) : Prop := ∃ (i : Nat) (d : D), args[i]? = some (.own d) ∧ vs[i]? = some (.ref b)
/-- behind a call -/
structure Aft (M : List Nat) (F H : Hp) (vs : List V) (args : List Slot) (F' H' : Hp) (outs : List Slot) : Prop where
  same : Same F F'
  sub : Same F' H'
  keep : ∀ b o, H b = some o → ¬ OwnA vs args b → H' b = some o
  live : ∀ b o, H b = some o → ∃ o', H' b = some o'
  fnew : ∀ b o, F' b = some o → F b = some o ∨ H b = none ∨ OwnA vs args b
  len : outs.length = args.length
  out : ∀ i ∈ M, ∀ v s, vs[i]? = some v → outs[i]? = some s → ArgOk K T F' H' v s
/-- a result by itself -/
def RetC (F H H' : Hp) (v : V) : R → Prop
  | .fz d => Rep K T F v d
  | .fr d => ∃ p o, v = .ref p ∧ F p = none ∧ H' p = some o ∧ RepO K T F o d ∧ H p = none
/-- a def's promise, from its contract over data -/
def spC (n : Nat) (M : List Nat) (con : Con) : Sp := fun vs H Q E => ∃ F args Qc Ec, vs.length = n ∧ args.length = n ∧ Same F H ∧ (∀ (i : Nat) (v : V) (s : Slot), vs[i]? = some v → args[i]? = some s → ArgOk K T F H v s) ∧
  (∀ (i j : Nat) (d e : D) (p : Addr), args[i]? = some (.own d) → args[j]? = some (.own e) → vs[i]? = some (.ref p) → vs[j]? = some (.ref p) → i = j) ∧ (∀ (i : Nat) (d : D), args[i]? = some (.own d) → i ∈ M) ∧ con args Qc Ec ∧
  (∀ F' H' v r outs, Aft K T M F H vs args F' H' outs → RetC K T F' H H' v r → Qc r outs → Q v H') ∧
  (∀ F' H' cls d x outs, Aft K T M F H vs args F' H' outs → ExR K T F' cls d x → Ec x outs → E cls d H')
end
/-- a def as callers know it -/
structure Def (P : Program) (w : World) (K : PySem.W.Frag) (mg : Str → Option Value) (base : Heap) (T : Tb) (k : Nat) (f : Addr) (fd : FuncData) (ps : List Str) (M : List Nat) (con : Con) : Prop where
  ok : FnG P w K mg base (L2.CX P w) k f fd ps (spC K T ps.length M con)
  kp : PySem.W.keepIn K (.ref f) = true
section
variable {X : Cx} {T : Tb} {B : Bs} {M : List Nat} {W : EK} {F H : Hp} {ρ : Env} {σ : L2.St}
/-! ### arguments -/
def AVs (K : PySem.W.Frag) (T : Tb) (F : Hp) (σ : L2.St) : List V → List AV → Prop
  | [], [] => True
  | v :: vs, .v d :: as => Rep K T F v d ∧ AVs K T F σ vs as
  | v :: vs, .m i :: as => σ[i]? = some (some v) ∧ AVs K T F σ vs as
  | _, _ => False
theorem AVs.mono {K : PySem.W.Frag} {F' : Hp} (h : Same F F') : ∀ {vs : List V} {as : List AV}, AVs K T F σ vs as → AVs K T F' σ vs as
  | [], [], _ => trivial
  | _ :: _, .v _ :: _, q => ⟨q.1.mono h, AVs.mono h q.2⟩
  | _ :: _, .m _ :: _, q => ⟨q.1, AVs.mono h q.2⟩
  | [], _ :: _, q => q.elim
  | _ :: _, [], q => q.elim
/-- which arguments: m-slots as written, ref-like where the def may change -/
def AMatch : List DA → List AV → Prop
  | [], [] => True
  | .v _ :: as, .v _ :: bs => AMatch as bs
  | .r _ :: as, .v d :: bs => d.isRef = true ∧ AMatch as bs
  | .m i :: as, .m j :: bs => i = j ∧ AMatch as bs
  | _, _ => False
def lAV (K : PySem.W.Frag) (T : Tb) (B : Bs) (M : List Nat) (W : EK) (as : List DA) : TA := fun σ H Q => ∃ F ρ Qd, SR K T B M F H ρ σ ∧ dAVs as ρ Qd W ∧ ∀ F' H' ρ' vs bs, Same F F' → SR K T B M F' H' ρ' σ → AVs K T F' σ vs bs → AMatch as bs → Qd bs ρ' → Q vs H'
abbrev PDAV (X : Cx) (T : Tb) (B : Bs) (M : List Nat) (W : EK) (es : List Expr) (as : List DA) : Prop := PA X es (lAV X.K T B M W as)
variable {e : Expr} {es : List Expr} {f : DE} {as : List DA} {pos : Pos}
theorem pav_nil : PDAV X T B M W [] [] := pa_imp pa_nil fun σ H Q ⟨F, ρ, Qd, S, h, k⟩ => k F H ρ [] [] (Same.refl _) S trivial trivial h
theorem pav_v (he : PD X T B M W e f) (hr : PDAV X T B M W es as) (hs : starEach (e :: es) X.env = (false, eval e X.env) :: starEach es X.env := by rfl) : PDAV X T B M W (e :: es) (.v f :: as) :=
  pa_imp (pa_cons he hr hs) fun σ H Q ⟨F, ρ, Qd, S, h, k⟩ => by
    refine lE_run S h fun F1 H1 ρ1 v1 r1 e1 S1 R1 h1 => ?_
    exact ⟨F1, ρ1, _, S1, h1, fun F2 H2 ρ2 vs bs e2 S2 R2 mt h2 => k F2 H2 ρ2 _ (.v r1.d :: bs) (e1.trans e2) S2 ⟨R1.mono e2, R2⟩ mt h2⟩
theorem pav_r (he : PD X T B M W e f) (hr : PDAV X T B M W es as) (hs : starEach (e :: es) X.env = (false, eval e X.env) :: starEach es X.env := by rfl) : PDAV X T B M W (e :: es) (.r f :: as) :=
  pa_imp (pa_cons he hr hs) fun σ H Q ⟨F, ρ, Qd, S, h, k⟩ => by
    refine lE_run S h fun F1 H1 ρ1 v1 r1 e1 S1 R1 h1 => ?_
    exact ⟨F1, ρ1, _, S1, h1.2, fun F2 H2 ρ2 vs bs e2 S2 R2 mt h2 => k F2 H2 ρ2 _ (.v r1.d :: bs) (e1.trans e2) S2 ⟨R1.mono e2, R2⟩ ⟨h1.1, mt⟩ h2⟩
theorem SR.known {i : Nat} (S : SR X.K T B M F H ρ σ) (h : (ρ.at i).known = true) : ∃ v, σ[i]? = some (some v) := by
  have hs := S.slot i
  cases e : ρ.at i with
  | no => rw [e] at h; cases h
  | fz d => rw [e] at hs; obtain ⟨v, q, _⟩ := hs; exact ⟨v, q⟩
  | own d => rw [e] at hs; obtain ⟨p, o, q, _⟩ := hs; exact ⟨_, q⟩
theorem pav_m {i : Nat} {x : Str} {px : Pos} (hN : X.N[i]? = some x) (hv : Vis X.env.scope x) (hr : PDAV X T B M W es as) (hs : starEach (Expr.Name x px :: es) X.env = (false, eval (.Name x px) X.env) :: starEach es X.env := by rfl) (hd : (x == ("__debug__" : Str)) = false := by decide) (hcd : (x == ("__classdict__" : Str)) = false := by decide) :
    PDAV X T B M W (.Name x px :: es) (.m i :: as) :=
  pa_imp (pa_cons (pe_var hN hv hd hcd) hr hs) fun σ H Q ⟨F, ρ, Qd, S, ⟨h0, h⟩, k⟩ => by
    obtain ⟨v, ev⟩ := S.known h0
    exact ⟨v, ev, F, ρ, _, S, h, fun F2 H2 ρ2 vs bs e2 S2 R2 mt h2 => k F2 H2 ρ2 _ (.m i :: bs) e2 S2 ⟨ev, R2⟩ ⟨rfl, mt⟩ h2⟩
/-! ### what a call leaves -/
theorem AVs.len {K : PySem.W.Frag} : ∀ {vs : List V} {bs : List AV}, AVs K T F σ vs bs → vs.length = bs.length
  | [], [], _ => rfl
  | _ :: _, .v _ :: _, q => congrArg (· + 1) (AVs.len q.2)
  | _ :: _, .m _ :: _, q => congrArg (· + 1) (AVs.len q.2)
  | [], _ :: _, q => q.elim
  | _ :: _, [], q => q.elim
theorem AVs.getV {K : PySem.W.Frag} : ∀ {vs : List V} {bs : List AV} {i : Nat} {v : V} {d : D}, AVs K T F σ vs bs → vs[i]? = some v → bs[i]? = some (.v d) → Rep K T F v d
  | v :: vs, .v d :: bs, 0, _, _, q, h1, h2 => by simp at h1 h2; subst h1; subst h2; exact q.1
  | v :: vs, .m j :: bs, 0, _, _, q, h1, h2 => by simp at h2
  | v :: vs, .v d :: bs, i + 1, _, _, q, h1, h2 => AVs.getV (i := i) q.2 (by simpa using h1) (by simpa using h2)
  | v :: vs, .m j :: bs, i + 1, _, _, q, h1, h2 => AVs.getV (i := i) q.2 (by simpa using h1) (by simpa using h2)
  | [], [], _, _, _, _, h1, _ => by simp at h1
  | [], _ :: _, _, _, _, q, _, _ => q.elim
  | _ :: _, [], _, _, _, q, _, _ => q.elim
theorem AVs.getM {K : PySem.W.Frag} : ∀ {vs : List V} {bs : List AV} {i j : Nat} {v : V}, AVs K T F σ vs bs → vs[i]? = some v → bs[i]? = some (.m j) → σ[j]? = some (some v)
  | v :: vs, .v d :: bs, 0, _, _, q, h1, h2 => by simp at h2
  | v :: vs, .m j :: bs, 0, _, _, q, h1, h2 => by simp at h1 h2; subst h1; subst h2; exact q.1
  | v :: vs, .v d :: bs, i + 1, _, _, q, h1, h2 => AVs.getM (i := i) q.2 (by simpa using h1) (by simpa using h2)
  | v :: vs, .m j :: bs, i + 1, _, _, q, h1, h2 => AVs.getM (i := i) q.2 (by simpa using h1) (by simpa using h2)
  | [], [], _, _, _, _, h1, _ => by simp at h1
  | [], _ :: _, _, _, _, q, _, _ => q.elim
  | _ :: _, [], _, _, _, q, _, _ => q.elim
def mslots (bs : List AV) : List Nat := bs.filterMap fun a => match a with | .m i => some i | _ => none
theorem mem_mslots {bs : List AV} {i j : Nat} (h : bs[i]? = some (.m j)) : j ∈ mslots bs := List.mem_filterMap.mpr ⟨_, List.mem_of_getElem? h, rfl⟩
theorem nodup_m : ∀ {bs : List AV} {i j a : Nat}, (mslots bs).Nodup → bs[i]? = some (.m a) → bs[j]? = some (.m a) → i = j
  | [], _, _, _, _, h, _ => by simp at h
  | .v d :: bs, 0, _, _, _, h, _ => by simp at h
  | .v d :: bs, _, 0, _, _, _, h => by simp at h
  | .v d :: bs, i + 1, j + 1, a, nd, h1, h2 => by
    have nd' : (mslots bs).Nodup := nd
    exact congrArg (· + 1) (nodup_m (i := i) (j := j) nd' (by simpa using h1) (by simpa using h2))
  | .m b :: bs, 0, 0, _, _, _, _ => rfl
  | .m b :: bs, 0, j + 1, a, nd, h1, h2 => by
    have e : b = a := by simpa using h1
    subst e
    have nd' : (b :: mslots bs).Nodup := nd
    exact absurd (mem_mslots (by simpa using h2)) (List.nodup_cons.mp nd').1
  | .m b :: bs, i + 1, 0, a, nd, h1, h2 => by
    have e : b = a := by simpa using h2
    subst e
    have nd' : (b :: mslots bs).Nodup := nd
    exact absurd (mem_mslots (by simpa using h1)) (List.nodup_cons.mp nd').1
  | .m b :: bs, i + 1, j + 1, a, nd, h1, h2 => by
    have nd' : (b :: mslots bs).Nodup := nd
    exact congrArg (· + 1) (nodup_m (i := i) (j := j) (List.nodup_cons.mp nd').2 (by simpa using h1) (by simpa using h2))
theorem AMatch.slots : ∀ {as : List DA} {bs : List AV}, AMatch as bs → mslots bs = as.filterMap DA.slot?
  | [], [], _ => rfl
  | .v _ :: as, .v _ :: bs, h => AMatch.slots (as := as) (bs := bs) h
  | .r _ :: as, .v _ :: bs, h => AMatch.slots (as := as) (bs := bs) h.2
  | .m i :: as, .m j :: bs, h => by
    obtain ⟨rfl, h⟩ := h
    show i :: mslots bs = i :: as.filterMap DA.slot?
    rw [AMatch.slots h]
  | [], _ :: _, h => h.elim
  | .v _ :: _, [], h => h.elim
  | .r _ :: _, [], h => h.elim
  | .m _ :: _, [], h => h.elim
  | .v _ :: _, .m _ :: _, h => h.elim
  | .r _ :: _, .m _ :: _, h => h.elim
  | .m _ :: _, .v _ :: _, h => h.elim
theorem AMatch.len : ∀ {as : List DA} {bs : List AV}, AMatch as bs → as.length = bs.length
  | [], [], _ => rfl
  | .v _ :: as, .v _ :: bs, h => congrArg (· + 1) (AMatch.len (as := as) (bs := bs) h)
  | .r _ :: as, .v _ :: bs, h => congrArg (· + 1) (AMatch.len (as := as) (bs := bs) h.2)
  | .m i :: as, .m j :: bs, h => congrArg (· + 1) (AMatch.len h.2)
  | [], _ :: _, h => h.elim
  | .v _ :: _, [], h => h.elim
  | .r _ :: _, [], h => h.elim
  | .m _ :: _, [], h => h.elim
  | .v _ :: _, .m _ :: _, h => h.elim
  | .r _ :: _, .m _ :: _, h => h.elim
  | .m _ :: _, .v _ :: _, h => h.elim
theorem AMatch.at_m : ∀ {as : List DA} {bs : List AV} {i j : Nat}, AMatch as bs → bs[i]? = some (.m j) → ∃ a, as[i]? = some a ∧ a.mut = true
  | .m a :: as, .m b :: bs, 0, j, h, e => ⟨_, rfl, rfl⟩
  | .v _ :: as, .v _ :: bs, 0, j, h, e => by simp at e
  | .r _ :: as, .v _ :: bs, 0, j, h, e => by simp at e
  | .v _ :: as, .v _ :: bs, i + 1, j, h, e => by simpa using AMatch.at_m (as := as) (bs := bs) (i := i) (j := j) h (by simpa using e)
  | .r _ :: as, .v _ :: bs, i + 1, j, h, e => by simpa using AMatch.at_m (as := as) (bs := bs) (i := i) (j := j) h.2 (by simpa using e)
  | .m _ :: as, .m _ :: bs, i + 1, j, h, e => by simpa using AMatch.at_m (as := as) (bs := bs) (i := i) (j := j) h.2 (by simpa using e)
  | [], [], _, _, _, e => by simp at e
  | [], _ :: _, _, _, h, _ => h.elim
  | .v _ :: _, [], _, _, h, _ => h.elim
  | .r _ :: _, [], _, _, h, _ => h.elim
  | .m _ :: _, [], _, _, h, _ => h.elim
  | .v _ :: _, .m _ :: _, _, _, h, _ => h.elim
  | .r _ :: _, .m _ :: _, _, _, h, _ => h.elim
  | .m _ :: _, .v _ :: _, _, _, h, _ => h.elim
theorem backA_len : ∀ (bs : List AV) (outs : List Slot) (ρ : Env), (backA bs outs ρ).length = ρ.length
  | [], _, _ => rfl
  | .m i :: bs, [], _ => rfl
  | .v _ :: bs, [], _ => rfl
  | .m i :: bs, s :: ss, ρ => by
    show (backA bs ss (ρ.set i s)).length = _
    rw [backA_len bs ss, List.length_set]
  | .v _ :: bs, _ :: ss, ρ => backA_len bs ss ρ
theorem backA_at : ∀ {bs : List AV} {outs : List Slot} {ρ : Env} {j : Nat}, outs.length = bs.length → ((∀ (i : Nat), bs[i]? ≠ some (AV.m j)) ∧ (backA bs outs ρ).at j = ρ.at j) ∨ (∃ (i : Nat), bs[i]? = some (AV.m j) ∧ outs[i]? = some ((backA bs outs ρ).at j)) ∨ (backA bs outs ρ).at j = .no
  | [], _, _, _, _ => .inl ⟨fun i h => by simp at h, rfl⟩
  | _ :: bs, [], _, _, h => by simp at h
  | .v _ :: bs, s :: ss, ρ, j, hl => by
    rcases backA_at (bs := bs) (outs := ss) (ρ := ρ) (j := j) (by simpa using hl) with ⟨h1, h2⟩ | ⟨i, h1, h2⟩ | h
    · refine .inl ⟨fun i => ?_, h2⟩
      cases i with
      | zero => simp
      | succ i => simpa using h1 i
    · exact .inr (.inl ⟨i + 1, by simpa using h1, by rw [List.getElem?_cons_succ]; exact h2⟩)
    · exact .inr (.inr h)
  | .m i :: bs, s :: ss, ρ, j, hl => by
    rcases backA_at (bs := bs) (outs := ss) (ρ := ρ.set i s) (j := j) (by simpa using hl) with ⟨h1, h⟩ | ⟨i', h1, h2⟩ | h
    · have e : (backA (.m i :: bs) (s :: ss) ρ).at j = Env.at (ρ.set i s) j := h
      by_cases hj : i = j
      · subst hj
        by_cases hlt : i < ρ.length
        · rw [Env.at_set_same hlt] at e
          exact .inr (.inl ⟨0, rfl, by rw [e]; rfl⟩)
        · have z : Env.at (ρ.set i s) i = .no := at_oob (by simpa using hlt)
          exact .inr (.inr (e.trans z))
      · rw [Env.at_set_ne hj] at e
        refine .inl ⟨fun i' => ?_, e⟩
        cases i' with
        | zero => intro z; simp at z; exact hj z
        | succ i' => simpa using h1 i'
    · exact .inr (.inl ⟨i' + 1, by simpa using h1, by rw [List.getElem?_cons_succ]; exact h2⟩)
    · exact .inr (.inr h)
theorem SR.after {Mc : List Nat} {F' H' : Hp} {vs : List V} {bs : List AV} {outs : List Slot} (S : SR X.K T B M F H ρ σ) (R : AVs X.K T F σ vs bs) (ok : bs.all (AV.ok ρ) = true) (hm : ∀ (i j : Nat), bs[i]? = some (.m j) → i ∈ Mc)
    (A : Aft X.K T Mc F H vs (bs.map (avSlot ρ)) F' H' outs) : SR X.K T B M F' H' (backA bs outs ρ) σ := by
  have hlen : outs.length = bs.length := by rw [A.len, List.length_map]
  have isOwn : ∀ (i j : Nat), bs[i]? = some (.m j) → ∃ d, ρ.at j = .own d := fun i j h => by
    have := List.all_eq_true.mp ok _ (List.mem_of_getElem? h)
    have z : (ρ.at j).isOwn = true := this
    cases e : ρ.at j with
    | own d => exact ⟨d, rfl⟩
    | fz d => rw [e] at z; cases z
    | no => rw [e] at z; cases z
  have argAt : ∀ (i : Nat), (bs.map (avSlot ρ))[i]? = (bs[i]?).map (avSlot ρ) := fun i => by rw [List.getElem?_map]
  have valAt : ∀ (i j : Nat), bs[i]? = some (.m j) → ∃ v, vs[i]? = some v ∧ σ[j]? = some (some v) := fun i j h => by
    have hi : i < bs.length := (List.getElem?_eq_some_iff.mp h).1
    have hv : i < vs.length := by rw [R.len]; exact hi
    exact ⟨_, List.getElem?_eq_getElem hv, R.getM (List.getElem?_eq_getElem hv) h⟩
  -- what is handed in to be changed is own
  have ownA : ∀ b, OwnA vs (bs.map (avSlot ρ)) b → ∃ j d, ρ.at j = .own d ∧ σ[j]? = some (some (.ref b)) := by
    rintro b ⟨i, d, h1, h2⟩
    rw [argAt] at h1
    cases e : bs[i]? with
    | none => rw [e] at h1; cases h1
    | some a =>
      rw [e] at h1
      cases a with
      | v d' => cases h1
      | m j =>
        have h1 : some (ρ.at j) = some (.own d) := h1
        exact ⟨j, d, Option.some.inj h1, R.getM h2 e⟩
  have own_back : ∀ j d, (backA bs outs ρ).at j = .own d → ∃ d', ρ.at j = .own d' := fun j d h => by
    rcases backA_at (bs := bs) (outs := outs) (ρ := ρ) (j := j) hlen with ⟨_, q⟩ | ⟨i, h1, h2⟩ | q
    · exact ⟨d, q ▸ h⟩
    · exact isOwn i j h1
    · rw [h] at q; cases q
  refine ⟨A.sub, fun b o e n => ?_, fun b o e => ?_, S.f0.trans A.same, fun b o e => ?_, by rw [backA_len, S.len], fun j => ?_, fun j d p e1 e2 => ?_, fun j k d e p e1 e2 e3 e4 => ?_, S.pin⟩
  · refine A.keep b o (S.keep b o e n) fun z => ?_
    obtain ⟨j, d, z1, z2⟩ := ownA b z
    rcases S.newown j d b z1 z2 with q | q
    · rw [q] at e; cases e
    · exact n q
  · obtain ⟨o', e'⟩ := S.live b o e
    exact A.live b o' e'
  · rcases A.fnew b o e with q | q | q
    · exact S.fnew b o q
    · exact .inr (.inl (S.gone q))
    · obtain ⟨j, d, z1, z2⟩ := ownA b q
      exact .inr (S.newown j d b z1 z2)
  · rcases backA_at (bs := bs) (outs := outs) (ρ := ρ) (j := j) hlen with ⟨hin, q⟩ | ⟨i, h1, h2⟩ | q
    · · rw [q]
        have hs := S.slot j
        cases hd : ρ.at j with
        | no => trivial
        | fz d => rw [hd] at hs; obtain ⟨v, z1, z2⟩ := hs; exact ⟨v, z1, z2.mono A.same⟩
        | own d =>
          rw [hd] at hs
          obtain ⟨p, o, z1, z2, z3, z4⟩ := hs
          have nA : ¬ OwnA vs (bs.map (avSlot ρ)) p := fun ⟨i, d', y1, y2⟩ => by
            rw [argAt] at y1
            cases e : bs[i]? with
            | none => rw [e] at y1; cases y1
            | some a =>
              rw [e] at y1
              cases a with
              | v d' => cases y1
              | m l =>
                have y1 : some (ρ.at l) = some (.own d') := y1
                have el := S.inj j l d d' p hd (Option.some.inj y1) z1 (R.getM y2 e)
                subst el
                exact hin i e
          refine ⟨p, o, z1, ?_, A.keep _ _ z3 nA, z4.mono A.same⟩
          cases y : F' p with
          | none => rfl
          | some u =>
            rcases A.fnew p u y with r | r | r
            · rw [z2] at r; cases r
            · rw [z3] at r; cases r
            · exact absurd r nA
    · obtain ⟨v, hv, hs⟩ := valAt i j h1
      have := A.out i (hm i j h1) v _ hv h2
      rw [hs]
      cases hd : (backA bs outs ρ).at j with
      | no => trivial
      | fz d => rw [hd] at this; exact ⟨v, rfl, this⟩
      | own d =>
        rw [hd] at this
        obtain ⟨p, o, rfl, z2, z3, z4⟩ := this
        exact ⟨p, o, rfl, z2, z3, z4⟩
    · rw [q]; trivial
  · obtain ⟨d', hd⟩ := own_back j d e1
    exact S.newown j d' p hd e2
  · obtain ⟨d', hd⟩ := own_back j d e1
    obtain ⟨d'', hd'⟩ := own_back k e e2
    exact S.inj j k d' d'' p hd hd' e3 e4
/-! ### the call -/
/-- the def's arguments fit its places that may be changed -/
def fitA (as : List DA) (Mc : List Nat) : Bool := decide ((as.filterMap DA.slot?).Nodup) && (List.range as.length).all fun i => match as[i]? with
  | some a => a.mut == Mc.contains i
  | none => true
theorem fitA_of {as : List DA} {bs : List AV} {Mc : List Nat} (h : fitA as Mc = true) (m : AMatch as bs) : (mslots bs).Nodup ∧ ∀ (i j : Nat), bs[i]? = some (.m j) → i ∈ Mc := by
  unfold fitA at h
  rw [Bool.and_eq_true] at h
  refine ⟨by rw [m.slots]; exact of_decide_eq_true h.1, fun i j e => ?_⟩
  obtain ⟨a, h1, h2⟩ := m.at_m e
  have hi := (List.getElem?_eq_some_iff.mp h1).1
  have := List.all_eq_true.mp h.2 i (List.mem_range.mpr hi)
  rw [h1] at this
  simp only [h2, beq_iff_eq] at this
  simpa using this.symm
theorem call_of {con : Con} {as : List DA} {n : Nat} {Mc : List Nat} {H : Hp} {Q : VK} (hn : as.length = n) (hf : fitA as Mc = true) (h : lE X.K T B M W (dCall con as) σ H Q) :
    lAV X.K T B M W as σ H fun vs H1 => spC X.K T n Mc con vs H1 Q (WE (lW X.K T B M W) σ) := by
  obtain ⟨F, ρ, Qd, S, h, k⟩ := h
  refine ⟨F, ρ, _, S, h, fun F1 H1 ρ1 vs bs e1 S1 R1 mt q => ?_⟩
  obtain ⟨ok, q⟩ := q
  obtain ⟨nd, hm⟩ := fitA_of hf mt
  have hlen : vs.length = n := by rw [R1.len, ← mt.len, hn]
  have argAt : ∀ (i : Nat), (bs.map (avSlot ρ1))[i]? = (bs[i]?).map (avSlot ρ1) := fun i => by rw [List.getElem?_map]
  have ownAt : ∀ (i : Nat) (d : D), (bs.map (avSlot ρ1))[i]? = some (.own d) → ∃ j, bs[i]? = some (.m j) ∧ ρ1.at j = .own d := fun i d h => by
    rw [argAt] at h
    cases e : bs[i]? with
    | none => rw [e] at h; cases h
    | some a =>
      rw [e] at h
      cases a with
      | v d' => cases h
      | m j => exact ⟨j, rfl, Option.some.inj h⟩
  refine ⟨F1, bs.map (avSlot ρ1), _, _, hlen, by rw [List.length_map, ← mt.len, hn], S1.sub, fun i v s h1 h2 => ?_, fun i j d e p h1 h2 h3 h4 => ?_, fun i d h1 => ?_, q, fun F2 H2 v r outs A R q2 => ?_, fun F2 H2 cls d x outs A ex q2 => ?_⟩
  · rw [argAt] at h2
    cases e : bs[i]? with
    | none => rw [e] at h2; cases h2
    | some a =>
      rw [e] at h2
      cases h2
      cases a with
      | v d => exact R1.getV h1 e
      | m j =>
        have hs := S1.slot j
        have hv := R1.getM h1 e
        show ArgOk X.K T F1 H1 v (ρ1.at j)
        rw [hv] at hs
        cases hd : ρ1.at j with
        | no => trivial
        | fz d => rw [hd] at hs; obtain ⟨v', z1, z2⟩ := hs; cases z1; exact z2
        | own d => rw [hd] at hs; obtain ⟨p, o, z1, z2, z3, z4⟩ := hs; cases z1; exact ⟨p, o, rfl, z2, z3, z4⟩
  · obtain ⟨a, e1, f1⟩ := ownAt i d h1
    obtain ⟨b, e2, f2⟩ := ownAt j e h2
    have := S1.inj a b d e p f1 f2 (R1.getM h3 e1) (R1.getM h4 e2)
    subst this
    exact nodup_m nd e1 e2
  · obtain ⟨a, e1, f1⟩ := ownAt i d h1
    exact hm i a e1
  · have S2 := S1.after R1 ok hm A
    refine k F2 H2 _ v r (e1.trans A.same) S2 ?_ q2
    cases r with
    | fz d => exact R
    | fr d =>
      obtain ⟨p, o, rfl, z1, z2, z3, z4⟩ := R
      refine ⟨p, o, rfl, z1, z2, z3, S1.gone z4, fun i e hi hs => ?_⟩
      obtain ⟨d', hd⟩ : ∃ d', ρ1.at i = .own d' := by
        rcases backA_at (bs := bs) (outs := outs) (ρ := ρ1) (j := i) (by rw [A.len, List.length_map]) with ⟨_, y⟩ | ⟨l, y1, y2⟩ | y
        · exact ⟨e, y ▸ hi⟩
        · have := List.all_eq_true.mp ok _ (List.mem_of_getElem? y1)
          have z : (ρ1.at i).isOwn = true := this
          cases q : ρ1.at i with
          | own d => exact ⟨d, rfl⟩
          | fz d => rw [q] at z; cases z
          | no => rw [q] at z; cases z
        · rw [hi] at y; cases y
      obtain ⟨p', o', y1, y2, y3, y4⟩ := S1.ownAt hd
      rw [hs] at y1
      cases y1
      rw [z4] at y3
      cases y3
  · exact ⟨F2, _, x, S1.after R1 ok hm A, ex, q2⟩
variable {k : Nat} {fa : Addr} {fd : FuncData} {ps : List Str} {Mc : List Nat} {con : Con} {x : Str} {p : Pos}
theorem pd_call (G : Def X.prog X.w X.K X.mg X.base T k fa fd ps Mc con) (hr : RoomG k X.A) (tk : Takes X (lW X.K T B M W)) (hg : Gl X x) (hm : X.mg x = some (.ref fa)) (hb : Binds X.K fd ps []) (ha : PDAV X T B M W (e :: es) as) (hn : as.length = ps.length := by rfl) (hf : fitA as Mc = true := by rfl)
    (hdb : (x == ("__debug__" : Str)) = false := by decide) (he : starEach (e :: es) X.env = (false, eval e X.env) :: starEach es X.env := by rfl) (hpl : (backTo pos (starEach es X.env)).any (·.1) = false := by rfl) :
    PD X T B M W (.Call (.Name x p) (e :: es) [] pos) (dCall con as) :=
  pe_imp (pe_callG G.ok hr hg hm G.kp hb (fun σ => passAt tk σ) ha hdb he hpl) fun σ H Q z => call_of hn hf z
/-! ### a def by its body -/
theorem start_at {N : List Str} {vs : List V} {i : Nat} {v : V} (h : vs[i]? = some v) : (L2.start N vs)[i]? = some (some v) := by
  have hi := (List.getElem?_eq_some_iff.mp h).1
  unfold L2.start
  rw [List.getElem?_append_left (by simpa using hi), List.getElem?_map, h]
  rfl
theorem startE_at {n : Nat} {args : List Slot} {i : Nat} : Env.at (startE n args) i = (args[i]?).getD .no := by
  unfold Env.at startE
  by_cases h : i < args.length
  · rw [List.getElem?_append_left h]
  · rw [List.getElem?_append_right (by omega), List.getElem?_eq_none (by omega : args.length ≤ i), List.getElem?_replicate]
    split <;> rfl
end
section
variable {P : Program} {w : World} {K : PySem.W.Frag} {mg : Str → Option Value} {base : Heap} {T : Tb}
/-- the context of a def's body -/
abbrev BX (P : Program) (w : World) (K : PySem.W.Frag) (mg : Str → Option Value) (base : Heap) (N : List Str) (qual : Str) (sc : Scope) (f : Addr) (cdv : Value) (A : Around) (outer : List PySem.Env) (s : Shared) (H : Hp) (E : XK) : Cx := cxOf (L2.CX P w) P w K mg base N qual sc f cdv A outer s H E
theorem outsE_len : ∀ (n : Nat) (ρ : Env), (outsE n ρ).length = n
  | 0, _ => rfl
  | n + 1, [] => congrArg (· + 1) (outsE_len n [])
  | n + 1, _ :: ρ => congrArg (· + 1) (outsE_len n ρ)
theorem outsE_at : ∀ {n i : Nat} {ρ : Env}, i < n → (outsE n ρ)[i]? = some (ρ.at i)
  | n + 1, 0, [], _ => rfl
  | n + 1, 0, _ :: _, _ => rfl
  | n + 1, i + 1, [], h => by
    show (outsE n [])[i]? = _
    rw [outsE_at (by omega)]
    rfl
  | n + 1, i + 1, _ :: ρ, h => by
    show (outsE n ρ)[i]? = _
    rw [outsE_at (by omega)]
    rfl
theorem bodyD {qual : Str} {st : Stmt} {f : Addr} {N ps : List Str} {M : List Nat} {k : Nat} {body : DS} {con : Con} (S : FnScope N ps (defScope st)) (hM : (M.all fun i => decide (i < ps.length)) = true)
    (der : ∀ (cdv : Value) (A : Around) (outer : List PySem.Env) (s : Shared) (H : Hp) (E : XK) (B : Bs) (W : EK), RoomG k (A.deeper (envOfC qual (defScope st) s.heap.objs.size f cdv)) → Takes (BX P w K mg base N qual (defScope st) f cdv A outer s H E) (lW K T B M W) →
      PassesOwn (model P w) (BX P w K mg base N qual (defScope st) f cdv A outer s H E).A (BX P w K mg base N qual (defScope st) f cdv A outer s H E).env (BX P w K mg base N qual (defScope st) f cdv A outer s H E).xe →
      PDSs (BX P w K mg base N qual (defScope st) f cdv A outer s H E) T B M W (defBody st) body)
    (h : ∀ args Q E, args.length = ps.length → con args Q E → runD N.length body args Q E) :
    ∀ (cdv : Value) (A : Around) (outer : List PySem.Env) (s : Shared) (H : Hp) (vs : List V) (Q : VK) (E : XK), RoomG k (A.deeper (envOfC qual (defScope st) s.heap.objs.size f cdv)) → spC K T ps.length M con vs H Q E →
      ∃ t, PSs (BX P w K mg base N qual (defScope st) f cdv A outer s H E) (defBody st) t ∧ t { nx := fun _ H' => Q .non H', rt := Q } (start N vs) H := by
  intro cdv A outer s H vs Q E hr hsp
  obtain ⟨F0, args, Qc, Ec, hl, hal, hsame, hargs, hinj, hown, hcon, hQ, hE⟩ := hsp
  have hpl : ps.length ≤ N.length := by have := congrArg List.length S.pre; rw [List.length_take] at this; omega
  let B : Bs := ⟨F0, H, OwnA vs args, fun i => (vs[i]?).getD .non⟩
  have S0 : SR K T B M F0 H (startE N.length args) (L2.start N vs) := by
    refine ⟨hsame, fun b o e _ => e, fun b o e => ⟨o, e⟩, Same.refl _, fun b o e => .inl e, ?_, fun i => ?_, fun i d p e1 e2 => ?_, fun i j d e p e1 e2 e3 e4 => ?_, fun i hi => ?_⟩
    · unfold startE L2.start
      rw [List.length_append, List.length_append, List.length_map, List.length_replicate, List.length_replicate, hal, hl]
    · rw [startE_at]
      by_cases hi : i < args.length
      · rw [List.getElem?_eq_getElem hi]
        have hv : i < vs.length := by omega
        rw [start_at (List.getElem?_eq_getElem hv)]
        have := hargs i _ _ (List.getElem?_eq_getElem hv) (List.getElem?_eq_getElem hi)
        show SlotOk K T F0 H _ args[i]
        cases hd : args[i] with
        | no => trivial
        | fz d => rw [hd] at this; exact ⟨_, rfl, this⟩
        | own d =>
          rw [hd] at this
          obtain ⟨p, o, e, z⟩ := this
          exact ⟨p, o, by rw [e], z⟩
      · have z : args[i]? = none := List.getElem?_eq_none (by omega)
        rw [z]
        trivial
    · rw [startE_at] at e1
      by_cases hi : i < args.length
      · rw [List.getElem?_eq_getElem hi] at e1
        have hv : i < vs.length := by omega
        rw [start_at (List.getElem?_eq_getElem hv)] at e2
        have e1 : args[i] = .own d := e1
        exact .inr ⟨i, d, by rw [List.getElem?_eq_getElem hi, e1], by rw [List.getElem?_eq_getElem hv]; simpa using e2⟩
      · rw [List.getElem?_eq_none (by omega)] at e1
        cases e1
    · rw [startE_at] at e1 e2
      by_cases hi : i < args.length
      · by_cases hj : j < args.length
        · rw [List.getElem?_eq_getElem hi] at e1
          rw [List.getElem?_eq_getElem hj] at e2
          have hv : i < vs.length := by omega
          have hw : j < vs.length := by omega
          rw [start_at (List.getElem?_eq_getElem hv)] at e3
          rw [start_at (List.getElem?_eq_getElem hw)] at e4
          have e1 : args[i] = .own d := e1
          have e2 : args[j] = .own e := e2
          exact hinj i j d e p (by rw [List.getElem?_eq_getElem hi, e1]) (by rw [List.getElem?_eq_getElem hj, e2]) (by rw [List.getElem?_eq_getElem hv]; simpa using e3) (by rw [List.getElem?_eq_getElem hw]; simpa using e4)
        · rw [List.getElem?_eq_none (by omega)] at e2
          cases e2
      · rw [List.getElem?_eq_none (by omega)] at e1
        cases e1
    · have hi' : i < ps.length := of_decide_eq_true (List.all_eq_true.mp hM i hi)
      have hv : i < vs.length := by omega
      rw [start_at (List.getElem?_eq_getElem hv)]
      show _ = some (some ((vs[i]?).getD .non))
      rw [List.getElem?_eq_getElem hv]
      rfl
  have aft : ∀ {F' H' : Hp} {ρ' : Env} {σ' : L2.St}, SR K T B M F' H' ρ' σ' → Aft K T M F0 H vs args F' H' (outsE args.length ρ') := fun {F' H' ρ' σ'} S' => by
    refine ⟨S'.f0, S'.sub, S'.keep, S'.live, S'.fnew, ?_, fun i hi v s hv hs => ?_⟩
    · exact outsE_len _ _
    · have hi' : i < args.length := by rw [hal]; exact of_decide_eq_true (List.all_eq_true.mp hM i hi)
      rw [outsE_at hi'] at hs
      have hs' : ρ'.at i = s := Option.some.inj hs
      have hp := S'.pin i hi
      have hP : B.P i = v := by show (vs[i]?).getD .non = v; rw [hv]; rfl
      rw [hP] at hp
      have sl := S'.slot i
      rw [hs', hp] at sl
      cases s with
      | no => trivial
      | fz d => obtain ⟨v', z1, z2⟩ := sl; cases z1; exact z2
      | own d => obtain ⟨p, o, z1, z⟩ := sl; cases z1; exact ⟨p, o, rfl, z⟩
  have ret : ∀ {F' H' : Hp} {ρ' : Env} {σ' : L2.St} {v : V} {r : R}, RetV K T B F' H' ρ' σ' v r → RetC K T F' H H' v r := fun {F' H' ρ' σ' v r} R => by
    cases r with
    | fz d => exact R
    | fr d => obtain ⟨p, o, z1, z2, z3, z4, z5, _⟩ := R; exact ⟨p, o, z1, z2, z3, z4, z5⟩
  have body_ok := h args Qc Ec hal hcon
  have tk : Takes (BX P w K mg base N qual (defScope st) f cdv A outer s H E) (lW K T B M fun x ρ => Ec x (outsE args.length ρ)) :=
    Takes.imp (takes_of rfl rfl rfl rfl) fun c d σ' H' ⟨F', ρ', x, S', ex, q⟩ => hE F' H' c d x _ (aft S') ex q
  refine ⟨_, der cdv A outer s H E B _ hr tk (passes_of rfl), F0, _, _, S0, body_ok, fun F' H' ρ' σ' _ S' q => ?_, fun F' H' ρ' σ' v r _ S' R q => ?_, fun _ _ _ _ _ _ q => q, fun _ _ _ _ _ _ q => q⟩
  · exact hQ F' H' .non (.fz .non) _ (aft S') .non q
  · exact hQ F' H' v r _ (aft S') (ret R) q
theorem fnD {x qual : Str} {st : Stmt} {f : Addr} {fd : FuncData} {N ps : List Str} {M : List Nat} {k : Nat} {body : DS} {con : Con} (F : Fun K x qual st f fd) (S : FnScope N ps (defScope st)) (hM : (M.all fun i => decide (i < ps.length)) = true)
    (der : ∀ (cdv : Value) (A : Around) (outer : List PySem.Env) (s : Shared) (H : Hp) (E : XK) (B : Bs) (W : EK), RoomG k (A.deeper (envOfC qual (defScope st) s.heap.objs.size f cdv)) → Takes (BX P w K mg base N qual (defScope st) f cdv A outer s H E) (lW K T B M W) →
      PassesOwn (model P w) (BX P w K mg base N qual (defScope st) f cdv A outer s H E).A (BX P w K mg base N qual (defScope st) f cdv A outer s H E).env (BX P w K mg base N qual (defScope st) f cdv A outer s H E).xe →
      PDSs (BX P w K mg base N qual (defScope st) f cdv A outer s H E) T B M W (defBody st) body)
    (h : ∀ args Q E, args.length = ps.length → con args Q E → runD N.length body args Q E) : Def P w K mg base T (k + 1) f fd ps M con :=
  ⟨fnG_of F S (fun vs H Q E ⟨_, _, _, _, hl, _⟩ => hl) (bodyD S hM der h), F.kp⟩
end
end DL

set_option Elab.async false
set_option linter.all false
set_option autoImplicit false
set_option maxRecDepth 100000
/-! DLX11: built-in functions, methods of texts. -/
namespace DL
open PySem PySem.Spec PyProof.Rows L2
section
variable {X : Cx} {T : Tb} {B : Bs} {M : List Nat} {W : EK} {F H : Hp} {ρ : Env} {σ : L2.St}
variable {a b c e : Expr} {f g h : DE} {pos : Pos}
theorem repL1 {K : PySem.W.Frag} {vs : List V} {d : D} (r : RepL K T F vs [d]) : ∃ v, vs = [v] ∧ Rep K T F v d := by
  cases r with
  | cons r rs => cases rs; exact ⟨_, rfl, r⟩
theorem repL2 {K : PySem.W.Frag} {vs : List V} {d e : D} (r : RepL K T F vs [d, e]) : ∃ v w, vs = [v, w] ∧ Rep K T F v d ∧ Rep K T F w e := by
  cases r with
  | cons r rs =>
    obtain ⟨w, rfl, r2⟩ := repL1 rs
    exact ⟨_, w, rfl, r, r2⟩
/-! ### len -/
def rLen (X : Cx) : List V → Hp → VK → Prop := fun xs H Q => (∃ x n, xs = [x] ∧ LenV X.K x H n ∧ Q (.int n) H) ∨ ∃ a kvs, xs = [V.ref a] ∧ H a = some (.dK kvs) ∧ Q (.int kvs.length) H
theorem call_lenA : CallR X (.builtin "len") (rLen X) := call_len.or call_lenD
theorem ok_len : DL.FnR X.K T lenF (rLen X) := by
  intro F H vs ds k Q s r ho kk
  cases ds with
  | nil => exact ho.elim
  | cons x rest =>
    cases rest with
    | cons _ _ => exact ho.elim
    | nil =>
      obtain ⟨v, rfl, r1⟩ := repL1 r
      have ho : lenD x k := ho
      cases x with
      | str l =>
        obtain ⟨rfl, z⟩ := r1.str_inv
        exact .inl ⟨_, l.length, rfl, ⟨z.len, (tx_len l).symm⟩, kk _ _ _ (.fz (.int _)) ho⟩
      | lst xs =>
        obtain ⟨p, vs, rfl, hp, ra⟩ := r1.lst_inv
        exact .inl ⟨_, xs.length, rfl, .inl ⟨vs, .of (s _ _ hp), ra.length.symm⟩, kk _ _ _ (.fz (.int _)) ho⟩
      | tup xs =>
        obtain ⟨p, vs, rfl, hp, ra⟩ := r1.tup_inv
        exact .inl ⟨_, xs.length, rfl, .inr ⟨vs, .of (s _ _ hp), ra.length.symm⟩, kk _ _ _ (.fz (.int _)) ho⟩
      | frl xs =>
        obtain ⟨p, vs, rfl, hp, ra⟩ := r1.frl_inv
        exact .inl ⟨_, xs.length, rfl, .inl ⟨vs, s.seq hp, ra.length.symm⟩, kk _ _ _ (.fz (.int _)) ho⟩
      | dct kvs =>
        obtain ⟨p, vs, rfl, hp, ra⟩ := r1.dct_inv
        exact .inr ⟨p, vs, rfl, s _ _ hp, by rw [ra.length]; exact kk _ _ _ (.fz (.int _)) ho⟩
      | _ => exact ho.elim
/-! ### lists of one kind -/
theorem repL_bls {K : PySem.W.Frag} : ∀ {bs : List Bool} {vs : List V}, RepL K T F vs (bs.map D.bl) → vs = bs.map V.bl
  | [], _, .nil => rfl
  | b :: bs, _, .cons r rs => by rw [r.bl_inv, repL_bls rs]; rfl
theorem repL_ints {K : PySem.W.Frag} : ∀ {bs : List Int} {vs : List V}, RepL K T F vs (bs.map D.int) → vs = bs.map V.int
  | [], _, .nil => rfl
  | b :: bs, _, .cons r rs => by rw [r.int_inv, repL_ints rs]; rfl
theorem repL_strs {K : PySem.W.Frag} : ∀ {bs : List Tx} {vs : List V}, RepL K T F vs (bs.map D.str) → vs = (bs.map tx).map V.str ∧ ∀ x ∈ bs, okTx x
  | [], _, .nil => ⟨rfl, fun _ h => nomatch h⟩
  | b :: bs, _, .cons r rs => by
    obtain ⟨e, z⟩ := r.str_inv
    obtain ⟨e2, z2⟩ := repL_strs rs
    refine ⟨by rw [e, e2]; rfl, fun x hx => ?_⟩
    rcases List.mem_cons.mp hx with h | h
    · rw [h]; exact z
    · exact z2 x h
theorem repL_of_ints {K : PySem.W.Frag} : ∀ (ns : List Int), RepL K T F (ns.map V.int) (ns.map D.int)
  | [] => .nil
  | n :: ns => .cons (.int n) (repL_of_ints ns)
theorem ok_all : DL.FnR X.K T allF (rAll X.K) := by
  intro F H vs ds k Q s r ho kk
  unfold allF at ho
  split at ho
  · obtain ⟨bs, rfl, hk⟩ := ho
    obtain ⟨v, rfl, r1⟩ := repL1 r
    obtain ⟨p, us, rfl, hp, ra⟩ := r1.lst_inv
    exact ⟨p, bs, rfl, by rw [← repL_bls ra]; exact .of (s _ _ hp), kk _ _ _ (.fz (.bl _)) hk⟩
  · exact ho.elim
theorem ok_any : DL.FnR X.K T anyF (rAny X.K) := by
  intro F H vs ds k Q s r ho kk
  unfold anyF at ho
  split at ho
  · obtain ⟨bs, rfl, hk⟩ := ho
    obtain ⟨v, rfl, r1⟩ := repL1 r
    obtain ⟨p, us, rfl, hp, ra⟩ := r1.lst_inv
    exact ⟨p, bs, rfl, by rw [← repL_bls ra]; exact .of (s _ _ hp), kk _ _ _ (.fz (.bl _)) hk⟩
  · exact ho.elim
def rMaxA (X : Cx) : List V → Hp → VK → Prop := fun xs H Q => (∃ i j, xs = [.int i, .int j] ∧ Q (.int (if j > i then j else i)) H) ∨ rMax X.K xs H Q
def rMinA (X : Cx) : List V → Hp → VK → Prop := fun xs H Q => (∃ i j, xs = [.int i, .int j] ∧ Q (.int (if j < i then j else i)) H) ∨ rMin X.K xs H Q
theorem call_maxA (hc : X.calm = true) : CallR X (.builtin "max") (rMaxA X) := (call_max2 hc).or (cr_max hc)
theorem call_minA (hc : X.calm = true) : CallR X (.builtin "min") (rMinA X) := (call_min2 hc).or (cr_min hc)
theorem ok_max : DL.FnR X.K T maxF (rMaxA X) := by
  intro F H vs ds k Q s r ho kk
  unfold maxF at ho
  split at ho
  · obtain ⟨v, w, rfl, r1, r2⟩ := repL2 r
    exact .inl ⟨_, _, by rw [r1.int_inv, r2.int_inv], kk _ _ _ (.fz (.int _)) ho⟩
  · obtain ⟨ns, rfl, h0, hk⟩ := ho
    obtain ⟨v, rfl, r1⟩ := repL1 r
    obtain ⟨p, us, rfl, hp, ra⟩ := r1.lst_inv
    exact .inr ⟨p, ns, rfl, by rw [← repL_ints ra]; exact .of (s _ _ hp), h0, fun m h1 h2 => kk _ _ _ (.fz (.int _)) (hk m h1 h2)⟩
  · exact ho.elim
theorem ok_min : DL.FnR X.K T minF (rMinA X) := by
  intro F H vs ds k Q s r ho kk
  unfold minF at ho
  split at ho
  · obtain ⟨v, w, rfl, r1, r2⟩ := repL2 r
    exact .inl ⟨_, _, by rw [r1.int_inv, r2.int_inv], kk _ _ _ (.fz (.int _)) ho⟩
  · obtain ⟨ns, rfl, h0, hk⟩ := ho
    obtain ⟨v, rfl, r1⟩ := repL1 r
    obtain ⟨p, us, rfl, hp, ra⟩ := r1.lst_inv
    exact .inr ⟨p, ns, rfl, by rw [← repL_ints ra]; exact .of (s _ _ hp), h0, fun m h1 h2 => kk _ _ _ (.fz (.int _)) (hk m h1 h2)⟩
  · exact ho.elim
theorem ok_sum : DL.FnR X.K T sumF (rSum X.K) := by
  intro F H vs ds k Q s r ho kk
  unfold sumF at ho
  split at ho
  · obtain ⟨ns, rfl, hk⟩ := ho
    obtain ⟨v, rfl, r1⟩ := repL1 r
    obtain ⟨p, us, rfl, hp, ra⟩ := r1.lst_inv
    exact ⟨p, ns, rfl, by rw [← repL_ints ra]; exact .of (s _ _ hp), kk _ _ _ (.fz (.int _)) hk⟩
  · exact ho.elim
theorem ok_abs : DL.FnR X.K T absF (fun xs H Q => ∃ i, xs = [.int i] ∧ Q (.int (if i < 0 then -i else i)) H) := by
  intro F H vs ds k Q s r ho kk
  unfold absF at ho
  split at ho
  · obtain ⟨v, rfl, r1⟩ := repL1 r
    exact ⟨_, by rw [r1.int_inv], kk _ _ _ (.fz (.int _)) ho⟩
  · exact ho.elim
def rInt1 : List V → Hp → VK → Prop := fun xs H Q => (∃ i, xs = [.int i] ∧ Q (.int i) H) ∨ ∃ k, xs = [.bl k] ∧ Q (.int (if k then 1 else 0)) H
theorem ok_int : DL.FnR X.K T intF rInt1 := by
  intro F H vs ds k Q s r ho kk
  unfold intF at ho
  split at ho
  · obtain ⟨v, rfl, r1⟩ := repL1 r
    exact .inl ⟨_, by rw [r1.int_inv], kk _ _ _ (.fz (.int _)) ho⟩
  · obtain ⟨v, rfl, r1⟩ := repL1 r
    exact .inr ⟨_, by rw [r1.bl_inv], kk _ _ _ (.fz (.int _)) ho⟩
  · exact ho.elim
theorem ok_list : DL.FnR X.K T listF (fun xs H Q => ∃ p ys, xs = [.ref p] ∧ (SqL X.K H p ys ∨ SqT X.K H p ys) ∧ ∀ l, H l = none → Q (.ref l) (upd H l (.lst ys))) := by
  intro F H vs ds k Q s r ho kk
  unfold listF at ho
  split at ho
  · obtain ⟨v, rfl, r1⟩ := repL1 r
    obtain ⟨p, us, rfl, hp, ra⟩ := r1.lst_inv
    exact ⟨p, us, rfl, .inl (.of (s _ _ hp)), fun l hl => kk _ _ _ (.fr hl (.lst ra)) ho⟩
  · obtain ⟨v, rfl, r1⟩ := repL1 r
    obtain ⟨p, us, rfl, hp, ra⟩ := r1.tup_inv
    exact ⟨p, us, rfl, .inr (.of (s _ _ hp)), fun l hl => kk _ _ _ (.fr hl (.lst ra)) ho⟩
  · obtain ⟨v, rfl, r1⟩ := repL1 r
    obtain ⟨p, us, rfl, hp, ra⟩ := r1.frl_inv
    exact ⟨p, us, rfl, .inl (s.seq hp), fun l hl => kk _ _ _ (.fr hl (.lst ra)) ho⟩
  · exact ho.elim
theorem ok_tuple : DL.FnR X.K T tupleF (fun xs H Q => ∃ p ys, xs = [.ref p] ∧ ((SqL X.K H p ys ∧ ∀ l, H l = none → Q (.ref l) (upd H l (.tup ys))) ∨ (SqT X.K H p ys ∧ Q (.ref p) H))) := by
  intro F H vs ds k Q s r ho kk
  unfold tupleF at ho
  split at ho
  · obtain ⟨v, rfl, r1⟩ := repL1 r
    obtain ⟨p, us, rfl, hp, ra⟩ := r1.lst_inv
    exact ⟨p, us, rfl, .inl ⟨.of (s _ _ hp), fun l hl => kk _ _ _ (.fr hl (.tup ra)) ho⟩⟩
  · obtain ⟨v, rfl, r1⟩ := repL1 r
    have r2 := r1
    obtain ⟨p, us, rfl, hp, ra⟩ := r1.tup_inv
    exact ⟨p, us, rfl, .inr ⟨.of (s _ _ hp), kk _ _ _ (.fz r2) ho⟩⟩
  · exact ho.elim
/-! ### isinstance -/
def Ty.name : Ty → String
  | .str => "str" | .int => "int" | .bool => "bool" | .list => "list" | .tuple => "tuple" | .dict => "dict"
theorem isi_of {K : PySem.W.Frag} {t : Ty} {d : D} {v : V} {b : Bool} (s : Same F H) (r : Rep K T F v d) (h : d.isTy t = some b) : ∃ u, TyX K H v (.type u) ∧ PySem.W.kitOne K (.type u) (.type t.name) = some b := by
  cases d with
  | non => rw [r.non_inv]; exact ⟨_, .base .non, by cases t <;> cases h <;> exact kit_ty (by decide +kernel)⟩
  | bl x => rw [r.bl_inv]; exact ⟨_, .base (.bl x), by cases t <;> cases h <;> exact kit_ty (by decide +kernel)⟩
  | int x => rw [r.int_inv]; exact ⟨_, .base (.int x), by cases t <;> cases h <;> exact kit_ty (by decide +kernel)⟩
  | str x => rw [r.str_inv.1]; exact ⟨_, .base (.str _), by cases t <;> cases h <;> exact kit_ty (by decide +kernel)⟩
  | lst x => obtain ⟨p, us, rfl, hp, ra⟩ := r.lst_inv; exact ⟨_, .base (.lst (s _ _ hp)), by cases t <;> cases h <;> exact kit_ty (by decide +kernel)⟩
  | tup x => obtain ⟨p, us, rfl, hp, ra⟩ := r.tup_inv; exact ⟨_, .base (.tup (s _ _ hp)), by cases t <;> cases h <;> exact kit_ty (by decide +kernel)⟩
  | dct x => obtain ⟨p, us, rfl, hp, ra⟩ := r.dct_inv; exact ⟨_, .base (.dK (s _ _ hp)), by cases t <;> cases h <;> exact kit_ty (by decide +kernel)⟩
  | obj c x => cases t <;> cases h
  | cls c => cases t <;> cases h
  | frl x =>
    obtain ⟨p, us, rfl, hp, ra⟩ := r.frl_inv
    rcases s.seq hp with (h1 | ⟨o, h1⟩) | ⟨o, its, n, h1, h2, _⟩
    · exact ⟨_, .base (.lst h1), by cases t <;> cases h <;> exact kit_ty (by decide +kernel)⟩
    · exact ⟨_, .base (.frz h1), by cases t <;> cases h <;> exact kit_ty (by decide +kernel)⟩
    · exact ⟨_, .kList h1 h2, by cases t <;> cases h <;> exact kit_ty (by decide +kernel)⟩
theorem pd_isi {t : Ty} {tn : Str} {p p2 : Pos} (htn : bootBuiltins tn = some (.type t.name)) (hg : Gl X "isinstance") (hm : X.mg "isinstance" = none) (hgt : Gl X tn) (hmt : X.mg tn = none) (he : PD X T B M W e f) (hn : tn ≠ "__name__" := by decide) (hdb : (tn == ("__debug__" : Str)) = false := by decide)
    (h1 : starEach (e :: [.Name tn p2]) X.env = (false, eval e X.env) :: starEach [.Name tn p2] X.env := by rfl) (h2 : starEach [.Name tn p2] X.env = (false, eval (.Name tn p2) X.env) :: starEach [] X.env := by rfl) (hpl : (backTo pos (starEach [.Name tn p2] X.env)).any (·.1) = false := by rfl) :
    PD X T B M W (.Call (.Name "isinstance" p) [e, .Name tn p2] [] pos) (dIsi t f) :=
  pe_imp (pe_callB call_isi hg hm (by decide +kernel) (pa_cons he (pa_cons (pe_bltn (v := .ty t.name) hgt hmt htn rfl hn hdb) pa_nil h2) h1) (by decide) (by decide) h1 hpl) fun σ H Q ⟨F, ρ, Qd, S, h, k⟩ => by
    refine lE_run S h fun F1 H1 ρ1 v r e1 S1 R1 q => ?_
    obtain ⟨b, hb, q⟩ := q
    obtain ⟨u, h3, h4⟩ := isi_of S1.sub R1 hb
    exact ⟨v, .ty t.name, .type u, .type t.name, b, rfl, .ty _, h3, h4, lE_end k e1 S1 (.fz (.bl b)) q⟩
/-! ### methods of texts -/
def MsR (K : PySem.W.Frag) (T : Tb) (op : Tx → List D → (R → Prop) → Prop) (r : V → List V → Hp → VK → Prop) : Prop :=
  ∀ F H a vs ds k Q, Same F H → okTx a → RepL K T F vs ds → op a ds k → (∀ v H' t, NewR K T F H v H' t → k t → Q v H') → r (.str (tx a)) vs H Q
theorem pd_ms {name : Str} {id : String} {op : Tx → List D → (R → Prop) → Prop} {r : V → List V → Hp → VK → Prop} {es : List Expr} {fs : List DE} {apos : Pos} (ho : MsR X.K T op r) (slot : PySem.Slot "str" name id) (hty : typeOf (.builtin id) = pure (.type "method_descriptor")) (hm : MtR X id r) (he : PD X T B M W a f) (ha : PDA X T B M W (e :: es) fs)
    (hbase : attributeBase a name X.env (eval a X.env) = eval a X.env := by rfl)
    (hfew : ((backTo pos (starEach (e :: es) X.env)).all (fun x => !x.1) && (backToKw pos (keywordEach [] X.env)).all (fun x => x.1.isSome)
      && decide ((e :: es).length + ([] : List Keyword).length + (if ([] : List Keyword).isEmpty then 0 else 1) < 30)) = true := by rfl)
    (hline : (apos.endLine == pos.line) = true := by rfl) (hs : starEach (e :: es) X.env = (false, eval e X.env) :: starEach es X.env := by rfl) (hplain : (backTo pos (starEach es X.env)).any (·.1) = false := by rfl) :
    PD X T B M W (.Call (.Attribute a name apos) (e :: es) [] pos) (dMs op f fs) :=
  pe_imp (pe_bm PySem.F.plainAttrs_str slot hty hm he ha hbase hfew hline hs hplain) fun σ H Q ⟨F, ρ, Qd, S, h, k⟩ => by
    refine lE_run S h fun F1 H1 ρ1 v r1 e1 S1 R1 q => ?_
    cases hd : r1.d with
    | str x =>
      rw [hd] at q R1
      obtain ⟨rfl, z⟩ := R1.str_inv
      refine ⟨rfl, lA_run S1 q fun F2 H2 ρ2 vs ds e2 S2 R2 q2 => ?_⟩
      exact ho F2 H2 x vs ds _ Q S2.sub z R2 q2 fun v H' t n q3 => lE_end k (e1.trans e2) S2 n q3
    | _ => rw [hd] at q; exact q.elim
open TL in
theorem joinL_tx : ∀ (S : Tx) (ys : List Tx), joinL (tl (tx S)) ((ys.map tx).map tl) = joinT S ys
  | _, [] => rfl
  | _, [p] => by show tl (tx p) = p; exact tx_list p
  | S, p :: q :: r => by
    show tl (tx p) ++ (tl (tx S) ++ joinL (tl (tx S)) (((q :: r).map tx).map tl)) = p ++ (S ++ joinT S (q :: r))
    rw [joinL_tx S (q :: r)]
    show (tx p).cps.toList ++ ((tx S).cps.toList ++ _) = _
    rw [tx_list, tx_list]
open TL in
theorem join_tx (S : Tx) (ys : List Tx) : Txt.join (tx S) (ys.map tx) = tx (joinT S ys) := by
  rw [join_eq]
  apply ext_tl
  rw [tl_join, joinL_tx]
  exact (tx_list _).symm
theorem joinT_mem : ∀ {S : Tx} {ys : List Tx} {c : Nat}, c ∈ joinT S ys → c ∈ S ∨ ∃ y ∈ ys, c ∈ y
  | _, [], _, h => by cases h
  | _, [p], c, h => .inr ⟨p, List.mem_singleton.mpr rfl, h⟩
  | S, p :: q :: r, c, h => by
    have h : c ∈ p ++ (S ++ joinT S (q :: r)) := h
    rcases List.mem_append.mp h with h | h
    · exact .inr ⟨p, List.mem_cons_self, h⟩
    · rcases List.mem_append.mp h with h | h
      · exact .inl h
      · rcases joinT_mem h with h | ⟨y, h1, h2⟩
        · exact .inl h
        · exact .inr ⟨y, List.mem_cons_of_mem _ h1, h2⟩
theorem joinT_len : ∀ (S : Tx) (ys : List Tx), (joinT S ys).length ≤ (ys.map (·.length)).sum + ys.length * S.length
  | _, [] => Nat.zero_le _
  | _, [p] => by show p.length ≤ p.length + 0 + 1 * _; omega
  | S, p :: q :: r => by
    have ih := joinT_len S (q :: r)
    show (p ++ (S ++ joinT S (q :: r))).length ≤ (p.length + ((q :: r).map (·.length)).sum) + ((q :: r).length + 1) * S.length
    rw [List.length_append, List.length_append, Nat.add_mul]
    omega
theorem ok_join : MsR X.K T joinM (fun x xs H Q => ∃ a p, ∃ ys : List Str, x = .str a ∧ xs = [.ref p] ∧ (SqL X.K H p (ys.map V.str) ∨ SqT X.K H p (ys.map V.str)) ∧
    (ys.map (·.length)).sum + ys.length * a.length ≤ 16777216 ∧ Q (.str (Txt.join a ys)) H) := by
  intro F H a vs ds k Q s za r ho kk
  unfold joinM at ho
  split at ho
  · obtain ⟨ys, rfl, hz, hk⟩ := ho
    obtain ⟨v, rfl, r1⟩ := repL1 r
    obtain ⟨p, us, rfl, hp, ra⟩ := r1.lst_inv
    obtain ⟨e, z⟩ := repL_strs ra
    refine ⟨_, p, ys.map tx, rfl, rfl, .inl (by rw [← e]; exact .of (s _ _ hp)), ?_, ?_⟩
    · rw [List.map_map, List.length_map, tx_len]
      have : ((fun x : Str => x.length) ∘ tx) = fun x : Tx => x.length := by funext x; exact tx_len x
      rw [this]
      exact hz
    · rw [join_tx]
      refine kk _ _ _ (.fz (.str ⟨fun c hc => ?_, ?_⟩)) hk
      · rcases joinT_mem hc with h | ⟨y, h1, h2⟩
        · exact za.1 c h
        · exact (z y h1).1 c h2
      · rw [← maxTx_eq]; exact Nat.le_trans (joinT_len a ys) hz
  · exact ho.elim
theorem sw_tx (a b : Tx) : Txt.startswith (tx a) (tx b) = (a.take b.length == b) := by
  unfold Txt.startswith
  rw [StrLaws.subAt_eq, tx_list, tx_list, tx_len, tx_len, List.drop_zero]
  by_cases h : b.length ≤ a.length
  · rw [decide_eq_true (by omega : 0 + b.length ≤ a.length), Bool.true_and]
  · have : (a.take b.length == b) = false := by
      apply beq_eq_false_iff_ne.mpr
      intro e
      have := congrArg List.length e
      rw [List.length_take] at this
      omega
    rw [this, Bool.and_false]
theorem ew_tx (a b : Tx) : Txt.endswith (tx a) (tx b) = (decide (b.length ≤ a.length) && (a.drop (a.length - b.length) == b)) := by
  unfold Txt.endswith
  rw [StrLaws.subAt_eq, tx_list, tx_list, tx_len, tx_len]
  by_cases h : b.length ≤ a.length
  · rw [decide_eq_true (by omega : 0 + b.length ≤ a.length), decide_eq_true h, Bool.true_and, Bool.true_and]
    rw [List.take_of_length_le (by rw [List.length_drop]; omega)]
  · rw [decide_eq_false (by omega : ¬ 0 + b.length ≤ a.length), decide_eq_false h, Bool.false_and, Bool.false_and]
theorem ok_sw : MsR X.K T swM (fun x xs H Q => ∃ a b, x = .str a ∧ xs = [.str b] ∧ Q (.bl (Txt.startswith a b)) H) := by
  intro F H a vs ds k Q s za r ho kk
  unfold swM at ho
  split at ho
  · obtain ⟨v, rfl, r1⟩ := repL1 r
    refine ⟨_, _, rfl, by rw [r1.str_inv.1], ?_⟩
    rw [sw_tx]
    exact kk _ _ _ (.fz (.bl _)) ho
  · exact ho.elim
theorem ok_ew : MsR X.K T ewM (fun x xs H Q => ∃ a b, x = .str a ∧ xs = [.str b] ∧ Q (.bl (Txt.endswith a b)) H) := by
  intro F H a vs ds k Q s za r ho kk
  unfold ewM at ho
  split at ho
  · obtain ⟨v, rfl, r1⟩ := repL1 r
    refine ⟨_, _, rfl, by rw [r1.str_inv.1], ?_⟩
    rw [ew_tx]
    exact kk _ _ _ (.fz (.bl _)) ho
  · exact ho.elim
/-! ### * -/
def rMulS : R2 := fun x y H Q => ∃ a n, x = .str a ∧ y = .int n ∧ MulOk a n ∧ Q (.str (Txt.mul a n)) H
theorem op_mulS : OpR X (binaryOp .Mult) rMulS := by
  intro pins s σ H x y v u Q I rx ry h
  obtain ⟨a, n, rfl, rfl, ok, q⟩ := h
  obtain ⟨t, rfl⟩ := rx
  obtain ⟨t', rfl⟩ := ry
  exact SB.mul ok fun t2 k => ⟨.str _, H, I.tok k, ⟨t2, rfl⟩, q⟩
def rMulA (X : Cx) : R2 := fun x y H Q => rI CMul (fun i j => .int (i * j)) x y H Q ∨ rMulS x y H Q ∨ rRep x y H Q
theorem op_mulA : OpR X (binaryOp .Mult) (rMulA X) := op_mul.or (op_mulS.or op_rep)
theorem foldl_cps (x : Array Nat) : ∀ (n : Nat) (acc : Array Nat), (List.replicate n x).foldl (· ++ ·) acc = acc ++ ((List.replicate n x.toList).flatten).toArray
  | 0, acc => by simp
  | n + 1, acc => by
    rw [List.replicate_succ, List.foldl_cons, foldl_cps x n, List.replicate_succ, List.flatten_cons]
    apply Array.toList_inj.mp
    simp
theorem mul_tx (a : Tx) (n : Int) : Txt.mul (tx a) n = tx (List.replicate n.toNat a).flatten := by
  unfold Txt.mul
  by_cases h1 : n < 1
  · rw [if_pos h1]
    have : n.toNat = 0 := by omega
    rw [this]
    rfl
  · rw [if_neg h1]
    by_cases h2 : (n == 1 || (tx a).length == 0) = true
    · rw [if_pos h2]
      rw [Bool.or_eq_true] at h2
      rcases h2 with h | h
      · have : n = 1 := beq_iff_eq.mp h
        subst this
        show tx a = tx (List.replicate 1 a).flatten
        simp
      · have : a = [] := by
          have := (beq_iff_eq.mp h)
          rw [tx_len] at this
          exact List.eq_nil_of_length_eq_zero this
        subst this
        have : (List.replicate n.toNat ([] : Tx)).flatten = [] := by simp
        rw [this]
    · rw [if_neg h2, foldl_cps]
      unfold tx
      simp
theorem okTx.rep {a : Tx} (h : okTx a) {n : Nat} (hl : a.length * n ≤ maxTx) : okTx (List.replicate n a).flatten := by
  refine ⟨fun c hc => ?_, ?_⟩
  · obtain ⟨y, h1, h2⟩ := List.mem_flatten.mp hc
    rw [(List.mem_replicate.mp h1).2] at h2
    exact h.1 c h2
  · rw [List.length_flatten, List.map_replicate, List.sum_replicate_nat, ← maxTx_eq, Nat.mul_comm]
    exact hl
theorem repL_rep {K : PySem.W.Frag} {vs : List V} {xs : List D} (h : RepL K T F vs xs) : ∀ n : Nat, RepL K T F (List.replicate n vs).flatten (List.replicate n xs).flatten
  | 0 => .nil
  | n + 1 => by
    rw [List.replicate_succ, List.replicate_succ, List.flatten_cons, List.flatten_cons]
    exact h.append (repL_rep h n)
theorem mulOk_of {a : Tx} {n : Int} (h1 : -(2 ^ 62) ≤ n) (h2 : n < 2 ^ 62) (h3 : a.length * n.toNat ≤ maxTx) : MulOk (tx a) n := by
  refine ⟨?_, fun hn _ => ?_, fun hn _ => ?_⟩
  · rw [decide_eq_false (by omega), decide_eq_false (by omega)]; decide
  · rw [tx_len]
    have hn' : 0 < n := by omega
    have : ((a.length : Int)) * n ≤ 16777216 := by
      have e : (n.toNat : Int) = n := Int.toNat_of_nonneg (by omega)
      have : ((a.length * n.toNat : Nat) : Int) ≤ 16777216 := Int.ofNat_le.mpr h3
      rw [Int.natCast_mul, e] at this
      exact this
    have : (a.length : Int) ≤ (2 ^ 63 - 1) / n := (Int.le_ediv_iff_mul_le hn').mpr (by omega)
    omega
  · rw [tx_len]
    have e : PySem.Builtin.Str.tooLong (a.length * n.toNat) = decide (a.length * n.toNat > sizeLine) := by
      unfold PySem.Builtin.Str.tooLong
      rfl
    rw [e, decide_eq_false]
    rw [← maxTx_eq]
    omega
theorem ok_mul : OpOk X.K T mulD (rMulA X) := by
  intro F H x y dx dy k Q s rx ry ho kk
  unfold mulD at ho
  split at ho
  · exact .inl ⟨_, _, rx.int_inv, ry.int_inv, ho.1, kk _ _ _ (.fz (.int _)) ho.2⟩
  · obtain ⟨ex, z⟩ := rx.str_inv
    refine .inr (.inl ⟨_, _, ex, ry.int_inv, mulOk_of ho.1.1 ho.1.2.1 ho.1.2.2, ?_⟩)
    rw [mul_tx]
    exact kk _ _ _ (.fz (.str (z.rep ho.1.2.2))) ho.2
  · obtain ⟨p, us, rfl, hp, ra⟩ := rx.lst_inv
    refine .inr (.inr ⟨p, _, us, rfl, ry.int_inv, s _ _ hp, by omega, by omega, by rw [ra.length, ← maxTx_eq]; exact ho.1.2.2, fun q hq => ?_⟩)
    exact kk _ _ _ (.fr hq (.lst (repL_rep ra _))) ho.2
  · exact ho.elim
end
end DL

set_option Elab.async false
set_option linter.all false
set_option autoImplicit false
set_option maxRecDepth 100000
/-! DLX12: own classes: attributes, making, methods. -/
namespace DL
open PySem PySem.Spec PyProof.Rows L2
section
variable {X : Cx} {T : Tb} {B : Bs} {M : List Nat} {W : EK} {F H : Hp} {ρ : Env} {σ : L2.St}
variable {a e : Expr} {es : List Expr} {f g : DE} {fs : List DE} {as : List DA} {pos : Pos}
/-! ### attributes by place -/
theorem zip_lookup : ∀ {names : List Str} {vs : List V} {j : Nat} {f : Str} {v : V}, names.Nodup → names[j]? = some f → vs[j]? = some v → (names.zip vs).lookup f = some v
  | [], _, _, _, _, _, h, _ => by simp at h
  | _ :: _, [], _, _, _, _, _, h => by simp at h
  | n :: ns, w :: ws, 0, f, v, nd, h1, h2 => by
    simp at h1 h2; subst h1; subst h2
    simp [List.zip_cons_cons, List.lookup]
  | n :: ns, w :: ws, j + 1, f, v, nd, h1, h2 => by
    have h1 : ns[j]? = some f := by simpa using h1
    have hne : (f == n) = false := by
      rw [beq_eq_false_iff_ne]
      intro z
      subst z
      exact (List.nodup_cons.mp nd).1 (List.mem_of_getElem? h1)
    rw [List.zip_cons_cons]
    unfold List.lookup
    rw [hne]
    exact zip_lookup (List.nodup_cons.mp nd).2 h1 (by simpa using h2)
theorem zip_lookup_none : ∀ {names : List Str} {vs : List V} {f : Str}, f ∉ names → (names.zip vs).lookup f = none
  | [], _, _, _ => rfl
  | _ :: _, [], _, _ => rfl
  | n :: ns, w :: ws, f, h => by
    have hne : (f == n) = false := by
      rw [beq_eq_false_iff_ne]
      intro z
      subst z
      exact h List.mem_cons_self
    rw [List.zip_cons_cons]
    unfold List.lookup
    rw [hne]
    exact zip_lookup_none fun z => h (List.mem_cons_of_mem _ z)
theorem putF_zip : ∀ {names : List Str} {vs : List V} {j : Nat} {f : Str} {v : V}, names.Nodup → names[j]? = some f → j ≤ vs.length → putF f v (names.zip vs) = names.zip (if j < vs.length then vs.set j v else vs ++ [v])
  | [], _, _, _, _, _, h, _ => by simp at h
  | n :: ns, [], j, f, v, nd, h1, h2 => by
    have : j = 0 := by simpa using h2
    subst this
    simp at h1; subst h1
    simp [putF]
  | n :: ns, w :: ws, 0, f, v, nd, h1, h2 => by
    simp at h1; subst h1
    simp [putF, List.zip_cons_cons]
  | n :: ns, w :: ws, j + 1, f, v, nd, h1, h2 => by
    have h1 : ns[j]? = some f := by simpa using h1
    have hne : n ≠ f := by
      intro z
      subst z
      exact (List.nodup_cons.mp nd).1 (List.mem_of_getElem? h1)
    have ih := putF_zip (v := v) (List.nodup_cons.mp nd).2 h1 (by simpa using h2 : j ≤ ws.length)
    rw [List.zip_cons_cons]
    unfold putF
    have hne' : (n == f) = false := beq_eq_false_iff_ne.mpr hne
    simp only [hne, hne', if_false, Bool.false_eq_true]
    rw [ih]
    by_cases hj : j < ws.length
    · rw [if_pos hj, if_pos (by simpa using hj)]; rfl
    · rw [if_neg hj, if_neg (by simpa using hj)]; rfl
/-- what an own class must have for its attributes to be read and stored -/
structure ClD (K : PySem.W.Frag) (T : Tb) (c : Nat) (ci : CI) : Prop where
  at_ : T.cl c = some ci
  nd : ci.names.Nodup
  cls : Cls K ci.addr
theorem pd_fld {c j : Nat} {ci : CI} {fn : Str} (hC : ClD X.K T c ci) (hj : ci.names[j]? = some fn) (kn : NoAttr X.K ci.addr fn) (he : PD X T B M W e g) (hb : attributeBase e fn X.env (eval e X.env) = eval e X.env := by rfl) :
    PD X T B M W (.Attribute e fn pos) (dFld c j g) :=
  pe_imp (pe_fld he hb) fun σ H Q ⟨F, ρ, Qd, S, h, k⟩ => by
    refine lE_run S h fun F1 H1 ρ1 v r e1 S1 R1 q => ?_
    cases hd : r.d with
    | obj c' ds =>
      rw [hd] at q R1
      obtain ⟨rfl, d, hj', q⟩ := q
      obtain ⟨p, ci', dx, vs, rfl, hc, hF, hl, ra⟩ := R1.obj_inv
      cases hC.at_.symm.trans hc
      obtain ⟨v, hv, rv⟩ := ra.get hj'
      exact ⟨p, ci.addr, dx, _, v, rfl, S1.sub _ _ hF, hC.cls, kn, zip_lookup hC.nd hj hv, lE_end k e1 S1 (.fz rv) q⟩
    | _ => rw [hd] at q; exact q.elim
/-- a property whose getter returns an attribute -/
theorem pd_prop {c j k : Nat} {ci : CI} {fn pn : Str} {p gA : Addr} {fd : FuncData} (hC : ClD X.K T c ci) (hj : ci.names[j]? = some fn) (hp : PropOf X.K ci.addr pn p gA) (G : FnOk X.prog X.w X.K X.mg X.base (L2.CX X.prog X.w) k gA fd ["self"] (getSp ci.addr fn)) (hr : Room (k + 1) X.A) (hbn : Binds X.K fd ["self"] [])
    (he : PD X T B M W e g) (hb : attributeBase e pn X.env (eval e X.env) = eval e X.env := by rfl) : PD X T B M W (.Attribute e pn pos) (dFld c j g) :=
  pe_imp (pe_prop (E := fun _ _ _ => False) he hC.cls hp G hr hbn .nil (fun pins σ H s e s' I z => by
      obtain ⟨_, _, _, _, _, _, _, _, _, _, _, _, z⟩ := z
      exact z.elim) hb) fun σ H Q ⟨F, ρ, Qd, S, h, k⟩ => by
    refine lE_run S h fun F1 H1 ρ1 v r e1 S1 R1 q => ?_
    cases hd : r.d with
    | obj c' ds =>
      rw [hd] at q R1
      obtain ⟨rfl, d, hj', q⟩ := q
      obtain ⟨p, ci', dx, vs, rfl, hc, hF, hl, ra⟩ := R1.obj_inv
      cases hC.at_.symm.trans hc
      obtain ⟨v, hv, rv⟩ := ra.get hj'
      exact ⟨p, dx, _, rfl, S1.sub _ _ hF, p, dx, _, v, rfl, S1.sub _ _ hF, zip_lookup hC.nd hj hv, lE_end k e1 S1 (.fz rv) q⟩
    | _ => rw [hd] at q; exact q.elim
/-- x.f = e -/
theorem pds_fld {c i j : Nat} {ci : CI} {fn x : Str} {px pos' : Pos} (hC : ClD X.K T c ci) (hj : ci.names[j]? = some fn) (kn : NoAttr X.K ci.addr fn) (hl : ci.names.length < 1000) (hN : X.N[i]? = some x) (hv : Vis X.env.scope x) (he : PD X T B M W e g) (hs : swapsWith e (some (.Attribute (.Name x px) fn pos')) pos.line X.env = pure false := by rfl)
    (hd : (x == ("__debug__" : Str)) = false := by decide) (hcd : (x == ("__classdict__" : Str)) = false := by decide) :
    PDS X T B M W (.Assign [.Attribute (.Name x px) fn pos'] e pos) (sFld i c j g) := by
  refine ps_imp (ps_fld (pe_var hN hv hd hcd) he hs) fun J σ H ⟨F, ρ, Jd, S, h, kn', kr, kb, kc⟩ => ?_
  refine lE_run S h fun F1 H1 ρ1 v r e1 S1 R1 q => ?_
  cases hsl : ρ1.at i with
  | no => rw [hsl] at q; exact q.elim
  | fz d => rw [hsl] at q; exact q.elim
  | own d =>
    rw [hsl] at q
    cases d with
    | obj c' ds =>
      obtain ⟨rfl, hle, q⟩ := q
      obtain ⟨p, o, hp, hF, hH, ro⟩ := S1.ownAt hsl
      cases ro with
      | obj hc hlen ra =>
        rename_i ci' dx vs
        cases hC.at_.symm.trans hc
        have hvl : j ≤ vs.length := by rw [ra.length]; exact hle
        refine ⟨.ref p, hp, p, ci.addr, dx, _, rfl, hH, hC.cls, kn, ?_, ?_⟩
        · rw [List.length_zip]; omega
        · rw [putF_zip hC.nd hj hvl]
          refine kn' F1 _ _ σ e1 (S1.store hsl hp ?_) q
          have hjn : j < ci.names.length := (List.getElem?_eq_some_iff.mp hj).1
          refine .obj hc ?_ ?_
          · split
            · rw [List.length_set]; exact hlen
            · rw [List.length_append]; show vs.length + 1 ≤ _; omega
          · rw [← ra.length]
            split
            · exact ra.set j R1
            · exact ra.append (.cons R1 .nil)
    | _ => exact q.elim
end
end DL

set_option Elab.async false
set_option linter.all false
set_option autoImplicit false
set_option maxRecDepth 100000
/-! DLX13: making, methods. -/
namespace DL
open PySem PySem.Spec PyProof.Rows L2
section
variable {X : Cx} {T : Tb} {B : Bs} {M : List Nat} {W : EK} {F H : Hp} {ρ : Env} {σ : L2.St}
variable {a e o : Expr} {es : List Expr} {f g : DE} {fs : List DE} {as : List DA} {pos apos : Pos}
/-- behind a call that changed new objects at most -/
theorem SR.aft {Mc : List Nat} {F' H' : Hp} {vs : List V} {args outs : List Slot} (S : SR X.K T B M F H ρ σ) (A : Aft X.K T Mc F H vs args F' H' outs) (hn : ∀ b, OwnA vs args b → B.H0 b = none ∧ ∀ i e, ρ.at i = .own e → σ[i]? ≠ some (some (.ref b))) : SR X.K T B M F' H' ρ σ := by
  refine ⟨A.sub, fun b o e n => ?_, fun b o e => ?_, S.f0.trans A.same, fun b o e => ?_, S.len, fun j => ?_, S.newown, S.inj, S.pin⟩
  · refine A.keep b o (S.keep b o e n) fun z => ?_
    rw [(hn b z).1] at e
    cases e
  · obtain ⟨o', e'⟩ := S.live b o e
    exact A.live b o' e'
  · rcases A.fnew b o e with q | q | q
    · exact S.fnew b o q
    · exact .inr (.inl (S.gone q))
    · exact .inr (.inl (hn b q).1)
  · have hs := S.slot j
    cases hd : ρ.at j with
    | no => trivial
    | fz d => rw [hd] at hs; obtain ⟨v, z1, z2⟩ := hs; exact ⟨v, z1, z2.mono A.same⟩
    | own d =>
      rw [hd] at hs
      obtain ⟨p, o, z1, z2, z3, z4⟩ := hs
      have nA : ¬ OwnA vs args p := fun z => (hn p z).2 j d hd z1
      refine ⟨p, o, z1, ?_, A.keep _ _ z3 nA, z4.mono A.same⟩
      cases y : F' p with
      | none => rfl
      | some u =>
        rcases A.fnew p u y with r | r | r
        · rw [z2] at r; cases r
        · rw [z3] at r; cases r
        · exact absurd r nA
/-! ### C(..) -/
variable {k : Nat} {fa : Addr} {fd : FuncData} {ps : List Str} {con : Con} {x : Str} {p : Pos}
def tMakeS (C : Addr) (sp : Sp) (E : L2.St → XK) (t : TA) : TE := fun σ H Q => t σ H fun vs H1 => ∀ x dx, H1 x = none → H1 dx = none → dx ≠ x →
  sp (.ref x :: vs) (upd (upd H1 dx (.own x)) x (.ins C dx [])) (fun v H2 => v = .non ∧ Q (.ref x) H2) (E σ)
theorem run_makeS {CX : CXT} {C : Addr} {sp : Sp} {E : XK} {pins : List (Addr × Obj)} {s : Shared} {Q : VK} {us : List Value} {vs : List V} (Mm : Mk X.K C fa) (G : FnG X.prog X.w X.K X.mg X.base CX k fa fd ps sp) (hr : RoomG (k + 1) X.A) (hb : Binds X.K fd ps [])
    (hx : PassesAt CX X σ E) (I : Inv X pins σ H s) (r : Vals vs us)
    (h : ∀ x dx, H x = none → H dx = none → dx ≠ x → sp (.ref x :: vs) (upd (upd H dx (.own x)) x (.ins C dx [])) (fun v H2 => v = .non ∧ Q (.ref x) H2) E) :
    wpAny (model X.prog X.w) X.A (call (.ref C) us) (EP X pins σ Q) X.xe s := by
  have hq := h (s.heap.objs.size + 1) s.heap.objs.size (I.hok.fresh (Nat.le_succ _)) (I.hok.fresh (Nat.le_refl _)) (Nat.ne_of_lt (Nat.lt_succ_self _))
  have I2 := Inv.made (C := C) I
  have r2 : Vals (V.ref (s.heap.objs.size + 1) :: vs) (Value.ref (s.heap.objs.size + 1) :: us) := .cons rfl r
  have hl : (Value.ref (s.heap.objs.size + 1) :: us ++ []).length = ps.length := by
    have e := r2.length
    rw [G.len _ _ _ _ hq] at e
    rw [List.append_nil]
    exact e.symm
  have hb2 := hb _ (Value.ref (s.heap.objs.size + 1) :: us) I2.kIn hl
  rw [List.append_nil] at hb2
  refine wpAny_call (make_map (f := fa) I.kIn Mm.makes Mm.init (beq_iff_eq.mp Mm.fn) (codeAny_mono (G.run _ X.stack _ _ ⟨Value.ref (s.heap.objs.size + 1) :: us, []⟩ (Value.ref (s.heap.objs.size + 1) :: us) _ _ E (hr.make C us [])
    (I2.env0.make C us []) hb2 r2 hq) fun r s' hq' => ?_))
  cases r with
  | error e => exact hx pins _ _ e s' I2 hq'
  | ok fl =>
    cases fl with
    | ret u =>
      obtain ⟨v, H', I3, rv, ev, q3⟩ := I2.after hq'
      subst ev
      exact ⟨rv, ⟨V.ref (s.heap.objs.size + 1), H', I3, rfl, q3⟩⟩
    | next => exact False.elim hq'
    | brk => exact False.elim hq'
    | cont => exact False.elim hq'
theorem pe_makeS {CX : CXT} {C : Addr} {sp : Sp} {E : L2.St → XK} {t : TA} (Mm : Mk X.K C fa) (G : FnG X.prog X.w X.K X.mg X.base CX k fa fd ps sp) (hr : RoomG (k + 1) X.A) (hg : Gl X x) (hm : X.mg x = some (.ref C)) (hb : Binds X.K fd ps []) (hx : ∀ σ, PassesAt CX X σ (E σ))
    (ha : PA X (e :: es) t) (hdb : (x == ("__debug__" : Str)) = false := by decide) (he : starEach (e :: es) X.env = (false, eval e X.env) :: starEach es X.env := by rfl) (hpl : (backTo pos (starEach es X.env)).any (·.1) = false := by rfl) :
    PE X (.Call (.Name x p) (e :: es) [] pos) (tMakeS C sp E t) := by
  refine ⟨fun pins s σ H Q I h => ?_⟩
  refine wpAny_Call_Name_kw (ld_glob I hg hm ?_ hdb)
  refine PySem.W.callWith_K (h₀ := X.base) I.ok.mod.kin Mm.kp (thn (ha.run pos pins s σ H _ I h) fun us s1 ⟨vs, H1, I1, r, q⟩ => ⟨I1.kIn, ?_⟩) he hpl
  exact run_makeS Mm G hr hb (hx σ) I1 r q
/-- .. the class in a name of the def -/
theorem pe_makeV {CX : CXT} {C : Addr} {sp : Sp} {E : L2.St → XK} {t : TA} {te : TE} (Mm : Mk X.K C fa) (G : FnG X.prog X.w X.K X.mg X.base CX k fa fd ps sp) (hr : RoomG (k + 1) X.A) (hb : Binds X.K fd ps []) (hx : ∀ σ, PassesAt CX X σ (E σ))
    (hf : PE X (.Name x p) te) (ha : PA X (e :: es) t) (he : starEach (e :: es) X.env = (false, eval e X.env) :: starEach es X.env := by rfl) (hpl : (backTo pos (starEach es X.env)).any (·.1) = false := by rfl) :
    PE X (.Call (.Name x p) (e :: es) [] pos) (fun σ H Q => te σ H fun c H1 => c = .ref C ∧ tMakeS C sp E t σ H1 Q) := by
  refine ⟨fun pins s σ H Q I h => ?_⟩
  refine wpAny_Call_Name_kw (thn (hf.run pins s σ H _ I h) fun u s1 ⟨c, H1, I1, rc, ec, q1⟩ => ?_)
  subst ec
  obtain rfl : u = Value.ref C := rc
  refine PySem.W.callWith_K (h₀ := X.base) I.ok.mod.kin Mm.kp (thn (ha.run pos pins s1 σ H1 _ I1 q1) fun us s1 ⟨vs, H1, I1, r, q⟩ => ⟨I1.kIn, ?_⟩) he hpl
  exact run_makeS Mm G hr hb (hx σ) I1 r q
theorem args_of {K : PySem.W.Frag} {F H : Hp} {vs : List V} {ds : List D} (r : RepL K T F vs ds) (i : Nat) (v : V) (s : Slot) (h1 : vs[i]? = some v) (h2 : (ds.map Slot.fz)[i]? = some s) : ArgOk K T F H v s := by
  rw [List.getElem?_map] at h2
  obtain ⟨d, hd, rd⟩ := r.getV h1
  rw [hd] at h2
  cases h2
  exact rd
theorem make_of {c n : Nat} {ci : CI} {ds : List D} {vs : List V} {Qd : R → Env → Prop} {Q : VK} (hC : ClD X.K T c ci) (S : SR X.K T B M F H ρ σ) (R0 : RepL X.K T F vs ds) (hn : ds.length + 1 = n) (q : mkC c con ds ρ Qd W)
    (kk : ∀ F' H' v r, Same F F' → SR X.K T B M F' H' ρ σ → RetV X.K T B F' H' ρ σ v r → Qd r ρ → Q v H') :
    ∀ x dx, H x = none → H dx = none → dx ≠ x → spC X.K T n [0] con (.ref x :: vs) (upd (upd H dx (.own x)) x (.ins ci.addr dx [])) (fun v H2 => v = .non ∧ Q (.ref x) H2) (WE (lW X.K T B M W) σ) := by
  intro x dx hx hdx hne
  have hx2 : (upd H dx (.own x)) x = none := by rw [upd_ne (Ne.symm hne)]; exact hx
  have S2 : SR X.K T B M F (upd (upd H dx (.own x)) x (.ins ci.addr dx [])) ρ σ := (S.lay hdx).lay hx2
  have hFx : F x = none := S.sub.free hx
  have gone : B.H0 x = none := S.gone hx
  have notown : ∀ i e, ρ.at i = .own e → σ[i]? ≠ some (some (.ref x)) := fun i e hi hs => by
    obtain ⟨p', o', y1, y2, y3, y4⟩ := S.ownAt hi
    rw [hs] at y1
    cases y1
    rw [hx] at y3
    cases y3
  have ownx : ∀ (i : Nat) (d : D), (Slot.own (D.obj c []) :: ds.map Slot.fz)[i]? = some (.own d) → i = 0 := fun i d h => by
    cases i with
    | zero => rfl
    | succ i =>
      rw [List.getElem?_cons_succ, List.getElem?_map] at h
      cases e : ds[i]? with
      | none => rw [e] at h; cases h
      | some d' => rw [e] at h; cases h
  have ownA : ∀ b, OwnA (.ref x :: vs) (Slot.own (D.obj c []) :: ds.map Slot.fz) b → b = x := fun b ⟨i, d, h1, h2⟩ => by
    have := ownx i d h1
    subst this
    simpa using h2.symm
  refine ⟨F, _, _, _, ?_, ?_, S2.sub, fun i v s h1 h2 => ?_, fun i j d e p h1 h2 _ _ => ?_, fun i d h1 => ?_, q, fun F2 H2 v r outs A R q2 => ?_, fun F2 H2 cls d y outs A ex q2 => ?_⟩
  · rw [List.length_cons, R0.length, hn]
  · rw [List.length_cons, List.length_map, hn]
  · cases i with
    | zero =>
      simp at h1 h2
      subst h1; subst h2
      refine ⟨x, _, rfl, hFx, upd_same, ?_⟩
      have z : RepO X.K T F (.ins ci.addr dx (ci.names.zip [])) (.obj c []) := .obj hC.at_ (Nat.zero_le _) .nil
      rw [List.zip_nil_right] at z
      exact z
    | succ i => exact args_of R0 i v s (by simpa using h1) (by simpa using h2)
  · rw [ownx i d h1, ownx j e h2]
  · rw [ownx i d h1]; exact List.mem_singleton.mpr rfl
  · obtain ⟨hr, d, ho, q2⟩ := q2
    have S3 : SR X.K T B M F2 H2 ρ σ := S2.aft A fun b hb => by rw [ownA b hb]; exact ⟨gone, notown⟩
    have hv : v = .non := by
      cases r with
      | fz d' => have hr : d' = .non := hr; subst hr; exact R.non_inv
      | fr d' =>
        have hr : d' = .non := hr
        subst hr
        obtain ⟨p, o, _, _, _, ro, _⟩ := R
        cases ro
    refine ⟨hv, ?_⟩
    have out := A.out 0 (List.mem_singleton.mpr rfl) (.ref x) (.own d) rfl (by rw [List.head?_eq_getElem?] at ho; exact ho)
    obtain ⟨p, o, ep, z1, z2, z3⟩ := out
    cases ep
    exact kk F2 H2 (.ref x) (.fr d) A.same S3 ⟨x, o, rfl, z1, z2, z3, gone, notown⟩ q2
  · exact ⟨F2, ρ, y, S2.aft A fun b hb => by rw [ownA b hb]; exact ⟨gone, notown⟩, ex, q2⟩
theorem pd_make {c : Nat} {ci : CI} (hC : ClD X.K T c ci) (Mm : Mk X.K ci.addr fa) (G : Def X.prog X.w X.K X.mg X.base T k fa fd ps [0] con) (hr : RoomG (k + 1) X.A) (tk : Takes X (lW X.K T B M W)) (hg : Gl X x) (hm : X.mg x = some (.ref ci.addr)) (hb : Binds X.K fd ps []) (ha : PDA X T B M W (e :: es) fs) (hn : fs.length + 1 = ps.length := by rfl)
    (hdb : (x == ("__debug__" : Str)) = false := by decide) (he : starEach (e :: es) X.env = (false, eval e X.env) :: starEach es X.env := by rfl) (hpl : (backTo pos (starEach es X.env)).any (·.1) = false := by rfl) :
    PD X T B M W (.Call (.Name x p) (e :: es) [] pos) (dMake c con fs) :=
  pe_imp (pe_makeS Mm G.ok hr hg hm hb (fun σ => passAt tk σ) ha hdb he hpl) fun σ H Q ⟨F, ρ, Qd, S, h, kk⟩ => by
    refine lA_run S h fun F1 H1 ρ1 vs ds e1 S1 R1 q => ?_
    exact make_of hC S1 R1 (by rw [q.1]; exact hn) q.2 fun F' H' v r e2 S' R' q' => kk F' H' ρ1 v r (e1.trans e2) S' R' q'
theorem pd_makeV {c i : Nat} {ci : CI} (hC : ClD X.K T c ci) (Mm : Mk X.K ci.addr fa) (G : Def X.prog X.w X.K X.mg X.base T k fa fd ps [0] con) (hr : RoomG (k + 1) X.A) (tk : Takes X (lW X.K T B M W)) (hN : X.N[i]? = some x) (hv : Vis X.env.scope x) (hb : Binds X.K fd ps []) (ha : PDA X T B M W (e :: es) fs) (hn : fs.length + 1 = ps.length := by rfl)
    (hd : (x == ("__debug__" : Str)) = false := by decide) (hcd : (x == ("__classdict__" : Str)) = false := by decide) (he : starEach (e :: es) X.env = (false, eval e X.env) :: starEach es X.env := by rfl) (hpl : (backTo pos (starEach es X.env)).any (·.1) = false := by rfl) :
    PD X T B M W (.Call (.Name x p) (e :: es) [] pos) (dMakeV i c con fs) :=
  pe_imp (pe_makeV Mm G.ok hr hb (fun σ => passAt tk σ) (pe_var hN hv hd hcd) ha he hpl) fun σ H Q ⟨F, ρ, Qd, S, ⟨h0, h⟩, kk⟩ => by
    have hs := S.slot i
    cases hsl : ρ.at i with
    | no => rw [hsl] at h0; exact h0.elim
    | own d => rw [hsl] at h0; exact h0.elim
    | fz d =>
      rw [hsl] at h0 hs
      cases d with
      | cls c' =>
        have h0 : c' = c := h0
        subst h0
        obtain ⟨v, e1, r⟩ := hs
        obtain ⟨ci', hc, rfl⟩ := r.cls_inv
        cases hC.at_.symm.trans hc
        refine ⟨_, e1, rfl, lA_run S h fun F1 H1 ρ1 vs ds e1 S1 R1 q => ?_⟩
        exact make_of hC S1 R1 (by rw [q.1]; exact hn) q.2 fun F' H' v r e2 S' R' q' => kk F' H' ρ1 v r (e1.trans e2) S' R' q'
      | _ => exact h0.elim
end
end DL

set_option Elab.async false
set_option linter.all false
set_option autoImplicit false
set_option maxRecDepth 100000
/-! DLX14: static methods, class methods, methods. -/
namespace DL
open PySem PySem.Spec PyProof.Rows L2
/-- C.m is a staticmethod: its record at p, its def at g -/
structure SMet (K : PySem.W.Frag) (C : Addr) (mc : Value) (m : Str) (p g : Addr) : Prop where
  at_ : PySem.W.findCls K (.ref C) mc m = some (.get (.builtin "staticmethod.__get__") (.ref p) .none (.ref C))
  rc : ∃ rest, PySem.W.recIn K p "staticmethod" = some (.ref g :: rest)
section
variable {X : Cx} {T : Tb} {B : Bs} {M : List Nat} {W : EK} {F H : Hp} {ρ : Env} {σ : L2.St}
variable {a e o : Expr} {es : List Expr} {f g : DE} {fs : List DE} {as : List DA} {pos apos : Pos}
variable {k : Nat} {fa C pA : Addr} {mc : Value} {fd : FuncData} {ps : List Str} {con : DL.Con} {x m : Str} {p : Pos} {CX : CXT} {sp : Sp} {E : L2.St → XK} {t : TA} {te : TE} {pl : Sem Bool}
theorem pe_smethS (hf : PE X o te) (rC : ClX.CRead X.K C mc) (c : SMet X.K C mc m pA fa) (hk : PySem.W.keepIn X.K (.ref fa) = true) (G : FnG X.prog X.w X.K X.mg X.base CX k fa fd ps sp) (hr : RoomG k X.A) (hb : Binds X.K fd ps []) (hx : ∀ σ, PassesAt CX X σ (E σ)) (ha : PA X (e :: es) t)
    (hst : starEach (e :: es) X.env = (false, eval e X.env) :: starEach es X.env := by rfl) (hpl : (backTo pos (starEach es X.env)).any (·.1) = false := by rfl)
    (ht : eval (.Call (.Attribute o m apos) (e :: es) [] pos) X.env = (do
      let ov ← eval o X.env
      standAt apos.atName
      let (f, first) ← holding [ov] (getMethod ov m pl)
      callWith pos f first (backTo pos (starEach (e :: es) X.env)) (backToKw pos (keywordEach [] X.env))) := by rfl) :
    PE X (.Call (.Attribute o m apos) (e :: es) [] pos) (fun σ H Q => te σ H fun x H1 => x = .ref C ∧ tCallS sp E t σ H1 Q) := by
  refine ⟨fun pins s σ H Q I h => ?_⟩
  refine PySem.W.methodCall_KW (pl := pl) (thn (hf.run pins s σ H _ I h) fun u s1 ⟨x, H1, I1, rx, ex, q⟩ => ?_) ht
  subst ex
  obtain rfl : u = Value.ref C := rx
  obtain ⟨rest, hp⟩ := c.rc
  refine PySem.W.method_cls I1.kIn rC.ga (PySem.W.cls_bind I1.kIn rC.rd c.at_ (wpAny_call (PySem.W.sm_get (s := { s1 with toks := s1.toks + 1 }) I1.kIn hp (PySem.W.handed_on rfl ?_))))
  have I2 : Inv X pins σ H1 { s1 with toks := s1.toks + 1 } := I1.tok _
  refine PySem.W.callWith_K (h₀ := X.base) I2.ok.mod.kin hk (thn (ha.run pos pins _ σ H1 _ I2 q) fun us s2 ⟨vs, H2, I3, r, q2⟩ => ⟨I3.kIn, ?_⟩) hst hpl
  exact run_fnG G hr hb (hx σ) I3 r q2
/-- the call of a bound record -/
theorem run_cmS {E : XK} {pins : List (Addr × Obj)} {s : Shared} {q : Addr} {Q : VK} {us : List Value} {vs : List V} (G : FnG X.prog X.w X.K X.mg X.base CX k fa fd ps sp) (hr : RoomG k X.A) (hb : Binds X.K fd ps []) (hx : PassesAt CX X σ E) (I : Inv X ((q, PySem.W.methodObj (.ref fa) (.ref C)) :: pins) σ H s)
    (r : Vals vs us) (h : sp (.ref C :: vs) H Q E) : wpAny (model X.prog X.w) X.A (call (.ref q) us) (EP X pins σ Q) X.xe s := by
  have r2 : Vals (V.ref C :: vs) (Value.ref C :: us) := .cons rfl r
  have hl : (Value.ref C :: us).length = ps.length := by rw [← r2.length]; exact G.len _ _ _ _ h
  have b := hb s (Value.ref C :: us) I.kIn (by rw [List.append_nil]; exact hl)
  rw [List.append_nil] at b
  have z : wpAny (model X.prog X.w) X.A (call (.ref q) us) (EP X ((q, PySem.W.methodObj (.ref fa) (.ref C)) :: pins) σ Q) X.xe s := by
    refine wpAny_call (PySem.W.method_call (ClX.pin_at I) (codeAny_mono (G.run X.A X.stack s H ⟨.ref C :: us, []⟩ (.ref C :: us) (.ref C :: vs) Q E hr I.env0 b r2 h) fun r s' hq => ?_))
    cases r with
    | error e => exact hx _ H s e s' I hq
    | ok fl =>
      cases fl with
      | ret u => exact I.after hq
      | next => exact False.elim hq
      | brk => exact False.elim hq
      | cont => exact False.elim hq
  exact thn z fun _ _ y => ClX.unpinE y
theorem pe_cmethS (hf : PE X o te) (rC : ClX.CRead X.K C mc) (c : ClX.CMet X.K C mc m pA fa) (G : FnG X.prog X.w X.K X.mg X.base CX k fa fd ps sp) (hr : RoomG k X.A) (hb : Binds X.K fd ps []) (hx : ∀ σ, PassesAt CX X σ (E σ)) (ha : PA X (e :: es) t)
    (hst : starEach (e :: es) X.env = (false, eval e X.env) :: starEach es X.env := by rfl) (hpl : (backTo pos (starEach es X.env)).any (·.1) = false := by rfl)
    (ht : eval (.Call (.Attribute o m apos) (e :: es) [] pos) X.env = (do
      let ov ← eval o X.env
      standAt apos.atName
      let (f, first) ← holding [ov] (getMethod ov m pl)
      callWith pos f first (backTo pos (starEach (e :: es) X.env)) (backToKw pos (keywordEach [] X.env))) := by rfl) :
    PE X (.Call (.Attribute o m apos) (e :: es) [] pos) (fun σ H Q => te σ H fun x H1 => x = .ref C ∧ t σ H1 fun vs H2 => sp (.ref C :: vs) H2 Q (E σ)) := by
  refine ⟨fun pins s σ H Q I h => ?_⟩
  refine PySem.W.methodCall_KW (pl := pl) (thn (hf.run pins s σ H _ I h) fun u s1 ⟨x, H1, I1, rx, ex, q⟩ => ?_) ht
  subst ex
  obtain rfl : u = Value.ref C := rx
  refine ClX.getmethcm_ok I1 rC c fun s2 I2 => ?_
  refine ClX.callwith_cm I2 (ClX.base_none I1 (Nat.le_refl _)) c.fi (thn (ha.run pos _ s2 σ H1 _ I2 q) fun us s3 ⟨vs, H2, I3, rv, q2⟩ => ⟨⟨ClX.pin_at I3, I3.kIn⟩, ?_⟩) hst hpl
  exact run_cmS G hr hb (hx σ) I3 rv q2
theorem pe_cmeth0S (hf : PE X o te) (rC : ClX.CRead X.K C mc) (c : ClX.CMet X.K C mc m pA fa) (G : FnG X.prog X.w X.K X.mg X.base CX k fa fd ps sp) (hr : RoomG k X.A) (hb : Binds X.K fd ps []) (hx : ∀ σ, PassesAt CX X σ (E σ))
    (ht : eval (.Call (.Attribute o m apos) [] [] pos) X.env = (do
      let ov ← eval o X.env
      standAt apos.atName
      let (f, first) ← holding [ov] (getMethod ov m pl)
      callWith pos f first (backTo pos (starEach [] X.env)) (backToKw pos (keywordEach [] X.env))) := by rfl) :
    PE X (.Call (.Attribute o m apos) [] [] pos) (fun σ H Q => te σ H fun x H1 => x = .ref C ∧ sp [.ref C] H1 Q (E σ)) := by
  refine ⟨fun pins s σ H Q I h => ?_⟩
  refine PySem.W.methodCall_KW (pl := pl) (thn (hf.run pins s σ H _ I h) fun u s1 ⟨x, H1, I1, rx, ex, q⟩ => ?_) ht
  subst ex
  obtain rfl : u = Value.ref C := rx
  refine ClX.getmethcm_ok I1 rC c fun s2 I2 => ?_
  refine PySem.W.callWith_M0 ⟨ClX.pin_at I2, I2.kIn⟩ c.fi ?_
  exact run_cmS (vs := []) (us := []) G hr hb (hx σ) I2 .nil q
/-- o.m(e, ..) -/
theorem pe_methS (hf : PE X o te) (c : Cls X.K C) (hm : Meth X.K C m fa) (G : FnG X.prog X.w X.K X.mg X.base CX k fa fd ps sp) (hr : RoomG k X.A) (hb : Binds X.K fd ps []) (hx : ∀ σ, PassesAt CX X σ (E σ)) (ha : PA X (e :: es) t)
    (hst : starEach (e :: es) X.env = (false, eval e X.env) :: starEach es X.env := by rfl) (hpl : (backTo pos (starEach es X.env)).any (·.1) = false := by rfl)
    (ht : eval (.Call (.Attribute o m apos) (e :: es) [] pos) X.env = (do
      let ov ← eval o X.env
      standAt apos.atName
      let (f, first) ← holding [ov] (getMethod ov m pl)
      callWith pos f first (backTo pos (starEach (e :: es) X.env)) (backToKw pos (keywordEach [] X.env))) := by rfl) :
    PE X (.Call (.Attribute o m apos) (e :: es) [] pos) (fun σ H Q => te σ H fun x H1 => (∃ a dx fs, x = .ref a ∧ H1 a = some (.ins C dx fs) ∧ fs.lookup m = none) ∧ t σ H1 fun vs H2 => sp (x :: vs) H2 Q (E σ)) := by
  refine ⟨fun pins s σ H Q I h => ?_⟩
  refine PySem.W.methodCall_KW (pl := pl) (thn (hf.run pins s σ H _ I h) fun u s1 ⟨x, H1, I1, rx, ⟨a, dx, fs, ex, ea, l⟩, q⟩ => ?_) ht
  subst ex
  obtain rfl : u = Value.ref a := rx
  refine getmeth_ok I1 ea c hm l ?_
  refine PySem.W.callWith_K (first := [.ref a]) (h₀ := X.base) I.ok.mod.kin hm.kp (thn (ha.run pos pins s1 σ H1 _ I1 q) fun us s2 ⟨vs, H2, I2, r, q2⟩ => ⟨I2.kIn, ?_⟩) hst hpl
  exact run_fnG (us := .ref a :: us) (vs := .ref a :: vs) G hr hb (hx σ) I2 (.cons rfl r) q2
theorem pe_meth0S (hf : PE X o te) (c : Cls X.K C) (hm : Meth X.K C m fa) (G : FnG X.prog X.w X.K X.mg X.base CX k fa fd ps sp) (hr : RoomG k X.A) (hb : Binds X.K fd ps []) (hx : ∀ σ, PassesAt CX X σ (E σ))
    (ht : eval (.Call (.Attribute o m apos) [] [] pos) X.env = (do
      let ov ← eval o X.env
      standAt apos.atName
      let (f, first) ← holding [ov] (getMethod ov m pl)
      callWith pos f first (backTo pos (starEach [] X.env)) (backToKw pos (keywordEach [] X.env))) := by rfl) :
    PE X (.Call (.Attribute o m apos) [] [] pos) (fun σ H Q => te σ H fun x H1 => (∃ a dx fs, x = .ref a ∧ H1 a = some (.ins C dx fs) ∧ fs.lookup m = none) ∧ sp [x] H1 Q (E σ)) := by
  refine ⟨fun pins s σ H Q I h => ?_⟩
  refine PySem.W.methodCall_KW (pl := pl) (thn (hf.run pins s σ H _ I h) fun u s1 ⟨x, H1, I1, rx, ⟨a, dx, fs, ex, ea, l⟩, q⟩ => ?_) ht
  subst ex
  obtain rfl : u = Value.ref a := rx
  refine getmeth_ok I1 ea c hm l ?_
  exact PySem.W.callWith_K0 (first := [.ref a]) I1.kIn hm.kp (run_fnG (us := [.ref a]) (vs := [.ref a]) G hr hb (hx σ) I1 (.cons rfl .nil) q)
/-! ### over data -/
theorem pd_smeth {pn : Pos} {Mc : List Nat} {cv : Value} (hg : Gl X x) (hm : X.mg x = some (.ref C)) (rC : ClX.CRead X.K C mc) (c : SMet X.K C mc m pA fa) (G : Def X.prog X.w X.K X.mg X.base T k fa fd ps Mc con) (hr : RoomG k X.A) (tk : Takes X (lW X.K T B M W)) (hb : Binds X.K fd ps []) (ha : PDAV X T B M W (e :: es) as) (hn : as.length = ps.length := by rfl) (hf : fitA as Mc = true := by rfl)
    (hdb : (x == ("__debug__" : Str)) = false := by decide) (hst : starEach (e :: es) X.env = (false, eval e X.env) :: starEach es X.env := by rfl) (hpl : (backTo pos (starEach es X.env)).any (·.1) = false := by rfl)
    (ht : eval (.Call (.Attribute (.Name x pn) m apos) (e :: es) [] pos) X.env = (do
      let ov ← eval (.Name x pn) X.env
      standAt apos.atName
      let (f, first) ← holding [ov] (getMethod ov m pl)
      callWith pos f first (backTo pos (starEach (e :: es) X.env)) (backToKw pos (keywordEach [] X.env))) := by rfl) :
    PD X T B M W (.Call (.Attribute (.Name x pn) m apos) (e :: es) [] pos) (dCall con as) :=
  pe_imp (pe_smethS (pe_glob (v := .ref C) hg hm rfl hdb) rC c G.kp G.ok hr hb (fun σ => passAt tk σ) ha hst hpl ht) fun σ H Q z => ⟨rfl, call_of hn hf z⟩
theorem pd_cmeth {c n : Nat} {ci : CI} {pn : Pos} {Mc : List Nat} (hT : T.cl c = some ci) (hg : Gl X x) (hm : X.mg x = some (.ref ci.addr)) (rC : ClX.CRead X.K ci.addr mc) (cm : ClX.CMet X.K ci.addr mc m pA fa) (G : Def X.prog X.w X.K X.mg X.base T k fa fd ps [] con) (hr : RoomG k X.A) (tk : Takes X (lW X.K T B M W)) (hb : Binds X.K fd ps []) (ha : PDA X T B M W (e :: es) fs) (hn : fs.length + 1 = ps.length := by rfl)
    (hdb : (x == ("__debug__" : Str)) = false := by decide) (hst : starEach (e :: es) X.env = (false, eval e X.env) :: starEach es X.env := by rfl) (hpl : (backTo pos (starEach es X.env)).any (·.1) = false := by rfl)
    (ht : eval (.Call (.Attribute (.Name x pn) m apos) (e :: es) [] pos) X.env = (do
      let ov ← eval (.Name x pn) X.env
      standAt apos.atName
      let (f, first) ← holding [ov] (getMethod ov m pl)
      callWith pos f first (backTo pos (starEach (e :: es) X.env)) (backToKw pos (keywordEach [] X.env))) := by rfl) :
    PD X T B M W (.Call (.Attribute (.Name x pn) m apos) (e :: es) [] pos) (dCm c con fs) :=
  pe_imp (pe_cmethS (pe_glob (v := .ref ci.addr) hg hm rfl hdb) rC cm G.ok hr hb (fun σ => passAt tk σ) ha hst hpl ht) fun σ H Q ⟨F, ρ, Qd, S, h, kk⟩ => by
    refine ⟨rfl, lA_run S h fun F1 H1 ρ1 vs ds e1 S1 R1 q => ?_⟩
    obtain ⟨hl, q⟩ := q
    have nown : ∀ (i : Nat) (d : D), ((D.cls c :: ds).map Slot.fz)[i]? ≠ some (.own d) := fun i d h => by
      rw [List.getElem?_map] at h
      cases e : (D.cls c :: ds)[i]? with
      | none => rw [e] at h; cases h
      | some d' => rw [e] at h; cases h
    have R2 : RepL X.K T F1 (.ref ci.addr :: vs) (D.cls c :: ds) := .cons (.cls hT) R1
    refine ⟨F1, (D.cls c :: ds).map Slot.fz, _, _, by rw [R2.length, List.length_cons, hl, hn], by rw [List.length_map, List.length_cons, hl, hn], S1.sub, args_of R2, fun i j d e p h1 => absurd h1 (nown i d), fun i d h1 => absurd h1 (nown i d), q, fun F2 H2 v r outs A R q2 => ?_, fun F2 H2 cls d y outs A ex q2 => ?_⟩
    · have S3 := S1.aft A fun b ⟨i, d, h1, _⟩ => absurd h1 (nown i d)
      refine kk F2 H2 ρ1 v r (e1.trans A.same) S3 ?_ q2
      cases r with
      | fz d => exact R
      | fr d =>
        obtain ⟨p, o, rfl, z1, z2, z3, z4⟩ := R
        refine ⟨p, o, rfl, z1, z2, z3, S1.gone z4, fun i e hi hs => ?_⟩
        obtain ⟨p', o', y1, y2, y3, y4⟩ := S1.ownAt hi
        rw [hs] at y1
        cases y1
        rw [z4] at y3
        cases y3
    · exact ⟨F2, ρ1, y, S1.aft A fun b ⟨i, d, h1, _⟩ => absurd h1 (nown i d), ex, q2⟩
/-- x.m(..) of a settled object -/
theorem recv_of {c : Nat} {ci : CI} {d : D} {v : V} (hC : T.cl c = some ci) (hnm : m ∉ ci.names) (S : SR X.K T B M F H ρ σ) (r : Rep X.K T F v d) (h : d.isObj c = true) : ∃ a dx fs, v = .ref a ∧ H a = some (.ins ci.addr dx fs) ∧ fs.lookup m = none := by
  cases d with
  | obj c' ds =>
    have : c' = c := by simpa [D.isObj] using h
    subst this
    obtain ⟨p, ci', dx, vs, rfl, hc, hF, hl, ra⟩ := r.obj_inv
    cases hC.symm.trans hc
    exact ⟨p, dx, _, rfl, S.sub _ _ hF, zip_lookup_none hnm⟩
  | _ => cases h
theorem pd_meth {c : Nat} {ci : CI} {Mc : List Nat} (hC : ClD X.K T c ci) (hnm : m ∉ ci.names) (hm : Meth X.K ci.addr m fa) (G : Def X.prog X.w X.K X.mg X.base T k fa fd ps Mc con) (hr : RoomG k X.A) (tk : Takes X (lW X.K T B M W)) (hb : Binds X.K fd ps []) (he : PD X T B M W o f) (ha : PDAV X T B M W (e :: es) as)
    (hn : (DA.v (dObj c f) :: as).length = ps.length := by rfl) (hf : fitA (.v (dObj c f) :: as) Mc = true := by rfl)
    (hst : starEach (e :: es) X.env = (false, eval e X.env) :: starEach es X.env := by rfl) (hpl : (backTo pos (starEach es X.env)).any (·.1) = false := by rfl)
    (ht : eval (.Call (.Attribute o m apos) (e :: es) [] pos) X.env = (do
      let ov ← eval o X.env
      standAt apos.atName
      let (f, first) ← holding [ov] (getMethod ov m pl)
      callWith pos f first (backTo pos (starEach (e :: es) X.env)) (backToKw pos (keywordEach [] X.env))) := by rfl) :
    PD X T B M W (.Call (.Attribute o m apos) (e :: es) [] pos) (dCall con (.v (dObj c f) :: as)) :=
  pe_imp (pe_methS he hC.cls hm G.ok hr hb (fun σ => passAt tk σ) ha hst hpl ht) fun σ H Q z => by
    obtain ⟨F, ρ, Qd, S, h, kk⟩ := call_of (B := B) (M := M) (W := W) hn hf z
    refine lE_run S h fun F1 H1 ρ1 v1 r1 e1 S1 R1 h1 => ⟨recv_of hC.at_ hnm S1 R1 h1.1, ?_⟩
    exact ⟨F1, ρ1, _, S1, h1.2, fun F2 H2 ρ2 vs bs e2 S2 R2 mt h2 => kk F2 H2 ρ2 _ (.v r1.d :: bs) (e1.trans e2) S2 ⟨R1.mono e2, R2⟩ mt h2⟩
theorem pd_meth0 {c : Nat} {ci : CI} {Mc : List Nat} (hC : ClD X.K T c ci) (hnm : m ∉ ci.names) (hm : Meth X.K ci.addr m fa) (G : Def X.prog X.w X.K X.mg X.base T k fa fd ps Mc con) (hr : RoomG k X.A) (tk : Takes X (lW X.K T B M W)) (hb : Binds X.K fd ps []) (he : PD X T B M W o f)
    (hn : [DA.v (dObj c f)].length = ps.length := by rfl) (hf : fitA [.v (dObj c f)] Mc = true := by rfl)
    (ht : eval (.Call (.Attribute o m apos) [] [] pos) X.env = (do
      let ov ← eval o X.env
      standAt apos.atName
      let (f, first) ← holding [ov] (getMethod ov m pl)
      callWith pos f first (backTo pos (starEach [] X.env)) (backToKw pos (keywordEach [] X.env))) := by rfl) :
    PD X T B M W (.Call (.Attribute o m apos) [] [] pos) (dCall con [.v (dObj c f)]) :=
  pe_imp (pe_meth0S he hC.cls hm G.ok hr hb (fun σ => passAt tk σ) ht) fun σ H Q z => by
    obtain ⟨F, ρ, Qd, S, h, kk⟩ := call_of (B := B) (M := M) (W := W) hn hf z
    refine lE_run S h fun F1 H1 ρ1 v1 r1 e1 S1 R1 h1 => ⟨recv_of hC.at_ hnm S1 R1 h1.1, ?_⟩
    exact kk F1 H1 ρ1 [v1] [.v r1.d] e1 S1 ⟨R1, trivial⟩ trivial h1.2
/-- x.m(..), x the name's own object (or a settled one), which the method may change -/
theorem slotobj_of {c i : Nat} {ci : CI} (hC : T.cl c = some ci) (hnm : m ∉ ci.names) (S : SR X.K T B M F H ρ σ) (h : (ρ.at i).isObj c = true) : ∃ v, σ[i]? = some (some v) ∧ ∃ a dx fs, v = .ref a ∧ H a = some (.ins ci.addr dx fs) ∧ fs.lookup m = none := by
  have hs := S.slot i
  cases hsl : ρ.at i with
  | no => rw [hsl] at h; cases h
  | fz d => rw [hsl] at h hs; obtain ⟨v, e, r⟩ := hs; exact ⟨v, e, recv_of hC hnm S r h⟩
  | own d =>
    rw [hsl] at h hs
    obtain ⟨p, o, e, hF, hH, ro⟩ := hs
    cases d with
    | obj c' ds =>
      have : c' = c := by simpa [Slot.isObj, D.isObj] using h
      subst this
      cases ro with
      | obj hc hlen ra =>
        cases hC.symm.trans hc
        exact ⟨_, e, p, _, _, rfl, hH, zip_lookup_none hnm⟩
    | _ => cases h
theorem pd_methM {c i : Nat} {ci : CI} {Mc : List Nat} {px : Pos} (hC : ClD X.K T c ci) (hnm : m ∉ ci.names) (hm : Meth X.K ci.addr m fa) (G : Def X.prog X.w X.K X.mg X.base T k fa fd ps Mc con) (hr : RoomG k X.A) (tk : Takes X (lW X.K T B M W)) (hb : Binds X.K fd ps []) (hN : X.N[i]? = some x) (hv : Vis X.env.scope x) (ha : PDAV X T B M W (e :: es) as)
    (hn : (DA.m i :: as).length = ps.length := by rfl) (hf : fitA (.m i :: as) Mc = true := by rfl) (hd : (x == ("__debug__" : Str)) = false := by decide) (hcd : (x == ("__classdict__" : Str)) = false := by decide)
    (hst : starEach (e :: es) X.env = (false, eval e X.env) :: starEach es X.env := by rfl) (hpl : (backTo pos (starEach es X.env)).any (·.1) = false := by rfl)
    (ht : eval (.Call (.Attribute (.Name x px) m apos) (e :: es) [] pos) X.env = (do
      let ov ← eval (.Name x px) X.env
      standAt apos.atName
      let (f, first) ← holding [ov] (getMethod ov m pl)
      callWith pos f first (backTo pos (starEach (e :: es) X.env)) (backToKw pos (keywordEach [] X.env))) := by rfl) :
    PD X T B M W (.Call (.Attribute (.Name x px) m apos) (e :: es) [] pos) (dMethM i c con as) :=
  pe_imp (pe_methS (pe_var hN hv hd hcd) hC.cls hm G.ok hr hb (fun σ => passAt tk σ) ha hst hpl ht) fun σ H Q ⟨F0, ρ0, Q0, S0, ⟨ho, h0⟩, k0⟩ => by
    obtain ⟨v, ev, ob⟩ := slotobj_of (m := m) hC.at_ hnm S0 ho
    refine ⟨v, ev, ob, ?_⟩
    obtain ⟨F, ρ, Qd, S, ⟨h1, h⟩, kk⟩ := call_of (B := B) (M := M) (W := W) hn hf ⟨F0, ρ0, Q0, S0, h0, k0⟩
    exact ⟨F, ρ, _, S, h, fun F2 H2 ρ2 vs bs e2 S2 R2 mt h2 => kk F2 H2 ρ2 _ (.m i :: bs) e2 S2 ⟨ev, R2⟩ ⟨rfl, mt⟩ h2⟩
theorem pd_methM0 {c i : Nat} {ci : CI} {Mc : List Nat} {px : Pos} (hC : ClD X.K T c ci) (hnm : m ∉ ci.names) (hm : Meth X.K ci.addr m fa) (G : Def X.prog X.w X.K X.mg X.base T k fa fd ps Mc con) (hr : RoomG k X.A) (tk : Takes X (lW X.K T B M W)) (hb : Binds X.K fd ps []) (hN : X.N[i]? = some x) (hv : Vis X.env.scope x)
    (hn : [DA.m i].length = ps.length := by rfl) (hf : fitA [.m i] Mc = true := by rfl) (hd : (x == ("__debug__" : Str)) = false := by decide) (hcd : (x == ("__classdict__" : Str)) = false := by decide)
    (ht : eval (.Call (.Attribute (.Name x px) m apos) [] [] pos) X.env = (do
      let ov ← eval (.Name x px) X.env
      standAt apos.atName
      let (f, first) ← holding [ov] (getMethod ov m pl)
      callWith pos f first (backTo pos (starEach [] X.env)) (backToKw pos (keywordEach [] X.env))) := by rfl) :
    PD X T B M W (.Call (.Attribute (.Name x px) m apos) [] [] pos) (dMethM i c con []) :=
  pe_imp (pe_meth0S (pe_var hN hv hd hcd) hC.cls hm G.ok hr hb (fun σ => passAt tk σ) ht) fun σ H Q ⟨F0, ρ0, Q0, S0, ⟨ho, h0⟩, k0⟩ => by
    obtain ⟨v, ev, ob⟩ := slotobj_of (m := m) hC.at_ hnm S0 ho
    refine ⟨v, ev, ob, ?_⟩
    obtain ⟨F, ρ, Qd, S, ⟨h1, h⟩, kk⟩ := call_of (B := B) (M := M) (W := W) hn hf ⟨F0, ρ0, Q0, S0, h0, k0⟩
    exact kk F H ρ [v] [.m i] (Same.refl _) S ⟨ev, trivial⟩ ⟨rfl, trivial⟩ h
end
end DL

set_option Elab.async false
set_option linter.all false
set_option autoImplicit false
set_option maxRecDepth 100000
/-! DLX15: what callers know, in short; the law's end. -/
namespace DL
open PySem PySem.Spec PyProof.Rows L2


section
variable (P : Program) (w : World) (K : PySem.W.Frag) (mg : Str → Option Value) (base : Heap) (T : Tb)
/-- a def of the module -/
def Cal (x : Str) (k : Nat) (ps : List Str) (M : List Nat) (con : Con) : Prop := ∃ fa fd, Def P w K mg base T k fa fd ps M con ∧ Binds K fd ps [] ∧ mg x = some (.ref fa)
/-- a method of the class at C -/
def CalM (C : Addr) (m : Str) (k : Nat) (ps : List Str) (M : List Nat) (con : Con) : Prop := ∃ fa fd, Def P w K mg base T k fa fd ps M con ∧ Binds K fd ps [] ∧ Meth K C m fa
def CalS (C : Addr) (m : Str) (k : Nat) (ps : List Str) (M : List Nat) (con : Con) : Prop := ∃ fa fd pA, Def P w K mg base T k fa fd ps M con ∧ Binds K fd ps [] ∧ SMet K C (.type "type") m pA fa
def CalC (C : Addr) (m : Str) (k : Nat) (ps : List Str) (con : Con) : Prop := ∃ fa fd pA, Def P w K mg base T k fa fd ps [] con ∧ Binds K fd ps [] ∧ ClX.CMet K C (.type "type") m pA fa
def CalI (C : Addr) (k : Nat) (ps : List Str) (con : Con) : Prop := ∃ fa fd, Def P w K mg base T k fa fd ps [0] con ∧ Binds K fd ps [] ∧ Mk K C fa
/-- a property that hands out an attribute -/
def CalP (C : Addr) (pn fn : Str) (k : Nat) : Prop := ∃ p gA fd, PropOf K C pn p gA ∧ FnOk P w K mg base (L2.CX P w) k gA fd ["self"] (getSp C fn) ∧ Binds K fd ["self"] []
/-- an own exception class -/
def ErrX (x : Str) (c : Nat) : Prop := ∃ f newId initId B tail C fI, DLE.ETxt K f newId initId B tail C fI ∧ T.ex c = some ⟨C, Str.ofString f⟩ ∧ mg x = some (.ref C)
/-- an own class of the module -/
structure Own (x : Str) (c : Nat) (ci : CI) : Prop where
  cl : ClD K T c ci
  rd : ClX.CRead K ci.addr (.type "type")
  mg : mg x = some (.ref ci.addr)
end
section
variable {X : Cx} {T : Tb} {B : Bs} {M : List Nat} {W : EK} {F H : Hp} {ρ : Env} {σ : L2.St}
variable {a e o : Expr} {es : List Expr} {f g : DE} {fs : List DE} {as : List DA} {pos apos : Pos}
variable {k c i j : Nat} {C : Addr} {ci : CI} {ps : List Str} {con : Con} {x m : Str} {p : Pos} {Mc : List Nat} {pl : Sem Bool}
theorem takes_no : Takes X (lW X.K T B M noE) := fun u s' ⟨a, B, sI, pins, σ, H, cls, d, e, I, nb, up, sky, na, os, ag, F, ρ, x, S, ex, w⟩ => w.elim
theorem pd_callC (G : Cal X.prog X.w X.K X.mg X.base T x k ps Mc con) (hr : RoomG k X.A) (tk : Takes X (lW X.K T B M W)) (hg : Gl X x) (ha : PDAV X T B M W (e :: es) as) (hn : as.length = ps.length := by rfl) (hf : fitA as Mc = true := by rfl)
    (hdb : (x == ("__debug__" : Str)) = false := by decide) (he : starEach (e :: es) X.env = (false, eval e X.env) :: starEach es X.env := by rfl) (hpl : (backTo pos (starEach es X.env)).any (·.1) = false := by rfl) :
    PD X T B M W (.Call (.Name x p) (e :: es) [] pos) (dCall con as) := by
  obtain ⟨fa, fd, D, hb, hm⟩ := G
  exact pd_call D hr tk hg hm hb ha hn hf hdb he hpl
theorem pd_methC (hC : ClD X.K T c ci) (G : CalM X.prog X.w X.K X.mg X.base T ci.addr m k ps Mc con) (hnm : m ∉ ci.names) (hr : RoomG k X.A) (tk : Takes X (lW X.K T B M W)) (he : PD X T B M W o f) (ha : PDAV X T B M W (e :: es) as)
    (hn : (DA.v (dObj c f) :: as).length = ps.length := by rfl) (hf : fitA (.v (dObj c f) :: as) Mc = true := by rfl)
    (hst : starEach (e :: es) X.env = (false, eval e X.env) :: starEach es X.env := by rfl) (hpl : (backTo pos (starEach es X.env)).any (·.1) = false := by rfl)
    (ht : eval (.Call (.Attribute o m apos) (e :: es) [] pos) X.env = (do
      let ov ← eval o X.env
      standAt apos.atName
      let (f, first) ← holding [ov] (getMethod ov m pl)
      callWith pos f first (backTo pos (starEach (e :: es) X.env)) (backToKw pos (keywordEach [] X.env))) := by rfl) :
    PD X T B M W (.Call (.Attribute o m apos) (e :: es) [] pos) (dCall con (.v (dObj c f) :: as)) := by
  obtain ⟨fa, fd, D, hb, hm⟩ := G
  exact pd_meth hC hnm hm D hr tk hb he ha hn hf hst hpl ht
theorem pd_methC0 (hC : ClD X.K T c ci) (G : CalM X.prog X.w X.K X.mg X.base T ci.addr m k ps Mc con) (hnm : m ∉ ci.names) (hr : RoomG k X.A) (tk : Takes X (lW X.K T B M W)) (he : PD X T B M W o f)
    (hn : [DA.v (dObj c f)].length = ps.length := by rfl) (hf : fitA [.v (dObj c f)] Mc = true := by rfl)
    (ht : eval (.Call (.Attribute o m apos) [] [] pos) X.env = (do
      let ov ← eval o X.env
      standAt apos.atName
      let (f, first) ← holding [ov] (getMethod ov m pl)
      callWith pos f first (backTo pos (starEach [] X.env)) (backToKw pos (keywordEach [] X.env))) := by rfl) :
    PD X T B M W (.Call (.Attribute o m apos) [] [] pos) (dCall con [.v (dObj c f)]) := by
  obtain ⟨fa, fd, D, hb, hm⟩ := G
  exact pd_meth0 hC hnm hm D hr tk hb he hn hf ht
theorem pd_smethC {pn : Pos} (hO : Own X.K X.mg T x c ci) (G : CalS X.prog X.w X.K X.mg X.base T ci.addr m k ps Mc con) (hr : RoomG k X.A) (tk : Takes X (lW X.K T B M W)) (hg : Gl X x) (ha : PDAV X T B M W (e :: es) as) (hn : as.length = ps.length := by rfl) (hf : fitA as Mc = true := by rfl)
    (hdb : (x == ("__debug__" : Str)) = false := by decide) (hst : starEach (e :: es) X.env = (false, eval e X.env) :: starEach es X.env := by rfl) (hpl : (backTo pos (starEach es X.env)).any (·.1) = false := by rfl)
    (ht : eval (.Call (.Attribute (.Name x pn) m apos) (e :: es) [] pos) X.env = (do
      let ov ← eval (.Name x pn) X.env
      standAt apos.atName
      let (f, first) ← holding [ov] (getMethod ov m pl)
      callWith pos f first (backTo pos (starEach (e :: es) X.env)) (backToKw pos (keywordEach [] X.env))) := by rfl) :
    PD X T B M W (.Call (.Attribute (.Name x pn) m apos) (e :: es) [] pos) (dCall con as) := by
  obtain ⟨fa, fd, pA, D, hb, sm⟩ := G
  exact pd_smeth (cv := .none) hg hO.mg hO.rd sm D hr tk hb ha hn hf hdb hst hpl ht
theorem pd_cmethC {pn : Pos} (hO : Own X.K X.mg T x c ci) (G : CalC X.prog X.w X.K X.mg X.base T ci.addr m k ps con) (hr : RoomG k X.A) (tk : Takes X (lW X.K T B M W)) (hg : Gl X x) (ha : PDA X T B M W (e :: es) fs) (hn : fs.length + 1 = ps.length := by rfl)
    (hdb : (x == ("__debug__" : Str)) = false := by decide) (hst : starEach (e :: es) X.env = (false, eval e X.env) :: starEach es X.env := by rfl) (hpl : (backTo pos (starEach es X.env)).any (·.1) = false := by rfl)
    (ht : eval (.Call (.Attribute (.Name x pn) m apos) (e :: es) [] pos) X.env = (do
      let ov ← eval (.Name x pn) X.env
      standAt apos.atName
      let (f, first) ← holding [ov] (getMethod ov m pl)
      callWith pos f first (backTo pos (starEach (e :: es) X.env)) (backToKw pos (keywordEach [] X.env))) := by rfl) :
    PD X T B M W (.Call (.Attribute (.Name x pn) m apos) (e :: es) [] pos) (dCm c con fs) := by
  obtain ⟨fa, fd, pA, D, hb, cm⟩ := G
  exact pd_cmeth (n := 0) (Mc := []) hO.cl.at_ hg hO.mg hO.rd cm D hr tk hb ha hn hdb hst hpl ht
theorem pd_makeC (hO : Own X.K X.mg T x c ci) (G : CalI X.prog X.w X.K X.mg X.base T ci.addr k ps con) (hr : RoomG (k + 1) X.A) (tk : Takes X (lW X.K T B M W)) (hg : Gl X x) (ha : PDA X T B M W (e :: es) fs) (hn : fs.length + 1 = ps.length := by rfl)
    (hdb : (x == ("__debug__" : Str)) = false := by decide) (he : starEach (e :: es) X.env = (false, eval e X.env) :: starEach es X.env := by rfl) (hpl : (backTo pos (starEach es X.env)).any (·.1) = false := by rfl) :
    PD X T B M W (.Call (.Name x p) (e :: es) [] pos) (dMake c con fs) := by
  obtain ⟨fa, fd, D, hb, mk⟩ := G
  exact pd_make hO.cl mk D hr tk hg hO.mg hb ha hn hdb he hpl
theorem pd_makeVC (hC : ClD X.K T c ci) (G : CalI X.prog X.w X.K X.mg X.base T ci.addr k ps con) (hr : RoomG (k + 1) X.A) (tk : Takes X (lW X.K T B M W)) (hN : X.N[i]? = some x) (hv : Vis X.env.scope x) (ha : PDA X T B M W (e :: es) fs) (hn : fs.length + 1 = ps.length := by rfl)
    (hd : (x == ("__debug__" : Str)) = false := by decide) (hcd : (x == ("__classdict__" : Str)) = false := by decide) (he : starEach (e :: es) X.env = (false, eval e X.env) :: starEach es X.env := by rfl) (hpl : (backTo pos (starEach es X.env)).any (·.1) = false := by rfl) :
    PD X T B M W (.Call (.Name x p) (e :: es) [] pos) (dMakeV i c con fs) := by
  obtain ⟨fa, fd, D, hb, mk⟩ := G
  exact pd_makeV hC mk D hr tk hN hv hb ha hn hd hcd he hpl
theorem pd_propC {fn pn : Str} (hC : ClD X.K T c ci) (G : CalP X.prog X.w X.K X.mg X.base ci.addr pn fn k) (hj : ci.names[j]? = some fn) (hr : RoomG (k + 1) X.A)
    (he : PD X T B M W e g) (hb : attributeBase e pn X.env (eval e X.env) = eval e X.env := by rfl) : PD X T B M W (.Attribute e pn pos) (dFld c j g) := by
  obtain ⟨p, gA, fd, hp, G, hbn⟩ := G
  exact pd_prop hC hj hp G hr.rm hbn he hb
theorem pds_raiseC {pos2 : Pos} (G : ErrX X.K X.mg T x c) (hc : X.calm = true) (tk : Takes X (lW X.K T B M W)) (hr : RoomG k X.A) (ha : PD X T B M W a g) (hg : Gl X x) (hdb : (x == ("__debug__" : Str)) = false := by decide)
    (he : starEach (a :: []) X.env = (false, eval a X.env) :: starEach [] X.env := by rfl) (hpl : (backTo pos (starEach [] X.env)).any (·.1) = false := by rfl) : PDS X T B M W (.Raise (some (.Call (.Name x p) [a] [] pos)) none pos2) (sRaise c g) := by
  obtain ⟨f, newId, initId, Bn, tail, C, fI, ET, hT, hm⟩ := G
  exact pds_raise hc tk ET hT hr.rm ha hg hm hdb he hpl
theorem pd_strG {y : Str} {l : Tx} (hg : Gl X y) (hm : ∃ tk, X.mg y = some (.str (tx l) tk)) (h : okTxB l = true) (hd : (y == ("__debug__" : Str)) = false := by decide) : PD X T B M W (.Name y pos) (dC (.str l)) :=
  let ⟨tk, hm⟩ := hm; pd_glob (v := .str (tx l)) hg hm ⟨tk, rfl⟩ (fun _ => .str (okTx_of h)) hd
theorem pd_intG {y : Str} {n : Int} (hg : Gl X y) (hm : ∃ tk, X.mg y = some (.int n tk)) (hd : (y == ("__debug__" : Str)) = false := by decide) : PD X T B M W (.Name y pos) (dC (.int n)) :=
  let ⟨tk, hm⟩ := hm; pd_glob (v := .int n) hg hm ⟨tk, rfl⟩ (fun _ => .int n) hd
end
/-! ### the law -/
def lawCon : Con := fun args Q _ => ∃ ns : List Int, ns.length ≤ 63 ∧ args = [.fz (.frl (ns.map .int))] ∧ ∀ outs, Q (.fz (.bl true)) outs
def spLaw (K : PySem.W.Frag) : Sp := fun vs H Q _ => ∃ (a : Addr) (ns : List Int), vs = [.ref a] ∧ SqL K H a (ns.map V.int) ∧ ns.length ≤ 63 ∧ ∀ H', Q (.bl true) H'
theorem ints_rep {K : PySem.W.Frag} {T : Tb} {F : Hp} : ∀ ns : List Int, RepL K T F (ns.map V.int) (ns.map D.int)
  | [] => .nil
  | n :: ns => .cons (.int n) (ints_rep ns)
theorem lawFn {P : Program} {w : World} {K : PySem.W.Frag} {mg : Str → Option Value} {base : Heap} {T : Tb} {k : Nat} {fa : Addr} {fd : FuncData} {x : Str} (G : Def P w K mg base T k fa fd [x] [] lawCon) :
    FnG P w K mg base (L2.CX P w) k fa fd [x] (spLaw K) :=
  G.ok.imp fun vs H Q E ⟨a, ns, e, hs, hl, hq⟩ => by
    subst e
    refine ⟨H, [.fz (.frl (ns.map .int))], fun r _ => r = .fz (.bl true), fun _ _ => False, rfl, rfl, Same.refl _, fun i v s h1 h2 => ?_, fun i j d e p h1 => ?_, fun i d h1 => ?_, ⟨ns, hl, rfl, fun _ => rfl⟩, fun F' H' v r outs A R q => ?_, fun _ _ _ _ _ _ _ _ q => q.elim⟩
    · cases i with
      | zero =>
        simp at h1 h2
        subst h1; subst h2
        exact .frl hs (ints_rep ns)
      | succ i => simp at h1
    · cases i with
      | zero => simp at h1
      | succ i => simp at h1
    · cases i with
      | zero => simp at h1
      | succ i => simp at h1
    · subst q
      have : v = .bl true := Rep.bl_inv R
      subst this
      exact hq H'
/-- the abstract heap in which nothing but the script stands, if it is not the module's own -/
def scriptH (vs : List Value) (ns : List Int) (own : Bool) (a : Addr) : Hp := fun b => if own = false ∧ b = a then some (.frz { cls := .type "list", data := .seq vs.toArray } (.lst (ns.map V.int))) else none
theorem scriptH_some {vs : List Value} {ns : List Int} {own : Bool} {a b : Addr} {u : HO} (h : scriptH vs ns own a b = some u) : own = false ∧ b = a ∧ u = .frz { cls := .type "list", data := .seq vs.toArray } (.lst (ns.map V.int)) := by
  unfold scriptH at h
  split at h
  · rename_i q
    cases h
    exact ⟨q.1, q.2, rfl⟩
  · cases h
theorem law_at {P : Program} {w : World} {K : PySem.W.Frag} {mg mb : Str → Option Value} {k : Nat} {fa a : Addr} {fd : FuncData} {x : Str} {s₁ : Shared} {vs : List Value} {ns : List Int}
    (kin : K.In s₁.heap) (gl : s₁.heap.Ns mainGlobals mg) (bi : s₁.heap.Ns builtinsNs mb) (bb : ∀ x : Str, x ≠ "__name__" → mb x = bootBuiltins x) (lim : s₁.heap.NoLimit) (gens : s₁.gens = #[])
    (sc : s₁.heap.get? a = some { cls := .type "list", data := .seq vs.toArray }) (isI : IntsAre vs ns) (few : ns.length ≤ 63) (hr : Room k callerA)
    (F : ∀ base : Heap, K.In base → base.Ns mainGlobals mg → FnG P w K mg base (L2.CX P w) k fa fd [x] (spLaw K)) (hbind : ∀ (s : Shared) (u : Value), BindsTo s fd ⟨[u], []⟩ [(x, u)]) :
    codeAny (model P w) callerA (.call (.ref fa) ⟨[.ref a], []⟩) (fun r s' => r = .ok (.ret (.bool true)) ∧ OldK s₁.heap s'.heap ∧ s'.os = s₁.os ∧ AllBare s'.gens) s₁ := by
  have line : ns.length ≤ sizeLine := Nat.le_trans few (by rw [sizeLine_eq]; decide)
  obtain ⟨own, hown⟩ : ∃ own : Bool, own = (K.lookup a).isSome := ⟨_, rfl⟩
  let H : Hp := scriptH vs ns own a
  have H_a : ∀ {b : Addr} {u : HO}, H b = some u → b = a ∧ K.lookup a = none ∧ u = .frz { cls := .type "list", data := .seq vs.toArray } (.lst (ns.map V.int)) := fun {b u} e => by
    obtain ⟨h1, h2, h3⟩ := scriptH_some e
    rw [h1] at hown
    exact ⟨h2, by simpa using hown.symm, h3⟩
  have free : ∀ {b : Addr}, b ≠ a → H b = none := fun {b} hb => by
    cases e : H b with
    | none => rfl
    | some u => exact absurd (H_a e).1 hb
  have seq : SqL K H a (ns.map V.int) := by
    cases ho : own with
    | true =>
      have : (K.lookup a).isSome = true := by rw [← hown, ho]
      obtain ⟨o, hk⟩ := Option.isSome_iff_exists.mp this
      have e := kin a o hk
      rw [sc] at e
      cases e
      have lv : vs.length = ns.length := isI.length
      refine .inr ⟨_, vs.toArray, _, hk, rfl, rfl, rfl, ?_, by simpa using vals_ints isI⟩
      show vs.toArray.size ≤ sizeLine
      rw [List.size_toArray, lv]
      exact line
    | false =>
      refine .inl (.inr ⟨{ cls := .type "list", data := .seq vs.toArray }, ?_⟩)
      show scriptH vs ns own a a = _
      unfold scriptH
      exact if_pos ⟨ho, rfl⟩
  have hok : HOk P w H s₁.heap := fun b u e => by
    obtain ⟨rfl, _, rfl⟩ := H_a e
    exact ⟨sc, by rw [List.length_map]; exact line, vs, _, vals_ints isI, sc⟩
  have tabs : ∀ {b : Addr} {o : Obj} {es : Array DictEntry} {ep : Nat}, s₁.heap.get? b = some o → o.data = .dict es ep → H b = none := fun {b o es ep} e d => free fun hb => by
    subst hb
    rw [sc] at e
    cases e
    exact Data.noConfusion (show Data.seq vs.toArray _ = Data.dict es ep from d)
  have keepNs : ∀ {b : Addr} {m : Str → Option Value}, s₁.heap.Ns b m → (hidT s₁.heap H).Ns b m := fun {b m} ⟨o, es, ep, e, d, r⟩ => ⟨o, es, ep, hidT_get e (tabs e d), d, r⟩
  have kin2 : K.In (hidT s₁.heap H) := fun b o e => hidT_get (kin b o e) (by
    cases q : H b with
    | none => rfl
    | some u =>
      obtain ⟨rfl, hk, _⟩ := H_a q
      rw [hk] at e
      cases e)
  have md : Mod K mg (hidT s₁.heap H) := ⟨kin2, keepNs gl, ⟨mb, keepNs bi, bb⟩, let ⟨mc, h1, h2⟩ := lim; ⟨mc, keepNs h1, h2⟩⟩
  have start : Env0 P w K mg (hidT s₁.heap H) callerA [] s₁ H := ⟨rfl, md, fun b o e => of_hidT e, Nat.le_of_eq (hidT_size _ _), trivial, (fun b hb => absurd (show b ∈ ([] : List Addr) from hb) List.not_mem_nil), hok, .of_eq gens⟩
  refine codeAny_mono ((F _ kin2 (keepNs gl)).run callerA [] s₁ H ⟨[.ref a], []⟩ [.ref a] [.ref a] (fun v _ => v = .bl true) (fun _ _ _ => False) ⟨hr, rfl⟩ start (hbind s₁ (.ref a)) (.cons rfl .nil) ⟨a, ns, rfl, seq, few, fun _ => rfl⟩) fun r s' z => ?_
  match r, z with
  | .error e, ⟨_, _, _, _, _, _, _, _, _, _, _, _, q⟩ => exact q.elim
  | .ok (.ret u), ⟨v, H', os, bare, un, hok', rv, q⟩ =>
    have q : v = .bl true := q
    subst q
    cases (show u = Value.bool true from rv)
    refine ⟨rfl, OldK.of_keep fun b o e => ?_, os, bare⟩
    cases hb : H b with
    | none => exact un.keep b o e hb (fun z => absurd (show b ∈ ([] : List Addr) from z) List.not_mem_nil) List.not_mem_nil
    | some u =>
      obtain ⟨rfl, _, rfl⟩ := H_a hb
      obtain ⟨now, _⟩ := hok' _ _ (un.frzs _ _ _ hb)
      rw [sc] at e
      cases e
      exact now
theorem walkD {l : PySem.W.OpenLaw} {q : Program} {loose : List Str} {XP : (Str → Option Value) → Heap → Prop} {YP : World → Heap → Prop} {d : DefRec} {K : Params → PySem.W.Frag} {k : Nat} {x : Str} (hn : l.most = some 63) (hdf : d.params.defaults = []) (hk : Room k callerA)
    (hY : ∀ (w : World) (h : Heap), YP w h → (K w.params).In h)
    (F : ∀ (w : World) (mg : Str → Option Value) (fa : Addr) (h : Heap), (K w.params).In h → h.Ns mainGlobals mg → mg d.name = some (.ref fa) →
      ∃ fd : FuncData, (∀ (s : Shared) (u : Value), BindsTo s fd ⟨[u], []⟩ [(x, u)]) ∧ ∀ base : Heap, (K w.params).In base → base.Ns mainGlobals mg → FnG l.prog w (K w.params) mg base (L2.CX l.prog w) k fa fd [x] (spLaw (K w.params))) :
    PySem.W.WalkO q loose XP YP l.row.toRowW d [] (fun f vs => PySem.call f vs) := by
  refine Att.attach_call hn hdf fun w s₀ s₁ mg mb fa o pm cd doc a vs ns gr y _ _ _ hmg sc isI few gens => ?_
  obtain ⟨fd, hb, hF⟩ := F w mg fa _ (hY w _ y) gr.T.g hmg
  exact law_at (hY w _ y) gr.T.g gr.T.b gr.T.builtins gr.T.nolimit gens sc isI few hk hF hb
end DL

set_option Elab.async false
set_option linter.all false
set_option autoImplicit false
set_option maxRecDepth 100000
/-! DLX16: += and the like. -/
namespace DL
open PySem PySem.Spec PyProof.Rows L2
section
variable {X : Cx} {T : Tb} {B : Bs} {M : List Nat} {W : EK} {F H : Hp} {ρ : Env} {σ : L2.St}
def rIAdd (X : Cx) : R2 := fun x y H Q => (rI0 (fun i j => .int (i + j))) x y H Q ∨ (∃ i j, x = .str i ∧ y = .str j ∧ i.length + j.length ≤ sizeLine ∧ Q (.str (i ++ j)) H)
theorem iop_addA : OpR X (inplaceOp .Add) (rIAdd X) := iop_add.or iop_add_str
theorem ok_iadd : OpOk X.K T iaddD (rIAdd X) := by
  intro F H x y dx dy k Q s rx ry ho kk
  cases dx with
  | int i =>
    cases dy with
    | int j => exact .inl ⟨i, j, rx.int_inv, ry.int_inv, kk _ _ _ (.fz (.int _)) ho⟩
    | _ => exact ho.elim
  | str a =>
    cases dy with
    | str b =>
      obtain ⟨ex, ha⟩ := rx.str_inv
      obtain ⟨ey, hb⟩ := ry.str_inv
      have hl : (tx a).length + (tx b).length ≤ sizeLine := by rw [tx_len, tx_len, ← maxTx_eq]; exact ho.1
      refine .inr ⟨_, _, ex, ey, hl, ?_⟩
      rw [tx_app]
      exact kk _ _ _ (.fz (.str (ha.append hb ho.1))) ho.2
    | _ => exact ho.elim
  | _ => exact ho.elim
end
end DL

set_option Elab.async false
set_option linter.all false
set_option autoImplicit false
set_option maxRecDepth 100000
/-! DLX17: isinstance with an own class. -/
namespace DL
open PySem PySem.Spec PyProof.Rows L2
/-- isinstance's word of an own class -/
structure KitC (K : PySem.W.Frag) (C : Addr) : Prop where
  self : PySem.W.kitOne K (.ref C) (.ref C) = some true
  non : PySem.W.kitOne K (.type "NoneType") (.ref C) = some false
  bl : PySem.W.kitOne K (.type "bool") (.ref C) = some false
  int : PySem.W.kitOne K (.type "int") (.ref C) = some false
  str : PySem.W.kitOne K (.type "str") (.ref C) = some false
  lst : PySem.W.kitOne K (.type "list") (.ref C) = some false
  tup : PySem.W.kitOne K (.type "tuple") (.ref C) = some false
  dct : PySem.W.kitOne K (.type "dict") (.ref C) = some false
  at_ : PySem.W.findIn K (.ref C) "__class__" = some (some (.builtin "object.__class__"))
  hn : PySem.W.specialIn K (.builtin "object.__class__") "__get__" = some (some (.builtin "getset_descriptor.__get__"))
  tk : PySem.W.takesIn K (.builtin "object.__class__") = some true
  top : PySem.W.mroIn K C (.type "object") = some true
section
variable {X : Cx} {T : Tb} {B : Bs} {M : List Nat} {W : EK} {F H : Hp} {ρ : Env} {σ : L2.St} {e : Expr} {f : DE} {pos : Pos}
theorem isO_of {K : PySem.W.Frag} {c : Nat} {ci : CI} {d : D} {v : V} {b : Bool} (hC : ClD K T c ci) (kc : KitC K ci.addr) (s : Same F H) (r : Rep K T F v d) (h : d.isCls c = some b) : ∃ u, TyX K H v u ∧ PySem.W.kitOne K u (.ref ci.addr) = some b := by
  cases d with
  | non => rw [r.non_inv]; cases h; exact ⟨_, .base .non, kc.non⟩
  | bl x => rw [r.bl_inv]; cases h; exact ⟨_, .base (.bl x), kc.bl⟩
  | int x => rw [r.int_inv]; cases h; exact ⟨_, .base (.int x), kc.int⟩
  | str x => rw [r.str_inv.1]; cases h; exact ⟨_, .base (.str _), kc.str⟩
  | lst x => obtain ⟨p, us, rfl, hp, ra⟩ := r.lst_inv; cases h; exact ⟨_, .base (.lst (s _ _ hp)), kc.lst⟩
  | tup x => obtain ⟨p, us, rfl, hp, ra⟩ := r.tup_inv; cases h; exact ⟨_, .base (.tup (s _ _ hp)), kc.tup⟩
  | dct x => obtain ⟨p, us, rfl, hp, ra⟩ := r.dct_inv; cases h; exact ⟨_, .base (.dK (s _ _ hp)), kc.dct⟩
  | obj c' x =>
    have h5 : (if c' = c then some true else none) = some b := h
    clear h
    by_cases hcc : c' = c
    · rw [if_pos hcc] at h5
      subst hcc
      cases h5
      obtain ⟨p, ci', dx, vs, rfl, hc, hF, hl, ra⟩ := r.obj_inv
      cases hC.at_.symm.trans hc
      exact ⟨_, .base (.ins (s _ _ hF) hC.cls kc.at_ kc.hn kc.tk kc.top), kc.self⟩
    · rw [if_neg hcc] at h5
      cases h5
  | cls c => cases h
  | frl x =>
    obtain ⟨p, us, rfl, hp, ra⟩ := r.frl_inv
    cases h
    rcases s.seq hp with (h1 | ⟨o, h1⟩) | ⟨o, its, n, h1, h2, _⟩
    · exact ⟨_, .base (.lst h1), kc.lst⟩
    · exact ⟨_, .base (.frz h1), kc.lst⟩
    · exact ⟨_, .kList h1 h2, kc.lst⟩
theorem pd_isO {c : Nat} {ci : CI} {cn : Str} {p p2 : Pos} (hO : Own X.K X.mg T cn c ci) (kc : KitC X.K ci.addr) (hg : Gl X "isinstance") (hm : X.mg "isinstance" = none) (hgc : Gl X cn) (he : PD X T B M W e f) (hdb : (cn == ("__debug__" : Str)) = false := by decide)
    (h1 : starEach (e :: [.Name cn p2]) X.env = (false, eval e X.env) :: starEach [.Name cn p2] X.env := by rfl) (h2 : starEach [.Name cn p2] X.env = (false, eval (.Name cn p2) X.env) :: starEach [] X.env := by rfl) (hpl : (backTo pos (starEach [.Name cn p2] X.env)).any (·.1) = false := by rfl) :
    PD X T B M W (.Call (.Name "isinstance" p) [e, .Name cn p2] [] pos) (dIsO c f) :=
  pe_imp (pe_callB call_isi hg hm (by decide +kernel) (pa_cons he (pa_cons (pe_glob (v := .ref ci.addr) hgc hO.mg rfl hdb) pa_nil h2) h1) (by decide) (by decide) h1 hpl) fun σ H Q ⟨F, ρ, Qd, S, h, k⟩ => by
    refine lE_run S h fun F1 H1 ρ1 v r e1 S1 R1 q => ?_
    obtain ⟨b, hb, q⟩ := q
    obtain ⟨u, h3, h4⟩ := isO_of hO.cl kc S1.sub R1 hb
    exact ⟨v, .ref ci.addr, u, .ref ci.addr, b, rfl, .own _, h3, h4, lE_end k e1 S1 (.fz (.bl b)) q⟩
end
end DL

set_option Elab.async false
set_option linter.all false
set_option autoImplicit false
set_option maxRecDepth 100000
/-! DLX18: try .. except C as e. -/
namespace DL
open PySem PySem.Spec PyProof.Rows L2
/-- the exception's field is seen by the suite as a datum -/
def sTryAs (i c : Nat) (body : DS) (suite : Exc → DS) : DS := fun D ρ E => body D ρ fun x ρ1 => if x.cls = c then i < ρ1.length ∧ suite x { nx := fun ρ' => D.nx (ρ'.set i .no), rt := D.rt, bk := fun ρ' => D.bk (ρ'.set i .no), ct := fun ρ' => D.ct (ρ'.set i .no) } (ρ1.set i .no) noE else E x ρ1
section
variable {X : Cx} {T : Tb} {B : Bs} {M : List Nat} {W : EK} {F H F2 H2 : Hp} {ρ ρ2 : Env} {σ σ2 : L2.St}
theorem SR.unset {i : Nat} {o : Option V} (S : SR X.K T B M F H ρ σ) (hi : i ∉ M) : SR X.K T B M F H (ρ.set i .no) (σ.set i o) := by
  have at_ne : ∀ j, j ≠ i → Env.at (ρ.set i .no) j = ρ.at j := fun j h => Env.at_set_ne (Ne.symm h)
  have at_no : Env.at (ρ.set i .no) i = .no := by
    by_cases h : i < ρ.length
    · exact Env.at_set_same h
    · exact at_oob (by simpa using h)
  have notI : ∀ j d, Env.at (ρ.set i .no) j = .own d → j ≠ i := fun j d h e => by rw [e, at_no] at h; cases h
  refine ⟨S.sub, S.keep, S.live, S.f0, S.fnew, by simp [S.len], fun j => ?_, fun j d p e1 e2 => ?_, fun j k d e p e1 e2 e3 e4 => ?_, fun j hj => ?_⟩
  · by_cases h : j = i
    · subst h; rw [at_no]; trivial
    · rw [at_ne j h, List.getElem?_set_ne (Ne.symm h)]; exact S.slot j
  · have h := notI j d e1
    rw [at_ne j h] at e1
    rw [List.getElem?_set_ne (Ne.symm h)] at e2
    exact S.newown j d p e1 e2
  · have h1 := notI j d e1
    have h2 := notI k e e2
    rw [at_ne j h1] at e1
    rw [at_ne k h2] at e2
    rw [List.getElem?_set_ne (Ne.symm h1)] at e3
    rw [List.getElem?_set_ne (Ne.symm h2)] at e4
    exact S.inj j k d e p e1 e2 e3 e4
  · have h : j ≠ i := fun e => hi (e ▸ hj)
    rw [List.getElem?_set_ne (Ne.symm h)]
    exact S.pin j hj
/-- the base of a suite: the exception's place pinned -/
def baseE (B : Bs) (F H : Hp) (ρ : Env) (σ : L2.St) (i : Nat) (a : Addr) : Bs := ⟨F, H, OwnOf ρ σ, fun j => if j = i then .ref a else B.P j⟩
theorem SR.baseE {i : Nat} {a : Addr} (S : SR X.K T B M F H ρ σ) (hi : i ∉ M) (hs : σ[i]? = some (some (.ref a))) : SR X.K T (baseE B F H ρ σ i a) (i :: M) F H ρ σ := by
  have Z := S.base
  refine ⟨Z.sub, Z.keep, Z.live, Z.f0, Z.fnew, Z.len, Z.slot, Z.newown, Z.inj, fun j hj => ?_⟩
  rcases List.mem_cons.mp hj with e | e
  · subst e
    show _ = some (some (if j = j then .ref a else B.P j))
    rw [if_pos rfl]
    exact hs
  · show _ = some (some (if j = i then .ref a else B.P j))
    rw [if_neg (fun h : j = i => hi (h ▸ e))]
    exact S.pin j e
theorem SR.outE {i : Nat} {a : Addr} (S : SR X.K T B M F H ρ σ) (hi : i ∉ M) (S2 : SR X.K T (DL.baseE B F H ρ σ i a) (i :: M) F2 H2 ρ2 σ2) : SR X.K T B M F2 H2 ρ2 σ2 := by
  refine S.trans ⟨S2.sub, S2.keep, S2.live, S2.f0, S2.fnew, S2.len, S2.slot, S2.newown, S2.inj, fun j hj => ?_⟩
  have := S2.pin j (List.mem_cons_of_mem _ hj)
  have e : (DL.baseE B F H ρ σ i a).P j = B.P j := by
    show (if j = i then V.ref a else B.P j) = B.P j
    rw [if_neg (fun h : j = i => hi (h ▸ hj))]
  rw [e] at this
  exact this
variable {x n : Str} {c i : Nat} {body suite : List Stmt} {b₀ : Stmt} {np pos pos' : Pos} {fb : DS} {fs : Exc → DS}
/-- what «except C» says of the exceptions that may come: of C itself yes, of the others no -/
def ExM (K : PySem.W.Frag) (T : Tb) (c : Nat) (C : Value) : Prop := ∀ k ei, T.ex k = some ei → PySem.W.exmOne K (.ref ei.addr) C = some (decide (k = c))
theorem pds_try {C : Value} (hs : X.stack = X.env :: X.outer) (hf : X.env.frame = some X.env.locals) (hN : X.N.Nodup) (hi : X.N[i]? = some n) (hln : X.env.kindOf n = some .local) (hiM : i ∉ M) (hc : Names X x C) (hx : ExM X.K T c C) (tk : Takes X (lW X.K T B M W))
    (hb : ∀ (B1 : Bs) (We : EK) (pn : List (Addr × Obj)) (xe : Value → Shared → Prop), Takes (X.tr pn xe) (lW X.K T B1 M We) → PassesOwn (model X.prog X.w) X.A X.env xe → PDSs (X.tr pn xe) T B1 M We body fb)
    (hsu : ∀ (a : Addr) (oe : Obj) (cls : Value) (d : Option Addr) (pn : List (Addr × Obj)) (y : Exc) (B' : Bs), Zc cls d oe → (∃ vs, oe.data = .fields vs) → B'.P i = .ref a → ExR X.K T B'.F0 cls d y → y.cls = c → PDSs (X.suite a ((a, oe) :: pn)) T B' (i :: M) noE (b₀ :: suite) (fs y)) :
    PDS X T B M W (.Try body [.ExceptHandler (some (.Name x np)) (some n) (b₀ :: suite) pos'] [] [] pos) (sTryAs i c fb fs) := by
  refine ps_imp (ps_try_as (c := C) (Wout := lW X.K T B M W) (tb := fun Wx D σ H => ∃ B1 We, (∀ cls d σ H, lW X.K T B1 M We cls d σ H → Wx cls d σ H) ∧ lS X.K T B1 M We fb D σ H)
    (ts := fun a cls d D σ H => ∃ y B', B'.P i = .ref a ∧ ExR X.K T B'.F0 cls d y ∧ y.cls = c ∧ lS X.K T B' (i :: M) noE (fs y) D σ H) hs hf hN hi hln hc tk (fun Wx pn xe tkx po => ?_) (fun a oe cls d pn hz hfl => ?_)) ?_
  · exact ⟨fun pins s σ H J I ⟨B1, We, hw, q⟩ => (hb B1 We pn xe (Takes.imp tkx hw) po).run pins s σ H J I q⟩
  · exact ⟨fun pins s σ H J I ⟨y, B', h1, h2, h3, q⟩ => (hsu a oe cls d pn y B' hz hfl h1 h2 h3).run pins s σ H J I q⟩
  · rintro J σ H ⟨F, ρ, Jd, S, h, k1, k2, k3, k4⟩
    have rv : ∀ {F' H' : Hp} {ρ' : Env} {σ' : L2.St} {v : V} {r : R}, RetV X.K T (baseAt B F H ρ σ) F' H' ρ' σ' v r → RetV X.K T B F' H' ρ' σ' v r := fun {F' H' ρ' σ' v r} R => by
      cases r with
      | fz d => exact R
      | fr d =>
        obtain ⟨p, o, z1, z2, z3, z4, z5, z6⟩ := R
        exact ⟨p, o, z1, z2, z3, z4, S.gone z5, z6⟩
    refine ⟨baseAt B F H ρ σ, _, fun cls d σ' H' ⟨F', ρ', y, S', ex, q⟩ => ?_, F, ρ, Jd, S.base, h, fun F' H' ρ' σ' e S' => k1 F' H' ρ' σ' e (S.trans S'), fun F' H' ρ' σ' v r e S' R => k2 F' H' ρ' σ' v r e (S.trans S') (rv R), fun F' H' ρ' σ' e S' => k3 F' H' ρ' σ' e (S.trans S'), fun F' H' ρ' σ' e S' => k4 F' H' ρ' σ' e (S.trans S')⟩
    have e0 : Same F F' := S'.f0
    have S'' : SR X.K T B M F' H' ρ' σ' := S.trans S'
    obtain ⟨ei, da, v, e1, e2, e3, e4, e5⟩ := ex
    subst e2
    refine ⟨decide (y.cls = c), hx _ _ e1, fun hy a ha => ?_, fun hy => ?_⟩
    · have hy := of_decide_eq_true hy
      have q : if y.cls = c then _ else _ := q
      rw [if_pos hy] at q
      obtain ⟨hil, q⟩ := q
      rw [S'.len] at hil
      have S1 : SR X.K T B M F' H' (ρ'.set i .no) (σ'.set i (some (.ref a))) := S''.unset hiM
      have hsi : (σ'.set i (some (V.ref a)))[i]? = some (some (.ref a)) := List.getElem?_set_self hil
      refine ⟨y, baseE B F' H' (ρ'.set i .no) (σ'.set i (some (.ref a))) i a, if_pos rfl, ⟨ei, da, v, e1, rfl, e3, e4, e5⟩, hy, F', _, _, S1.baseE hiM hsi, q, fun F2 H2 ρ2 σ2 e S2 z => ?_, fun F2 H2 ρ2 σ2 v2 r e S2 R z => ?_, fun F2 H2 ρ2 σ2 e S2 z => ?_, fun F2 H2 ρ2 σ2 e S2 z => ?_⟩
      · exact k1 F2 H2 _ _ (e0.trans e) ((S1.outE hiM S2).unset hiM) z
      · refine k2 F2 H2 ρ2 σ2 v2 r (e0.trans e) (S1.outE hiM S2) ?_ z
        cases r with
        | fz d => exact R
        | fr d =>
          obtain ⟨p, o, z1, z2, z3, z4, z5, z6⟩ := R
          exact ⟨p, o, z1, z2, z3, z4, S1.gone z5, z6⟩
      · exact k3 F2 H2 _ _ (e0.trans e) ((S1.outE hiM S2).unset hiM) z
      · exact k4 F2 H2 _ _ (e0.trans e) ((S1.outE hiM S2).unset hiM) z
    · have hy := of_decide_eq_false hy
      have q : if y.cls = c then _ else _ := q
      rw [if_neg hy] at q
      exact ⟨F', ρ', y, S'', ⟨ei, da, v, e1, rfl, e3, e4, e5⟩, q⟩
end
end DL

set_option Elab.async false
set_option linter.all false
set_option autoImplicit false
set_option maxRecDepth 100000
/-! DLX19: the exception's field in an except suite. -/
namespace DL
open PySem PySem.Spec PyProof.Rows L2
section
variable {X : Cx} {T : Tb} {B : Bs} {M : List Nat} {W : EK}
theorem pd_excf {a : Addr} {oe : Obj} {cls : Value} {d : Option Addr} {pn : List (Addr × Obj)} {y : Exc} {i c : Nat} {x cx fld : Str} {px pos : Pos} (hz : Zc cls d oe) (hf : ∃ vs, oe.data = .fields vs) (hP : B.P i = .ref a) (ex : ExR X.K T B.F0 cls d y) (hy : y.cls = c) (G : ErrX X.K X.mg T cx c)
    (hfld : ∀ ei, T.ex c = some ei → ei.field = fld) (hN : X.N[i]? = some x) (hv : Vis X.env.scope x) (hi : i ∈ M) (hb : attributeBase (.Name x px) fld X.env (eval (.Name x px) X.env) = eval (.Name x px) X.env := by rfl) (hd : (x == ("__debug__" : Str)) = false := by decide) (hcd : (x == ("__classdict__" : Str)) = false := by decide) :
    PD (X.suite a ((a, oe) :: pn)) T B M W (.Attribute (.Name x px) fld pos) (dC y.val) := by
  obtain ⟨f, newId, initId, Bn, tail, C, fI, ET, hT, hm⟩ := G
  have hfe : Str.ofString f = fld := hfld _ hT
  subst hfe
  refine pe_imp (pe_byE (te := tVar i) ET hz hf (pe_var hN hv hd hcd) hb) fun σ H Q ⟨F, ρ, Qd, S, h, k⟩ => ?_
  obtain ⟨ei, da, v, e1, e2, e3, e4, e5⟩ := ex
  rw [hy] at e1
  cases hT.symm.trans e1
  have hp := S.pin i hi
  rw [hP] at hp
  exact ⟨_, hp, rfl, e2, da, v, e3, S.sub _ _ (S.f0 _ _ e4), k F H ρ v (.fz y.val) (Same.refl _) S (e5.mono S.f0) h⟩
end
end DL

set_option Elab.async false
set_option linter.all false
set_option autoImplicit false
set_option maxRecDepth 100000
set_option maxHeartbeats 2000000
/-! DLX20: isinstance of a caught exception that has a field. -/
namespace DLK
open PySem PySem.W PySem.Spec PySem.Calls PyProof.Rows L2
section
variable {prog : Program} {w : World} {A : Around} {E : Value → Shared → Prop} {s : Shared} {K : Frag} {x D : Addr} {ox od : Obj}
theorem classOf {Q : Option Value → Shared → Prop} (C : ExcC K D) (X : K.In s.heap) (I : InstAt s.heap x ox D (some od)) (h : Q (some (.ref D)) { s with toks := s.toks + 1 }) :
    wpAny (model prog w) A (getAttr? (.ref x) "__class__") Q E s := by
  have hc : (clsIn K D).isSome = true := by
    obtain ⟨cd, e, _⟩ := any_some C.hd
    rw [e]; rfl
  have hf : findObj K D (some od) "__class__" = some (.bind (.builtin "getset_descriptor.__get__") (.builtin "object.__class__")) := findObj_data hc C.ha C.hn C.ht
  obtain ⟨hp, g, d, t, os⟩ := s
  have A0 := I.type (M := model prog w)
  have A1 := looks_findIn (M := model prog w) X C.hg
  have A2 := looks_findIn (M := model prog w) X C.hk
  have A3 := looks_find (M := model prog w) X I hf
  have isE : Looks (model prog w) hp (isInstance (.ref x) (.type "BaseException")) true := A0.andThen (looks_subIn X C.hs)
  have z2 : (Value.builtin "BaseException.__getattribute__" == Value.builtin "object.__getattribute__") = false := by decide +kernel
  have z1 : (onTheHeap (Value.ref D) && Value.builtin "BaseException.__getattribute__" == Value.builtin "object.__getattribute__") = false := by rw [z2]; rfl
  have z0 : (false && onTheHeap (Value.builtin "BaseException.__getattribute__")) = false := rfl
  unfold getAttr? getAttrBy? getAttrBy
  refine wpAny_bind (wpAny_mkText (wpAny_bind (wpAny_attempt (wpAny_holding (wpAny_bind (A0.at (wpAny_bind (A1.at ?_))))))))
  show wpAny _ _ (if (onTheHeap (Value.ref D) && Value.builtin "BaseException.__getattribute__" == Value.builtin "object.__getattribute__") = true then _ else _) _ _ _
  rw [z1, if_neg Bool.false_ne_true]
  unfold getAttrByItsOwn hookBefore
  refine wpAny_bind ?_
  rw [if_pos (show onTheHeap (Value.ref D) = true from rfl)]
  refine A2.at (wpAny_bind (wpAny_attempt (wpAny_holding ?_)))
  unfold callGetattribute
  rw [z0, if_neg Bool.false_ne_true]
  unfold boundAndCalled
  rw [PySem.F.excAttr_ValueError.ga.bind (.ref x)]
  refine wpAny_bind (wpAny_pure ?_)
  show wpAny _ _ (call (.builtin "BaseException.__getattribute__") [.ref x, .str "__class__" t]) _ _ _
  refine wpAny_call (codeAny_call_builtin PySem.F.excAttr_ValueError.ga.plain PySem.F.entry_bexc_ga ?_)
  refine @check_slot (model prog w) _ _ ⟨hp, g, d, t + 1, os⟩ "BaseException.__getattribute__" "BaseException" "__getattribute__" (.ref x) [.str "__class__" t] [] _ (by decide +kernel) (by decide +kernel) isE (PySem.F.args_bexc_ga (.ref x) (.str "__class__" t)) ?_
  unfold Builtin.«object.__getattribute__»
  refine wpAny_bind (wpAny_of_eq (a := ((Value.ref x : Value), [Value.str "__class__" t])) (by first | rfl | (simp only [slotArgs]; rfl)) ?_)
  refine wpAny_bind (wpAny_pure (wpAny_bind (A0.at (wpAny_bind (A3.at ?_)))))
  show wpAny _ _ (holding [Value.builtin "object.__class__"] (call (.builtin "getset_descriptor.__get__") [.builtin "object.__class__", .ref x, .ref D]) >>= ret) _ _ _
  refine wpAny_bind (wpAny_holding (wpAny_call (class_get (s := ⟨hp, g, d, t + 1, os⟩) (ox := ox) (od := some od) X I C.hm (wpAny_pure ?_))))
  show wpAny _ _ (handedOut (.ref D)) _ _ _
  rw [handedOut_of (v := .ref D) rfl]
  first
    | exact wpAny_pure (wpAny_pure h)
    | exact wpAny_pure h
    | exact wpAny_pure (wpAny_bind (wpAny_pure (wpAny_pure h)))
theorem kitE (C : ExcC K D) : KitX K (.ref x) (.ref D) (fun h => ∃ od, InstAt h x ox D (some od)) where
  ty := fun _ _ _ ⟨od, I⟩ => I.type
  it := fun _ _ X _ => by
    obtain ⟨cdD, hcD, _⟩ := any_some C.hd
    unfold clsIn at hcD
    split at hcD
    · rename_i ho
      intro A' Q' E' s' k q
      unfold isType loadHead
      exact wpAny_bind (wpAny_loadPart (k _ _ (X _ _ ho)) (wpAny_pure q))
    · cases hcD
  ne := fun h tp dd its n sl X htp => by
    obtain ⟨cdD, hcD, _⟩ := any_some C.hd
    refine Bool.eq_false_iff.mpr fun q => ?_
    have e : D = tp := Value.ref.inj (beq_iff_eq.mp q)
    subst e
    unfold clsIn at hcD
    split at hcD
    · rename_i ho
      cases (X _ _ ho).symm.trans htp
    · cases hcD
  ca := fun X ⟨od, I⟩ k => classOf C X I k
end
end DLK
namespace DL
open PySem PySem.Spec PyProof.Rows L2
section
variable {X : Cx} {T : Tb} {B : Bs} {M : List Nat} {W : EK}
/-- isinstance(e, c), e the exception that the suite holds -/
theorem call_isF {a D da : Addr} {oe : Obj} {pn : List (Addr × Obj)} (C : ExcC X.K D) (hz : Zc (.ref D) (some da) oe) (hf : ∃ vs, oe.data = .fields vs) :
    CallR (X.suite a ((a, oe) :: pn)) (.builtin "isinstance") (fun xs H Q => ∃ (c : V) (cv : Value) (b : Bool) (l : List (Str × V)), xs = [.ref a, c] ∧ ClsV c cv ∧ H da = some (.xd l) ∧ PySem.W.kitOne X.K (.ref D) cv = some b ∧ Q (.bl b) H) := by
  intro pins s σ H xs us Q I r h
  obtain ⟨c, cv, b, l, rfl, hcv, hd, e, q⟩ := h
  obtain ⟨u1, u2, rfl, r1, r2⟩ := vals2 r
  cases (show u1 = Value.ref a from r1)
  have ec := hcv.eq r2
  subst ec
  obtain ⟨hget, _⟩ := I.pin (a, oe) (List.mem_append_left _ List.mem_cons_self)
  obtain ⟨vs, hv⟩ := hf
  obtain ⟨mA, hns, _⟩ := (show ObjOk X.prog X.w H s.heap da (.xd l) from I.hok da _ hd)
  obtain ⟨od, ho, _⟩ := lookIn_ns hns
  have J : PySem.W.InstAt s.heap a oe D (some od) := ⟨hget, hz.1, by unfold PySem.W.notCls; rw [hv] <;> rfl, by rw [hz.2]; exact ho⟩
  exact PySem.W.kia_one (DLK.kitE (ox := oe) C) I.kIn ⟨od, J⟩ e (fun z => nomatch z) fun tk => ⟨.bl b, H, I.tok tk, rfl, q⟩
end
end DL

set_option Elab.async false
set_option linter.all false
set_option autoImplicit false
set_option maxRecDepth 100000
/-! DLX21: repr of data. -/
namespace DL
open PySem PySem.Spec PyProof.Rows L2
theorem tx_cons (c : Nat) (l : Tx) : tx (c :: l) = tx [c] ++ tx l := by rw [tx_app]; rfl
theorem tx_ofString (s : String) : Str.ofString s = tx (s.toList.map Char.toNat) := by
  unfold Str.ofString tx
  rw [cpsOfBytes_string]
theorem repL_len : ∀ xs : List D, (D.repL xs).length = xs.length
  | [] => rfl
  | x :: xs => congrArg (· + 1) (repL_len xs)
/-! ints -/
theorem nat_repr_len {n : Nat} (h : n < 10 ^ 120) : (Nat.repr n).toList.length ≤ 120 := by
  have e : (Nat.repr n).toList = Nat.toDigits 10 n := by simp [Nat.repr]
  rw [e]
  exact PyProof.Rows.digits10_le (by decide) h
theorem intT_len {i : Int} (h : i.natAbs < 10 ^ 120) : (intT i).length ≤ 128 := by
  unfold intT
  rw [List.length_map]
  cases i with
  | ofNat n =>
    have := nat_repr_len (n := n) h
    exact Nat.le_trans this (by decide)
  | negSucc n =>
    have := nat_repr_len (n := n + 1) h
    show (("-" ++ Nat.repr (n + 1)) : String).toList.length ≤ 128
    rw [String.toList_append, List.length_append]
    show 1 + _ ≤ 128
    omega
theorem log_small {n : Nat} (h : n < 10 ^ 120) : n.log2 < 1920 := by
  by_cases z : n = 0
  · rw [z]; decide
  · exact (Nat.log2_lt z).mpr (Nat.lt_of_lt_of_le h (by decide))
theorem print_ok : ∀ c : Nat, okC c = true → Unicode.isPrintable c = true := by
  have h : ∀ c : Fin 127, okC c.val = true → Unicode.isPrintable c.val = true := by decide +kernel
  intro c hc
  have : c < 127 := by
    unfold okC at hc
    simp only [Bool.and_eq_true, decide_eq_true_eq] at hc
    exact hc.1.1.2
  exact h ⟨c, this⟩ hc
theorem okC_inv {c : Nat} (h : okC c = true) : 32 ≤ c ∧ c < 127 ∧ c ≠ 39 ∧ c ≠ 92 := by
  unfold okC at h
  simp only [Bool.and_eq_true, decide_eq_true_eq, bne_iff_ne] at h
  exact ⟨h.1.1.1, h.1.1.2, h.1.2, h.2⟩
theorem repr_sign {c : Nat} (h : okC c = true) : Builtin.Str.reprChar 39 c = [c] := by
  obtain ⟨h1, h2, h3, h4⟩ := okC_inv h
  unfold Builtin.Str.reprChar
  have e1 : (c == 39 || c == 92) = false := by simp [h3, h4]
  have e2 : (c == 10) = false := by simp; omega
  have e3 : (c == 13) = false := by simp; omega
  have e4 : (c == 9) = false := by simp; omega
  simp only [e1, e2, e3, e4, print_ok c h, Bool.false_eq_true, if_false, if_true]
theorem repr_fold (l : Tx) : ∀ acc : Array Nat, l.all okC = true → l.foldl (fun out c => out ++ (Builtin.Str.reprChar 39 c).toArray) acc = acc ++ l.toArray := by
  induction l with
  | nil => intro acc _; simp
  | cons c l ih =>
    intro acc h
    rw [List.all_cons, Bool.and_eq_true] at h
    rw [List.foldl_cons, repr_sign h.1, ih _ h.2]
    simp
theorem reprText_of {x : Tx} (h : x.all okC = true) : reprText (tx x) = tx (39 :: (x ++ [39])) := by
  have q : reprQuote (tx x) = 39 := by
    unfold reprQuote tx
    have z : 39 ∉ x := fun z => (okC_inv (List.all_eq_true.mp h 39 z)).2.2.1 rfl
    simp [z]
  unfold reprText
  rw [q]
  show (⟨(x.toArray.foldl (fun out c => out ++ (Builtin.Str.reprChar 39 c).toArray) #[39]).push 39⟩ : Str) = _
  rw [List.foldl_toArray', repr_fold x _ h]
  unfold tx
  simp
  rfl
/-! lists -/
theorem tx_join (S : Tx) : ∀ ts : List Tx, Str.join (tx S) (ts.map tx) = tx (joinT S ts)
  | [] => rfl
  | [p] => rfl
  | p :: q :: r => by
    have ih := tx_join S (q :: r)
    show tx p ++ tx S ++ Str.join (tx S) ((q :: r).map tx) = tx (p ++ (S ++ joinT S (q :: r)))
    rw [ih, tx_app, tx_app, List.append_assoc]
theorem textFrom_pos : ∀ (ts : List Tx) (k : Nat) (acc : Tx), 0 < k → textFrom k (tx acc) (ts.map tx) = tx (acc ++ (ts.map fun t => [44, 32] ++ t).flatten)
  | [], k, acc, _ => by simp [textFrom]
  | t :: ts, k, acc, hk => by
    have e : (Str.ofString (if k > 0 then ", " else "" : String)) = tx [44, 32] := by rw [if_pos hk]; rfl
    show textFrom (k + 1) (tx acc ++ Str.ofString (if k > 0 then ", " else "" : String) ++ tx t) (ts.map tx) = _
    rw [e, tx_app, tx_app, textFrom_pos ts (k + 1) _ (Nat.succ_pos k)]
    simp
theorem joinT_cons (t : Tx) (ts : List Tx) : joinT [44, 32] (t :: ts) = t ++ (ts.map fun t => [44, 32] ++ t).flatten := by
  induction ts generalizing t with
  | nil => simp [joinT]
  | cons u us ih =>
    show t ++ ([44, 32] ++ joinT [44, 32] (u :: us)) = _
    rw [ih u]
    simp
theorem listText_of (ts : List Tx) : listText (ts.map tx) = tx (91 :: (joinT [44, 32] ts ++ [93])) := by
  unfold listText
  cases ts with
  | nil => rfl
  | cons t ts =>
    show textFrom 1 (Str.ofString "[" ++ Str.ofString "" ++ tx t) (ts.map tx) ++ Str.ofString "]" = _
    have e : Str.ofString "[" ++ Str.ofString "" ++ tx t = tx (91 :: t) := by
      have h1 : Str.ofString "[" ++ Str.ofString "" = tx [91] := rfl
      rw [h1, tx_app]; rfl
    rw [e, textFrom_pos ts 1 _ (by decide), joinT_cons]
    have h2 : Str.ofString "]" = tx [93] := rfl
    rw [h2, tx_app]
    simp
theorem tupleText_of (ts : List Tx) : tupleText (ts.map tx) = tx (40 :: (joinT [44, 32] ts ++ (if ts.length == 1 then [44, 41] else [41]))) := by
  unfold tupleText
  have h1 : Str.ofString "(" = tx [40] := rfl
  have h2 : Str.ofString ", " = tx [44, 32] := rfl
  rw [h1, h2, tx_join, List.length_map, tx_app]
  cases e : ts.length == 1 with
  | true =>
    have h3 : Str.ofString (if true = true then ",)" else ")" : String) = tx [44, 41] := rfl
    rw [h3, tx_app]; simp
  | false =>
    have h3 : Str.ofString (if false = true then ",)" else ")" : String) = tx [41] := rfl
    rw [h3, tx_app]; simp
theorem joinR_len : ∀ ts : List Tx, (joinT [44, 32] ts).length ≤ (ts.map fun t => t.length + 2).sum
  | [] => Nat.le_refl _
  | [p] => by simp [joinT]
  | p :: q :: r => by
    have ih := joinR_len (q :: r)
    show (p ++ ([44, 32] ++ joinT [44, 32] (q :: r))).length ≤ _
    rw [List.length_append, List.length_append, List.map_cons, List.sum_cons]
    show _ + (2 + _) ≤ _
    omega
mutual
theorem shown_of : ∀ (n : Nat) (d : D), d.repOk n = true → d.toP.shown = tx d.rep ∧ d.toP.showable = true ∧ d.toP.hasDict = false ∧ d.toP.depth ≤ n ∧ d.rep.length ≤ d.wt
  | n, .non, _ => ⟨rfl, rfl, rfl, Nat.zero_le _, by show 4 ≤ 5; decide⟩
  | n, .bl b, _ => ⟨by cases b <;> rfl, rfl, rfl, Nat.zero_le _, by cases b <;> (show _ ≤ 5; decide)⟩
  | n, .int i, h => by
    have h : i.natAbs < 10 ^ 120 := by cases n <;> exact of_decide_eq_true h
    refine ⟨tx_ofString _, ?_, rfl, Nat.zero_le _, intT_len h⟩
    show decide (i.natAbs.log2 < 1920) = true
    exact decide_eq_true (log_small h)
  | n, .str x, h => by
    have h : x.all okC = true := by cases n <;> exact h
    refine ⟨reprText_of h, rfl, rfl, Nat.zero_le _, ?_⟩
    show (39 :: (x ++ [39])).length ≤ x.length + 2
    rw [List.length_cons, List.length_append]
    exact Nat.le_refl _
  | 0, .lst xs, h => by cases h
  | n + 1, .lst xs, h => by
    obtain ⟨h1, h2, h3, h4, h5⟩ := shownAll_of n xs h
    refine ⟨?_, h2, h3, Nat.succ_le_succ h4, ?_⟩
    · show listText (PyData.shownAll (D.toPL xs)) = _
      rw [h1, listText_of]; rfl
    · show (91 :: (joinT [44, 32] (D.repL xs) ++ [93])).length ≤ D.wtL xs + 2
      have := joinR_len (D.repL xs)
      rw [List.length_cons, List.length_append]
      show _ + 1 + 1 ≤ _
      omega
  | 0, .tup xs, h => by cases h
  | n + 1, .tup xs, h => by
    obtain ⟨h1, h2, h3, h4, h5⟩ := shownAll_of n xs h
    refine ⟨?_, h2, h3, Nat.succ_le_succ h4, ?_⟩
    · show tupleText (PyData.shownAll (D.toPL xs)) = _
      rw [h1, tupleText_of, repL_len]; rfl
    · show (40 :: (joinT [44, 32] (D.repL xs) ++ (if xs.length == 1 then [44, 41] else [41]))).length ≤ D.wtL xs + 4
      have := joinR_len (D.repL xs)
      rw [List.length_cons, List.length_append]
      have : (if xs.length == 1 then [44, 41] else [41] : Tx).length ≤ 2 := by split <;> decide
      omega
  | n, .dct _, h => by cases n <;> cases h
  | n, .obj _ _, h => by cases n <;> cases h
  | n, .frl _, h => by cases n <;> cases h
  | n, .cls _, h => by cases n <;> cases h
theorem shownAll_of : ∀ (n : Nat) (xs : List D), D.repOkL n xs = true → PyData.shownAll (D.toPL xs) = (D.repL xs).map tx ∧ PyData.showableAll (D.toPL xs) = true ∧ PyData.hasDictAll (D.toPL xs) = false ∧ PyData.depthAll (D.toPL xs) ≤ n ∧ ((D.repL xs).map fun t => t.length + 2).sum ≤ D.wtL xs
  | n, [], _ => ⟨rfl, rfl, rfl, Nat.zero_le _, Nat.le_refl _⟩
  | n, x :: xs, h => by
    unfold D.repOkL at h
    rw [Bool.and_eq_true] at h
    obtain ⟨a1, a2, a3, a4, a5⟩ := shown_of n x h.1
    obtain ⟨b1, b2, b3, b4, b5⟩ := shownAll_of n xs h.2
    refine ⟨?_, ?_, ?_, Nat.max_le.mpr ⟨a4, b4⟩, ?_⟩
    · show x.toP.shown :: PyData.shownAll (D.toPL xs) = _
      rw [a1, b1]; rfl
    · show (x.toP.showable && PyData.showableAll (D.toPL xs)) = true
      rw [a2, b2]; rfl
    · show (x.toP.hasDict || PyData.hasDictAll (D.toPL xs)) = false
      rw [a3, b3]; rfl
    · show ((x.rep :: D.repL xs).map fun t => t.length + 2).sum ≤ x.wt + 2 + D.wtL xs
      rw [List.map_cons, List.sum_cons]
      omega
end
mutual
theorem eqOk_of : ∀ (n : Nat) (d : D), d.repOk n = true → d.eqOk n = true
  | n, .non, _ => by cases n <;> rfl
  | n, .bl _, _ => by cases n <;> rfl
  | n, .int _, _ => by cases n <;> rfl
  | n, .str _, _ => by cases n <;> rfl
  | 0, .lst xs, h => by cases h
  | n + 1, .lst xs, h => eqOkL_of n xs h
  | 0, .tup xs, h => by cases h
  | n + 1, .tup xs, h => eqOkL_of n xs h
  | n, .dct _, h => by cases n <;> cases h
  | n, .obj _ _, h => by cases n <;> cases h
  | n, .frl _, h => by cases n <;> cases h
  | n, .cls _, h => by cases n <;> cases h
theorem eqOkL_of : ∀ (n : Nat) (xs : List D), D.repOkL n xs = true → D.eqOkL n xs = true
  | n, [], _ => by unfold D.eqOkL; rfl
  | n, x :: xs, h => by
    unfold D.repOkL at h
    rw [Bool.and_eq_true] at h
    unfold D.eqOkL
    rw [eqOk_of n x h.1, eqOkL_of n xs h.2]
    rfl
end
theorem join_sign {S : Tx} (hS : ∀ c ∈ S, c < 0x110000) : ∀ {ts : List Tx}, (∀ t ∈ ts, ∀ c ∈ t, c < 0x110000) → ∀ c ∈ joinT S ts, c < 0x110000
  | [], _, c, hc => by simp [joinT] at hc
  | [p], h, c, hc => h p List.mem_cons_self c hc
  | p :: q :: r, h, c, hc => by
    have hc : c ∈ p ++ (S ++ joinT S (q :: r)) := hc
    rcases List.mem_append.mp hc with z | z
    · exact h p List.mem_cons_self c z
    · rcases List.mem_append.mp z with z | z
      · exact hS c z
      · exact join_sign hS (fun t ht => h t (List.mem_cons_of_mem _ ht)) c z
mutual
theorem rep_sign : ∀ (n : Nat) (d : D), d.repOk n = true → ∀ c ∈ d.rep, c < 0x110000
  | n, .non, _, c, hc => by revert c; decide
  | n, .bl b, _, c, hc => by cases b <;> (revert c; decide)
  | n, .int i, _, c, hc => by
    have hc : c ∈ (toString i).toList.map Char.toNat := hc
    obtain ⟨ch, _, rfl⟩ := List.mem_map.mp hc
    have := ch.valid
    show ch.val.toNat < _
    simp only [UInt32.isValidChar, Nat.isValidChar] at this
    omega
  | n, .str x, h, c, hc => by
    have h : x.all okC = true := by cases n <;> exact h
    have hc : c ∈ 39 :: (x ++ [39]) := hc
    rcases List.mem_cons.mp hc with z | z
    · omega
    · rcases List.mem_append.mp z with z | z
      · have := (okC_inv (List.all_eq_true.mp h c z)).2.1
        omega
      · have : c = 39 := by simpa using z
        omega
  | 0, .lst xs, h, _, _ => by cases h
  | n + 1, .lst xs, h, c, hc => by
    have hc : c ∈ 91 :: (joinT [44, 32] (D.repL xs) ++ [93]) := hc
    rcases List.mem_cons.mp hc with z | z
    · omega
    · rcases List.mem_append.mp z with z | z
      · exact join_sign (by decide) (repL_sign n xs h) c z
      · have : c = 93 := by simpa using z
        omega
  | 0, .tup xs, h, _, _ => by cases h
  | n + 1, .tup xs, h, c, hc => by
    have hc : c ∈ 40 :: (joinT [44, 32] (D.repL xs) ++ (if xs.length == 1 then [44, 41] else [41])) := hc
    rcases List.mem_cons.mp hc with z | z
    · omega
    · rcases List.mem_append.mp z with z | z
      · exact join_sign (by decide) (repL_sign n xs h) c z
      · split at z
        · simp at z; omega
        · simp at z; omega
  | n, .dct _, h, _, _ => by cases n <;> cases h
  | n, .obj _ _, h, _, _ => by cases n <;> cases h
  | n, .frl _, h, _, _ => by cases n <;> cases h
  | n, .cls _, h, _, _ => by cases n <;> cases h
theorem repL_sign : ∀ (n : Nat) (xs : List D), D.repOkL n xs = true → ∀ t ∈ D.repL xs, ∀ c ∈ t, c < 0x110000
  | n, [], _, t, ht => by cases ht
  | n, x :: xs, h, t, ht => by
    unfold D.repOkL at h
    rw [Bool.and_eq_true] at h
    have ht : t ∈ x.rep :: D.repL xs := ht
    rcases List.mem_cons.mp ht with z | z
    · subst z; exact rep_sign n x h.1
    · exact repL_sign n xs h.2 t z
end
section
variable {X : Cx} {T : Tb} {B : Bs} {M : List Nat} {W : EK} {F H : Hp} {ρ : Env} {σ : L2.St}
def rRepr (K : PySem.W.Frag) : List V → Hp → VK → Prop := fun xs H Q =>
  (∃ (v : V) (d : D), xs = [v] ∧ Dp K H v d.toP ∧ d.repOk 40 = true ∧ d.wt ≤ maxTx ∧ Q (.str (tx d.rep)) H) ∨ ∃ a : Addr, xs = [.ref a] ∧ H a = some (.dK []) ∧ Q (.str (tx [123, 125])) H
theorem call_reprA (un : X.A.units + 200 < cLine) (gd : X.A.guards = some []) : CallR X (.builtin "repr") (rRepr X.K) := by
  intro pins s σ H xs us Q I r h
  rcases h with ⟨v, d, rfl, dp, ok, wt, q⟩ | ⟨a, rfl, ha, q⟩
  · obtain ⟨h1, h2, h3, h4, h5⟩ := shown_of 40 d ok
    obtain ⟨u, rfl, ru⟩ := vals1 r
    obtain ⟨as, rd⟩ := Dp.reads I d.toP v u dp ru
    have hz : d.toP.shown.length ≤ sizeLine := by rw [h1, tx_len, ← maxTx_eq]; exact Nat.le_trans h5 wt
    have room := un
    have fin : ∀ (h' : Heap) (t tk : Nat), (∀ b o, s.heap.get? b = some o → h'.get? b = some o) → EP X pins σ Q (.str d.toP.shown t) { s with heap := h', toks := tk } := fun h' t tk k => by
      rw [h1]
      exact ⟨.str (tx d.rep), H, I.kept k, ⟨_, rfl⟩, q⟩
    cases hu : u with
    | ref a =>
      subst hu
      exact repr_of_reads' rd h2 (fun z => by rw [h3] at z; cases z) gd (by omega) (fun b o e => e) (fun h' t tk k => fin h' t tk k) hz
    | none =>
      subst hu
      cases hd : d.toP with
      | none => rw [hd] at fin; exact PySem.P.repr_of_none (fin s.heap _ _ fun b o e => e)
      | _ => rw [hd] at rd; cases rd
    | bool b =>
      subst hu
      cases hd : d.toP with
      | bool b' => rw [hd] at fin rd; cases rd; exact PySem.P.repr_of_bool (fin s.heap _ _ fun b o e => e)
      | _ => rw [hd] at rd; cases rd
    | int i t =>
      subst hu
      cases hd : d.toP with
      | int i' =>
        rw [hd] at fin rd h2
        cases rd
        exact PySem.P.repr_of_int (of_decide_eq_true h2) (fin s.heap _ _ fun b o e => e)
      | _ => rw [hd] at rd; cases rd
    | str x t =>
      subst hu
      cases hd : d.toP with
      | str x' =>
        rw [hd] at fin rd hz
        cases rd
        exact PySem.P.repr_of_str (fin s.heap _ _ fun b o e => e) hz
      | _ => rw [hd] at rd; cases rd
    | _ => subst hu; cases rd
  · obtain ⟨u, rfl, ru⟩ := vals1 r
    cases ru
    obtain ⟨_, hs, vs, kv, o, es, ep, ho, ex, hd, _, pr, _⟩ := dk_of I.hok ha
    cases kv
    have e0 : es.toList = [] := by cases hl : es.toList with
      | nil => rfl
      | cons e r => rw [hl] at pr; cases pr
    have room := un
    have rd : Reads s.heap (.ref a) (.dict []) (a :: [] ++ []) := .dict ho ex.1 hd (by rw [e0]; exact .nil) (by rw [e0]; exact .nil)
    have hn : a ≠ sysModules := fun z => by rw [z] at hs; simp at hs
    refine repr_of_reads' rd rfl (fun _ z => ?_) gd (by show _ + (_ + 1) < _; simp only [PyData.depth, PyData.depthKv]; omega) (fun b o e => e) (fun h' t tk k => ?_) (by decide)
    · simp at z
      exact hn z.symm
    · exact ⟨.str (tx [123, 125]), H, I.kept k, ⟨_, rfl⟩, q⟩
theorem okTx_rep {n : Nat} {d : D} (h : d.repOk n = true) (hw : d.wt ≤ maxTx) : okTx d.rep := by
  refine ⟨rep_sign n d h, ?_⟩
  rw [← maxTx_eq]
  exact Nat.le_trans (shown_of n d h).2.2.2.2 hw
theorem ok_repr : DL.FnR X.K T repF (rRepr X.K) := by
  intro F H vs ds k Q s r ho kk
  unfold repF at ho
  split at ho
  · rename_i k d
    obtain ⟨v, rfl, r1⟩ := repL1 r
    obtain ⟨hd, hk⟩ := ho
    rcases hd with ⟨h1, h2⟩ | hd
    · obtain ⟨dp, _, _⟩ := Rep.dp (X := X) s 40 d v (eqOk_of 40 d h1) r1
      exact .inl ⟨v, d, rfl, dp, h1, h2, kk _ _ _ (.fz (.str (okTx_rep h1 h2))) hk⟩
    · cases d with
      | dct kvs =>
        cases kvs with
        | nil =>
          obtain ⟨a, vs, rfl, ha, rk⟩ := r1.dct_inv
          cases rk
          exact .inr ⟨a, rfl, s _ _ ha, kk _ _ _ (.fz (.str ⟨by decide, by show 2 ≤ sizeLine; rw [sizeLine_eq]; decide⟩)) hk⟩
        | cons _ _ => cases hd
      | _ => cases hd
  · exact ho.elim
end
end DL

set_option Elab.async false
set_option linter.all false
set_option autoImplicit false
set_option maxRecDepth 100000
/-! DLX22: defs with *args; is True; a, b, c = x, y, z; xs[::-1]. -/
namespace DL
open PySem PySem.Spec PyProof.Rows L2
/-- def f(*v): what is handed in is one tuple -/
structure DefV (P : Program) (w : World) (K : PySem.W.Frag) (mg : Str → Option Value) (base : Heap) (T : Tb) (k : Nat) (f : Addr) (con : Con) : Prop where
  run : ∀ (A : Around) (outer : List PySem.Env) (s : Shared) (H : Hp) (us : List Value) (vs : List V) (Q : VK) (E : XK), RoomG k A → Env0 P w K mg base A outer s H → Vals vs us → vs.length ≤ sizeLine →
    (∀ p, H p = none → spC K T 1 [] con [.ref p] (upd H p (.tup vs)) Q E) → codeAny (model P w) A (.call (.ref f) ⟨us, []⟩) (CR (L2.CX P w) outer P w H s Q E) s
  kp : PySem.W.keepIn K (.ref f) = true
section
variable {P : Program} {w : World} {K : PySem.W.Frag} {mg : Str → Option Value} {base : Heap} {T : Tb}
theorem fnDV {x qual pv : Str} {st : Stmt} {f : Addr} {fd : FuncData} {N : List Str} {k : Nat} {body : DS} {con : Con} (F : Fun K x qual st f fd) (S : FnScope N [pv] (defScope st))
    (hbind : ∀ (kV doc pm cdv ct : Value) (an : Option Addr) (us : List Value), bindArgs (PySem.W.fnOf x qual (defArgs st) (defBody st) (defScope st) .none kV doc pm an cdv ct) ⟨us, []⟩ = (newTuple us >>= fun t => pure [(pv, t)]))
    (der : ∀ (cdv : Value) (A : Around) (outer : List PySem.Env) (s : Shared) (H : Hp) (E : XK) (B : Bs) (W : EK), RoomG k (A.deeper (envOfC qual (defScope st) s.heap.objs.size f cdv)) → Takes (BX P w K mg base N qual (defScope st) f cdv A outer s H E) (lW K T B [] W) →
      PassesOwn (model P w) (BX P w K mg base N qual (defScope st) f cdv A outer s H E).A (BX P w K mg base N qual (defScope st) f cdv A outer s H E).env (BX P w K mg base N qual (defScope st) f cdv A outer s H E).xe →
      PDSs (BX P w K mg base N qual (defScope st) f cdv A outer s H E) T B [] W (defBody st) body)
    (h : ∀ args Q E, args.length = 1 → con args Q E → runD N.length body args Q E) : DefV P w K mg base T (k + 1) f con := by
  refine ⟨?_, F.kp⟩
  obtain ⟨oc, od, kV, doc, pm, an, cdv, ct, osl, rfl, lk, hcd⟩ := F.ex
  intro A outer s H us vs Q E hr e0 r hz hq
  have new0 : H s.heap.objs.size = Option.none := e0.hok.fresh (Nat.le_refl _)
  have few : us.length ≤ sizeLine := by rw [← r.length]; exact hz
  refine StX.run_bnd (G := fun vs' H' => ∃ p, H p = Option.none ∧ vs' = [V.ref p] ∧ H' = upd H p (.tup vs)) lk hcd S hr.rm e0 (fun A' Ex Q' z => ?_) fun s2 H2 vs2 g hr2 => ?_
  · rw [hbind kV doc pm cdv ct an us]
    refine wpAny_bind (wpAny_newTuple (wpAny_pure ?_) few)
    have laid : ObjOk P w (upd H s.heap.objs.size (.tup vs)) (s.heap.push ({ cls := .type "tuple", data := .seq us.toArray } : Obj)) s.heap.objs.size (.tup vs) := ⟨hz, us, r, ⟨_, Heap.get?_push_size _ rfl, rfl, _, rfl⟩⟩
    have un := StX.un_laid (fs := frs outer) (s := s) (o := ({ cls := .type "tuple", data := .seq us.toArray } : Obj)) (u := .tup vs) new0
    exact z _ _ [V.ref s.heap.objs.size] [Value.ref s.heap.objs.size] (StX.env0_laid e0 laid) un rfl (fun e s' => StX.cxUp outer s H _ _ E e s' un (fun b o q => Heap.get?_push_of_some _ q) rfl) (.cons rfl .nil) rfl ⟨_, new0, rfl, rfl⟩
  · obtain ⟨p, hp, rfl, rfl⟩ := g
    exact bodyD S rfl der h cdv A outer s2 _ _ Q E ⟨hr2, hr.gd⟩ (hq p hp)
end
section
variable {X : Cx} {T : Tb} {B : Bs} {M : List Nat} {W : EK} {F H : Hp} {ρ : Env} {σ : L2.St}
variable {k : Nat} {fa : Addr} {con : Con} {x : Str} {p pos : Pos} {e : Expr} {es : List Expr} {f : DE} {fs : List DE}
theorem RepL.reverse : ∀ {vs : List V} {xs : List D}, RepL X.K T F vs xs → RepL X.K T F vs.reverse xs.reverse
  | _, _, .nil => .nil
  | _, _, .cons a b => by rw [List.reverse_cons, List.reverse_cons]; exact (RepL.reverse b).append (.cons a .nil)
theorem run_fnV {pins : List (Addr × Obj)} {s : Shared} {Q : VK} {E : XK} {us : List Value} {vs : List V} (G : DefV X.prog X.w X.K X.mg X.base T k fa con) (hr : RoomG k X.A) (hx : PassesAt (L2.CX X.prog X.w) X σ E)
    (I : Inv X pins σ H s) (r : Vals vs us) (hz : vs.length ≤ sizeLine) (h : ∀ p, H p = none → spC X.K T 1 [] con [.ref p] (upd H p (.tup vs)) Q E) : wpAny (model X.prog X.w) X.A (call (.ref fa) us) (EP X pins σ Q) X.xe s := by
  refine wpAny_call (codeAny_mono (G.run X.A X.stack s H us vs Q E hr I.env0 r hz h) fun res s' z => ?_)
  match res, z with
  | .error e, z => exact hx pins H s e s' I z
  | .ok (.ret u), z => exact I.after z
/-- the promise at the new tuple -/
theorem spV_of {ds : List D} {vs : List V} {Qd : R → Env → Prop} {Q : VK} (S : SR X.K T B M F H ρ σ) (r : RepL X.K T F vs ds) (q : con [.fz (.tup ds)] (fun r _ => Qd r ρ) fun x _ => W x ρ)
    (kk : ∀ F' H' v r, Same F F' → SR X.K T B M F' H' ρ σ → RetV X.K T B F' H' ρ σ v r → Qd r ρ → Q v H') {p : Addr} (hp : H p = none) : spC X.K T 1 [] con [.ref p] (upd H p (.tup vs)) Q (WE (lW X.K T B M W) σ) := by
  have S1 := S.lay (o := .tup vs) hp
  have hno : ∀ i e, ρ.at i = .own e → σ[i]? ≠ some (some (.ref p)) := fun i e hi hs => by
    obtain ⟨p', o', z1, z2, z3, z4⟩ := S.ownAt hi
    rw [hs] at z1
    cases z1
    rw [hp] at z3
    cases z3
  have su : Same F (upd F p (.tup vs)) := same_upd (S.sub.free hp)
  have S2 := S1.settle (S.sub.free hp) upd_same (.inl (S.gone hp)) hno
  have rp : Rep X.K T (upd F p (.tup vs)) (.ref p) (.tup ds) := .ref upd_same (.tup (r.mono su))
  have nown : ∀ (i : Nat) (d : D), ([Slot.fz (.tup ds)])[i]? ≠ some (.own d) := fun i d h => by
    cases i with
    | zero => cases h
    | succ i => simp at h
  refine ⟨_, [.fz (.tup ds)], _, _, rfl, rfl, S2.sub, fun i v s h1 h2 => ?_, fun i j d e p h1 => absurd h1 (nown i d), fun i d h1 => absurd h1 (nown i d), q, fun F2 H2 v r outs A R q2 => ?_, fun F2 H2 cls d y outs A ex q2 => ?_⟩
  · cases i with
    | zero =>
      simp at h1 h2
      subst h1; subst h2
      exact rp
    | succ i => simp at h1
  · have S3 := S2.aft A fun b ⟨i, d, h1, _⟩ => absurd h1 (nown i d)
    refine kk F2 H2 v r (su.trans A.same) S3 ?_ q2
    cases r with
    | fz d => exact R
    | fr d =>
      obtain ⟨p, o, rfl, z1, z2, z3, z4⟩ := R
      refine ⟨p, o, rfl, z1, z2, z3, S2.gone z4, fun i e hi hs => ?_⟩
      obtain ⟨p', o', y1, y2, y3, y4⟩ := S2.ownAt hi
      rw [hs] at y1
      cases y1
      rw [z4] at y3
      cases y3
  · exact ⟨F2, ρ, y, S2.aft A fun b ⟨i, d, h1, _⟩ => absurd h1 (nown i d), ex, q2⟩
def CalV (P : Program) (w : World) (K : PySem.W.Frag) (mg : Str → Option Value) (base : Heap) (T : Tb) (x : Str) (k : Nat) (con : Con) : Prop := ∃ fa, DefV P w K mg base T k fa con ∧ mg x = some (.ref fa)
def tCallV (K : PySem.W.Frag) (T : Tb) (con : Con) (E : L2.St → XK) (t : TA) : TE := fun σ H Q => t σ H fun vs H1 => vs.length ≤ sizeLine ∧ ∀ p, H1 p = none → spC K T 1 [] con [.ref p] (upd H1 p (.tup vs)) Q (E σ)
theorem pe_callV {E : L2.St → XK} {t : TA} (G : DefV X.prog X.w X.K X.mg X.base T k fa con) (hr : RoomG k X.A) (hg : Gl X x) (hm : X.mg x = some (.ref fa)) (hx : ∀ σ, PassesAt (L2.CX X.prog X.w) X σ (E σ))
    (ha : PA X (e :: es) t) (hdb : (x == ("__debug__" : Str)) = false := by decide) (he : starEach (e :: es) X.env = (false, eval e X.env) :: starEach es X.env := by rfl) (hpl : (backTo pos (starEach es X.env)).any (·.1) = false := by rfl) :
    PE X (.Call (.Name x p) (e :: es) [] pos) (tCallV X.K T con E t) where
  run pins s σ H Q I h := by
    refine wpAny_Call_Name_kw (ld_glob I hg hm (PySem.W.callWith_K (h₀ := X.base) I.ok.mod.kin G.kp (thn (ha.run pos pins s σ H _ I h) ?_) he hpl) hdb)
    rintro us s1 ⟨vs, H1, I1, r, hz, q⟩
    exact ⟨I1.kIn, run_fnV G hr (hx σ) I1 r hz q⟩
theorem pe_callV0 {E : L2.St → XK} (G : DefV X.prog X.w X.K X.mg X.base T k fa con) (hr : RoomG k X.A) (hg : Gl X x) (hm : X.mg x = some (.ref fa)) (hx : ∀ σ, PassesAt (L2.CX X.prog X.w) X σ (E σ))
    (hdb : (x == ("__debug__" : Str)) = false := by decide) : PE X (.Call (.Name x p) [] [] pos) (tCallV X.K T con E tNil) where
  run pins s σ H Q I h := wpAny_Call_Name_kw (ld_glob I hg hm (PySem.W.callWith_K0 I.kIn G.kp (run_fnV (us := []) G hr (hx σ) I .nil h.1 h.2)) hdb)
theorem pe_callVS {E : L2.St → XK} {te : TE} {sp_ : Pos} (G : DefV X.prog X.w X.K X.mg X.base T k fa con) (hr : RoomG k X.A) (hg : Gl X x) (hm : X.mg x = some (.ref fa)) (hx : ∀ σ, PassesAt (L2.CX X.prog X.w) X σ (E σ))
    (he : PE X e te) (hdb : (x == ("__debug__" : Str)) = false := by decide) (hst : starEach [.Starred e sp_] X.env = [(true, eval e X.env)] := by rfl) :
    PE X (.Call (.Name x p) [.Starred e sp_] [] pos) (fun σ H Q => te σ H fun y H1 => ∃ a vs, y = V.ref a ∧ (SqT X.K H1 a vs ∨ SqL X.K H1 a vs) ∧ vs.length ≤ sizeLine ∧ ∀ p, H1 p = none → spC X.K T 1 [] con [.ref p] (upd H1 p (.tup vs)) Q (E σ)) where
  run pins s σ H Q I h := by
    refine wpAny_Call_Name_kw (ld_glob I hg hm (PySem.W.callWith_S (h₀ := X.base) I.ok.mod.kin G.kp (thn (he.run pins s σ H _ I h) ?_) hst) hdb)
    rintro v s1 ⟨y, H1, I1, ry, a, vs, ey, hxs, hz, q⟩
    subst ey
    cases (show v = Value.ref a from ry)
    exact StX.star_any I1 hxs fun us s2 I2 rv => ⟨I2.kIn, run_fnV G hr (hx σ) I2 rv hz q⟩
theorem pd_callV (G : CalV X.prog X.w X.K X.mg X.base T x k con) (hr : RoomG k X.A) (tk : Takes X (lW X.K T B M W)) (hg : Gl X x) (ha : PDA X T B M W (e :: es) fs)
    (hdb : (x == ("__debug__" : Str)) = false := by decide) (he : starEach (e :: es) X.env = (false, eval e X.env) :: starEach es X.env := by rfl) (hpl : (backTo pos (starEach es X.env)).any (·.1) = false := by rfl) :
    PD X T B M W (.Call (.Name x p) (e :: es) [] pos) (dCallV con fs) := by
  obtain ⟨fa, G, hm⟩ := G
  refine pe_imp (pe_callV G hr hg hm (fun σ => passAt tk σ) ha hdb he hpl) fun σ H Q ⟨F, ρ, Qd, S, h, kk⟩ => ?_
  refine lA_run S h fun F1 H1 ρ1 vs ds e1 S1 R1 q => ⟨?_, fun p hp => ?_⟩
  · rw [R1.length, ← maxTx_eq]; exact q.1
  · exact spV_of S1 R1 q.2 (fun F2 H2 v r e2 => kk F2 H2 _ v r (e1.trans e2)) hp
theorem pd_callV0 (G : CalV X.prog X.w X.K X.mg X.base T x k con) (hr : RoomG k X.A) (tk : Takes X (lW X.K T B M W)) (hg : Gl X x) (hdb : (x == ("__debug__" : Str)) = false := by decide) :
    PD X T B M W (.Call (.Name x p) [] [] pos) (dCallV con []) := by
  obtain ⟨fa, G, hm⟩ := G
  refine pe_imp (pe_callV0 G hr hg hm (fun σ => passAt tk σ) hdb) fun σ H Q ⟨F, ρ, Qd, S, h, kk⟩ => ?_
  refine ⟨Nat.zero_le _, fun p hp => ?_⟩
  exact spV_of S .nil h.2 (fun F2 H2 v r e2 => kk F2 H2 _ v r e2) hp
theorem pd_callS {sp_ : Pos} (G : CalV X.prog X.w X.K X.mg X.base T x k con) (hr : RoomG k X.A) (tk : Takes X (lW X.K T B M W)) (hg : Gl X x) (ha : PD X T B M W e f)
    (hdb : (x == ("__debug__" : Str)) = false := by decide) (hst : starEach [.Starred e sp_] X.env = [(true, eval e X.env)] := by rfl) :
    PD X T B M W (.Call (.Name x p) [.Starred e sp_] [] pos) (dCallS con f) := by
  obtain ⟨fa, G, hm⟩ := G
  refine pe_imp (pe_callVS G hr hg hm (fun σ => passAt tk σ) ha hdb hst) fun σ H Q ⟨F, ρ, Qd, S, h, kk⟩ => ?_
  refine lE_run S h fun F1 H1 ρ1 v1 r1 e1 S1 R1 q => ?_
  cases hd : r1.d with
  | lst ds =>
    rw [hd] at q R1
    obtain ⟨a, vs, rfl, ha, ra⟩ := R1.lst_inv
    refine ⟨a, vs, rfl, .inr (.of (S1.sub _ _ ha)), ?_, fun p hp => spV_of S1 ra q.2 (fun F2 H2 v r e2 => kk F2 H2 _ v r (e1.trans e2)) hp⟩
    rw [ra.length, ← maxTx_eq]; exact q.1
  | tup ds =>
    rw [hd] at q R1
    obtain ⟨a, vs, rfl, ha, ra⟩ := R1.tup_inv
    refine ⟨a, vs, rfl, .inl (.of (S1.sub _ _ ha)), ?_, fun p hp => spV_of S1 ra q.2 (fun F2 H2 v r e2 => kk F2 H2 _ v r (e1.trans e2)) hp⟩
    rw [ra.length, ← maxTx_eq]; exact q.1
  | _ => rw [hd] at q; exact q.elim
end
/-! ### is, is not with a truth value -/
section
variable {X : Cx} {T : Tb} {B : Bs} {M : List Nat} {W : EK} {F H : Hp} {ρ : Env} {σ : L2.St}
theorem ok_isB : OpOk X.K T isBD rIsB := by
  intro F H x y dx dy k Q s rx ry ho kk
  cases dx with
  | bl a =>
    cases dy with
    | bl b =>
      refine ⟨a, b, rx.bl_inv, ry.bl_inv, ?_⟩
      have e : decide (a = b) = (a == b) := by cases a <;> cases b <;> rfl
      rw [e]
      exact kk _ _ _ (.fz (.bl _)) ho
    | _ => exact ho.elim
  | _ => exact ho.elim
theorem ok_notB : OpOk X.K T notBD rNotB := by
  intro F H x y dx dy k Q s rx ry ho kk
  cases dx with
  | bl a =>
    cases dy with
    | bl b =>
      refine ⟨a, b, rx.bl_inv, ry.bl_inv, ?_⟩
      have e : (!decide (a = b)) = (!(a == b)) := by cases a <;> cases b <;> rfl
      rw [e]
      exact kk _ _ _ (.fz (.bl _)) ho
    | _ => exact ho.elim
  | _ => exact ho.elim
variable {a b c e : Expr} {f g h : DE} {pos : Pos}
/-! ### a, b, c = x, y, z -/
theorem pds_par3 {i j l : Nat} {x y z : Str} {px py pz pt pt2 : Pos} {kt k2} (hc : X.calm = true) (hN : X.N.Nodup) (hi : X.N[i]? = some x) (hj : X.N[j]? = some y) (hl : X.N[l]? = some z) (hij : i ≠ j) (hil : i ≠ l) (hjl : j ≠ l) (hiM : i ∉ M) (hjM : j ∉ M) (hlM : l ∉ M)
    (hx : X.env.scope.names.lookup x = some .local) (hy : X.env.scope.names.lookup y = some .local) (hz : X.env.scope.names.lookup z = some .local) (ha : PDA X T B M W [a, b, c] [f, g, h])
    (hw : swappedStores [.Tuple [.Name x px, .Name y py, .Name z pz] kt pt] (.Tuple [a, b, c] k2 pt2) X.env = pure (some [x, y, z]) := by rfl)
    (hs : swapsWithSole [.Tuple [.Name x px, .Name y py, .Name z pz] kt pt] (.Tuple [a, b, c] k2 pt2) pos.line X.env = pure false := by rfl) :
    PDS X T B M W (.Assign [.Tuple [.Name x px, .Name y py, .Name z pz] kt pt] (.Tuple [a, b, c] k2 pt2) pos) (sPar3 i j l f g h) :=
  ps_imp (ps_par3 hc hN hi hj hl hij hil hjl hx hy hz ha hw hs) fun J σ H ⟨F, ρ, Jd, S, q, k, _⟩ => by
    refine lA_run (fs := [f, g, h]) (Qd := fun ds ρ2 => ∃ d d' d'', ds = [d, d', d''] ∧ Jd.nx (((ρ2.set i (.fz d)).set j (.fz d')).set l (.fz d''))) S ?_ fun F1 H1 ρ1 vs ds e1 S1 R1 h1 => ?_
    · refine (congrArg (fun z => f ρ z W) (funext fun r => funext fun ρ1 => congrArg (fun z => g ρ1 z W) (funext fun s => funext fun ρ2 => congrArg (fun z => h ρ2 z W) (funext fun t => funext fun ρ3 => propext ⟨fun q => ⟨_, _, _, rfl, q⟩, fun ⟨d, d', d'', e, q⟩ => ?_⟩)))).mp q
      cases e
      exact q
    · obtain ⟨d, d', d'', rfl, q⟩ := h1
      cases R1 with
      | cons r rs =>
        cases rs with
        | cons r' rs' =>
          cases rs' with
          | cons r'' rs'' =>
            cases rs''
            exact ⟨_, _, _, rfl, k F1 H1 _ _ e1 (((S1.putFz hiM r).putFz hjM r').putFz hlM r'') q⟩
/-! ### xs[::-1] -/
theorem pd_rev {k : Nat} {p1 p2 p3 : Pos} (he : PD X T B M W e f) : PD X T B M W (.Subscript e (.Slice none none (some (.UnaryOp .USub (.Constant (.int 1) k p1) p2)) p3) pos) (dUn revD f) :=
  pe_imp (pe_revL he) fun σ H Q ⟨F, ρ, Qd, S, q, kk⟩ => by
    refine lE_run S q fun F1 H1 ρ1 v1 r1 e1 S1 R1 q => ?_
    cases hd : r1.d with
    | lst xs =>
      rw [hd] at q R1
      obtain ⟨a, vs, rfl, ha, ra⟩ := R1.lst_inv
      refine ⟨a, vs, rfl, .of (S1.sub _ _ ha), fun p hp => lE_end kk e1 S1 (.fr hp (.lst ?_)) q⟩
      exact ra.reverse
    | _ => rw [hd] at q; exact q.elim
end
end DL

set_option Elab.async false
set_option linter.all false
set_option autoImplicit false
set_option maxRecDepth 100000
set_option maxHeartbeats 1000000
/-! DLX23: try with several clauses that name what they catch. -/
namespace DL
open PySem PySem.Spec PyProof.Rows L2
abbrev Clause := Value × Nat × (Addr → Value → Option Addr → TS)
/-- the ends of a clause whose name (at i) goes behind it -/
def unnamed (i : Nat) (D : Ends) : Ends := { nx := fun σ H => D.nx (σ.set i none) H, rt := D.rt, bk := fun σ H => D.bk (σ.set i none) H, ct := fun σ H => D.ct (σ.set i none) H }
/-- the clauses' wish, one behind the other -/
def wCls (K : PySem.W.Frag) (Wout : WX) (D : Ends) : List Clause → WX
  | [] => Wout
  | (c, i, ts) :: r => fun cls d σ H => ∃ hit, PySem.W.exmOne K cls c = some hit ∧ (hit = true → ∀ a, H a = none → ts a cls d (unnamed i D) (σ.set i (some (.ref a))) H) ∧ (hit = false → wCls K Wout D r cls d σ H)
inductive ClsOk (X : Cx) : List ExceptHandler → List Clause → Prop
  | nil : ClsOk X [] []
  | cons {x n : Str} {c : Value} {i : Nat} {ts : Addr → Value → Option Addr → TS} {st : Stmt} {sts : List Stmt} {np hp : Pos} {hds : List ExceptHandler} {l : List Clause} (names : Names X x c) (at_ : X.N[i]? = some n) (own : X.env.kindOf n = some .local)
      (suite : ∀ (a : Addr) (oe : Obj) (cls : Value) (d : Option Addr) (pn : List (Addr × Obj)), Zc cls d oe → (∃ vs, oe.data = .fields vs) → PSs (X.suite a ((a, oe) :: pn)) (st :: sts) (ts a cls d)) (rest : ClsOk X hds l) :
      ClsOk X (.ExceptHandler (some (.Name x np)) (some n) (st :: sts) hp :: hds) ((c, i, ts) :: l)
section
variable {X : Cx} {body : List Stmt} {h₀ : ExceptHandler} {hds : List ExceptHandler} {l : List Clause} {pos : Pos} {tb : WX → TS} {Wout : WX}
/-- from a suite's state to the one behind it -/
theorem behind {pins : List (Addr × Obj)} {D : Ends} {i : Nat} {n : Str} {hp : Pos} {a : Addr} {oe : Obj} {fl : Flow} {s6 : Shared} (ok : X.Ok) (hN : X.N.Nodup) (at_ : X.N[i]? = some n) (own : X.env.kindOf n = some .local)
    (hsp : SP (X.suite a ((a, oe) :: (X.pn ++ pins))) [] (unnamed i D) fl s6) :
    wpAny (model X.prog X.w) X.A (do bindName X.env n .none; unbindBehindTheSuite X.env n hp) (fun _ s7 => SP X pins D fl s7) X.xe s6 := by
  cases fl with
  | next => obtain ⟨σ6, H6, S6, q⟩ := hsp; exact gone_ok (S6.unsuite ok) hN at_ own fun s7 J7 => ⟨_, _, J7, q⟩
  | brk => obtain ⟨σ6, H6, S6, q⟩ := hsp; exact gone_ok (S6.unsuite ok) hN at_ own fun s7 J7 => ⟨_, _, J7, q⟩
  | cont => obtain ⟨σ6, H6, S6, q⟩ := hsp; exact gone_ok (S6.unsuite ok) hN at_ own fun s7 J7 => ⟨_, _, J7, q⟩
  | ret u => obtain ⟨v, σ6, H6, S6, r, q⟩ := hsp; exact gone_ok (S6.unsuite ok) hN at_ own fun s7 J7 => ⟨_, _, _, J7, r, q⟩
theorem ps_tries (hs : X.stack = X.env :: X.outer) (hf : X.env.frame = some X.env.locals) (hN : X.N.Nodup) (tk : Takes X Wout)
    (hb : ∀ (W : WX) (pn : List (Addr × Obj)) (xe : Value → Shared → Prop), Takes (X.tr pn xe) W → PassesOwn (model X.prog X.w) X.A X.env xe → PSs (X.tr pn xe) body (tb W))
    (hh : ClsOk X (h₀ :: hds) l) : PS X (.Try body (h₀ :: hds) [] [] pos) (fun D σ H => tb (wCls X.K Wout D l) D σ H) where
  run pins s σ H D I h := by
    have frs0 : X.A.frames = some (X.env :: X.outer) := by rw [I.ok.frames, hs]
    refine wpAny_Try_except (wpAny_mono ((hb (wCls X.K Wout D l) (X.pn ++ pins) _ (fun u s' air => ?_) PassesOwn.looking).run [] s σ H D (I.toTry _) h) (fun fl s1 hsp => ?_) fun _ _ z => z)
    · obtain ⟨a, G, sI, pins', σ', H', cls, d, rfl, It, grd, up0, sky, na, os, ag, wish⟩ := air
      have Ib : Inv X pins σ' H' sI := It.ofTry I.ok
      rw [show (X.tr (X.pn ++ pins) _).stack = X.env :: X.outer from hs] at sky
      refine Sky.land Zc.steady frs0 hf sky fun h3 fly up3 => ?_
      have up03 := up0.trans up3
      obtain ⟨o1, v1, g1, z1, d1⟩ := fly.there
      have apart : a ∉ frs (X.env :: X.outer) := fun hm => by
        obtain ⟨_, o', e', nf⟩ := fly.2.2.1.mem hm
        rw [g1] at e'
        cases e'
        exact nf _ d1
      have notL : a ≠ X.env.locals := fun z => apart (List.mem_filterMap.mpr ⟨X.env, List.mem_cons_self, by rw [hf, z]⟩)
      have notF : a ∉ X.fs := fun hm => by
        obtain ⟨e, he, q⟩ := List.mem_filterMap.mp hm
        exact apart (List.mem_filterMap.mpr ⟨e, List.mem_cons_of_mem _ he, q⟩)
      have base3 : Inv X pins σ' H' { s' with heap := h3 } := Ib.landed grd fly.1 up03 os ag
      have in3 := base3.suite g1 d1 na notL notF
      have clauses : ∀ {hs' : List ExceptHandler} {l' : List Clause}, ClsOk X hs' l' → wCls X.K Wout D l' cls d σ' H' → wpAny (model X.prog X.w) X.A (handleBy (.ref a) X.env hs') (SP X pins D) X.xe { s' with heap := h3 } := by
        intro hs' l' ok'
        induction ok' with
        | nil =>
          intro w
          have out : wpAny (model X.prog X.w) X.A (setFlight (.ref a) X.env.frame) (fun _ s4 => wpAny (model X.prog X.w) X.A (throw (.ref a) : Sem Flow) (SP X pins D) X.xe s4) X.xe { s' with heap := h3 } := by
            rw [hf]
            refine HandSPX.setFlight_upZ fly fun h4 held up4 => wpAny_throw (tk _ _ ⟨a, G, sI, pins, σ', H', cls, d, rfl, Ib, grd, up03.trans up4, .inr (.inr ?_), na, os, ag, w⟩)
            rw [hs]
            exact held
          obtain ⟨_, _, _, oe, vs, tb0, _, _, there, _, fields, first, _⟩ := id fly
          refine wpAny_handleBy_nil ?_
          unfold PySem.passOn
          refine wpAny_bind (wpAny_field there fields first ?_)
          rw [if_neg (by simp)]
          first
            | exact wpAny_bind out
            | exact wpAny_bind (wpAny_pure (wpAny_bind out))
        | @cons x n c i ts st sts np hp hds2 l2 names at_ own suite rest ih =>
          rintro ⟨hit, kind, yes, no⟩
          have ty : PySem.W.Looks (model X.prog X.w) h3 (typeOf (.ref a)) cls := fun A Q E s k q => wpAny_typeOf_ref (k _ _ g1) (by rw [z1.1]; exact q)
          refine wpAny_handleBy_cons (codeAny_handlers_test ?_) (fun q => nomatch q)
          have name : ∀ {Q : Value → Shared → Prop} {E : Value → Shared → Prop}, Q c { s' with heap := h3 } → wpAny (model X.prog X.w) (X.A.mark (some (.ref a))) (eval (.Name x np) X.env) Q E { s' with heap := h3 } := fun {Q E} q => by
            obtain ⟨gl, dbg, there | ⟨none, boot, nm⟩⟩ := names
            · exact ld_glob (X := X.suite a ((a, o1) :: (X.pn ++ pins))) in3 gl there q dbg
            · exact ld_blt (X := X.suite a ((a, o1) :: (X.pn ++ pins))) in3 gl none boot q nm dbg
          refine name ((PySem.W.exm_one (M := model X.prog X.w) base3.kIn ty kind).here ?_)
          cases hit with
          | false => exact ih (no rfl)
          | true =>
            refine codeAny_handlers_suite_as (HandSPX.lands_againZ fly fun h4 fly4 up4 => ?_)
            obtain ⟨o4, v4, g4, z4, d4⟩ := fly4.there
            have base4 : Inv X pins σ' H' { s' with heap := h4 } := Ib.landed grd fly4.1 (up03.trans up4) os ag
            refine store_ok (X := X.suite a ((a, o4) :: (X.pn ++ pins))) (v := .ref a) (base4.suite g4 d4 na notL notF) hN at_ (.inl own) rfl (fun s5 in5 => ?_) (.inr own)
            exact wpAny_mono ((suite a o4 cls d (X.pn ++ pins) z4 ⟨_, d4⟩).run [] s5 _ H' _ in5 (yes rfl a na)) (fun fl s6 q => behind I.ok hN at_ own q) fun _ _ z => z.elim
      exact clauses hh wish
    · cases fl with
      | next => obtain ⟨σ1, H1, J, q⟩ := hsp; exact wpAny_execs_nil ⟨σ1, H1, J.ofTry I.ok, q⟩
      | brk => obtain ⟨σ1, H1, J, q⟩ := hsp; exact ⟨σ1, H1, J.ofTry I.ok, q⟩
      | cont => obtain ⟨σ1, H1, J, q⟩ := hsp; exact ⟨σ1, H1, J.ofTry I.ok, q⟩
      | ret u => obtain ⟨v, σ1, H1, J, r, q⟩ := hsp; exact ⟨v, σ1, H1, J.ofTry I.ok, r, q⟩
end
/-! ### over data -/
def suiteT (X : Cx) (T : Tb) (M : List Nat) (i c : Nat) (fs : Exc → DS) : Addr → Value → Option Addr → TS := fun a cls d D σ H => ∃ y B', B'.P i = .ref a ∧ ExR X.K T B'.F0 cls d y ∧ y.cls = c ∧ lS X.K T B' (i :: M) noE (fs y) D σ H
inductive ClsD (X : Cx) (T : Tb) (M : List Nat) : List ExceptHandler → List DClause → List Clause → Prop
  | nil : ClsD X T M [] [] []
  | cons {x n : Str} {C : Value} {i c : Nat} {fs : Exc → DS} {st : Stmt} {sts : List Stmt} {np hp : Pos} {hds : List ExceptHandler} {cl : List DClause} {l : List Clause} (names : Names X x C) (at_ : X.N[i]? = some n) (own : X.env.kindOf n = some .local) (free : i ∉ M) (kind : ExM X.K T c C)
      (suite : ∀ (a : Addr) (oe : Obj) (cls : Value) (d : Option Addr) (pn : List (Addr × Obj)) (y : Exc) (B' : Bs), Zc cls d oe → (∃ vs, oe.data = .fields vs) → B'.P i = .ref a → ExR X.K T B'.F0 cls d y → y.cls = c →
        PDSs (X.suite a ((a, oe) :: pn)) T B' (i :: M) noE (st :: sts) (fs y)) (rest : ClsD X T M hds cl l) :
      ClsD X T M (.ExceptHandler (some (.Name x np)) (some n) (st :: sts) hp :: hds) ((i, c, fs) :: cl) ((C, i, suiteT X T M i c fs) :: l)
section
variable {X : Cx} {T : Tb} {B : Bs} {M : List Nat} {W : EK} {F H : Hp} {ρ : Env} {σ : L2.St}
theorem ClsD.ok : ∀ {hds : List ExceptHandler} {cl : List DClause} {l : List Clause}, ClsD X T M hds cl l → ClsOk X hds l
  | _, _, _, .nil => .nil
  | _, _, _, .cons names at_ own free kind suite rest => .cons names at_ own (fun a oe cls d pn hz hf => ⟨fun pins s σ H J I ⟨y, B', h1, h2, h3, q⟩ => (suite a oe cls d pn y B' hz hf h1 h2 h3).run pins s σ H J I q⟩) rest.ok
theorem retv_out {F' H' : Hp} {ρ' : Env} {σ' : L2.St} {v : V} {r : R} (S : SR X.K T B M F H ρ σ) (R : RetV X.K T (baseAt B F H ρ σ) F' H' ρ' σ' v r) : RetV X.K T B F' H' ρ' σ' v r := by
  cases r with
  | fz d => exact R
  | fr d =>
    obtain ⟨p, o, z1, z2, z3, z4, z5, z6⟩ := R
    exact ⟨p, o, z1, z2, z3, z4, S.gone z5, z6⟩
theorem caught_of {Jd : DEnds} {J : Ends} {E : EK} (hE : ∀ cls d σ' H' F' ρ' y, SR X.K T B M F' H' ρ' σ' → Same F F' → ExR X.K T F' cls d y → E y ρ' → lW X.K T B M E cls d σ' H')
    (k1 : ∀ F' H' ρ' σ', Same F F' → SR X.K T B M F' H' ρ' σ' → Jd.nx ρ' → J.nx σ' H') (k2 : ∀ F' H' ρ' σ' v r, Same F F' → SR X.K T B M F' H' ρ' σ' → RetV X.K T B F' H' ρ' σ' v r → Jd.rt r ρ' → J.rt v H')
    (k3 : ∀ F' H' ρ' σ', Same F F' → SR X.K T B M F' H' ρ' σ' → Jd.bk ρ' → J.bk σ' H') (k4 : ∀ F' H' ρ' σ', Same F F' → SR X.K T B M F' H' ρ' σ' → Jd.ct ρ' → J.ct σ' H') :
    ∀ {hds : List ExceptHandler} {cl : List DClause} {l : List Clause}, ClsD X T M hds cl l → ∀ (cls : Value) (d : Option Addr) (σ' : L2.St) (H' F' : Hp) (ρ' : Env) (y : Exc), SR X.K T B M F' H' ρ' σ' → Same F F' → ExR X.K T F' cls d y → catchD cl Jd E y ρ' →
      wCls X.K (lW X.K T B M E) J l cls d σ' H'
  | _, _, _, .nil, cls, d, σ', H', F', ρ', y, S, e0, ex, q => hE cls d σ' H' F' ρ' y S e0 ex q
  | _, _, _, .cons (i := i) (c := c) (C := C) names at_ own free kind suite rest, cls, d, σ', H', F', ρ', y, S, e0, ex, q => by
    have ex0 := ex
    obtain ⟨ei, da, v, e1, e2, e3, e4, e5⟩ := ex
    subst e2
    refine ⟨decide (y.cls = c), kind _ _ e1, fun hy a ha => ?_, fun hy => ?_⟩
    · have hy := of_decide_eq_true hy
      have q : if y.cls = c then _ else _ := q
      rw [if_pos hy] at q
      obtain ⟨hil, q⟩ := q
      rw [S.len] at hil
      have S1 : SR X.K T B M F' H' (ρ'.set i .no) (σ'.set i (some (.ref a))) := S.unset free
      refine ⟨y, DL.baseE B F' H' (ρ'.set i .no) (σ'.set i (some (.ref a))) i a, if_pos rfl, ex0, hy, F', _, _, S1.baseE free (List.getElem?_set_self hil), q, fun F2 H2 ρ2 σ2 e S2 z => ?_, fun F2 H2 ρ2 σ2 v2 r e S2 R z => ?_, fun F2 H2 ρ2 σ2 e S2 z => ?_, fun F2 H2 ρ2 σ2 e S2 z => ?_⟩
      · exact k1 F2 H2 _ _ (e0.trans e) ((S1.outE free S2).unset free) z
      · refine k2 F2 H2 ρ2 σ2 v2 r (e0.trans e) (S1.outE free S2) ?_ z
        cases r with
        | fz d => exact R
        | fr d =>
          obtain ⟨p, o, z1, z2, z3, z4, z5, z6⟩ := R
          exact ⟨p, o, z1, z2, z3, z4, S1.gone z5, z6⟩
      · exact k3 F2 H2 _ _ (e0.trans e) ((S1.outE free S2).unset free) z
      · exact k4 F2 H2 _ _ (e0.trans e) ((S1.outE free S2).unset free) z
    · have hy := of_decide_eq_false hy
      have q : if y.cls = c then _ else _ := q
      rw [if_neg hy] at q
      exact caught_of hE k1 k2 k3 k4 rest _ d σ' H' F' ρ' y S e0 ex0 q
variable {body : List Stmt} {h₀ : ExceptHandler} {hds : List ExceptHandler} {pos : Pos} {fb : DS} {cl : List DClause} {l : List Clause}
theorem pds_trys (hs : X.stack = X.env :: X.outer) (hf : X.env.frame = some X.env.locals) (hN : X.N.Nodup) (tk : Takes X (lW X.K T B M W))
    (hb : ∀ (B1 : Bs) (We : EK) (pn : List (Addr × Obj)) (xe : Value → Shared → Prop), Takes (X.tr pn xe) (lW X.K T B1 M We) → PassesOwn (model X.prog X.w) X.A X.env xe → PDSs (X.tr pn xe) T B1 M We body fb)
    (hc : ClsD X T M (h₀ :: hds) cl l) : PDS X T B M W (.Try body (h₀ :: hds) [] [] pos) (sTrys cl fb) := by
  refine ps_imp (ps_tries (Wout := lW X.K T B M W) (l := l) (tb := fun Wx D σ H => ∃ B1 We, (∀ cls d σ H, lW X.K T B1 M We cls d σ H → Wx cls d σ H) ∧ lS X.K T B1 M We fb D σ H) hs hf hN tk (fun Wx pn xe tkx po => ?_) hc.ok) ?_
  · exact ⟨fun pins s σ H J I ⟨B1, We, hw, q⟩ => (hb B1 We pn xe (Takes.imp tkx hw) po).run pins s σ H J I q⟩
  · rintro J σ H ⟨F, ρ, Jd, S, h, k1, k2, k3, k4⟩
    refine ⟨baseAt B F H ρ σ, _, fun cls d σ' H' ⟨F', ρ', y, S', ex, q⟩ => ?_, F, ρ, Jd, S.base, h, fun F' H' ρ' σ' e S' => k1 F' H' ρ' σ' e (S.trans S'), fun F' H' ρ' σ' v r e S' R => k2 F' H' ρ' σ' v r e (S.trans S') (retv_out S R), fun F' H' ρ' σ' e S' => k3 F' H' ρ' σ' e (S.trans S'), fun F' H' ρ' σ' e S' => k4 F' H' ρ' σ' e (S.trans S')⟩
    exact caught_of (F := F) (fun cls d σ' H' F' ρ' y S' _ ex q => ⟨F', ρ', y, S', ex, q⟩) k1 k2 k3 k4 hc cls d σ' H' F' ρ' y (S.trans S') S'.f0 ex q
end
/-! ### isinstance of what a suite holds -/
/-- own exceptions' word of a class -/
def ErrI (K : PySem.W.Frag) (T : Tb) (c : Nat) (cv : Value) (b : Bool) : Prop := ∀ ei, T.ex c = some ei → ExcC K ei.addr ∧ PySem.W.kitOne K (.ref ei.addr) cv = some b
section
variable {X : Cx} {T : Tb} {B : Bs} {M : List Nat} {W : EK}
theorem pd_excI {a : Addr} {oe : Obj} {cls : Value} {d : Option Addr} {pn : List (Addr × Obj)} {y : Exc} {i c : Nat} {x tn : Str} {ty : String} {b : Bool} {px p2 p pos : Pos} (hz : Zc cls d oe) (hf : ∃ vs, oe.data = .fields vs) (hP : B.P i = .ref a) (ex : ExR X.K T B.F0 cls d y) (hy : y.cls = c) (G : ErrI X.K T c (.type ty) b)
    (hg : Gl X "isinstance") (hm : X.mg "isinstance" = none) (hgt : Gl X tn) (hmt : X.mg tn = none) (htn : bootBuiltins tn = some (.type ty)) (hN : X.N[i]? = some x) (hv : Vis X.env.scope x) (hi : i ∈ M) (hn : tn ≠ "__name__" := by decide) (hdb : (tn == ("__debug__" : Str)) = false := by decide) (hd : (x == ("__debug__" : Str)) = false := by decide) (hcd : (x == ("__classdict__" : Str)) = false := by decide)
    (h1 : starEach [.Name x px, .Name tn p2] (X.suite a ((a, oe) :: pn)).env = (false, eval (.Name x px) (X.suite a ((a, oe) :: pn)).env) :: starEach [.Name tn p2] (X.suite a ((a, oe) :: pn)).env := by rfl)
    (h2 : starEach [.Name tn p2] (X.suite a ((a, oe) :: pn)).env = (false, eval (.Name tn p2) (X.suite a ((a, oe) :: pn)).env) :: starEach [] (X.suite a ((a, oe) :: pn)).env := by rfl) (hpl : (backTo pos (starEach [.Name tn p2] (X.suite a ((a, oe) :: pn)).env)).any (·.1) = false := by rfl) :
    PD (X.suite a ((a, oe) :: pn)) T B M W (.Call (.Name "isinstance" p) [.Name x px, .Name tn p2] [] pos) (dC (.bl b)) := by
  obtain ⟨ei, da, v, e1, e2, e3, e4, e5⟩ := ex
  rw [hy] at e1
  subst e2 e3
  obtain ⟨ec, kit⟩ := G _ e1
  refine pe_imp (pe_callB (X := X.suite a ((a, oe) :: pn)) (call_isF ec hz hf) hg hm (by decide +kernel) (pa_cons (pe_var (i := i) hN hv hd hcd) (pa_cons (pe_bltn (v := .ty ty) hgt hmt htn rfl hn hdb) pa_nil h2) h1) (by decide) (by decide) h1 hpl) fun σ H Q ⟨F, ρ, Qd, S, h, k⟩ => ?_
  have hp := S.pin i hi
  rw [hP] at hp
  exact ⟨_, hp, .ty ty, .type ty, b, _, rfl, .ty _, S.sub _ _ (S.f0 _ _ e4), kit, k F H ρ (.bl b) (.fz (.bl b)) (Same.refl _) S (.bl b) h⟩
end
end DL

set_option Elab.async false
set_option linter.all false
set_option autoImplicit false
set_option maxRecDepth 100000
/-! DLX24: clauses from what a module says of its exceptions; {}. -/
namespace DL
open PySem PySem.Spec PyProof.Rows L2
/-- an own exception class as what is caught -/
def ErrN (K : PySem.W.Frag) (mg : Str → Option Value) (T : Tb) (x : Str) (c : Nat) : Prop := ∃ C, mg x = some (.ref C) ∧ ExM K T c (.ref C)
def ClsE (X : Cx) (T : Tb) (M : List Nat) (hds : List ExceptHandler) (cl : List DClause) : Prop := ∃ l, ClsD X T M hds cl l
section
variable {X : Cx} {T : Tb} {B : Bs} {M : List Nat} {W : EK} {F H : Hp} {ρ : Env} {σ : L2.St}
theorem cls_nil : ClsE X T M [] [] := ⟨_, .nil⟩
theorem cls_cons {x n : Str} {i c : Nat} {fs : Exc → DS} {st : Stmt} {sts : List Stmt} {np hp : Pos} {hds : List ExceptHandler} {cl : List DClause} (Y : ErrN X.K X.mg T x c) (hg : Gl X x) (at_ : X.N[i]? = some n) (own : X.env.kindOf n = some .local) (free : i ∉ M)
    (suite : ∀ (a : Addr) (oe : Obj) (cls : Value) (d : Option Addr) (pn : List (Addr × Obj)) (y : Exc) (B' : Bs), Zc cls d oe → (∃ vs, oe.data = .fields vs) → B'.P i = .ref a → ExR X.K T B'.F0 cls d y → y.cls = c →
      PDSs (X.suite a ((a, oe) :: pn)) T B' (i :: M) noE (st :: sts) (fs y)) (rest : ClsE X T M hds cl) (hdb : (x == ("__debug__" : Str)) = false := by decide) :
    ClsE X T M (.ExceptHandler (some (.Name x np)) (some n) (st :: sts) hp :: hds) ((i, c, fs) :: cl) := by
  obtain ⟨C, hm, kind⟩ := Y
  obtain ⟨l, rest⟩ := rest
  exact ⟨_, .cons ⟨hg, hdb, .inl hm⟩ at_ own free kind suite rest⟩
theorem pds_tryE {body : List Stmt} {h₀ : ExceptHandler} {hds : List ExceptHandler} {pos : Pos} {fb : DS} {cl : List DClause} (hs : X.stack = X.env :: X.outer) (hf : X.env.frame = some X.env.locals) (hN : X.N.Nodup) (tk : Takes X (lW X.K T B M W))
    (hb : ∀ (B1 : Bs) (We : EK) (pn : List (Addr × Obj)) (xe : Value → Shared → Prop), Takes (X.tr pn xe) (lW X.K T B1 M We) → PassesOwn (model X.prog X.w) X.A X.env xe → PDSs (X.tr pn xe) T B1 M We body fb)
    (hc : ClsE X T M (h₀ :: hds) cl) : PDS X T B M W (.Try body (h₀ :: hds) [] [] pos) (sTrys cl fb) := let ⟨l, hc⟩ := hc; pds_trys hs hf hN tk hb hc
theorem pd_dct0 {pos : Pos} : PD X T B M W (.Dict [] [] pos) dDct0 :=
  pe_imp pe_dnewK fun σ H Q ⟨F, ρ, Qd, S, h, k⟩ => fun d hd => lE_end k (Same.refl _) S (.fr hd (.dct .nil)) h
end
end DL

set_option Elab.async false
set_option linter.all false
set_option autoImplicit false
set_option maxRecDepth 100000
/-! DLX25: what isinstance and except ask of own classes, from what the written part says. -/
namespace DL
open PySem PySem.Spec PyProof.Rows L2
section
variable {K : PySem.W.Frag} {C D : Addr} {b : Bool}
theorem clsIn_of (h : PySem.W.hasDictIn K C = true) : (PySem.W.clsIn K C).isSome = true := by
  unfold PySem.W.hasDictIn at h
  cases e : PySem.W.clsIn K C with
  | none => rw [e] at h; cases h
  | some cd => rfl
theorem kitCls_of {t : Value} (hd : PySem.W.hasDictIn K C = true) (ty : PySem.W.typeIn K (.ref C) = some (.type "type")) (h : PySem.W.subIn K t (.ref C) = some b) : PySem.W.kitCls K t (.ref C) = some b := by
  show (if ((PySem.W.clsIn K C).isSome && PySem.W.typeIn K (.ref C) == some (.type "type")) = true then PySem.W.subIn K t (.ref C) else none) = _
  rw [clsIn_of hd, ty, h]
  simp
theorem kit_self : PySem.W.kitOne K (.ref C) (.ref C) = some true := by
  unfold PySem.W.kitOne
  simp
def mroT : List String := ["NoneType", "bool", "int", "str", "list", "tuple", "dict"]
theorem mro_types : ∀ n ∈ mroT, ∃ l : List String, PySem.fastBuiltinMro n = some (l.map Value.type) := by
  intro n h
  have h2 : n = "NoneType" ∨ n = "bool" ∨ n = "int" ∨ n = "str" ∨ n = "list" ∨ n = "tuple" ∨ n = "dict" := by simpa [mroT] using h
  rcases h2 with rfl | rfl | rfl | rfl | rfl | rfl | rfl
  · exact ⟨["NoneType", "object"], by kernel_rfl⟩
  · exact ⟨["bool", "int", "object"], by kernel_rfl⟩
  · exact ⟨["int", "object"], by kernel_rfl⟩
  · exact ⟨["str", "object"], by kernel_rfl⟩
  · exact ⟨["list", "object"], by kernel_rfl⟩
  · exact ⟨["tuple", "object"], by kernel_rfl⟩
  · exact ⟨["dict", "object"], by kernel_rfl⟩
theorem kit_built {n : String} (hn : n ∈ mroT) (hd : PySem.W.hasDictIn K C = true) (ty : PySem.W.typeIn K (.ref C) = some (.type "type")) : PySem.W.kitOne K (.type n) (.ref C) = some false := by
  obtain ⟨l, e⟩ := mro_types n hn
  unfold PySem.W.kitOne
  rw [if_neg (by simp)]
  refine kitCls_of hd ty ?_
  show (PySem.fastBuiltinMro n).map (·.contains (Value.ref C)) = some false
  rw [e]
  simp
theorem kitC_of (hd : PySem.W.hasDictIn K C = true) (ty : PySem.W.typeIn K (.ref C) = some (.type "type")) (ka : PySem.W.findIn K (.ref C) "__class__" = some (some (.builtin "object.__class__")))
    (hn : PySem.W.specialIn K (.builtin "object.__class__") "__get__" = some (some (.builtin "getset_descriptor.__get__"))) (ht : PySem.W.takesIn K (.builtin "object.__class__") = some true) (km : PySem.W.mroIn K C (.type "object") = some true) : KitC K C :=
  have z : ∀ n ∈ mroT, PySem.W.kitOne K (.type n) (.ref C) = some false := fun n h => kit_built h hd ty
  ⟨kit_self, z _ (by simp [mroT]), z _ (by simp [mroT]), z _ (by simp [mroT]), z _ (by simp [mroT]), z _ (by simp [mroT]), z _ (by simp [mroT]), z _ (by simp [mroT]), ka, hn, ht, km⟩
theorem exm_ref (hd : PySem.W.hasDictIn K C = true) (ty : PySem.W.typeIn K (.ref C) = some (.type "type")) (be : PySem.W.subIn K (.ref C) (.type "BaseException") = some true) (h : PySem.W.subIn K (.ref D) (.ref C) = some b) : PySem.W.exmOne K (.ref D) (.ref C) = some b := by
  unfold PySem.W.exmOne
  rw [if_pos (by rw [be]; simp), kitCls_of hd ty h]
theorem kit_err {t : String} (hm : PySem.W.kitMeta t = true) (h : PySem.W.subIn K (.ref D) (.type t) = some b) : PySem.W.kitOne K (.ref D) (.type t) = some b := by
  unfold PySem.W.kitOne
  rw [if_neg (by simp)]
  show (if PySem.W.kitMeta t = true then PySem.W.subIn K (.ref D) (.type t) else none) = _
  rw [if_pos hm, h]
end
end DL

set_option Elab.async false
set_option linter.all false
set_option autoImplicit false
set_option maxRecDepth 100000
/-! DLX26: == and != by an own __eq__. -/
namespace DL
open PySem PySem.Spec PyProof.Rows L2
/-- an own == of the class at C: its def, and no own != -/
structure OwnEq (K : PySem.W.Frag) (C f : Addr) : Prop where
  eq : PySem.W.findIn K (.ref C) "__eq__" = some (some (.ref f))
  fn : PySem.W.isFn K (.ref f) = true
  hd : PySem.W.hasDictIn K C = true
  ty : PySem.W.typeIn K (.ref C) = some (.type "type")
  cls : ∃ nm q N bs hdct sn sub ab col dd k0 k1 k2 k3 k5 newId, K.lookup C = some (excClassObj nm q C N bs [.type "object"] hdct sn sub ab col dd k0 k1 k2 k3 k5 newId) ∧ PySem.W.nsOkIn K N = true ∧ PySem.W.nsIn K N "__eq__" = some (some (.ref f)) ∧ PySem.W.nsIn K N "__ne__" = some none
theorem ns_is {K : PySem.W.Frag} {h : Heap} {N : Addr} {m : Str → Option Value} {n : Str} {v : Value} (X : K.In h) (G : h.Ns N m) (e : PySem.W.nsIn K N n = some (some v)) : m n = some v := by
  obtain ⟨o, es, ep, ho, hd, _, hf⟩ := G
  unfold PySem.W.nsIn at e
  split at e
  · rename_i q
    cases ho.symm.trans (X _ _ q)
    cases hd
    split at e
    · rename_i he
      cases e
      rw [← hf]
      unfold nsFind findBy
      rw [← Array.find?_toList, he]
      rfl
    · split at e <;> cases e
  · cases e
section
variable {X : Cx} {k : Nat} {C f : Addr} {fd : FuncData} {ps : List Str} {sp : Sp} {σ : L2.St} {H : Hp}
theorem noPass : PassesAt (L2.CX X.prog X.w) X σ (fun _ _ _ => False) := fun pins H s e s' I z => by
  obtain ⟨_, _, _, _, _, _, _, _, _, _, _, _, z⟩ := z
  exact z.elim
theorem RoomG.in1 {A : Around} (r : RoomG (k + 1) A) : RoomG k A.in1 := ⟨r.rm.in1, r.gd⟩
/-- the call, one level in -/
theorem run_in1 {pins : List (Addr × Obj)} {s : Shared} {Q : VK} {us : List Value} {vs : List V} (G : FnG X.prog X.w X.K X.mg X.base (L2.CX X.prog X.w) k f fd ps sp) (hr : RoomG (k + 1) X.A) (hb : Binds X.K fd ps [])
    (I : Inv X pins σ H s) (r : Vals vs us) (h : sp vs H Q fun _ _ _ => False) : wpAny (model X.prog X.w) X.A.in1 (call (.ref f) us) (EP X pins σ Q) X.xe s := by
  have hl := G.len _ _ _ _ h
  rw [r.length] at hl
  have bd := hb s us I.kIn (by simpa using hl)
  simp only [List.append_nil] at bd
  refine wpAny_call (codeAny_mono (G.run X.A.in1 X.stack s H ⟨us, []⟩ us vs Q _ hr.in1 I.env0.in1 bd r h) fun res s' z => ?_)
  match res, z with
  | .error e, z => exact noPass (σ := σ) pins H s e s' I z
  | .ok (.ret u), z => exact I.after z
theorem op_eqO (G : FnG X.prog X.w X.K X.mg X.base (L2.CX X.prog X.w) k f fd ps sp) (hr : RoomG (k + 1) X.A) (oe : OwnEq X.K C f) (hb : Binds X.K fd ps []) :
    OpR X (compareOp .Eq) (fun x y H Q => (∃ a dx fs, x = .ref a ∧ H a = some (.ins C dx fs)) ∧ (∃ t, TyX X.K H y t ∧ PySem.W.notFirst X.K C t = true) ∧ sp [x, y] H (fun v H' => ∃ b, v = .bl b ∧ Q (.bl b) H') fun _ _ _ => False) := by
  rintro pins s σ H x y v u Q I rx ry ⟨⟨a, dx, fs, rfl, ha⟩, ⟨t, ty, nf⟩, q⟩
  cases rx
  obtain ⟨mA, J, _⟩ := ins_get I.hok ha
  obtain ⟨od, J, _⟩ := J.look
  obtain ⟨P, kx, hP, _⟩ := kit_of I ry ty
  obtain ⟨m, fr⟩ := I.fr
  show wpAny (model X.prog X.w) X.A (richCompare .Eq (.ref a) u) (EP X pins σ Q) X.xe s
  refine PySem.W.cmp_K (op := .Eq) hr.rm.units0 fr I.ok.mod.kin J (kx.ty _ _ I.kIn hP) nf oe.eq oe.fn ?_
  refine wpAny_mono (run_fnG (E := fun _ _ _ _ => False) (σ := σ) (us := [.ref a, u]) (vs := [.ref a, y]) G (hr.mono (Nat.le_succ _)) hb noPass I (.cons rfl (.cons ry .nil)) q) (fun w s' z => ?_) fun _ _ z => z
  obtain ⟨_, H', I', rw', b, rfl, q'⟩ := z
  cases rw'
  exact ⟨.bl b, H', I', rfl, q'⟩
theorem op_neO (G : FnG X.prog X.w X.K X.mg X.base (L2.CX X.prog X.w) k f fd ps sp) (hr : RoomG (k + 1) X.A) (oe : OwnEq X.K C f) (hb : Binds X.K fd ps []) :
    OpR X (compareOp .NotEq) (fun x y H Q => ∃ a b dx dy fs gs, x = .ref a ∧ y = .ref b ∧ H a = some (.ins C dx fs) ∧ H b = some (.ins C dy gs) ∧ sp [x, y] H (fun v H' => ∃ r, v = .bl r ∧ Q (.bl (!r)) H') fun _ _ _ => False) := by
  rintro pins s σ H x y v u Q I rx ry ⟨a, b, dx, dy, fs, gs, rfl, rfl, ha, hb', q⟩
  cases rx
  cases ry
  obtain ⟨mA, J, _⟩ := ins_get I.hok ha
  obtain ⟨mB, J', _⟩ := ins_get I.hok hb'
  obtain ⟨nm, qn, N, bs, hdct, sn, sub, ab, col, dd, k0, k1, k2, k3, k5, newId, hC, hn, he, hne⟩ := oe.cls
  have KX := I.kIn
  have ns : s.heap.Ns N (s.heap.nsMap N) := .of_isNs (PySem.W.isNs_of_in KX hn)
  obtain ⟨of, hfo, hfc⟩ : ∃ of, X.K.lookup f = some of ∧ of.cls = .type "function" := by
    have h : (X.K.lookup f).map (·.cls) == some (.type "function") := oe.fn
    cases e : X.K.lookup f with
    | none => rw [e] at h; cases h
    | some o => rw [e] at h; exact ⟨o, rfl, by simpa using h⟩
  obtain ⟨y0, hy0⟩ : ∃ y, typeLookup (.type "object") "__eq__" = pure y := ⟨_, PySem.F.cmp_object.eq.lookup⟩
  have ox : s.heap.OwnEqNoNe a C f "object" [.type "object"] := ⟨_, of, nm, qn, N, bs, hdct, sn, sub, ab, col, dd, k0, k1, k2, k3, k5, newId, _, y0, J.obj, rfl, KX _ _ hC, ns, ns_is KX ns he, KX _ _ hfo, hfc, PySem.F.cmp_object.mro, hy0, PySem.W.nsMap_none_of_in KX hn hne⟩
  obtain ⟨hp, g, d, t, os⟩ := s
  refine compareOp_ne_ownEq PySem.F.cmp_object ox J'.obj rfl (by have := hr.rm.units0; have := hr.rm.un; omega) ?_
  refine wpAny_mono (run_in1 (σ := σ) (us := [.ref a, .ref b]) (vs := [.ref a, .ref b]) G hr hb I (.cons rfl (.cons rfl .nil)) q) (fun w s' z => ?_) fun _ _ z => z
  obtain ⟨_, H', I', rw', r, rfl, q'⟩ := z
  cases rw'
  exact ⟨r, rfl, .bl (!r), H', I', rfl, q'⟩
end
section
variable {X : Cx} {T : Tb} {B : Bs} {M : List Nat} {W : EK} {F H : Hp} {ρ : Env} {σ : L2.St}
/-- the promise at two settled values -/
theorem sp2_of {con : Con} {x y : V} {dx dy : D} {Qd : R → Env → Prop} {Q : VK} (S : SR X.K T B M F H ρ σ) (rx : Rep X.K T F x dx) (ry : Rep X.K T F y dy) {neg : Bool}
    (q : con [.fz dx, .fz dy] (fun t _ => ∃ b, t.d = .bl b ∧ Qd (.fz (.bl (if neg = true then !b else b))) ρ) fun _ _ => False)
    (kk : ∀ F' H' v r, Same F F' → SR X.K T B M F' H' ρ σ → RetV X.K T B F' H' ρ σ v r → Qd r ρ → Q v H') :
    spC X.K T 2 [] con [x, y] H (fun v H' => ∃ b, v = .bl b ∧ Q (.bl (if neg = true then !b else b)) H') fun _ _ _ => False := by
  have nown : ∀ (i : Nat) (d : D), ([dx, dy].map Slot.fz)[i]? ≠ some (.own d) := fun i d h => by
    rw [List.getElem?_map] at h
    cases e : ([dx, dy])[i]? with
    | none => rw [e] at h; cases h
    | some d' => rw [e] at h; cases h
  have R2 : RepL X.K T F [x, y] [dx, dy] := .cons rx (.cons ry .nil)
  refine ⟨F, [dx, dy].map Slot.fz, _, _, rfl, rfl, S.sub, args_of R2, fun i j d e p h1 => absurd h1 (nown i d), fun i d h1 => absurd h1 (nown i d), q, fun F2 H2 v r outs A R q2 => ?_, fun F2 H2 cls d y outs A ex q2 => q2.elim⟩
  have S3 := S.aft A fun b ⟨i, d, h1, _⟩ => absurd h1 (nown i d)
  obtain ⟨b, hb, q2⟩ := q2
  have rv : v = .bl b := by
    cases r with
    | fz d => cases (show d = .bl b from hb); exact Rep.bl_inv R
    | fr d =>
      cases (show d = .bl b from hb)
      obtain ⟨p, o, rfl, z1, z2, z3, z4⟩ := R
      cases z3
  exact ⟨b, rv, kk F2 H2 (.bl _) (.fz (.bl _)) A.same S3 (Rep.bl _) q2⟩
theorem tyO_of {c : Nat} {ci : CI} {d : D} {v : V} (hC : ClD X.K T c ci) (kc : KitC X.K ci.addr) (hd : PySem.W.hasDictIn X.K ci.addr = true) (ty : PySem.W.typeIn X.K (.ref ci.addr) = some (.type "type")) (s : Same F H) (r : Rep X.K T F v d) (h : d.eqTo c = true) :
    ∃ t, TyX X.K H v t ∧ PySem.W.notFirst X.K ci.addr t = true := by
  have sub : ∀ n ∈ mroT, PySem.W.notFirst X.K ci.addr (.type n) = true := fun n hn => by
    obtain ⟨l, e⟩ := mro_types n hn
    unfold PySem.W.notFirst
    have : PySem.W.subIn X.K (.type n) (.ref ci.addr) = some false := by
      show (PySem.fastBuiltinMro n).map (·.contains (Value.ref ci.addr)) = some false
      rw [e]
      simp
    rw [this]
    simp
  cases d with
  | non => rw [r.non_inv]; exact ⟨_, .base .non, sub _ (by simp [mroT])⟩
  | bl x => rw [r.bl_inv]; exact ⟨_, .base (.bl x), sub _ (by simp [mroT])⟩
  | int x => rw [r.int_inv]; exact ⟨_, .base (.int x), sub _ (by simp [mroT])⟩
  | str x => rw [r.str_inv.1]; exact ⟨_, .base (.str _), sub _ (by simp [mroT])⟩
  | lst x => obtain ⟨p, us, rfl, hp, ra⟩ := r.lst_inv; exact ⟨_, .base (.lst (s _ _ hp)), sub _ (by simp [mroT])⟩
  | tup x => obtain ⟨p, us, rfl, hp, ra⟩ := r.tup_inv; exact ⟨_, .base (.tup (s _ _ hp)), sub _ (by simp [mroT])⟩
  | dct x => obtain ⟨p, us, rfl, hp, ra⟩ := r.dct_inv; exact ⟨_, .base (.dK (s _ _ hp)), sub _ (by simp [mroT])⟩
  | obj c' x =>
    have h : (c' == c) = true := h
    have hcc : c' = c := by simpa using h
    subst hcc
    obtain ⟨p, ci', dx, vs, rfl, hc, hF, hl, ra⟩ := r.obj_inv
    cases hC.at_.symm.trans hc
    refine ⟨_, .base (.ins (s _ _ hF) hC.cls kc.at_ kc.hn kc.tk kc.top), ?_⟩
    unfold PySem.W.notFirst
    simp
  | cls c => cases h
  | frl x => cases h
variable {a b : Expr} {f g : DE} {pos : Pos} {c k : Nat} {ci : CI} {con : Con} {ps : List Str}
/-- what callers know of an own == -/
def CalE (P : Program) (w : World) (K : PySem.W.Frag) (mg : Str → Option Value) (base : Heap) (T : Tb) (C : Addr) (k : Nat) (con : Con) : Prop := ∃ fa fd ps, Def P w K mg base T k fa fd ps [] con ∧ ps.length = 2 ∧ Binds K fd ps [] ∧ OwnEq K C fa
theorem objAt_of {d : D} {v : V} (hC : ClD X.K T c ci) (s : Same F H) (r : Rep X.K T F v d) (h : d.isObj c = true) : ∃ a dx fs, v = .ref a ∧ H a = some (.ins ci.addr dx fs) := by
  cases d with
  | obj c' x =>
    have h : (c' == c) = true := h
    have hcc : c' = c := by simpa using h
    subst hcc
    obtain ⟨p, ci', dx, vs, rfl, hc, hF, hl, ra⟩ := r.obj_inv
    cases hC.at_.symm.trans hc
    exact ⟨p, dx, _, rfl, s _ _ hF⟩
  | _ => cases h
theorem pd_eqO (hC : ClD X.K T c ci) (kc : KitC X.K ci.addr) (G : CalE X.prog X.w X.K X.mg X.base T ci.addr k con) (hr : RoomG (k + 1) X.A) (ha : PD X T B M W a f) (hb : PD X T B M W b g) (hm : behindInMarks .Eq b = false) : PD X T B M W (.Compare a [.Eq] [b] pos) (dEqO c con false f g) := by
  obtain ⟨fa, fd, ps, D, hl, hbn, oe⟩ := G
  refine pe_imp (pe_cmpR (op_eqO D.ok hr oe hbn) ha hb hm) fun σ H Q ⟨F, ρ, Qd, S, h, kk⟩ => ?_
  refine lE_run S h fun F1 H1 ρ1 v1 r1 e1 S1 R1 h1 => lE_run S1 h1 fun F2 H2 ρ2 v2 r2 e2 S2 R2 h2 => ?_
  obtain ⟨o1, o2, q⟩ := h2
  rw [hl]
  exact ⟨objAt_of hC S2.sub (R1.mono e2) o1, tyO_of hC kc oe.hd oe.ty S2.sub R2 (by simpa using o2), sp2_of (neg := false) S2 (R1.mono e2) R2 q fun F' H' v r e => kk F' H' _ v r (e1.trans (e2.trans e))⟩
theorem pd_neO (hC : ClD X.K T c ci) (G : CalE X.prog X.w X.K X.mg X.base T ci.addr k con) (hr : RoomG (k + 1) X.A) (ha : PD X T B M W a f) (hb : PD X T B M W b g) (hm : behindInMarks .NotEq b = false) : PD X T B M W (.Compare a [.NotEq] [b] pos) (dEqO c con true f g) := by
  obtain ⟨fa, fd, ps, D, hl, hbn, oe⟩ := G
  refine pe_imp (pe_cmpR (op_neO D.ok hr oe hbn) ha hb hm) fun σ H Q ⟨F, ρ, Qd, S, h, kk⟩ => ?_
  refine lE_run S h fun F1 H1 ρ1 v1 r1 e1 S1 R1 h1 => lE_run S1 h1 fun F2 H2 ρ2 v2 r2 e2 S2 R2 h2 => ?_
  obtain ⟨o1, o2, q⟩ := h2
  obtain ⟨p1, d1, f1, z1, z2⟩ := objAt_of hC S2.sub (R1.mono e2) o1
  obtain ⟨p2, d2, f2, y1, y2⟩ := objAt_of hC S2.sub R2 (by simpa using o2)
  rw [hl]
  exact ⟨p1, p2, d1, d2, f1, f2, z1, y1, z2, y2, sp2_of (neg := true) S2 (R1.mono e2) R2 q fun F' H' v r e => kk F' H' _ v r (e1.trans (e2.trans e))⟩
theorem pdt_eqO (hC : ClD X.K T c ci) (kc : KitC X.K ci.addr) (G : CalE X.prog X.w X.K X.mg X.base T ci.addr k con) (hr : RoomG (k + 1) X.A) (ha : PD X T B M W a f) (hb : PD X T B M W b g) (hm : behindInMarks .Eq b = false) : PDT X T B M W (.Compare a [.Eq] [b] pos) (tVal (dEqO c con false f g)) := by
  obtain ⟨fa, fd, ps, D, hl, hbn, oe⟩ := G
  refine pt_imp (pt_cmpR (op_eqO D.ok hr oe hbn) ha hb hm) fun σ H Q ⟨F, ρ, Qd, S, h, kk⟩ => ?_
  refine lE_run S h fun F1 H1 ρ1 v1 r1 e1 S1 R1 h1 => lE_run S1 h1 fun F2 H2 ρ2 v2 r2 e2 S2 R2 h2 => ?_
  obtain ⟨o1, o2, q⟩ := h2
  rw [hl]
  exact ⟨objAt_of hC S2.sub (R1.mono e2) o1, tyO_of hC kc oe.hd oe.ty S2.sub R2 (by simpa using o2), sp2_of (neg := false) (Qd := fun r ρ => ∃ b, r = .fz (.bl b) ∧ Qd b ρ) (Q := fun v H' => ∃ b, v = .bl b ∧ Q b H') S2 (R1.mono e2) R2
    (by simpa [R.d] using q) (fun F' H' v r e S' R' ⟨b, e1', q'⟩ => by subst e1'; exact ⟨b, Rep.bl_inv R', kk F' H' _ b (e1.trans (e2.trans e)) S' q'⟩) |> fun z => z⟩
theorem pdt_neO (hC : ClD X.K T c ci) (G : CalE X.prog X.w X.K X.mg X.base T ci.addr k con) (hr : RoomG (k + 1) X.A) (ha : PD X T B M W a f) (hb : PD X T B M W b g) (hm : behindInMarks .NotEq b = false) : PDT X T B M W (.Compare a [.NotEq] [b] pos) (tVal (dEqO c con true f g)) := by
  obtain ⟨fa, fd, ps, D, hl, hbn, oe⟩ := G
  refine pt_imp (pt_cmpR (op_neO D.ok hr oe hbn) ha hb hm) fun σ H Q ⟨F, ρ, Qd, S, h, kk⟩ => ?_
  refine lE_run S h fun F1 H1 ρ1 v1 r1 e1 S1 R1 h1 => lE_run S1 h1 fun F2 H2 ρ2 v2 r2 e2 S2 R2 h2 => ?_
  obtain ⟨o1, o2, q⟩ := h2
  obtain ⟨p1, d1, f1, z1, z2⟩ := objAt_of hC S2.sub (R1.mono e2) o1
  obtain ⟨p2, d2, f2, y1, y2⟩ := objAt_of hC S2.sub R2 (by simpa using o2)
  rw [hl]
  exact ⟨p1, p2, d1, d2, f1, f2, z1, y1, z2, y2, sp2_of (neg := true) (Qd := fun r ρ => ∃ b, r = .fz (.bl b) ∧ Qd b ρ) (Q := fun v H' => ∃ b, v = .bl b ∧ Q b H') S2 (R1.mono e2) R2
    (by simpa [R.d] using q) (fun F' H' v r e S' R' ⟨b, e1', q'⟩ => by subst e1'; exact ⟨b, Rep.bl_inv R', kk F' H' _ b (e1.trans (e2.trans e)) S' q'⟩) |> fun z => z⟩
end
end DL

set_option Elab.async false
set_option linter.all false
set_option autoImplicit false
set_option maxRecDepth 100000
/-! DLX27: C.m() of a classmethod. -/
namespace DL
open PySem PySem.Spec PyProof.Rows L2
theorem nsOk_of {K : PySem.W.Frag} {N : Addr} {c : Value} {d : Option Addr} {es : Array DictEntry} {n : Nat} {sl : Array (Option Value)} (lk : K.lookup N = some ⟨c, d, .dict es n, sl⟩) (all : (es.toList.all fun e => match e.key with | .str _ _ => true | _ => false) = true) : PySem.W.nsOkIn K N = true := by
  unfold PySem.W.nsOkIn
  rw [lk]
  show (es.all fun e => match e.key with | .str _ _ => true | _ => false) = true
  rw [← Array.all_toList]
  exact all
section
variable {X : Cx} {T : Tb} {B : Bs} {M : List Nat} {W : EK} {F H : Hp} {ρ : Env} {σ : L2.St}
variable {k c : Nat} {ci : CI} {ps : List Str} {con : Con} {x m : Str} {pn pos apos : Pos} {pl : Sem Bool}
theorem pd_cmethC0 (hO : Own X.K X.mg T x c ci) (G : CalC X.prog X.w X.K X.mg X.base T ci.addr m k ps con) (hr : RoomG k X.A) (tk : Takes X (lW X.K T B M W)) (hg : Gl X x) (hn : 1 = ps.length := by rfl)
    (hdb : (x == ("__debug__" : Str)) = false := by decide)
    (ht : eval (.Call (.Attribute (.Name x pn) m apos) [] [] pos) X.env = (do
      let ov ← eval (.Name x pn) X.env
      standAt apos.atName
      let (f, first) ← holding [ov] (getMethod ov m pl)
      callWith pos f first (backTo pos (starEach [] X.env)) (backToKw pos (keywordEach [] X.env))) := by rfl) :
    PD X T B M W (.Call (.Attribute (.Name x pn) m apos) [] [] pos) (dCm c con []) := by
  obtain ⟨fa, fd, pA, DD, hb, cm⟩ := G
  refine pe_imp (pe_cmeth0S (pe_glob (v := .ref ci.addr) hg hO.mg rfl hdb) hO.rd cm DD.ok hr hb (fun σ => passAt tk σ) ht) fun σ H Q ⟨F, ρ, Qd, S, h, kk⟩ => ?_
  have q : [].length = ([] : List DE).length ∧ con ((D.cls c :: []).map .fz) (fun r _ => Qd r ρ) fun x _ => W x ρ := h
  have nown : ∀ (i : Nat) (d : D), ((D.cls c :: []).map Slot.fz)[i]? ≠ some (.own d) := fun i d h => by
    cases i with
    | zero => cases h
    | succ i => simp at h
  have R2 : RepL X.K T F [.ref ci.addr] [D.cls c] := .cons (.cls hO.cl.at_) .nil
  refine ⟨rfl, F, (D.cls c :: []).map Slot.fz, _, _, hn, hn, S.sub, args_of R2, fun i j d e p h1 => absurd h1 (nown i d), fun i d h1 => absurd h1 (nown i d), q.2, fun F2 H2 v r outs A R q2 => ?_, fun F2 H2 cls d y outs A ex q2 => ?_⟩
  · have S3 := S.aft A fun b ⟨i, d, h1, _⟩ => absurd h1 (nown i d)
    refine kk F2 H2 ρ v r A.same S3 ?_ q2
    cases r with
    | fz d => exact R
    | fr d =>
      obtain ⟨p, o, rfl, z1, z2, z3, z4⟩ := R
      refine ⟨p, o, rfl, z1, z2, z3, S.gone z4, fun i e hi hs => ?_⟩
      obtain ⟨p', o', y1, y2, y3, y4⟩ := S.ownAt hi
      rw [hs] at y1
      cases y1
      rw [z4] at y3
      cases y3
  · exact ⟨F2, ρ, y, S.aft A fun b ⟨i, d, h1, _⟩ => absurd h1 (nown i d), ex, q2⟩
end
end DL

set_option Elab.async false
set_option linter.all false
set_option autoImplicit false
set_option maxRecDepth 100000
/-! DLX28: a built-in function of a name that keeps its object. -/
namespace DL
open PySem PySem.Spec PyProof.Rows L2
section
variable {X : Cx} {T : Tb} {B : Bs} {M : List Nat} {W : EK} {F H : Hp} {ρ : Env} {σ : L2.St}
theorem flat_rep {K : PySem.W.Frag} {F F' : Hp} {v : V} {d : D} (hd : d.flat = true) (r : Rep K T F v d) : Rep K T F' v d := by
  cases d with
  | non => rw [r.non_inv]; exact .non
  | bl b => rw [r.bl_inv]; exact .bl b
  | int i => rw [r.int_inv]; exact .int i
  | str x => obtain ⟨rfl, z⟩ := r.str_inv; exact .str z
  | _ => cases hd
theorem pd_fnN {op : List D → (R → Prop) → Prop} {r : List V → Hp → VK → Prop} {x y : Str} {p py pos : Pos} {id : String} {i : Nat} (ho : FnR X.K T op r) (hc : CallR X (.builtin id) r) (hg : Gl X x) (hm : X.mg x = none) (hv : bootBuiltins x = some (.builtin id))
    (hN : X.N[i]? = some y) (hvv : Vis X.env.scope y) (hn : x ≠ "__name__" := by decide) (hdb : (x == ("__debug__" : Str)) = false := by decide) (hd : (y == ("__debug__" : Str)) = false := by decide) (hcd : (y == ("__classdict__" : Str)) = false := by decide)
    (he : starEach [.Name y py] X.env = (false, eval (.Name y py) X.env) :: starEach [] X.env := by rfl) (hpl : (backTo pos (starEach [] X.env)).any (·.1) = false := by rfl) :
    PD X T B M W (.Call (.Name x p) [.Name y py] [] pos) (dFnN op i) :=
  pe_imp (pe_callB hc hg hm hv (pa_cons (pe_var hN hvv hd hcd) pa_nil he) hn hdb he hpl) fun σ H Q ⟨F, ρ, Qd, S, h, k⟩ => by
    unfold dFnN at h
    have hs := S.slot i
    cases hd : ρ.at i with
    | no => rw [hd] at h; exact h.elim
    | fz d =>
      rw [hd] at hs h
      obtain ⟨v, ev, rv⟩ := hs
      refine ⟨v, ev, ?_⟩
      exact ho F H [v] [d] _ _ S.sub (.cons rv .nil) h fun v H' t n q => lE_end k (Same.refl _) S n q
    | own d =>
      rw [hd] at hs h
      obtain ⟨a, o, ev, hF, hH, ro⟩ := hs
      refine ⟨_, ev, ?_⟩
      have su : Same F (upd F a o) := same_upd hF
      have sub : Same (upd F a o) H := fun b x e => by
        by_cases hb : b = a
        · subst hb; rw [upd_same] at e; cases e; exact hH
        · rw [upd_ne hb] at e; exact S.sub _ _ e
      refine ho (upd F a o) H [.ref a] [d] _ _ sub (.cons (.ref upd_same (ro.mono su)) .nil) h fun v H' t n q => ?_
      obtain ⟨hf, q⟩ := q
      refine lE_end k (Same.refl _) S ?_ q
      rcases n with ⟨d', rfl, rfl, rd⟩ | ⟨a', o', d', rfl, rfl, _, rfl, ro'⟩
      · exact .fz (flat_rep hf rd)
      · cases ro' <;> cases hf
end
end DL

set_option linter.all false
set_option autoImplicit false
/-! DLS: short words for proofs over data. -/
namespace DL
theorem bA_nil {outs : List Slot} {ρ : Env} : backA [] outs ρ = ρ := rfl
theorem bA_e {as : List AV} {ρ : Env} : backA as [] ρ = ρ := by
  cases as with
  | nil => rfl
  | cons a as => cases a <;> rfl
theorem bA_v {d : D} {as : List AV} {outs : List Slot} {ρ : Env} : backA (.v d :: as) outs ρ = backA as outs.tail ρ := by
  cases outs with
  | nil => rw [List.tail_nil, bA_e, bA_e]
  | cons s ss => rfl
theorem bA_m {i : Nat} {as : List AV} {s : Slot} {ss : List Slot} {ρ : Env} : backA (.m i :: as) (s :: ss) ρ = backA as ss (ρ.set i s) := rfl
theorem at_0 {s : Slot} {ρ : List Slot} : Env.at (s :: ρ) 0 = s := rfl
theorem at_s {s : Slot} {ρ : List Slot} {i : Nat} : Env.at (s :: ρ) (i + 1) = Env.at ρ i := rfl
theorem at_nil {i : Nat} : Env.at [] i = .no := rfl
theorem set_0 {s t : Slot} {ρ : List Slot} : (s :: ρ).set 0 t = t :: ρ := rfl
theorem set_s {s t : Slot} {ρ : List Slot} {i : Nat} : (s :: ρ).set (i + 1) t = s :: ρ.set i t := rfl
theorem outs_0 {ρ : Env} : outsE 0 ρ = [] := by cases ρ <;> rfl
theorem outs_s {n : Nat} {s : Slot} {ρ : Env} : outsE (n + 1) (s :: ρ) = s :: outsE n ρ := rfl
theorem fzd {d : D} : (R.fz d).d = d := rfl
theorem frd {d : D} : (R.fr d).d = d := rfl
theorem eqv_int {a b : Int} : D.eqv (.int a) (.int b) = (a == b) := by rw [D.eqv]
theorem eqv_str {a b : Tx} : D.eqv (.str a) (.str b) = (a == b) := by rw [D.eqv]
theorem eqv_bl {a b : Bool} : D.eqv (.bl a) (.bl b) = (a == b) := by rw [D.eqv]
theorem neD_str {a b : Tx} {k : R → Prop} : neD (.str a) (.str b) k = (eqC (.str a) (.str b) ∧ k (.fz (.bl (!(a == b))))) := by rw [← eqv_str]; rfl
theorem neD_int {a b : Int} {k : R → Prop} : neD (.int a) (.int b) k = (eqC (.int a) (.int b) ∧ k (.fz (.bl (!(a == b))))) := by rw [← eqv_int]; rfl
def dVarM (s : Slot) (i : Nat) (ρ : Env) (Q : R → Env → Prop) : Prop := match s with
  | .fz d => Q (.fz d) ρ
  | .own d => Q (.fz d) (ρ.set i (.fz d))
  | .no => False
theorem dVar_M {i : Nat} {ρ : Env} {Q : R → Env → Prop} {E : EK} : dVar i ρ Q E = dVarM (ρ.at i) i ρ Q := rfl
theorem dVarM_fz {d : D} {i : Nat} {ρ : Env} {Q : R → Env → Prop} : dVarM (.fz d) i ρ Q = Q (.fz d) ρ := rfl
theorem dVarM_own {d : D} {i : Nat} {ρ : Env} {Q : R → Env → Prop} : dVarM (.own d) i ρ Q = Q (.fz d) (ρ.set i (.fz d)) := rfl
def dIxM (s : Slot) (x : D) (k : R → Prop) : Prop := match s with
  | .own d => ixD d x k
  | .fz d => ixD d x k
  | .no => False
theorem dIxN_M {i : Nat} {g : DE} {ρ : Env} {Q : R → Env → Prop} {E : EK} : dIxN i g ρ Q E = ((ρ.at i).known = true ∧ g ρ (fun s ρ1 => dIxM (ρ1.at i) s.d fun t => Q t ρ1) E) := by
  unfold dIxN dIxM
  rfl
def dFnM (op : List D → (R → Prop) → Prop) (s : Slot) (k : R → Prop) : Prop := match s with
  | .own d => op [d] fun t => t.d.flat = true ∧ k t
  | .fz d => op [d] k
  | .no => False
theorem dFnN_M {op : List D → (R → Prop) → Prop} {i : Nat} {ρ : Env} {Q : R → Env → Prop} {E : EK} : dFnN op i ρ Q E = dFnM op (ρ.at i) fun t => Q t ρ := by
  unfold dFnN dFnM
  cases ρ.at i <;> rfl
theorem dFnM_fz {op : List D → (R → Prop) → Prop} {d : D} {k : R → Prop} : dFnM op (.fz d) k = op [d] k := rfl
theorem dFnM_own {op : List D → (R → Prop) → Prop} {d : D} {k : R → Prop} : dFnM op (.own d) k = op [d] fun t => t.d.flat = true ∧ k t := rfl
theorem dIxM_fz {d x : D} {k : R → Prop} : dIxM (.fz d) x k = ixD d x k := rfl
theorem dIxM_own {d x : D} {k : R → Prop} : dIxM (.own d) x k = ixD d x k := rfl
/-! operations at what is known -/
section
variable {i j : Int} {a b : Tx} {xs ys : List D} {k : R → Prop} {x y : Bool} {lo hi : Option Int}
theorem addD_int : addD (.int i) (.int j) k = k (.fz (.int (i + j))) := rfl
theorem addD_str : addD (.str a) (.str b) k = (a.length + b.length ≤ maxTx ∧ k (.fz (.str (a ++ b)))) := rfl
theorem addD_lst : addD (.lst xs) (.lst ys) k = (xs.length + ys.length ≤ maxTx ∧ k (.fr (.lst (xs ++ ys)))) := rfl
theorem iaddD_int : iaddD (.int i) (.int j) k = k (.fz (.int (i + j))) := rfl
theorem iaddD_str : iaddD (.str a) (.str b) k = (a.length + b.length ≤ maxTx ∧ k (.fz (.str (a ++ b)))) := rfl
theorem subD_int : subD (.int i) (.int j) k = k (.fz (.int (i - j))) := rfl
theorem mulD_int : mulD (.int i) (.int j) k = (((-(2 ^ 64) < i ∧ i < 2 ^ 64) ∨ (-(2 ^ 64) < j ∧ j < 2 ^ 64)) ∧ k (.fz (.int (i * j)))) := rfl
theorem mulD_str : mulD (.str a) (.int j) k = ((-(2 ^ 62) ≤ j ∧ j < 2 ^ 62 ∧ a.length * j.toNat ≤ maxTx) ∧ k (.fz (.str (List.replicate j.toNat a).flatten))) := rfl
theorem mulD_lst : mulD (.lst xs) (.int j) k = ((-(2 ^ 62) ≤ j ∧ j < 2 ^ 62 ∧ xs.length * j.toNat ≤ maxTx) ∧ k (.fr (.lst (List.replicate j.toNat xs).flatten))) := rfl
theorem fdivD_int : fdivD (.int i) (.int j) k = ((0 < j ∧ j < 1073741824) ∧ k (.fz (.int (i / j)))) := rfl
theorem modD_int : modD (.int i) (.int j) k = (0 < j ∧ k (.fz (.int (i % j)))) := rfl
theorem powD_int : powD (.int i) (.int j) k = ((0 ≤ j ∧ j ≤ 1000000 ∧ i.natAbs < 2 ^ 64) ∧ k (.fz (.int (i ^ j.toNat)))) := rfl
theorem negD_int : negD (.int i) k = k (.fz (.int (-i))) := rfl
theorem ltD_int : ltD (.int i) (.int j) k = k (.fz (.bl (decide (i < j)))) := rfl
theorem leD_int : leD (.int i) (.int j) k = k (.fz (.bl (decide (i ≤ j)))) := rfl
theorem gtD_int : gtD (.int i) (.int j) k = k (.fz (.bl (decide (j < i)))) := rfl
theorem geD_int : geD (.int i) (.int j) k = k (.fz (.bl (decide (j ≤ i)))) := rfl
theorem ixD_lst : ixD (.lst xs) (.int i) k = (∃ j d, ixN xs.length i = some j ∧ xs[j]? = some d ∧ k (.fz d)) := rfl
theorem ixD_tup : ixD (.tup xs) (.int i) k = (∃ j d, ixN xs.length i = some j ∧ xs[j]? = some d ∧ k (.fz d)) := rfl
theorem ixD_str : ixD (.str a) (.int i) k = (∃ j c, ixN a.length i = some j ∧ a[j]? = some c ∧ k (.fz (.str [c]))) := rfl
theorem slD_lst : slD (.lst xs) lo hi k = k (.fr (.lst (cut xs lo hi))) := rfl
theorem slD_frl : slD (.frl xs) lo hi k = k (.fr (.lst (cut xs lo hi))) := rfl
theorem slD_str : slD (.str a) lo hi k = k (.fz (.str (cut a lo hi))) := rfl
theorem isBD_bl : isBD (.bl x) (.bl y) k = k (.fz (.bl (x == y))) := rfl
theorem notBD_bl : notBD (.bl x) (.bl y) k = k (.fz (.bl (!(x == y)))) := rfl
theorem revD_lst : revD (.lst xs) k = k (.fr (.lst xs.reverse)) := rfl
end


/-! ### equality of a thing with itself -/
mutual
theorem eqv_refl : ∀ (n : Nat) (d : D), d.eqOk n = true → D.eqv d d = true
  | n, .non, _ => by rw [D.eqv]
  | n, .bl b, _ => by rw [D.eqv]; simp
  | n, .int b, _ => by rw [D.eqv]; simp
  | n, .str b, _ => by rw [D.eqv]; simp
  | 0, .lst xs, h => by cases h
  | n + 1, .lst xs, h => by rw [D.eqv]; exact eqvL_refl n xs h
  | 0, .tup xs, h => by cases h
  | n + 1, .tup xs, h => by rw [D.eqv]; exact eqvL_refl n xs h
  | n, .dct _, h => by cases n <;> cases h
  | n, .obj _ _, h => by cases n <;> cases h
  | n, .frl _, h => by cases n <;> cases h
  | n, .cls _, h => by cases n <;> cases h
theorem eqvL_refl : ∀ (n : Nat) (xs : List D), D.eqOkL n xs = true → D.eqvL xs xs = true
  | n, [], _ => by rw [D.eqvL]
  | n, x :: xs, h => by
    unfold D.eqOkL at h
    rw [Bool.and_eq_true] at h
    rw [D.eqvL, eqv_refl n x h.1, eqvL_refl n xs h.2]
    rfl
end
theorem ne_same {d : D} {k : R → Prop} (h : d.eqOk 60 = true) (hk : k (.fz (.bl false))) : neD d d k := ⟨.inr ⟨h, h⟩, by rw [eqv_refl 60 d h]; exact hk⟩
theorem eq_same {d : D} {k : R → Prop} (h : d.eqOk 60 = true) (hk : k (.fz (.bl true))) : eqD d d k := ⟨.inr ⟨h, h⟩, by rw [eqv_refl 60 d h]; exact hk⟩
/-! ### loops -/
theorem forL_inv {g : DG} {body : DS} {J : DEnds} {E : EK} (I : List D → Env → Prop) (hn : ∀ ρ, I [] ρ → J.nx ρ)
    (hs : ∀ x xs ρ, I (x :: xs) ρ → ∀ k : Env → Prop, (∀ ρ', I xs ρ' → k ρ') → g x ρ fun ρ1 => body { nx := k, ct := k, bk := J.nx, rt := J.rt } ρ1 E) : ∀ xs ρ, I xs ρ → forL g body J E xs ρ
  | [], ρ, h => hn ρ h
  | x :: xs, ρ, h => hs x xs ρ h (forL g body J E xs) fun ρ' h' => forL_inv I hn hs xs ρ' h'
theorem whL_inv {c : DT} {body : DS} {J : DEnds} {E : EK} (I : Nat → Env → Prop)
    (hs : ∀ n ρ, I n ρ → ∀ k : Env → Prop, (∀ m ρ', n = m + 1 → I m ρ' → k ρ') → c ρ (fun b ρ1 => if b = true then body { nx := k, ct := k, bk := J.nx, rt := J.rt } ρ1 E else J.nx ρ1) E) : ∀ n ρ, I n ρ → ∃ f, whL c body J E f ρ := by
  have h : ∀ n ρ, I n ρ → whL c body J E (n + 1) ρ := by
    intro n
    induction n with
    | zero => intro ρ h; exact hs 0 ρ h _ fun m ρ' e => absurd e (by omega)
    | succ n ih => intro ρ h; exact hs (n + 1) ρ h _ fun m ρ' e h' => by cases e; exact ih ρ' h'
  exact fun n ρ i => ⟨n + 1, h n ρ i⟩
theorem lcL_inv {vs : List Nat} {g : DG} {t : DT} {e : DE} {Q : List D → Env → Prop} (I : List D → List D → Env → Prop) (hn : ∀ acc ρ, I [] acc ρ → Q acc ρ)
    (hs : ∀ x xs acc ρ, I (x :: xs) acc ρ → ∀ (k1 : R → Env → Prop) (k2 : Env → Prop), (∀ r ρ', (acc.length < maxTx ∧ I xs (acc ++ [r.d]) (wipeE vs ρ')) → k1 r ρ') → (∀ ρ', I xs acc (wipeE vs ρ') → k2 ρ') →
      g x ρ fun ρ1 => t ρ1 (fun b ρ2 => if b = true then e ρ2 k1 noE else k2 ρ2) noE) : ∀ xs acc ρ, I xs acc ρ → lcL vs g t e Q xs acc ρ
  | [], acc, ρ, h => hn acc ρ h
  | x :: xs, acc, ρ, h => hs x xs acc ρ h _ _ (fun r ρ' h' => ⟨h'.1, lcL_inv I hn hs xs _ _ h'.2⟩) fun ρ' h' => lcL_inv I hn hs xs _ _ h'
/-- nothing but data: items kept by p, mapped by f -/
theorem lcL_pure {vs : List Nat} {g : DG} {t : DT} {e : DE} {Q : List D → Env → Prop} (ρ : Env) (p : D → Bool) (f : D → D) (xs : List D)
    (hs : ∀ x ∈ xs, ∀ (k1 : R → Env → Prop) (k2 : Env → Prop), (p x = true → ∀ r ρ', r.d = f x → wipeE vs ρ' = ρ → k1 r ρ') → (p x = false → ∀ ρ', wipeE vs ρ' = ρ → k2 ρ') →
      g x ρ fun ρ1 => t ρ1 (fun b ρ2 => if b = true then e ρ2 k1 noE else k2 ρ2) noE) : ∀ acc, acc.length + xs.length ≤ maxTx → Q (acc ++ (xs.filter p).map f) ρ → lcL vs g t e Q xs acc ρ := by
  induction xs with
  | nil => intro acc _ h; simpa [lcL] using h
  | cons x xs ih =>
    intro acc hl h
    have ih := ih fun y hy => hs y (List.mem_cons_of_mem _ hy)
    simp only [List.length_cons] at hl
    refine hs x List.mem_cons_self _ _ (fun hp r ρ' hr hw => ⟨by omega, ?_⟩) fun hp ρ' hw => ?_
    · rw [hw, hr]
      refine ih _ (by simp; omega) ?_
      simpa [List.filter_cons, hp] using h
    · rw [hw]
      refine ih _ (by omega) ?_
      simpa [List.filter_cons, hp] using h
end DL

set_option linter.all false
set_option autoImplicit false
set_option maxRecDepth 100000
namespace DL
def D.plain (d : D) : Prop := d.isTy .str ≠ none
def isItem (c : Nat) : Bool := decide (97 ≤ c ∧ c ≤ 104)
theorem mem_items {c : Nat} : decide (c ∈ ([97, 98, 99, 100, 101, 102, 103, 104] : List Nat)) = isItem c := by
  unfold isItem
  rw [decide_eq_decide]
  simp only [List.mem_cons, List.not_mem_nil, or_false]
  omega
theorem mem_signs {c : Nat} : decide (c ∈ ([43, 45] : List Nat)) = (c == 43 || c == 45) := by
  rw [Bool.eq_iff_iff]
  simp
theorem in_sign {c : Nat} {t : Tx} {k : Bool → Prop} : inD (.str [c]) (.str t) k = k (decide (c ∈ t)) := rfl
def isStep : D → Bool
  | .str [a, b] => (a == 43 || a == 45) && isItem b
  | _ => false
/-- is_step: 0 value -/
def b_is_step : DS := sRet (dAnd (dIsi .str (dVar 0)) (dAnd (dOp eqD (dFn lenF [dVar 0]) (dC (.int 2))) (dAnd (dOp inDv (dOp ixD (dVar 0) (dC (.int 0))) (dC (.str [43, 45]))) (dOp inDv (dOp ixD (dVar 0) (dC (.int 1))) (dC (.str [97, 98, 99, 100, 101, 102, 103, 104]))))))
def C_is_step : Con := fun args Q _ => ∃ d, args = [.fz d] ∧ d.plain ∧ ∀ outs, Q (.fz (.bl (isStep d))) outs
theorem p_is_step : ∀ args Q E, args.length = 1 → C_is_step args Q E → runD 1 b_is_step args Q E := by
  intro args Q E _ h
  obtain ⟨d, rfl, hp, hq⟩ := h
  unfold b_is_step
  cases d with
  | str x =>
    match x, hq with
    | [], hq => simp -implicitDefEqProofs only [runD, startE, outsE, outs_0, outs_s, List.length_cons, List.length_nil, List.cons_append, List.nil_append, List.replicate, Nat.sub_zero, Nat.add_one_sub_one, Nat.reduceSub, Nat.reduceAdd, dC, dVar_M, dVarM_fz, dVarM_own, dIxN_M, dIxM_fz, dIxM_own, dFnN_M, dFnM_fz, dFnM_own, dOp, dUn, dArgs, dLst, dTup, dFn, dIsi, dMs, dPart, dSl, dIfE, Slot.known, tVal, tTru, tAnd, tOr, tNot, dAnd, dOr, dNot, dChain, iLst, iTup, iStr, iRng1, iRng2, iEnum, iZip, gN, gNs, gT, Tgt.g, tYes, wipeE, backE, dAVs, dCall, avSlot, AV.ok, Slot.isOwn, bA_nil, bA_v, bA_m, D.isRef, List.all_cons, List.all_nil, List.map_cons, List.map_nil, Bool.and_true, Bool.true_and, List.tail_cons, List.tail_nil, List.head?_cons, sNx, sSeq, sRet, sRetN, sExp, sAsg, sAsgO, sIf, sAug, sFor, sWh, sBrk, sCnt, sRaise, sApp, Slot.ownL, sPut, sPar, sParL, sFld, dFld, dMake, mkC, dMakeV, dCm, dObj, D.isObj, dCallV, dCallS, dEqO, dIsO, dDct0, isBD_bl, notBD_bl, revD_lst, sPar3, sTrys, catchD, DEnds.unname, repF, D.eqTo, at_0, at_s, at_nil, set_0, set_s, fzd, frd, if_true, if_false, Bool.not_true, Bool.not_false, true_and, and_true, Bool.false_eq_true, ↓reduceIte, lenF, lenD, allF, anyF, sumF, absF, intF, tupleF, swM, ewM, eqv_int, eqv_str, eqv_bl, D.isTy, Int.cast_ofNat_Int, addD_int, addD_str, addD_lst, iaddD_int, iaddD_str, subD_int, mulD_int, mulD_str, mulD_lst, fdivD_int, modD_int, powD_int, negD_int, eqD, neD_str, neD_int, ltD_int, leD_int, gtD_int, geD_int, isD, isnD, D.isNon, inDv, ninDv, ixD_lst, ixD_tup, ixD_str, slD_lst, slD_frl, slD_str, dLc, dLook, Slot.calm]; exact ⟨true, rfl, (if_pos rfl).mpr ⟨.inl rfl, hq _⟩⟩
    | [_], hq => simp -implicitDefEqProofs only [runD, startE, outsE, outs_0, outs_s, List.length_cons, List.length_nil, List.cons_append, List.nil_append, List.replicate, Nat.sub_zero, Nat.add_one_sub_one, Nat.reduceSub, Nat.reduceAdd, dC, dVar_M, dVarM_fz, dVarM_own, dIxN_M, dIxM_fz, dIxM_own, dFnN_M, dFnM_fz, dFnM_own, dOp, dUn, dArgs, dLst, dTup, dFn, dIsi, dMs, dPart, dSl, dIfE, Slot.known, tVal, tTru, tAnd, tOr, tNot, dAnd, dOr, dNot, dChain, iLst, iTup, iStr, iRng1, iRng2, iEnum, iZip, gN, gNs, gT, Tgt.g, tYes, wipeE, backE, dAVs, dCall, avSlot, AV.ok, Slot.isOwn, bA_nil, bA_v, bA_m, D.isRef, List.all_cons, List.all_nil, List.map_cons, List.map_nil, Bool.and_true, Bool.true_and, List.tail_cons, List.tail_nil, List.head?_cons, sNx, sSeq, sRet, sRetN, sExp, sAsg, sAsgO, sIf, sAug, sFor, sWh, sBrk, sCnt, sRaise, sApp, Slot.ownL, sPut, sPar, sParL, sFld, dFld, dMake, mkC, dMakeV, dCm, dObj, D.isObj, dCallV, dCallS, dEqO, dIsO, dDct0, isBD_bl, notBD_bl, revD_lst, sPar3, sTrys, catchD, DEnds.unname, repF, D.eqTo, at_0, at_s, at_nil, set_0, set_s, fzd, frd, if_true, if_false, Bool.not_true, Bool.not_false, true_and, and_true, Bool.false_eq_true, ↓reduceIte, lenF, lenD, allF, anyF, sumF, absF, intF, tupleF, swM, ewM, eqv_int, eqv_str, eqv_bl, D.isTy, Int.cast_ofNat_Int, addD_int, addD_str, addD_lst, iaddD_int, iaddD_str, subD_int, mulD_int, mulD_str, mulD_lst, fdivD_int, modD_int, powD_int, negD_int, eqD, neD_str, neD_int, ltD_int, leD_int, gtD_int, geD_int, isD, isnD, D.isNon, inDv, ninDv, ixD_lst, ixD_tup, ixD_str, slD_lst, slD_frl, slD_str, dLc, dLook, Slot.calm]; exact ⟨true, rfl, (if_pos rfl).mpr ⟨.inl rfl, hq _⟩⟩
    | [a, b], hq =>
      have hq2 : ∀ outs, Q (.fz (.bl ((a == 43 || a == 45) && isItem b))) outs := hq
      simp -implicitDefEqProofs only [runD, startE, outsE, outs_0, outs_s, List.length_cons, List.length_nil, List.cons_append, List.nil_append, List.replicate, Nat.sub_zero, Nat.add_one_sub_one, Nat.reduceSub, Nat.reduceAdd, dC, dVar_M, dVarM_fz, dVarM_own, dIxN_M, dIxM_fz, dIxM_own, dFnN_M, dFnM_fz, dFnM_own, dOp, dUn, dArgs, dLst, dTup, dFn, dIsi, dMs, dPart, dSl, dIfE, Slot.known, tVal, tTru, tAnd, tOr, tNot, dAnd, dOr, dNot, dChain, iLst, iTup, iStr, iRng1, iRng2, iEnum, iZip, gN, gNs, gT, Tgt.g, tYes, wipeE, backE, dAVs, dCall, avSlot, AV.ok, Slot.isOwn, bA_nil, bA_v, bA_m, D.isRef, List.all_cons, List.all_nil, List.map_cons, List.map_nil, Bool.and_true, Bool.true_and, List.tail_cons, List.tail_nil, List.head?_cons, sNx, sSeq, sRet, sRetN, sExp, sAsg, sAsgO, sIf, sAug, sFor, sWh, sBrk, sCnt, sRaise, sApp, Slot.ownL, sPut, sPar, sParL, sFld, dFld, dMake, mkC, dMakeV, dCm, dObj, D.isObj, dCallV, dCallS, dEqO, dIsO, dDct0, isBD_bl, notBD_bl, revD_lst, sPar3, sTrys, catchD, DEnds.unname, repF, D.eqTo, at_0, at_s, at_nil, set_0, set_s, fzd, frd, if_true, if_false, Bool.not_true, Bool.not_false, true_and, and_true, Bool.false_eq_true, ↓reduceIte, lenF, lenD, allF, anyF, sumF, absF, intF, tupleF, swM, ewM, eqv_int, eqv_str, eqv_bl, D.isTy, Int.cast_ofNat_Int, addD_int, addD_str, addD_lst, iaddD_int, iaddD_str, subD_int, mulD_int, mulD_str, mulD_lst, fdivD_int, modD_int, powD_int, negD_int, eqD, neD_str, neD_int, ltD_int, leD_int, gtD_int, geD_int, isD, isnD, D.isNon, inDv, ninDv, ixD_lst, ixD_tup, ixD_str, slD_lst, slD_frl, slD_str, dLc, dLook, Slot.calm]
      refine ⟨true, rfl, (if_pos rfl).mpr ⟨.inl rfl, ?_⟩⟩
      refine (if_pos rfl).mpr ⟨0, a, rfl, rfl, ?_⟩
      rw [in_sign, mem_signs]
      cases hs : (a == 43 || a == 45) with
      | false => rw [hs] at hq2; exact hq2 _
      | true =>
        rw [hs] at hq2
        refine (if_pos rfl).mpr ⟨1, b, rfl, rfl, ?_⟩
        rw [in_sign, mem_items]
        exact hq2 _
    | _ :: _ :: _ :: l, hq =>
      have : ((((l.length + 1 + 1 + 1 : Nat) : Int)) == 2) = false := by
        rw [beq_eq_false_iff_ne]; omega
      simp -implicitDefEqProofs only [runD, startE, outsE, outs_0, outs_s, List.length_cons, List.length_nil, List.cons_append, List.nil_append, List.replicate, Nat.sub_zero, Nat.add_one_sub_one, Nat.reduceSub, Nat.reduceAdd, dC, dVar_M, dVarM_fz, dVarM_own, dIxN_M, dIxM_fz, dIxM_own, dFnN_M, dFnM_fz, dFnM_own, dOp, dUn, dArgs, dLst, dTup, dFn, dIsi, dMs, dPart, dSl, dIfE, Slot.known, tVal, tTru, tAnd, tOr, tNot, dAnd, dOr, dNot, dChain, iLst, iTup, iStr, iRng1, iRng2, iEnum, iZip, gN, gNs, gT, Tgt.g, tYes, wipeE, backE, dAVs, dCall, avSlot, AV.ok, Slot.isOwn, bA_nil, bA_v, bA_m, D.isRef, List.all_cons, List.all_nil, List.map_cons, List.map_nil, Bool.and_true, Bool.true_and, List.tail_cons, List.tail_nil, List.head?_cons, sNx, sSeq, sRet, sRetN, sExp, sAsg, sAsgO, sIf, sAug, sFor, sWh, sBrk, sCnt, sRaise, sApp, Slot.ownL, sPut, sPar, sParL, sFld, dFld, dMake, mkC, dMakeV, dCm, dObj, D.isObj, dCallV, dCallS, dEqO, dIsO, dDct0, isBD_bl, notBD_bl, revD_lst, sPar3, sTrys, catchD, DEnds.unname, repF, D.eqTo, at_0, at_s, at_nil, set_0, set_s, fzd, frd, if_true, if_false, Bool.not_true, Bool.not_false, true_and, and_true, Bool.false_eq_true, ↓reduceIte, lenF, lenD, allF, anyF, sumF, absF, intF, tupleF, swM, ewM, eqv_int, eqv_str, eqv_bl, D.isTy, Int.cast_ofNat_Int, addD_int, addD_str, addD_lst, iaddD_int, iaddD_str, subD_int, mulD_int, mulD_str, mulD_lst, fdivD_int, modD_int, powD_int, negD_int, eqD, neD_str, neD_int, ltD_int, leD_int, gtD_int, geD_int, isD, isnD, D.isNon, inDv, ninDv, ixD_lst, ixD_tup, ixD_str, slD_lst, slD_frl, slD_str, dLc, dLook, Slot.calm]
      refine ⟨true, rfl, (if_pos rfl).mpr ⟨.inl rfl, ?_⟩⟩
      rw [this]
      exact hq _
  | obj c x => exact absurd rfl hp
  | cls c => exact absurd rfl hp
  | _ => simp -implicitDefEqProofs only [runD, startE, outsE, outs_0, outs_s, List.length_cons, List.length_nil, List.cons_append, List.nil_append, List.replicate, Nat.sub_zero, Nat.add_one_sub_one, Nat.reduceSub, Nat.reduceAdd, dC, dVar_M, dVarM_fz, dVarM_own, dIxN_M, dIxM_fz, dIxM_own, dFnN_M, dFnM_fz, dFnM_own, dOp, dUn, dArgs, dLst, dTup, dFn, dIsi, dMs, dPart, dSl, dIfE, Slot.known, tVal, tTru, tAnd, tOr, tNot, dAnd, dOr, dNot, dChain, iLst, iTup, iStr, iRng1, iRng2, iEnum, iZip, gN, gNs, gT, Tgt.g, tYes, wipeE, backE, dAVs, dCall, avSlot, AV.ok, Slot.isOwn, bA_nil, bA_v, bA_m, D.isRef, List.all_cons, List.all_nil, List.map_cons, List.map_nil, Bool.and_true, Bool.true_and, List.tail_cons, List.tail_nil, List.head?_cons, sNx, sSeq, sRet, sRetN, sExp, sAsg, sAsgO, sIf, sAug, sFor, sWh, sBrk, sCnt, sRaise, sApp, Slot.ownL, sPut, sPar, sParL, sFld, dFld, dMake, mkC, dMakeV, dCm, dObj, D.isObj, dCallV, dCallS, dEqO, dIsO, dDct0, isBD_bl, notBD_bl, revD_lst, sPar3, sTrys, catchD, DEnds.unname, repF, D.eqTo, at_0, at_s, at_nil, set_0, set_s, fzd, frd, if_true, if_false, Bool.not_true, Bool.not_false, true_and, and_true, Bool.false_eq_true, ↓reduceIte, lenF, lenD, allF, anyF, sumF, absF, intF, tupleF, swM, ewM, eqv_int, eqv_str, eqv_bl, D.isTy, Int.cast_ofNat_Int, addD_int, addD_str, addD_lst, iaddD_int, iaddD_str, subD_int, mulD_int, mulD_str, mulD_lst, fdivD_int, modD_int, powD_int, negD_int, eqD, neD_str, neD_int, ltD_int, leD_int, gtD_int, geD_int, isD, isnD, D.isNon, inDv, ninDv, ixD_lst, ixD_tup, ixD_str, slD_lst, slD_frl, slD_str, dLc, dLook, Slot.calm]; exact ⟨false, rfl, hq _⟩
/-! first_invalid, check_sequence -/
/-- the place of the first that is no step -/
def badAt : List D → Nat → Option Nat
  | [], _ => none
  | d :: ds, i => if isStep d = true then badAt ds (i + 1) else some i
def firstInv : D → D
  | .lst xs => if xs.length ≤ 400 then (match badAt xs 0 with | none => .non | some i => .tup [.int i]) else .tup [.non]
  | _ => .tup [.non]
def D.plainL : D → Prop
  | .lst xs => ∀ d ∈ xs, d.plain
  | .frl _ => False
  | d => d.plain
/-- first_invalid: 0 value, 1 position, 2 step -/
def b_first_invalid : DS := sSeq (sIf (tOr (tNot (tVal (dIsi .list (dVar 0)))) (tVal (dOp gtD (dFn lenF [dVar 0]) (dC (.int 400))))) (sRet (dTup [dC .non])) (sNx)) (sSeq (sFor (iEnum (dVar 0)) (gT [1, 2]) (sIf (tNot (tVal (dCall C_is_step [.v (dVar 2)]))) (sRet (dTup [dVar 1])) (sNx))) (sRet (dC .non)))
def C_first_invalid : Con := fun args Q _ => ∃ d, args = [.fz d] ∧ d.plainL ∧ ∀ r outs, r.d = firstInv d → Q r outs
def enumFrom (n : Nat) : List D → List D
  | [] => []
  | x :: xs => .tup [.int (n : Int), x] :: enumFrom (n + 1) xs
theorem enumD_from (xs : List D) : enumD xs = enumFrom 0 xs := by
  unfold enumD
  have : ∀ (n : Nat) (xs : List D), (List.range' n xs.length).zipWith (fun (i : Nat) x => D.tup [.int (i : Int), x]) xs = enumFrom n xs := by
    intro n xs
    induction xs generalizing n with
    | nil => rfl
    | cons x xs ih => rw [List.length_cons, List.range'_succ, List.zipWith_cons_cons, ih]; rfl
  rw [List.range_eq_range', this]
theorem p_first_invalid : ∀ args Q E, args.length = 1 → C_first_invalid args Q E → runD 3 b_first_invalid args Q E := by
  intro args Q E _ h
  obtain ⟨d, rfl, hp, hq⟩ := h
  unfold b_first_invalid
  cases d with
  | lst xs =>
    simp -implicitDefEqProofs only [runD, startE, outsE, outs_0, outs_s, List.length_cons, List.length_nil, List.cons_append, List.nil_append, List.replicate, Nat.sub_zero, Nat.add_one_sub_one, Nat.reduceSub, Nat.reduceAdd, dC, dVar_M, dVarM_fz, dVarM_own, dIxN_M, dIxM_fz, dIxM_own, dFnN_M, dFnM_fz, dFnM_own, dOp, dUn, dArgs, dLst, dTup, dFn, dIsi, dMs, dPart, dSl, dIfE, Slot.known, tVal, tTru, tAnd, tOr, tNot, dAnd, dOr, dNot, dChain, iLst, iTup, iStr, iRng1, iRng2, iEnum, iZip, gN, gNs, gT, Tgt.g, tYes, wipeE, backE, dAVs, dCall, avSlot, AV.ok, Slot.isOwn, bA_nil, bA_v, bA_m, D.isRef, List.all_cons, List.all_nil, List.map_cons, List.map_nil, Bool.and_true, Bool.true_and, List.tail_cons, List.tail_nil, List.head?_cons, sNx, sSeq, sRet, sRetN, sExp, sAsg, sAsgO, sIf, sAug, sFor, sWh, sBrk, sCnt, sRaise, sApp, Slot.ownL, sPut, sPar, sParL, sFld, dFld, dMake, mkC, dMakeV, dCm, dObj, D.isObj, dCallV, dCallS, dEqO, dIsO, dDct0, isBD_bl, notBD_bl, revD_lst, sPar3, sTrys, catchD, DEnds.unname, repF, D.eqTo, at_0, at_s, at_nil, set_0, set_s, fzd, frd, if_true, if_false, Bool.not_true, Bool.not_false, true_and, and_true, Bool.false_eq_true, ↓reduceIte, lenF, lenD, allF, anyF, sumF, absF, intF, tupleF, swM, ewM, eqv_int, eqv_str, eqv_bl, D.isTy, Int.cast_ofNat_Int, addD_int, addD_str, addD_lst, iaddD_int, iaddD_str, subD_int, mulD_int, mulD_str, mulD_lst, fdivD_int, modD_int, powD_int, negD_int, eqD, neD_str, neD_int, ltD_int, leD_int, gtD_int, geD_int, isD, isnD, D.isNon, inDv, ninDv, ixD_lst, ixD_tup, ixD_str, slD_lst, slD_frl, slD_str, dLc, dLook, Slot.calm]
    refine ⟨true, rfl, ?_⟩
    simp -implicitDefEqProofs only [runD, startE, outsE, outs_0, outs_s, List.length_cons, List.length_nil, List.cons_append, List.nil_append, List.replicate, Nat.sub_zero, Nat.add_one_sub_one, Nat.reduceSub, Nat.reduceAdd, dC, dVar_M, dVarM_fz, dVarM_own, dIxN_M, dIxM_fz, dIxM_own, dFnN_M, dFnM_fz, dFnM_own, dOp, dUn, dArgs, dLst, dTup, dFn, dIsi, dMs, dPart, dSl, dIfE, Slot.known, tVal, tTru, tAnd, tOr, tNot, dAnd, dOr, dNot, dChain, iLst, iTup, iStr, iRng1, iRng2, iEnum, iZip, gN, gNs, gT, Tgt.g, tYes, wipeE, backE, dAVs, dCall, avSlot, AV.ok, Slot.isOwn, bA_nil, bA_v, bA_m, D.isRef, List.all_cons, List.all_nil, List.map_cons, List.map_nil, Bool.and_true, Bool.true_and, List.tail_cons, List.tail_nil, List.head?_cons, sNx, sSeq, sRet, sRetN, sExp, sAsg, sAsgO, sIf, sAug, sFor, sWh, sBrk, sCnt, sRaise, sApp, Slot.ownL, sPut, sPar, sParL, sFld, dFld, dMake, mkC, dMakeV, dCm, dObj, D.isObj, dCallV, dCallS, dEqO, dIsO, dDct0, isBD_bl, notBD_bl, revD_lst, sPar3, sTrys, catchD, DEnds.unname, repF, D.eqTo, at_0, at_s, at_nil, set_0, set_s, fzd, frd, if_true, if_false, Bool.not_true, Bool.not_false, true_and, and_true, Bool.false_eq_true, ↓reduceIte, lenF, lenD, allF, anyF, sumF, absF, intF, tupleF, swM, ewM, eqv_int, eqv_str, eqv_bl, D.isTy, Int.cast_ofNat_Int, addD_int, addD_str, addD_lst, iaddD_int, iaddD_str, subD_int, mulD_int, mulD_str, mulD_lst, fdivD_int, modD_int, powD_int, negD_int, eqD, neD_str, neD_int, ltD_int, leD_int, gtD_int, geD_int, isD, isnD, D.isNon, inDv, ninDv, ixD_lst, ixD_tup, ixD_str, slD_lst, slD_frl, slD_str, dLc, dLook, Slot.calm]
    by_cases hl : xs.length ≤ 400
    · have : decide ((400 : Int) < xs.length) = false := decide_eq_false (by omega)
      rw [this]
      simp -implicitDefEqProofs only [runD, startE, outsE, outs_0, outs_s, List.length_cons, List.length_nil, List.cons_append, List.nil_append, List.replicate, Nat.sub_zero, Nat.add_one_sub_one, Nat.reduceSub, Nat.reduceAdd, dC, dVar_M, dVarM_fz, dVarM_own, dIxN_M, dIxM_fz, dIxM_own, dFnN_M, dFnM_fz, dFnM_own, dOp, dUn, dArgs, dLst, dTup, dFn, dIsi, dMs, dPart, dSl, dIfE, Slot.known, tVal, tTru, tAnd, tOr, tNot, dAnd, dOr, dNot, dChain, iLst, iTup, iStr, iRng1, iRng2, iEnum, iZip, gN, gNs, gT, Tgt.g, tYes, wipeE, backE, dAVs, dCall, avSlot, AV.ok, Slot.isOwn, bA_nil, bA_v, bA_m, D.isRef, List.all_cons, List.all_nil, List.map_cons, List.map_nil, Bool.and_true, Bool.true_and, List.tail_cons, List.tail_nil, List.head?_cons, sNx, sSeq, sRet, sRetN, sExp, sAsg, sAsgO, sIf, sAug, sFor, sWh, sBrk, sCnt, sRaise, sApp, Slot.ownL, sPut, sPar, sParL, sFld, dFld, dMake, mkC, dMakeV, dCm, dObj, D.isObj, dCallV, dCallS, dEqO, dIsO, dDct0, isBD_bl, notBD_bl, revD_lst, sPar3, sTrys, catchD, DEnds.unname, repF, D.eqTo, at_0, at_s, at_nil, set_0, set_s, fzd, frd, if_true, if_false, Bool.not_true, Bool.not_false, true_and, and_true, Bool.false_eq_true, ↓reduceIte, lenF, lenD, allF, anyF, sumF, absF, intF, tupleF, swM, ewM, eqv_int, eqv_str, eqv_bl, D.isTy, Int.cast_ofNat_Int, addD_int, addD_str, addD_lst, iaddD_int, iaddD_str, subD_int, mulD_int, mulD_str, mulD_lst, fdivD_int, modD_int, powD_int, negD_int, eqD, neD_str, neD_int, ltD_int, leD_int, gtD_int, geD_int, isD, isnD, D.isNon, inDv, ninDv, ixD_lst, ixD_tup, ixD_str, slD_lst, slD_frl, slD_str, dLc, dLook, Slot.calm]
      rw [enumD_from]
      have q1 : badAt xs 0 = none → ∀ r outs, r.d = .non → Q r outs := fun h r outs e => hq r outs (by rw [e]; simp [firstInv, hl, h])
      have q2 : ∀ i : Nat, badAt xs 0 = some i → ∀ r outs, r.d = .tup [.int i] → Q r outs := fun i h r outs e => hq r outs (by rw [e]; simp [firstInv, hl, h])
      refine forL_inv (I := fun es ρ => ∃ ys n s1 s2, es = enumFrom n ys ∧ (∀ d ∈ ys, d.plain) ∧ badAt ys n = badAt xs 0 ∧ ρ = [.fz (.lst xs), s1, s2]) (fun ρ h => ?_) (fun x es ρ h k hk => ?_) _ _ ⟨xs, 0, .no, .no, rfl, hp, rfl, rfl⟩
      · obtain ⟨ys, n, s1, s2, h1, h2, h3, rfl⟩ := h
        cases ys with
        | nil => exact q1 h3.symm _ _ rfl
        | cons y ys => cases h1
      · obtain ⟨ys, n, s1, s2, h1, h2, h3, rfl⟩ := h
        cases ys with
        | nil => cases h1
        | cons y ys =>
          cases h1
          simp -implicitDefEqProofs only [runD, startE, outsE, outs_0, outs_s, List.length_cons, List.length_nil, List.cons_append, List.nil_append, List.replicate, Nat.sub_zero, Nat.add_one_sub_one, Nat.reduceSub, Nat.reduceAdd, dC, dVar_M, dVarM_fz, dVarM_own, dIxN_M, dIxM_fz, dIxM_own, dFnN_M, dFnM_fz, dFnM_own, dOp, dUn, dArgs, dLst, dTup, dFn, dIsi, dMs, dPart, dSl, dIfE, Slot.known, tVal, tTru, tAnd, tOr, tNot, dAnd, dOr, dNot, dChain, iLst, iTup, iStr, iRng1, iRng2, iEnum, iZip, gN, gNs, gT, Tgt.g, tYes, wipeE, backE, dAVs, dCall, avSlot, AV.ok, Slot.isOwn, bA_nil, bA_v, bA_m, D.isRef, List.all_cons, List.all_nil, List.map_cons, List.map_nil, Bool.and_true, Bool.true_and, List.tail_cons, List.tail_nil, List.head?_cons, sNx, sSeq, sRet, sRetN, sExp, sAsg, sAsgO, sIf, sAug, sFor, sWh, sBrk, sCnt, sRaise, sApp, Slot.ownL, sPut, sPar, sParL, sFld, dFld, dMake, mkC, dMakeV, dCm, dObj, D.isObj, dCallV, dCallS, dEqO, dIsO, dDct0, isBD_bl, notBD_bl, revD_lst, sPar3, sTrys, catchD, DEnds.unname, repF, D.eqTo, at_0, at_s, at_nil, set_0, set_s, fzd, frd, if_true, if_false, Bool.not_true, Bool.not_false, true_and, and_true, Bool.false_eq_true, ↓reduceIte, lenF, lenD, allF, anyF, sumF, absF, intF, tupleF, swM, ewM, eqv_int, eqv_str, eqv_bl, D.isTy, Int.cast_ofNat_Int, addD_int, addD_str, addD_lst, iaddD_int, iaddD_str, subD_int, mulD_int, mulD_str, mulD_lst, fdivD_int, modD_int, powD_int, negD_int, eqD, neD_str, neD_int, ltD_int, leD_int, gtD_int, geD_int, isD, isnD, D.isNon, inDv, ninDv, ixD_lst, ixD_tup, ixD_str, slD_lst, slD_frl, slD_str, dLc, dLook, Slot.calm]
          refine ⟨y, rfl, h2 y List.mem_cons_self, fun outs => ?_⟩
          simp -implicitDefEqProofs only [runD, startE, outsE, outs_0, outs_s, List.length_cons, List.length_nil, List.cons_append, List.nil_append, List.replicate, Nat.sub_zero, Nat.add_one_sub_one, Nat.reduceSub, Nat.reduceAdd, dC, dVar_M, dVarM_fz, dVarM_own, dIxN_M, dIxM_fz, dIxM_own, dFnN_M, dFnM_fz, dFnM_own, dOp, dUn, dArgs, dLst, dTup, dFn, dIsi, dMs, dPart, dSl, dIfE, Slot.known, tVal, tTru, tAnd, tOr, tNot, dAnd, dOr, dNot, dChain, iLst, iTup, iStr, iRng1, iRng2, iEnum, iZip, gN, gNs, gT, Tgt.g, tYes, wipeE, backE, dAVs, dCall, avSlot, AV.ok, Slot.isOwn, bA_nil, bA_v, bA_m, D.isRef, List.all_cons, List.all_nil, List.map_cons, List.map_nil, Bool.and_true, Bool.true_and, List.tail_cons, List.tail_nil, List.head?_cons, sNx, sSeq, sRet, sRetN, sExp, sAsg, sAsgO, sIf, sAug, sFor, sWh, sBrk, sCnt, sRaise, sApp, Slot.ownL, sPut, sPar, sParL, sFld, dFld, dMake, mkC, dMakeV, dCm, dObj, D.isObj, dCallV, dCallS, dEqO, dIsO, dDct0, isBD_bl, notBD_bl, revD_lst, sPar3, sTrys, catchD, DEnds.unname, repF, D.eqTo, at_0, at_s, at_nil, set_0, set_s, fzd, frd, if_true, if_false, Bool.not_true, Bool.not_false, true_and, and_true, Bool.false_eq_true, ↓reduceIte, lenF, lenD, allF, anyF, sumF, absF, intF, tupleF, swM, ewM, eqv_int, eqv_str, eqv_bl, D.isTy, Int.cast_ofNat_Int, addD_int, addD_str, addD_lst, iaddD_int, iaddD_str, subD_int, mulD_int, mulD_str, mulD_lst, fdivD_int, modD_int, powD_int, negD_int, eqD, neD_str, neD_int, ltD_int, leD_int, gtD_int, geD_int, isD, isnD, D.isNon, inDv, ninDv, ixD_lst, ixD_tup, ixD_str, slD_lst, slD_frl, slD_str, dLc, dLook, Slot.calm]
          cases hs : isStep y with
          | true => exact hk _ ⟨ys, n + 1, _, _, rfl, fun d hd => h2 d (List.mem_cons_of_mem _ hd), by rw [← h3]; simp [badAt, hs], rfl⟩
          | false => exact ⟨by decide, q2 n (by rw [← h3]; simp [badAt, hs]) _ _ rfl⟩
    · have : decide ((400 : Int) < xs.length) = true := decide_eq_true (by omega)
      rw [this]
      exact ⟨by decide, hq _ _ (by simp [firstInv, hl, R.d])⟩
  | obj c x => exact absurd rfl hp
  | cls c => exact absurd rfl hp
  | frl x => exact hp.elim
  | _ => simp -implicitDefEqProofs only [runD, startE, outsE, outs_0, outs_s, List.length_cons, List.length_nil, List.cons_append, List.nil_append, List.replicate, Nat.sub_zero, Nat.add_one_sub_one, Nat.reduceSub, Nat.reduceAdd, dC, dVar_M, dVarM_fz, dVarM_own, dIxN_M, dIxM_fz, dIxM_own, dFnN_M, dFnM_fz, dFnM_own, dOp, dUn, dArgs, dLst, dTup, dFn, dIsi, dMs, dPart, dSl, dIfE, Slot.known, tVal, tTru, tAnd, tOr, tNot, dAnd, dOr, dNot, dChain, iLst, iTup, iStr, iRng1, iRng2, iEnum, iZip, gN, gNs, gT, Tgt.g, tYes, wipeE, backE, dAVs, dCall, avSlot, AV.ok, Slot.isOwn, bA_nil, bA_v, bA_m, D.isRef, List.all_cons, List.all_nil, List.map_cons, List.map_nil, Bool.and_true, Bool.true_and, List.tail_cons, List.tail_nil, List.head?_cons, sNx, sSeq, sRet, sRetN, sExp, sAsg, sAsgO, sIf, sAug, sFor, sWh, sBrk, sCnt, sRaise, sApp, Slot.ownL, sPut, sPar, sParL, sFld, dFld, dMake, mkC, dMakeV, dCm, dObj, D.isObj, dCallV, dCallS, dEqO, dIsO, dDct0, isBD_bl, notBD_bl, revD_lst, sPar3, sTrys, catchD, DEnds.unname, repF, D.eqTo, at_0, at_s, at_nil, set_0, set_s, fzd, frd, if_true, if_false, Bool.not_true, Bool.not_false, true_and, and_true, Bool.false_eq_true, ↓reduceIte, lenF, lenD, allF, anyF, sumF, absF, intF, tupleF, swM, ewM, eqv_int, eqv_str, eqv_bl, D.isTy, Int.cast_ofNat_Int, addD_int, addD_str, addD_lst, iaddD_int, iaddD_str, subD_int, mulD_int, mulD_str, mulD_lst, fdivD_int, modD_int, powD_int, negD_int, eqD, neD_str, neD_int, ltD_int, leD_int, gtD_int, geD_int, isD, isnD, D.isNon, inDv, ninDv, ixD_lst, ixD_tup, ixD_str, slD_lst, slD_frl, slD_str, dLc, dLook, Slot.calm]; exact ⟨false, rfl, ⟨by decide, hq _ _ rfl⟩⟩
/-- check_sequence: 0 steps, 1 problem -/
def b_check_sequence : DS := sSeq (sAsg (gN 1) (dCall C_first_invalid [.v (dVar 0)])) (sIf (tVal (dUn isnD (dVar 1))) (sRaise 1 (dOp ixD (dVar 1) (dC (.int 0)))) (sNx))
def C_check_sequence : Con := fun args Q E => ∃ d, args = [.fz d] ∧ d.plainL ∧ (firstInv d = .non → ∀ r outs, r.d = .non → Q r outs) ∧ ∀ v, firstInv d = .tup [v] → ∀ outs, E ⟨1, v⟩ outs
theorem firstInv_cases (d : D) : firstInv d = .non ∨ ∃ v, firstInv d = .tup [v] := by
  unfold firstInv
  split
  · split
    · split
      · exact .inl rfl
      · exact .inr ⟨_, rfl⟩
    · exact .inr ⟨_, rfl⟩
  · exact .inr ⟨_, rfl⟩
theorem p_check_sequence : ∀ args Q E, args.length = 1 → C_check_sequence args Q E → runD 2 b_check_sequence args Q E := by
  intro args Q E _ h
  obtain ⟨d, rfl, hp, h1, h2⟩ := h
  unfold b_check_sequence
  simp -implicitDefEqProofs only [runD, startE, outsE, outs_0, outs_s, List.length_cons, List.length_nil, List.cons_append, List.nil_append, List.replicate, Nat.sub_zero, Nat.add_one_sub_one, Nat.reduceSub, Nat.reduceAdd, dC, dVar_M, dVarM_fz, dVarM_own, dIxN_M, dIxM_fz, dIxM_own, dFnN_M, dFnM_fz, dFnM_own, dOp, dUn, dArgs, dLst, dTup, dFn, dIsi, dMs, dPart, dSl, dIfE, Slot.known, tVal, tTru, tAnd, tOr, tNot, dAnd, dOr, dNot, dChain, iLst, iTup, iStr, iRng1, iRng2, iEnum, iZip, gN, gNs, gT, Tgt.g, tYes, wipeE, backE, dAVs, dCall, avSlot, AV.ok, Slot.isOwn, bA_nil, bA_v, bA_m, D.isRef, List.all_cons, List.all_nil, List.map_cons, List.map_nil, Bool.and_true, Bool.true_and, List.tail_cons, List.tail_nil, List.head?_cons, sNx, sSeq, sRet, sRetN, sExp, sAsg, sAsgO, sIf, sAug, sFor, sWh, sBrk, sCnt, sRaise, sApp, Slot.ownL, sPut, sPar, sParL, sFld, dFld, dMake, mkC, dMakeV, dCm, dObj, D.isObj, dCallV, dCallS, dEqO, dIsO, dDct0, isBD_bl, notBD_bl, revD_lst, sPar3, sTrys, catchD, DEnds.unname, repF, D.eqTo, at_0, at_s, at_nil, set_0, set_s, fzd, frd, if_true, if_false, Bool.not_true, Bool.not_false, true_and, and_true, Bool.false_eq_true, ↓reduceIte, lenF, lenD, allF, anyF, sumF, absF, intF, tupleF, swM, ewM, eqv_int, eqv_str, eqv_bl, D.isTy, Int.cast_ofNat_Int, addD_int, addD_str, addD_lst, iaddD_int, iaddD_str, subD_int, mulD_int, mulD_str, mulD_lst, fdivD_int, modD_int, powD_int, negD_int, eqD, neD_str, neD_int, ltD_int, leD_int, gtD_int, geD_int, isD, isnD, D.isNon, inDv, ninDv, ixD_lst, ixD_tup, ixD_str, slD_lst, slD_frl, slD_str, dLc, dLook, Slot.calm]
  refine ⟨d, rfl, hp, fun r outs hr => ?_⟩
  rcases firstInv_cases d with e | ⟨v, e⟩
  · rw [hr, e]
    simp -implicitDefEqProofs only [runD, startE, outsE, outs_0, outs_s, List.length_cons, List.length_nil, List.cons_append, List.nil_append, List.replicate, Nat.sub_zero, Nat.add_one_sub_one, Nat.reduceSub, Nat.reduceAdd, dC, dVar_M, dVarM_fz, dVarM_own, dIxN_M, dIxM_fz, dIxM_own, dFnN_M, dFnM_fz, dFnM_own, dOp, dUn, dArgs, dLst, dTup, dFn, dIsi, dMs, dPart, dSl, dIfE, Slot.known, tVal, tTru, tAnd, tOr, tNot, dAnd, dOr, dNot, dChain, iLst, iTup, iStr, iRng1, iRng2, iEnum, iZip, gN, gNs, gT, Tgt.g, tYes, wipeE, backE, dAVs, dCall, avSlot, AV.ok, Slot.isOwn, bA_nil, bA_v, bA_m, D.isRef, List.all_cons, List.all_nil, List.map_cons, List.map_nil, Bool.and_true, Bool.true_and, List.tail_cons, List.tail_nil, List.head?_cons, sNx, sSeq, sRet, sRetN, sExp, sAsg, sAsgO, sIf, sAug, sFor, sWh, sBrk, sCnt, sRaise, sApp, Slot.ownL, sPut, sPar, sParL, sFld, dFld, dMake, mkC, dMakeV, dCm, dObj, D.isObj, dCallV, dCallS, dEqO, dIsO, dDct0, isBD_bl, notBD_bl, revD_lst, sPar3, sTrys, catchD, DEnds.unname, repF, D.eqTo, at_0, at_s, at_nil, set_0, set_s, fzd, frd, if_true, if_false, Bool.not_true, Bool.not_false, true_and, and_true, Bool.false_eq_true, ↓reduceIte, lenF, lenD, allF, anyF, sumF, absF, intF, tupleF, swM, ewM, eqv_int, eqv_str, eqv_bl, D.isTy, Int.cast_ofNat_Int, addD_int, addD_str, addD_lst, iaddD_int, iaddD_str, subD_int, mulD_int, mulD_str, mulD_lst, fdivD_int, modD_int, powD_int, negD_int, eqD, neD_str, neD_int, ltD_int, leD_int, gtD_int, geD_int, isD, isnD, D.isNon, inDv, ninDv, ixD_lst, ixD_tup, ixD_str, slD_lst, slD_frl, slD_str, dLc, dLook, Slot.calm]
    exact h1 e _ _ rfl
  · rw [hr, e]
    simp -implicitDefEqProofs only [runD, startE, outsE, outs_0, outs_s, List.length_cons, List.length_nil, List.cons_append, List.nil_append, List.replicate, Nat.sub_zero, Nat.add_one_sub_one, Nat.reduceSub, Nat.reduceAdd, dC, dVar_M, dVarM_fz, dVarM_own, dIxN_M, dIxM_fz, dIxM_own, dFnN_M, dFnM_fz, dFnM_own, dOp, dUn, dArgs, dLst, dTup, dFn, dIsi, dMs, dPart, dSl, dIfE, Slot.known, tVal, tTru, tAnd, tOr, tNot, dAnd, dOr, dNot, dChain, iLst, iTup, iStr, iRng1, iRng2, iEnum, iZip, gN, gNs, gT, Tgt.g, tYes, wipeE, backE, dAVs, dCall, avSlot, AV.ok, Slot.isOwn, bA_nil, bA_v, bA_m, D.isRef, List.all_cons, List.all_nil, List.map_cons, List.map_nil, Bool.and_true, Bool.true_and, List.tail_cons, List.tail_nil, List.head?_cons, sNx, sSeq, sRet, sRetN, sExp, sAsg, sAsgO, sIf, sAug, sFor, sWh, sBrk, sCnt, sRaise, sApp, Slot.ownL, sPut, sPar, sParL, sFld, dFld, dMake, mkC, dMakeV, dCm, dObj, D.isObj, dCallV, dCallS, dEqO, dIsO, dDct0, isBD_bl, notBD_bl, revD_lst, sPar3, sTrys, catchD, DEnds.unname, repF, D.eqTo, at_0, at_s, at_nil, set_0, set_s, fzd, frd, if_true, if_false, Bool.not_true, Bool.not_false, true_and, and_true, Bool.false_eq_true, ↓reduceIte, lenF, lenD, allF, anyF, sumF, absF, intF, tupleF, swM, ewM, eqv_int, eqv_str, eqv_bl, D.isTy, Int.cast_ofNat_Int, addD_int, addD_str, addD_lst, iaddD_int, iaddD_str, subD_int, mulD_int, mulD_str, mulD_lst, fdivD_int, modD_int, powD_int, negD_int, eqD, neD_str, neD_int, ltD_int, leD_int, gtD_int, geD_int, isD, isnD, D.isNon, inDv, ninDv, ixD_lst, ixD_tup, ixD_str, slD_lst, slD_frl, slD_str, dLc, dLook, Slot.calm]
    exact ⟨0, v, rfl, rfl, h2 v e _⟩
/-! sequences -/
abbrev St2 := Nat × Nat
def stepD (s : St2) : D := .str [s.1, s.2]
def seqD (ss : List St2) : D := .lst (ss.map stepD)
def okSt (s : St2) : Bool := (s.1 == 43 || s.1 == 45) && isItem s.2
def okSeq (ss : List St2) : Prop := ss.length ≤ 400 ∧ ∀ s ∈ ss, okSt s = true
theorem firstInv_seq {ss : List St2} (h : okSeq ss) : firstInv (seqD ss) = .non := by
  have : ∀ (ss : List St2) n, (∀ s ∈ ss, okSt s = true) → badAt (ss.map stepD) n = none := by
    intro ss
    induction ss with
    | nil => intros; rfl
    | cons s ss ih =>
      intro n h
      have e : isStep (stepD s) = true := h s List.mem_cons_self
      rw [List.map_cons, badAt, if_pos e]
      exact ih _ fun x hx => h x (List.mem_cons_of_mem _ hx)
  show (if (ss.map stepD).length ≤ 400 then (match badAt (ss.map stepD) 0 with | none => D.non | some i => .tup [.int i]) else .tup [.non]) = .non
  rw [List.length_map, if_pos h.1, this ss 0 h.2]
theorem plainL_seq (ss : List St2) : (seqD ss).plainL := fun d hd => by
  obtain ⟨s, _, rfl⟩ := List.mem_map.mp hd
  exact fun h => nomatch h
/-- the items of the steps of one sign -/
def itemsOf (sg : Nat) (ss : List St2) : Tx := (ss.filter fun s => s.1 == sg).map (·.2)
/-- chosen: 0 steps, 1 sign, 2 step -/
def b_chosen : DS := sRet (dMs joinM (dC (.str [])) [dLc [2] (iLst (dVar 0)) (Tgt.g (.one 2)) (tVal (dOp eqD (dOp ixD (dVar 2) (dC (.int 0))) (dVar 1))) (dOp ixD (dVar 2) (dC (.int 1)))])
def C_chosen : Con := fun args Q _ => ∃ ss sg, args = [.fz (seqD ss), .fz (.str [sg])] ∧ ss.length ≤ 1000000 ∧ ∀ outs, Q (.fz (.str (itemsOf sg ss))) outs
theorem joinT_nil : ∀ xs : List Tx, joinT [] xs = xs.flatten
  | [] => rfl
  | [p] => by simp [joinT]
  | p :: q :: r => by rw [joinT, joinT_nil (q :: r)]; simp
theorem flat_one : ∀ xs : List Nat, (xs.map fun c => [c]).flatten = xs
  | [] => rfl
  | x :: xs => by rw [List.map_cons, List.flatten_cons, flat_one xs]; rfl
theorem sum_one : ∀ xs : List Nat, ((xs.map fun c => [c]).map (·.length)).sum = xs.length
  | [] => rfl
  | x :: xs => by
    rw [List.map_cons, List.map_cons, List.sum_cons, sum_one xs]
    simp only [List.length_cons, List.length_nil]
    omega
theorem join_one {xs : List Nat} {k : R → Prop} (hl : xs.length ≤ maxTx) (h : k (.fz (.str xs))) : joinM [] [.lst (xs.map fun c => .str [c])] k := by
  refine ⟨xs.map fun c => [c], by rw [List.map_map]; rfl, ?_, ?_⟩
  · rw [sum_one, List.length_map]
    show xs.length + xs.length * 0 ≤ 16777216
    have : xs.length ≤ 16777216 := hl
    omega
  · rw [joinT_nil, flat_one]; exact h
theorem p_chosen : ∀ args Q E, args.length = 2 → C_chosen args Q E → runD 3 b_chosen args Q E := by
  intro args Q E _ h
  obtain ⟨ss, sg, rfl, hl, hq⟩ := h
  unfold b_chosen seqD
  simp -implicitDefEqProofs only [runD, startE, outsE, outs_0, outs_s, List.length_cons, List.length_nil, List.cons_append, List.nil_append, List.replicate, Nat.sub_zero, Nat.add_one_sub_one, Nat.reduceSub, Nat.reduceAdd, dC, dVar_M, dVarM_fz, dVarM_own, dIxN_M, dIxM_fz, dIxM_own, dFnN_M, dFnM_fz, dFnM_own, dOp, dUn, dArgs, dLst, dTup, dFn, dIsi, dMs, dPart, dSl, dIfE, Slot.known, tVal, tTru, tAnd, tOr, tNot, dAnd, dOr, dNot, dChain, iLst, iTup, iStr, iRng1, iRng2, iEnum, iZip, gN, gNs, gT, Tgt.g, tYes, wipeE, backE, dAVs, dCall, avSlot, AV.ok, Slot.isOwn, bA_nil, bA_v, bA_m, D.isRef, List.all_cons, List.all_nil, List.map_cons, List.map_nil, Bool.and_true, Bool.true_and, List.tail_cons, List.tail_nil, List.head?_cons, sNx, sSeq, sRet, sRetN, sExp, sAsg, sAsgO, sIf, sAug, sFor, sWh, sBrk, sCnt, sRaise, sApp, Slot.ownL, sPut, sPar, sParL, sFld, dFld, dMake, mkC, dMakeV, dCm, dObj, D.isObj, dCallV, dCallS, dEqO, dIsO, dDct0, isBD_bl, notBD_bl, revD_lst, sPar3, sTrys, catchD, DEnds.unname, repF, D.eqTo, at_0, at_s, at_nil, set_0, set_s, fzd, frd, if_true, if_false, Bool.not_true, Bool.not_false, true_and, and_true, Bool.false_eq_true, ↓reduceIte, lenF, lenD, allF, anyF, sumF, absF, intF, tupleF, swM, ewM, eqv_int, eqv_str, eqv_bl, D.isTy, Int.cast_ofNat_Int, addD_int, addD_str, addD_lst, iaddD_int, iaddD_str, subD_int, mulD_int, mulD_str, mulD_lst, fdivD_int, modD_int, powD_int, negD_int, eqD, neD_str, neD_int, ltD_int, leD_int, gtD_int, geD_int, isD, isnD, D.isNon, inDv, ninDv, ixD_lst, ixD_tup, ixD_str, slD_lst, slD_frl, slD_str, dLc, dLook, Slot.calm]
  refine ⟨fun i hi d => ?_, ?_⟩
  · simp only [List.mem_cons, List.not_mem_nil, or_false] at hi
    subst hi
    exact fun h => nomatch h
  · refine lcL_pure (p := fun x => match x with | .str [a, _] => a == sg | _ => false) (f := fun x => match x with | .str [_, b] => .str [b] | _ => .non) _ _ (fun x hx k1 k2 h1 h2 => ?_) [] ?_ ?_
    · obtain ⟨s, _, rfl⟩ := List.mem_map.mp hx
      unfold stepD
      simp -implicitDefEqProofs only [runD, startE, outsE, outs_0, outs_s, List.length_cons, List.length_nil, List.cons_append, List.nil_append, List.replicate, Nat.sub_zero, Nat.add_one_sub_one, Nat.reduceSub, Nat.reduceAdd, dC, dVar_M, dVarM_fz, dVarM_own, dIxN_M, dIxM_fz, dIxM_own, dFnN_M, dFnM_fz, dFnM_own, dOp, dUn, dArgs, dLst, dTup, dFn, dIsi, dMs, dPart, dSl, dIfE, Slot.known, tVal, tTru, tAnd, tOr, tNot, dAnd, dOr, dNot, dChain, iLst, iTup, iStr, iRng1, iRng2, iEnum, iZip, gN, gNs, gT, Tgt.g, tYes, wipeE, backE, dAVs, dCall, avSlot, AV.ok, Slot.isOwn, bA_nil, bA_v, bA_m, D.isRef, List.all_cons, List.all_nil, List.map_cons, List.map_nil, Bool.and_true, Bool.true_and, List.tail_cons, List.tail_nil, List.head?_cons, sNx, sSeq, sRet, sRetN, sExp, sAsg, sAsgO, sIf, sAug, sFor, sWh, sBrk, sCnt, sRaise, sApp, Slot.ownL, sPut, sPar, sParL, sFld, dFld, dMake, mkC, dMakeV, dCm, dObj, D.isObj, dCallV, dCallS, dEqO, dIsO, dDct0, isBD_bl, notBD_bl, revD_lst, sPar3, sTrys, catchD, DEnds.unname, repF, D.eqTo, at_0, at_s, at_nil, set_0, set_s, fzd, frd, if_true, if_false, Bool.not_true, Bool.not_false, true_and, and_true, Bool.false_eq_true, ↓reduceIte, lenF, lenD, allF, anyF, sumF, absF, intF, tupleF, swM, ewM, eqv_int, eqv_str, eqv_bl, D.isTy, Int.cast_ofNat_Int, addD_int, addD_str, addD_lst, iaddD_int, iaddD_str, subD_int, mulD_int, mulD_str, mulD_lst, fdivD_int, modD_int, powD_int, negD_int, eqD, neD_str, neD_int, ltD_int, leD_int, gtD_int, geD_int, isD, isnD, D.isNon, inDv, ninDv, ixD_lst, ixD_tup, ixD_str, slD_lst, slD_frl, slD_str, dLc, dLook, Slot.calm]
      refine ⟨0, s.1, rfl, rfl, .inl rfl, ?_⟩
      have hb : ([s.1] == [sg]) = (s.1 == sg) := by simp
      rw [hb]
      cases hs : (s.1 == sg) with
      | true => exact (if_pos rfl).mpr ⟨1, s.2, rfl, rfl, h1 hs _ _ rfl rfl⟩
      | false => exact h2 hs _ rfl
    · rw [List.length_map]; show 0 + ss.length ≤ 16777216; omega
    · have e : ((ss.map stepD).filter (fun x : D => match x with | .str [a, _] => a == sg | _ => false)).map (fun x : D => match x with | .str [_, b] => D.str [b] | _ => .non) = (itemsOf sg ss).map fun c => .str [c] := by
        unfold itemsOf
        rw [List.filter_map, List.map_map, List.map_map]
        rfl
      rw [List.nil_append, e]
      simp -implicitDefEqProofs only [runD, startE, outsE, outs_0, outs_s, List.length_cons, List.length_nil, List.cons_append, List.nil_append, List.replicate, Nat.sub_zero, Nat.add_one_sub_one, Nat.reduceSub, Nat.reduceAdd, dC, dVar_M, dVarM_fz, dVarM_own, dIxN_M, dIxM_fz, dIxM_own, dFnN_M, dFnM_fz, dFnM_own, dOp, dUn, dArgs, dLst, dTup, dFn, dIsi, dMs, dPart, dSl, dIfE, Slot.known, tVal, tTru, tAnd, tOr, tNot, dAnd, dOr, dNot, dChain, iLst, iTup, iStr, iRng1, iRng2, iEnum, iZip, gN, gNs, gT, Tgt.g, tYes, wipeE, backE, dAVs, dCall, avSlot, AV.ok, Slot.isOwn, bA_nil, bA_v, bA_m, D.isRef, List.all_cons, List.all_nil, List.map_cons, List.map_nil, Bool.and_true, Bool.true_and, List.tail_cons, List.tail_nil, List.head?_cons, sNx, sSeq, sRet, sRetN, sExp, sAsg, sAsgO, sIf, sAug, sFor, sWh, sBrk, sCnt, sRaise, sApp, Slot.ownL, sPut, sPar, sParL, sFld, dFld, dMake, mkC, dMakeV, dCm, dObj, D.isObj, dCallV, dCallS, dEqO, dIsO, dDct0, isBD_bl, notBD_bl, revD_lst, sPar3, sTrys, catchD, DEnds.unname, repF, D.eqTo, at_0, at_s, at_nil, set_0, set_s, fzd, frd, if_true, if_false, Bool.not_true, Bool.not_false, true_and, and_true, Bool.false_eq_true, ↓reduceIte, lenF, lenD, allF, anyF, sumF, absF, intF, tupleF, swM, ewM, eqv_int, eqv_str, eqv_bl, D.isTy, Int.cast_ofNat_Int, addD_int, addD_str, addD_lst, iaddD_int, iaddD_str, subD_int, mulD_int, mulD_str, mulD_lst, fdivD_int, modD_int, powD_int, negD_int, eqD, neD_str, neD_int, ltD_int, leD_int, gtD_int, geD_int, isD, isnD, D.isNon, inDv, ninDv, ixD_lst, ixD_tup, ixD_str, slD_lst, slD_frl, slD_str, dLc, dLook, Slot.calm]
      refine join_one (k := fun t => Q t _) ?_ (hq _)
      unfold itemsOf
      rw [List.length_map]
      have := List.length_filter_le (fun s : St2 => s.1 == sg) ss
      show _ ≤ 16777216
      omega
end DL

set_option linter.all false
set_option autoImplicit false
set_option maxRecDepth 100000
namespace DL
def isWord : D → Nat → Bool
  | .str x, n => decide (x.length ≤ n) && x.all isItem
  | _, _ => false
/-- is_word: 0 value, 1 most, 2 item -/
def b_is_word : DS := sRet (dAnd (dIsi .str (dVar 0)) (dAnd (dOp leD (dFn lenF [dVar 0]) (dVar 1)) (dFn allF [dLc [2] (iStr (dVar 0)) (Tgt.g (.one 2)) (tYes) (dOp inDv (dVar 2) (dC (.str [97, 98, 99, 100, 101, 102, 103, 104])))])))
def C_is_word : Con := fun args Q _ => ∃ (d : D) (n : Nat), args = [.fz d, .fz (.int n)] ∧ d.plain ∧ n ≤ 1000000 ∧ ∀ outs, Q (.fz (.bl (isWord d n))) outs
theorem map_filter_true {α β : Type} (f : α → β) (xs : List α) : (xs.filter fun _ => true).map f = xs.map f := by rw [List.filter_eq_self.mpr (fun _ _ => rfl)]
theorem p_is_word : ∀ args Q E, args.length = 2 → C_is_word args Q E → runD 3 b_is_word args Q E := by
  intro args Q E _ h
  obtain ⟨d, n, rfl, hp, hn, hq⟩ := h
  unfold b_is_word
  cases d with
  | str x =>
    simp -implicitDefEqProofs only [runD, startE, outsE, outs_0, outs_s, List.length_cons, List.length_nil, List.cons_append, List.nil_append, List.replicate, Nat.sub_zero, Nat.add_one_sub_one, Nat.reduceSub, Nat.reduceAdd, dC, dVar_M, dVarM_fz, dVarM_own, dIxN_M, dIxM_fz, dIxM_own, dFnN_M, dFnM_fz, dFnM_own, dOp, dUn, dArgs, dLst, dTup, dFn, dIsi, dMs, dPart, dSl, dIfE, Slot.known, tVal, tTru, tAnd, tOr, tNot, dAnd, dOr, dNot, dChain, iLst, iTup, iStr, iRng1, iRng2, iEnum, iZip, gN, gNs, gT, Tgt.g, tYes, wipeE, backE, dAVs, dCall, avSlot, AV.ok, Slot.isOwn, bA_nil, bA_v, bA_m, D.isRef, List.all_cons, List.all_nil, List.map_cons, List.map_nil, Bool.and_true, Bool.true_and, List.tail_cons, List.tail_nil, List.head?_cons, sNx, sSeq, sRet, sRetN, sExp, sAsg, sAsgO, sIf, sAug, sFor, sWh, sBrk, sCnt, sRaise, sApp, Slot.ownL, sPut, sPar, sParL, sFld, dFld, dMake, mkC, dMakeV, dCm, dObj, D.isObj, dCallV, dCallS, dEqO, dIsO, dDct0, isBD_bl, notBD_bl, revD_lst, sPar3, sTrys, catchD, DEnds.unname, repF, D.eqTo, at_0, at_s, at_nil, set_0, set_s, fzd, frd, if_true, if_false, Bool.not_true, Bool.not_false, true_and, and_true, Bool.false_eq_true, ↓reduceIte, lenF, lenD, allF, anyF, sumF, absF, intF, tupleF, swM, ewM, eqv_int, eqv_str, eqv_bl, D.isTy, Int.cast_ofNat_Int, addD_int, addD_str, addD_lst, iaddD_int, iaddD_str, subD_int, mulD_int, mulD_str, mulD_lst, fdivD_int, modD_int, powD_int, negD_int, eqD, neD_str, neD_int, ltD_int, leD_int, gtD_int, geD_int, isD, isnD, D.isNon, inDv, ninDv, ixD_lst, ixD_tup, ixD_str, slD_lst, slD_frl, slD_str, dLc, dLook, Slot.calm]
    refine ⟨true, rfl, (if_pos rfl).mpr ?_⟩
    have hq2 : ∀ outs, Q (.fz (.bl (decide (x.length ≤ n) && x.all isItem))) outs := hq
    have e : decide ((x.length : Int) ≤ (n : Int)) = decide (x.length ≤ n) := by rw [decide_eq_decide]; omega
    rw [e]
    by_cases hl : x.length ≤ n
    · rw [decide_eq_true hl] at hq2 ⊢
      refine (if_pos rfl).mpr ⟨fun i hi d => ?_, ?_⟩
      · simp only [List.mem_cons, List.not_mem_nil, or_false] at hi
        subst hi
        exact fun h => nomatch h
      · refine lcL_pure (p := fun _ => true) (f := fun x => match x with | .str [c] => D.bl (isItem c) | _ => .non) _ _ (fun y hy k1 k2 h1 h2 => ?_) [] ?_ ?_
        · obtain ⟨c, _, rfl⟩ := List.mem_map.mp hy
          simp -implicitDefEqProofs only [runD, startE, outsE, outs_0, outs_s, List.length_cons, List.length_nil, List.cons_append, List.nil_append, List.replicate, Nat.sub_zero, Nat.add_one_sub_one, Nat.reduceSub, Nat.reduceAdd, dC, dVar_M, dVarM_fz, dVarM_own, dIxN_M, dIxM_fz, dIxM_own, dFnN_M, dFnM_fz, dFnM_own, dOp, dUn, dArgs, dLst, dTup, dFn, dIsi, dMs, dPart, dSl, dIfE, Slot.known, tVal, tTru, tAnd, tOr, tNot, dAnd, dOr, dNot, dChain, iLst, iTup, iStr, iRng1, iRng2, iEnum, iZip, gN, gNs, gT, Tgt.g, tYes, wipeE, backE, dAVs, dCall, avSlot, AV.ok, Slot.isOwn, bA_nil, bA_v, bA_m, D.isRef, List.all_cons, List.all_nil, List.map_cons, List.map_nil, Bool.and_true, Bool.true_and, List.tail_cons, List.tail_nil, List.head?_cons, sNx, sSeq, sRet, sRetN, sExp, sAsg, sAsgO, sIf, sAug, sFor, sWh, sBrk, sCnt, sRaise, sApp, Slot.ownL, sPut, sPar, sParL, sFld, dFld, dMake, mkC, dMakeV, dCm, dObj, D.isObj, dCallV, dCallS, dEqO, dIsO, dDct0, isBD_bl, notBD_bl, revD_lst, sPar3, sTrys, catchD, DEnds.unname, repF, D.eqTo, at_0, at_s, at_nil, set_0, set_s, fzd, frd, if_true, if_false, Bool.not_true, Bool.not_false, true_and, and_true, Bool.false_eq_true, ↓reduceIte, lenF, lenD, allF, anyF, sumF, absF, intF, tupleF, swM, ewM, eqv_int, eqv_str, eqv_bl, D.isTy, Int.cast_ofNat_Int, addD_int, addD_str, addD_lst, iaddD_int, iaddD_str, subD_int, mulD_int, mulD_str, mulD_lst, fdivD_int, modD_int, powD_int, negD_int, eqD, neD_str, neD_int, ltD_int, leD_int, gtD_int, geD_int, isD, isnD, D.isNon, inDv, ninDv, ixD_lst, ixD_tup, ixD_str, slD_lst, slD_frl, slD_str, dLc, dLook, Slot.calm]
          rw [in_sign, mem_items]
          exact h1 rfl _ _ rfl rfl
        · rw [List.length_map]; show 0 + x.length ≤ 16777216; omega
        · rw [List.nil_append, map_filter_true, List.map_map]
          refine ⟨x.map isItem, by rw [List.map_map]; rfl, ?_⟩
          simp -implicitDefEqProofs only [runD, startE, outsE, outs_0, outs_s, List.length_cons, List.length_nil, List.cons_append, List.nil_append, List.replicate, Nat.sub_zero, Nat.add_one_sub_one, Nat.reduceSub, Nat.reduceAdd, dC, dVar_M, dVarM_fz, dVarM_own, dIxN_M, dIxM_fz, dIxM_own, dFnN_M, dFnM_fz, dFnM_own, dOp, dUn, dArgs, dLst, dTup, dFn, dIsi, dMs, dPart, dSl, dIfE, Slot.known, tVal, tTru, tAnd, tOr, tNot, dAnd, dOr, dNot, dChain, iLst, iTup, iStr, iRng1, iRng2, iEnum, iZip, gN, gNs, gT, Tgt.g, tYes, wipeE, backE, dAVs, dCall, avSlot, AV.ok, Slot.isOwn, bA_nil, bA_v, bA_m, D.isRef, List.all_cons, List.all_nil, List.map_cons, List.map_nil, Bool.and_true, Bool.true_and, List.tail_cons, List.tail_nil, List.head?_cons, sNx, sSeq, sRet, sRetN, sExp, sAsg, sAsgO, sIf, sAug, sFor, sWh, sBrk, sCnt, sRaise, sApp, Slot.ownL, sPut, sPar, sParL, sFld, dFld, dMake, mkC, dMakeV, dCm, dObj, D.isObj, dCallV, dCallS, dEqO, dIsO, dDct0, isBD_bl, notBD_bl, revD_lst, sPar3, sTrys, catchD, DEnds.unname, repF, D.eqTo, at_0, at_s, at_nil, set_0, set_s, fzd, frd, if_true, if_false, Bool.not_true, Bool.not_false, true_and, and_true, Bool.false_eq_true, ↓reduceIte, lenF, lenD, allF, anyF, sumF, absF, intF, tupleF, swM, ewM, eqv_int, eqv_str, eqv_bl, D.isTy, Int.cast_ofNat_Int, addD_int, addD_str, addD_lst, iaddD_int, iaddD_str, subD_int, mulD_int, mulD_str, mulD_lst, fdivD_int, modD_int, powD_int, negD_int, eqD, neD_str, neD_int, ltD_int, leD_int, gtD_int, geD_int, isD, isnD, D.isNon, inDv, ninDv, ixD_lst, ixD_tup, ixD_str, slD_lst, slD_frl, slD_str, dLc, dLook, Slot.calm]
          have : ((x.map isItem).all id) = x.all isItem := by rw [List.all_map]; rfl
          rw [this]
          exact hq2 _
    · rw [decide_eq_false hl] at hq2 ⊢
      exact hq2 _
  | obj c x => exact absurd rfl hp
  | cls c => exact absurd rfl hp
  | _ => simp -implicitDefEqProofs only [runD, startE, outsE, outs_0, outs_s, List.length_cons, List.length_nil, List.cons_append, List.nil_append, List.replicate, Nat.sub_zero, Nat.add_one_sub_one, Nat.reduceSub, Nat.reduceAdd, dC, dVar_M, dVarM_fz, dVarM_own, dIxN_M, dIxM_fz, dIxM_own, dFnN_M, dFnM_fz, dFnM_own, dOp, dUn, dArgs, dLst, dTup, dFn, dIsi, dMs, dPart, dSl, dIfE, Slot.known, tVal, tTru, tAnd, tOr, tNot, dAnd, dOr, dNot, dChain, iLst, iTup, iStr, iRng1, iRng2, iEnum, iZip, gN, gNs, gT, Tgt.g, tYes, wipeE, backE, dAVs, dCall, avSlot, AV.ok, Slot.isOwn, bA_nil, bA_v, bA_m, D.isRef, List.all_cons, List.all_nil, List.map_cons, List.map_nil, Bool.and_true, Bool.true_and, List.tail_cons, List.tail_nil, List.head?_cons, sNx, sSeq, sRet, sRetN, sExp, sAsg, sAsgO, sIf, sAug, sFor, sWh, sBrk, sCnt, sRaise, sApp, Slot.ownL, sPut, sPar, sParL, sFld, dFld, dMake, mkC, dMakeV, dCm, dObj, D.isObj, dCallV, dCallS, dEqO, dIsO, dDct0, isBD_bl, notBD_bl, revD_lst, sPar3, sTrys, catchD, DEnds.unname, repF, D.eqTo, at_0, at_s, at_nil, set_0, set_s, fzd, frd, if_true, if_false, Bool.not_true, Bool.not_false, true_and, and_true, Bool.false_eq_true, ↓reduceIte, lenF, lenD, allF, anyF, sumF, absF, intF, tupleF, swM, ewM, eqv_int, eqv_str, eqv_bl, D.isTy, Int.cast_ofNat_Int, addD_int, addD_str, addD_lst, iaddD_int, iaddD_str, subD_int, mulD_int, mulD_str, mulD_lst, fdivD_int, modD_int, powD_int, negD_int, eqD, neD_str, neD_int, ltD_int, leD_int, gtD_int, geD_int, isD, isnD, D.isNon, inDv, ninDv, ixD_lst, ixD_tup, ixD_str, slD_lst, slD_frl, slD_str, dLc, dLook, Slot.calm]; exact ⟨false, rfl, hq _⟩
def isInt : D → Bool
  | .int _ => true
  | _ => false
/-- is_integer: 0 value -/
def b_is_integer : DS := sRet (dAnd (dIsi .int (dVar 0)) (dNot (dIsi .bool (dVar 0))))
def C_is_integer : Con := fun args Q _ => ∃ d, args = [.fz d] ∧ d.plain ∧ ∀ outs, Q (.fz (.bl (isInt d))) outs
theorem p_is_integer : ∀ args Q E, args.length = 1 → C_is_integer args Q E → runD 1 b_is_integer args Q E := by
  intro args Q E _ h
  obtain ⟨d, rfl, hp, hq⟩ := h
  unfold b_is_integer
  cases d with
  | obj c x => exact absurd rfl hp
  | cls c => exact absurd rfl hp
  | int i => simp -implicitDefEqProofs only [runD, startE, outsE, outs_0, outs_s, List.length_cons, List.length_nil, List.cons_append, List.nil_append, List.replicate, Nat.sub_zero, Nat.add_one_sub_one, Nat.reduceSub, Nat.reduceAdd, dC, dVar_M, dVarM_fz, dVarM_own, dIxN_M, dIxM_fz, dIxM_own, dFnN_M, dFnM_fz, dFnM_own, dOp, dUn, dArgs, dLst, dTup, dFn, dIsi, dMs, dPart, dSl, dIfE, Slot.known, tVal, tTru, tAnd, tOr, tNot, dAnd, dOr, dNot, dChain, iLst, iTup, iStr, iRng1, iRng2, iEnum, iZip, gN, gNs, gT, Tgt.g, tYes, wipeE, backE, dAVs, dCall, avSlot, AV.ok, Slot.isOwn, bA_nil, bA_v, bA_m, D.isRef, List.all_cons, List.all_nil, List.map_cons, List.map_nil, Bool.and_true, Bool.true_and, List.tail_cons, List.tail_nil, List.head?_cons, sNx, sSeq, sRet, sRetN, sExp, sAsg, sAsgO, sIf, sAug, sFor, sWh, sBrk, sCnt, sRaise, sApp, Slot.ownL, sPut, sPar, sParL, sFld, dFld, dMake, mkC, dMakeV, dCm, dObj, D.isObj, dCallV, dCallS, dEqO, dIsO, dDct0, isBD_bl, notBD_bl, revD_lst, sPar3, sTrys, catchD, DEnds.unname, repF, D.eqTo, at_0, at_s, at_nil, set_0, set_s, fzd, frd, if_true, if_false, Bool.not_true, Bool.not_false, true_and, and_true, Bool.false_eq_true, ↓reduceIte, lenF, lenD, allF, anyF, sumF, absF, intF, tupleF, swM, ewM, eqv_int, eqv_str, eqv_bl, D.isTy, Int.cast_ofNat_Int, addD_int, addD_str, addD_lst, iaddD_int, iaddD_str, subD_int, mulD_int, mulD_str, mulD_lst, fdivD_int, modD_int, powD_int, negD_int, eqD, neD_str, neD_int, ltD_int, leD_int, gtD_int, geD_int, isD, isnD, D.isNon, inDv, ninDv, ixD_lst, ixD_tup, ixD_str, slD_lst, slD_frl, slD_str, dLc, dLook, Slot.calm]; exact ⟨true, rfl, (if_pos rfl).mpr ⟨false, rfl, hq _⟩⟩
  | bl b => simp -implicitDefEqProofs only [runD, startE, outsE, outs_0, outs_s, List.length_cons, List.length_nil, List.cons_append, List.nil_append, List.replicate, Nat.sub_zero, Nat.add_one_sub_one, Nat.reduceSub, Nat.reduceAdd, dC, dVar_M, dVarM_fz, dVarM_own, dIxN_M, dIxM_fz, dIxM_own, dFnN_M, dFnM_fz, dFnM_own, dOp, dUn, dArgs, dLst, dTup, dFn, dIsi, dMs, dPart, dSl, dIfE, Slot.known, tVal, tTru, tAnd, tOr, tNot, dAnd, dOr, dNot, dChain, iLst, iTup, iStr, iRng1, iRng2, iEnum, iZip, gN, gNs, gT, Tgt.g, tYes, wipeE, backE, dAVs, dCall, avSlot, AV.ok, Slot.isOwn, bA_nil, bA_v, bA_m, D.isRef, List.all_cons, List.all_nil, List.map_cons, List.map_nil, Bool.and_true, Bool.true_and, List.tail_cons, List.tail_nil, List.head?_cons, sNx, sSeq, sRet, sRetN, sExp, sAsg, sAsgO, sIf, sAug, sFor, sWh, sBrk, sCnt, sRaise, sApp, Slot.ownL, sPut, sPar, sParL, sFld, dFld, dMake, mkC, dMakeV, dCm, dObj, D.isObj, dCallV, dCallS, dEqO, dIsO, dDct0, isBD_bl, notBD_bl, revD_lst, sPar3, sTrys, catchD, DEnds.unname, repF, D.eqTo, at_0, at_s, at_nil, set_0, set_s, fzd, frd, if_true, if_false, Bool.not_true, Bool.not_false, true_and, and_true, Bool.false_eq_true, ↓reduceIte, lenF, lenD, allF, anyF, sumF, absF, intF, tupleF, swM, ewM, eqv_int, eqv_str, eqv_bl, D.isTy, Int.cast_ofNat_Int, addD_int, addD_str, addD_lst, iaddD_int, iaddD_str, subD_int, mulD_int, mulD_str, mulD_lst, fdivD_int, modD_int, powD_int, negD_int, eqD, neD_str, neD_int, ltD_int, leD_int, gtD_int, geD_int, isD, isnD, D.isNon, inDv, ninDv, ixD_lst, ixD_tup, ixD_str, slD_lst, slD_frl, slD_str, dLc, dLook, Slot.calm]; exact ⟨true, rfl, (if_pos rfl).mpr ⟨true, rfl, hq _⟩⟩
  | _ => simp -implicitDefEqProofs only [runD, startE, outsE, outs_0, outs_s, List.length_cons, List.length_nil, List.cons_append, List.nil_append, List.replicate, Nat.sub_zero, Nat.add_one_sub_one, Nat.reduceSub, Nat.reduceAdd, dC, dVar_M, dVarM_fz, dVarM_own, dIxN_M, dIxM_fz, dIxM_own, dFnN_M, dFnM_fz, dFnM_own, dOp, dUn, dArgs, dLst, dTup, dFn, dIsi, dMs, dPart, dSl, dIfE, Slot.known, tVal, tTru, tAnd, tOr, tNot, dAnd, dOr, dNot, dChain, iLst, iTup, iStr, iRng1, iRng2, iEnum, iZip, gN, gNs, gT, Tgt.g, tYes, wipeE, backE, dAVs, dCall, avSlot, AV.ok, Slot.isOwn, bA_nil, bA_v, bA_m, D.isRef, List.all_cons, List.all_nil, List.map_cons, List.map_nil, Bool.and_true, Bool.true_and, List.tail_cons, List.tail_nil, List.head?_cons, sNx, sSeq, sRet, sRetN, sExp, sAsg, sAsgO, sIf, sAug, sFor, sWh, sBrk, sCnt, sRaise, sApp, Slot.ownL, sPut, sPar, sParL, sFld, dFld, dMake, mkC, dMakeV, dCm, dObj, D.isObj, dCallV, dCallS, dEqO, dIsO, dDct0, isBD_bl, notBD_bl, revD_lst, sPar3, sTrys, catchD, DEnds.unname, repF, D.eqTo, at_0, at_s, at_nil, set_0, set_s, fzd, frd, if_true, if_false, Bool.not_true, Bool.not_false, true_and, and_true, Bool.false_eq_true, ↓reduceIte, lenF, lenD, allF, anyF, sumF, absF, intF, tupleF, swM, ewM, eqv_int, eqv_str, eqv_bl, D.isTy, Int.cast_ofNat_Int, addD_int, addD_str, addD_lst, iaddD_int, iaddD_str, subD_int, mulD_int, mulD_str, mulD_lst, fdivD_int, modD_int, powD_int, negD_int, eqD, neD_str, neD_int, ltD_int, leD_int, gtD_int, geD_int, isD, isnD, D.isNon, inDv, ninDv, ixD_lst, ixD_tup, ixD_str, slD_lst, slD_frl, slD_str, dLc, dLook, Slot.calm]; exact ⟨false, rfl, hq _⟩
def inRange : D → Int → Int → Bool
  | .int i, a, b => decide (a ≤ i) && decide (i ≤ b)
  | _, _, _ => false
/-- in_range: 0 value, 1 least, 2 most -/
def b_in_range : DS := sRet (dAnd (dCall C_is_integer [.v (dVar 0)]) (dChain leD leD (dVar 1) (dVar 0) (dVar 2)))
def C_in_range : Con := fun args Q _ => ∃ d a b, args = [.fz d, .fz (.int a), .fz (.int b)] ∧ d.plain ∧ ∀ outs, Q (.fz (.bl (inRange d a b))) outs
theorem p_in_range : ∀ args Q E, args.length = 3 → C_in_range args Q E → runD 3 b_in_range args Q E := by
  intro args Q E _ h
  obtain ⟨d, a, b, rfl, hp, hq⟩ := h
  unfold b_in_range
  simp -implicitDefEqProofs only [runD, startE, outsE, outs_0, outs_s, List.length_cons, List.length_nil, List.cons_append, List.nil_append, List.replicate, Nat.sub_zero, Nat.add_one_sub_one, Nat.reduceSub, Nat.reduceAdd, dC, dVar_M, dVarM_fz, dVarM_own, dIxN_M, dIxM_fz, dIxM_own, dFnN_M, dFnM_fz, dFnM_own, dOp, dUn, dArgs, dLst, dTup, dFn, dIsi, dMs, dPart, dSl, dIfE, Slot.known, tVal, tTru, tAnd, tOr, tNot, dAnd, dOr, dNot, dChain, iLst, iTup, iStr, iRng1, iRng2, iEnum, iZip, gN, gNs, gT, Tgt.g, tYes, wipeE, backE, dAVs, dCall, avSlot, AV.ok, Slot.isOwn, bA_nil, bA_v, bA_m, D.isRef, List.all_cons, List.all_nil, List.map_cons, List.map_nil, Bool.and_true, Bool.true_and, List.tail_cons, List.tail_nil, List.head?_cons, sNx, sSeq, sRet, sRetN, sExp, sAsg, sAsgO, sIf, sAug, sFor, sWh, sBrk, sCnt, sRaise, sApp, Slot.ownL, sPut, sPar, sParL, sFld, dFld, dMake, mkC, dMakeV, dCm, dObj, D.isObj, dCallV, dCallS, dEqO, dIsO, dDct0, isBD_bl, notBD_bl, revD_lst, sPar3, sTrys, catchD, DEnds.unname, repF, D.eqTo, at_0, at_s, at_nil, set_0, set_s, fzd, frd, if_true, if_false, Bool.not_true, Bool.not_false, true_and, and_true, Bool.false_eq_true, ↓reduceIte, lenF, lenD, allF, anyF, sumF, absF, intF, tupleF, swM, ewM, eqv_int, eqv_str, eqv_bl, D.isTy, Int.cast_ofNat_Int, addD_int, addD_str, addD_lst, iaddD_int, iaddD_str, subD_int, mulD_int, mulD_str, mulD_lst, fdivD_int, modD_int, powD_int, negD_int, eqD, neD_str, neD_int, ltD_int, leD_int, gtD_int, geD_int, isD, isnD, D.isNon, inDv, ninDv, ixD_lst, ixD_tup, ixD_str, slD_lst, slD_frl, slD_str, dLc, dLook, Slot.calm]
  refine ⟨d, rfl, hp, fun outs => ?_⟩
  cases d with
  | obj c x => exact absurd rfl hp
  | cls c => exact absurd rfl hp
  | int i =>
    have hq2 : ∀ outs, Q (.fz (.bl (decide (a ≤ i) && decide (i ≤ b)))) outs := hq
    show if true = true then _ else _
    refine (if_pos rfl).mpr ?_
    simp -implicitDefEqProofs only [runD, startE, outsE, outs_0, outs_s, List.length_cons, List.length_nil, List.cons_append, List.nil_append, List.replicate, Nat.sub_zero, Nat.add_one_sub_one, Nat.reduceSub, Nat.reduceAdd, dC, dVar_M, dVarM_fz, dVarM_own, dIxN_M, dIxM_fz, dIxM_own, dFnN_M, dFnM_fz, dFnM_own, dOp, dUn, dArgs, dLst, dTup, dFn, dIsi, dMs, dPart, dSl, dIfE, Slot.known, tVal, tTru, tAnd, tOr, tNot, dAnd, dOr, dNot, dChain, iLst, iTup, iStr, iRng1, iRng2, iEnum, iZip, gN, gNs, gT, Tgt.g, tYes, wipeE, backE, dAVs, dCall, avSlot, AV.ok, Slot.isOwn, bA_nil, bA_v, bA_m, D.isRef, List.all_cons, List.all_nil, List.map_cons, List.map_nil, Bool.and_true, Bool.true_and, List.tail_cons, List.tail_nil, List.head?_cons, sNx, sSeq, sRet, sRetN, sExp, sAsg, sAsgO, sIf, sAug, sFor, sWh, sBrk, sCnt, sRaise, sApp, Slot.ownL, sPut, sPar, sParL, sFld, dFld, dMake, mkC, dMakeV, dCm, dObj, D.isObj, dCallV, dCallS, dEqO, dIsO, dDct0, isBD_bl, notBD_bl, revD_lst, sPar3, sTrys, catchD, DEnds.unname, repF, D.eqTo, at_0, at_s, at_nil, set_0, set_s, fzd, frd, if_true, if_false, Bool.not_true, Bool.not_false, true_and, and_true, Bool.false_eq_true, ↓reduceIte, lenF, lenD, allF, anyF, sumF, absF, intF, tupleF, swM, ewM, eqv_int, eqv_str, eqv_bl, D.isTy, Int.cast_ofNat_Int, addD_int, addD_str, addD_lst, iaddD_int, iaddD_str, subD_int, mulD_int, mulD_str, mulD_lst, fdivD_int, modD_int, powD_int, negD_int, eqD, neD_str, neD_int, ltD_int, leD_int, gtD_int, geD_int, isD, isnD, D.isNon, inDv, ninDv, ixD_lst, ixD_tup, ixD_str, slD_lst, slD_frl, slD_str, dLc, dLook, Slot.calm]
    cases h1 : decide (a ≤ i) with
    | true => rw [h1] at hq2; exact (if_pos rfl).mpr (hq2 _)
    | false => rw [h1] at hq2; exact hq2 _
  | _ => exact hq _
def suit (t p : Tx) (n : Nat) : Bool := decide (t.length ≤ n) || (p.take (t.drop n).length == t.drop n)
theorem cut_from {x : Tx} {n : Nat} : cut x (some (n : Int)) none = x.drop n := by
  have this : ¬ ((n : Int) < 0) := by omega
  have e : sIx x.length 0 (some (n : Int)) = min n x.length := by
    show (if (n : Int) < 0 then ((n : Int) + (x.length : Int)).toNat else min (n : Int).toNat x.length) = _
    rw [if_neg this, Int.toNat_natCast]
  show (x.drop (sIx x.length 0 (some (n : Int)))).take (x.length - sIx x.length 0 (some (n : Int))) = _
  rw [e]
  by_cases h : n ≤ x.length
  · rw [Nat.min_eq_left h, ← List.length_drop, List.take_length]
  · rw [Nat.min_eq_right (by omega), List.drop_eq_nil_of_le (Nat.le_refl _), List.drop_eq_nil_of_le (by omega)]
    simp
/-- is_suitable: 0 takes, 1 puts, 2 number -/
def b_is_suitable : DS := sRet (dOr (dOp geD (dVar 2) (dFn lenF [dVar 0])) (dMs swM (dVar 1) [dSl (dVar 0) (some (dVar 2)) none]))
def C_is_suitable : Con := fun args Q _ => ∃ (t p : Tx) (n : Nat), args = [.fz (.str t), .fz (.str p), .fz (.int n)] ∧ ∀ outs, Q (.fz (.bl (suit t p n))) outs
theorem p_is_suitable : ∀ args Q E, args.length = 3 → C_is_suitable args Q E → runD 3 b_is_suitable args Q E := by
  intro args Q E _ h
  obtain ⟨t, p, n, rfl, hq⟩ := h
  unfold b_is_suitable
  simp -implicitDefEqProofs only [runD, startE, outsE, outs_0, outs_s, List.length_cons, List.length_nil, List.cons_append, List.nil_append, List.replicate, Nat.sub_zero, Nat.add_one_sub_one, Nat.reduceSub, Nat.reduceAdd, dC, dVar_M, dVarM_fz, dVarM_own, dIxN_M, dIxM_fz, dIxM_own, dFnN_M, dFnM_fz, dFnM_own, dOp, dUn, dArgs, dLst, dTup, dFn, dIsi, dMs, dPart, dSl, dIfE, Slot.known, tVal, tTru, tAnd, tOr, tNot, dAnd, dOr, dNot, dChain, iLst, iTup, iStr, iRng1, iRng2, iEnum, iZip, gN, gNs, gT, Tgt.g, tYes, wipeE, backE, dAVs, dCall, avSlot, AV.ok, Slot.isOwn, bA_nil, bA_v, bA_m, D.isRef, List.all_cons, List.all_nil, List.map_cons, List.map_nil, Bool.and_true, Bool.true_and, List.tail_cons, List.tail_nil, List.head?_cons, sNx, sSeq, sRet, sRetN, sExp, sAsg, sAsgO, sIf, sAug, sFor, sWh, sBrk, sCnt, sRaise, sApp, Slot.ownL, sPut, sPar, sParL, sFld, dFld, dMake, mkC, dMakeV, dCm, dObj, D.isObj, dCallV, dCallS, dEqO, dIsO, dDct0, isBD_bl, notBD_bl, revD_lst, sPar3, sTrys, catchD, DEnds.unname, repF, D.eqTo, at_0, at_s, at_nil, set_0, set_s, fzd, frd, if_true, if_false, Bool.not_true, Bool.not_false, true_and, and_true, Bool.false_eq_true, ↓reduceIte, lenF, lenD, allF, anyF, sumF, absF, intF, tupleF, swM, ewM, eqv_int, eqv_str, eqv_bl, D.isTy, Int.cast_ofNat_Int, addD_int, addD_str, addD_lst, iaddD_int, iaddD_str, subD_int, mulD_int, mulD_str, mulD_lst, fdivD_int, modD_int, powD_int, negD_int, eqD, neD_str, neD_int, ltD_int, leD_int, gtD_int, geD_int, isD, isnD, D.isNon, inDv, ninDv, ixD_lst, ixD_tup, ixD_str, slD_lst, slD_frl, slD_str, dLc, dLook, Slot.calm]
  have e : decide ((t.length : Int) ≤ (n : Int)) = decide (t.length ≤ n) := by rw [decide_eq_decide]; omega
  have hq2 : ∀ outs, Q (.fz (.bl (decide (t.length ≤ n) || (p.take (t.drop n).length == t.drop n)))) outs := hq
  rw [e]
  cases h1 : decide (t.length ≤ n) with
  | true => rw [h1] at hq2; exact hq2 _
  | false =>
    rw [h1] at hq2
    rw [cut_from]
    exact hq2 _
def validE (t p c : D) : Bool := isWord t 2000 && isWord p 2000 && (match t, p, c with
  | .str x, .str y, .int i => decide (0 ≤ i) && decide (i ≤ x.length) && suit x y i.toNat
  | _, _, _ => false)
theorem isWord_str {d : D} {n : Nat} (h : isWord d n = true) : ∃ x, d = .str x ∧ x.length ≤ n ∧ x.all isItem = true := by
  cases d with
  | str x =>
    have h : (decide (x.length ≤ n) && x.all isItem) = true := h
    rw [Bool.and_eq_true, decide_eq_true_eq] at h
    exact ⟨x, rfl, h.1, h.2⟩
  | _ => cases h
/-- Effect.is_valid: 0 takes, 1 puts, 2 core -/
def b_Effect_is_valid : DS := sSeq (sIf (tOr (tNot (tVal (dCall C_is_word [.v (dVar 0), .v (dC (.int 2000))]))) (tNot (tVal (dCall C_is_word [.v (dVar 1), .v (dC (.int 2000))])))) (sRet (dC (.bl false))) (sNx)) (sRet (dAnd (dCall C_in_range [.v (dVar 2), .v (dC (.int 0)), .v (dFn lenF [dVar 0])]) (dCall C_is_suitable [.v (dVar 0), .v (dVar 1), .v (dVar 2)])))
def C_Effect_is_valid : Con := fun args Q _ => ∃ t p c, args = [.fz t, .fz p, .fz c] ∧ t.plain ∧ p.plain ∧ c.plain ∧ ∀ outs, Q (.fz (.bl (validE t p c))) outs
theorem p_Effect_is_valid : ∀ args Q E, args.length = 3 → C_Effect_is_valid args Q E → runD 3 b_Effect_is_valid args Q E := by
  intro args Q E _ h
  obtain ⟨t, p, c, rfl, ht, hp, hc, hq⟩ := h
  unfold b_Effect_is_valid
  simp -implicitDefEqProofs only [runD, startE, outsE, outs_0, outs_s, List.length_cons, List.length_nil, List.cons_append, List.nil_append, List.replicate, Nat.sub_zero, Nat.add_one_sub_one, Nat.reduceSub, Nat.reduceAdd, dC, dVar_M, dVarM_fz, dVarM_own, dIxN_M, dIxM_fz, dIxM_own, dFnN_M, dFnM_fz, dFnM_own, dOp, dUn, dArgs, dLst, dTup, dFn, dIsi, dMs, dPart, dSl, dIfE, Slot.known, tVal, tTru, tAnd, tOr, tNot, dAnd, dOr, dNot, dChain, iLst, iTup, iStr, iRng1, iRng2, iEnum, iZip, gN, gNs, gT, Tgt.g, tYes, wipeE, backE, dAVs, dCall, avSlot, AV.ok, Slot.isOwn, bA_nil, bA_v, bA_m, D.isRef, List.all_cons, List.all_nil, List.map_cons, List.map_nil, Bool.and_true, Bool.true_and, List.tail_cons, List.tail_nil, List.head?_cons, sNx, sSeq, sRet, sRetN, sExp, sAsg, sAsgO, sIf, sAug, sFor, sWh, sBrk, sCnt, sRaise, sApp, Slot.ownL, sPut, sPar, sParL, sFld, dFld, dMake, mkC, dMakeV, dCm, dObj, D.isObj, dCallV, dCallS, dEqO, dIsO, dDct0, isBD_bl, notBD_bl, revD_lst, sPar3, sTrys, catchD, DEnds.unname, repF, D.eqTo, at_0, at_s, at_nil, set_0, set_s, fzd, frd, if_true, if_false, Bool.not_true, Bool.not_false, true_and, and_true, Bool.false_eq_true, ↓reduceIte, lenF, lenD, allF, anyF, sumF, absF, intF, tupleF, swM, ewM, eqv_int, eqv_str, eqv_bl, D.isTy, Int.cast_ofNat_Int, addD_int, addD_str, addD_lst, iaddD_int, iaddD_str, subD_int, mulD_int, mulD_str, mulD_lst, fdivD_int, modD_int, powD_int, negD_int, eqD, neD_str, neD_int, ltD_int, leD_int, gtD_int, geD_int, isD, isnD, D.isNon, inDv, ninDv, ixD_lst, ixD_tup, ixD_str, slD_lst, slD_frl, slD_str, dLc, dLook, Slot.calm]
  refine ⟨t, 2000, rfl, ht, by decide, fun outs => ?_⟩
  simp -implicitDefEqProofs only [runD, startE, outsE, outs_0, outs_s, List.length_cons, List.length_nil, List.cons_append, List.nil_append, List.replicate, Nat.sub_zero, Nat.add_one_sub_one, Nat.reduceSub, Nat.reduceAdd, dC, dVar_M, dVarM_fz, dVarM_own, dIxN_M, dIxM_fz, dIxM_own, dFnN_M, dFnM_fz, dFnM_own, dOp, dUn, dArgs, dLst, dTup, dFn, dIsi, dMs, dPart, dSl, dIfE, Slot.known, tVal, tTru, tAnd, tOr, tNot, dAnd, dOr, dNot, dChain, iLst, iTup, iStr, iRng1, iRng2, iEnum, iZip, gN, gNs, gT, Tgt.g, tYes, wipeE, backE, dAVs, dCall, avSlot, AV.ok, Slot.isOwn, bA_nil, bA_v, bA_m, D.isRef, List.all_cons, List.all_nil, List.map_cons, List.map_nil, Bool.and_true, Bool.true_and, List.tail_cons, List.tail_nil, List.head?_cons, sNx, sSeq, sRet, sRetN, sExp, sAsg, sAsgO, sIf, sAug, sFor, sWh, sBrk, sCnt, sRaise, sApp, Slot.ownL, sPut, sPar, sParL, sFld, dFld, dMake, mkC, dMakeV, dCm, dObj, D.isObj, dCallV, dCallS, dEqO, dIsO, dDct0, isBD_bl, notBD_bl, revD_lst, sPar3, sTrys, catchD, DEnds.unname, repF, D.eqTo, at_0, at_s, at_nil, set_0, set_s, fzd, frd, if_true, if_false, Bool.not_true, Bool.not_false, true_and, and_true, Bool.false_eq_true, ↓reduceIte, lenF, lenD, allF, anyF, sumF, absF, intF, tupleF, swM, ewM, eqv_int, eqv_str, eqv_bl, D.isTy, Int.cast_ofNat_Int, addD_int, addD_str, addD_lst, iaddD_int, iaddD_str, subD_int, mulD_int, mulD_str, mulD_lst, fdivD_int, modD_int, powD_int, negD_int, eqD, neD_str, neD_int, ltD_int, leD_int, gtD_int, geD_int, isD, isnD, D.isNon, inDv, ninDv, ixD_lst, ixD_tup, ixD_str, slD_lst, slD_frl, slD_str, dLc, dLook, Slot.calm]
  cases h1 : isWord t 2000 with
  | false =>
    simp -implicitDefEqProofs only [runD, startE, outsE, outs_0, outs_s, List.length_cons, List.length_nil, List.cons_append, List.nil_append, List.replicate, Nat.sub_zero, Nat.add_one_sub_one, Nat.reduceSub, Nat.reduceAdd, dC, dVar_M, dVarM_fz, dVarM_own, dIxN_M, dIxM_fz, dIxM_own, dFnN_M, dFnM_fz, dFnM_own, dOp, dUn, dArgs, dLst, dTup, dFn, dIsi, dMs, dPart, dSl, dIfE, Slot.known, tVal, tTru, tAnd, tOr, tNot, dAnd, dOr, dNot, dChain, iLst, iTup, iStr, iRng1, iRng2, iEnum, iZip, gN, gNs, gT, Tgt.g, tYes, wipeE, backE, dAVs, dCall, avSlot, AV.ok, Slot.isOwn, bA_nil, bA_v, bA_m, D.isRef, List.all_cons, List.all_nil, List.map_cons, List.map_nil, Bool.and_true, Bool.true_and, List.tail_cons, List.tail_nil, List.head?_cons, sNx, sSeq, sRet, sRetN, sExp, sAsg, sAsgO, sIf, sAug, sFor, sWh, sBrk, sCnt, sRaise, sApp, Slot.ownL, sPut, sPar, sParL, sFld, dFld, dMake, mkC, dMakeV, dCm, dObj, D.isObj, dCallV, dCallS, dEqO, dIsO, dDct0, isBD_bl, notBD_bl, revD_lst, sPar3, sTrys, catchD, DEnds.unname, repF, D.eqTo, at_0, at_s, at_nil, set_0, set_s, fzd, frd, if_true, if_false, Bool.not_true, Bool.not_false, true_and, and_true, Bool.false_eq_true, ↓reduceIte, lenF, lenD, allF, anyF, sumF, absF, intF, tupleF, swM, ewM, eqv_int, eqv_str, eqv_bl, D.isTy, Int.cast_ofNat_Int, addD_int, addD_str, addD_lst, iaddD_int, iaddD_str, subD_int, mulD_int, mulD_str, mulD_lst, fdivD_int, modD_int, powD_int, negD_int, eqD, neD_str, neD_int, ltD_int, leD_int, gtD_int, geD_int, isD, isnD, D.isNon, inDv, ninDv, ixD_lst, ixD_tup, ixD_str, slD_lst, slD_frl, slD_str, dLc, dLook, Slot.calm]
    have : validE t p c = false := by unfold validE; rw [h1]; rfl
    rw [this] at hq
    exact hq _
  | true =>
    simp -implicitDefEqProofs only [runD, startE, outsE, outs_0, outs_s, List.length_cons, List.length_nil, List.cons_append, List.nil_append, List.replicate, Nat.sub_zero, Nat.add_one_sub_one, Nat.reduceSub, Nat.reduceAdd, dC, dVar_M, dVarM_fz, dVarM_own, dIxN_M, dIxM_fz, dIxM_own, dFnN_M, dFnM_fz, dFnM_own, dOp, dUn, dArgs, dLst, dTup, dFn, dIsi, dMs, dPart, dSl, dIfE, Slot.known, tVal, tTru, tAnd, tOr, tNot, dAnd, dOr, dNot, dChain, iLst, iTup, iStr, iRng1, iRng2, iEnum, iZip, gN, gNs, gT, Tgt.g, tYes, wipeE, backE, dAVs, dCall, avSlot, AV.ok, Slot.isOwn, bA_nil, bA_v, bA_m, D.isRef, List.all_cons, List.all_nil, List.map_cons, List.map_nil, Bool.and_true, Bool.true_and, List.tail_cons, List.tail_nil, List.head?_cons, sNx, sSeq, sRet, sRetN, sExp, sAsg, sAsgO, sIf, sAug, sFor, sWh, sBrk, sCnt, sRaise, sApp, Slot.ownL, sPut, sPar, sParL, sFld, dFld, dMake, mkC, dMakeV, dCm, dObj, D.isObj, dCallV, dCallS, dEqO, dIsO, dDct0, isBD_bl, notBD_bl, revD_lst, sPar3, sTrys, catchD, DEnds.unname, repF, D.eqTo, at_0, at_s, at_nil, set_0, set_s, fzd, frd, if_true, if_false, Bool.not_true, Bool.not_false, true_and, and_true, Bool.false_eq_true, ↓reduceIte, lenF, lenD, allF, anyF, sumF, absF, intF, tupleF, swM, ewM, eqv_int, eqv_str, eqv_bl, D.isTy, Int.cast_ofNat_Int, addD_int, addD_str, addD_lst, iaddD_int, iaddD_str, subD_int, mulD_int, mulD_str, mulD_lst, fdivD_int, modD_int, powD_int, negD_int, eqD, neD_str, neD_int, ltD_int, leD_int, gtD_int, geD_int, isD, isnD, D.isNon, inDv, ninDv, ixD_lst, ixD_tup, ixD_str, slD_lst, slD_frl, slD_str, dLc, dLook, Slot.calm]
    refine ⟨p, 2000, rfl, hp, by decide, fun outs => ?_⟩
    simp -implicitDefEqProofs only [runD, startE, outsE, outs_0, outs_s, List.length_cons, List.length_nil, List.cons_append, List.nil_append, List.replicate, Nat.sub_zero, Nat.add_one_sub_one, Nat.reduceSub, Nat.reduceAdd, dC, dVar_M, dVarM_fz, dVarM_own, dIxN_M, dIxM_fz, dIxM_own, dFnN_M, dFnM_fz, dFnM_own, dOp, dUn, dArgs, dLst, dTup, dFn, dIsi, dMs, dPart, dSl, dIfE, Slot.known, tVal, tTru, tAnd, tOr, tNot, dAnd, dOr, dNot, dChain, iLst, iTup, iStr, iRng1, iRng2, iEnum, iZip, gN, gNs, gT, Tgt.g, tYes, wipeE, backE, dAVs, dCall, avSlot, AV.ok, Slot.isOwn, bA_nil, bA_v, bA_m, D.isRef, List.all_cons, List.all_nil, List.map_cons, List.map_nil, Bool.and_true, Bool.true_and, List.tail_cons, List.tail_nil, List.head?_cons, sNx, sSeq, sRet, sRetN, sExp, sAsg, sAsgO, sIf, sAug, sFor, sWh, sBrk, sCnt, sRaise, sApp, Slot.ownL, sPut, sPar, sParL, sFld, dFld, dMake, mkC, dMakeV, dCm, dObj, D.isObj, dCallV, dCallS, dEqO, dIsO, dDct0, isBD_bl, notBD_bl, revD_lst, sPar3, sTrys, catchD, DEnds.unname, repF, D.eqTo, at_0, at_s, at_nil, set_0, set_s, fzd, frd, if_true, if_false, Bool.not_true, Bool.not_false, true_and, and_true, Bool.false_eq_true, ↓reduceIte, lenF, lenD, allF, anyF, sumF, absF, intF, tupleF, swM, ewM, eqv_int, eqv_str, eqv_bl, D.isTy, Int.cast_ofNat_Int, addD_int, addD_str, addD_lst, iaddD_int, iaddD_str, subD_int, mulD_int, mulD_str, mulD_lst, fdivD_int, modD_int, powD_int, negD_int, eqD, neD_str, neD_int, ltD_int, leD_int, gtD_int, geD_int, isD, isnD, D.isNon, inDv, ninDv, ixD_lst, ixD_tup, ixD_str, slD_lst, slD_frl, slD_str, dLc, dLook, Slot.calm]
    cases h2 : isWord p 2000 with
    | false =>
      simp -implicitDefEqProofs only [runD, startE, outsE, outs_0, outs_s, List.length_cons, List.length_nil, List.cons_append, List.nil_append, List.replicate, Nat.sub_zero, Nat.add_one_sub_one, Nat.reduceSub, Nat.reduceAdd, dC, dVar_M, dVarM_fz, dVarM_own, dIxN_M, dIxM_fz, dIxM_own, dFnN_M, dFnM_fz, dFnM_own, dOp, dUn, dArgs, dLst, dTup, dFn, dIsi, dMs, dPart, dSl, dIfE, Slot.known, tVal, tTru, tAnd, tOr, tNot, dAnd, dOr, dNot, dChain, iLst, iTup, iStr, iRng1, iRng2, iEnum, iZip, gN, gNs, gT, Tgt.g, tYes, wipeE, backE, dAVs, dCall, avSlot, AV.ok, Slot.isOwn, bA_nil, bA_v, bA_m, D.isRef, List.all_cons, List.all_nil, List.map_cons, List.map_nil, Bool.and_true, Bool.true_and, List.tail_cons, List.tail_nil, List.head?_cons, sNx, sSeq, sRet, sRetN, sExp, sAsg, sAsgO, sIf, sAug, sFor, sWh, sBrk, sCnt, sRaise, sApp, Slot.ownL, sPut, sPar, sParL, sFld, dFld, dMake, mkC, dMakeV, dCm, dObj, D.isObj, dCallV, dCallS, dEqO, dIsO, dDct0, isBD_bl, notBD_bl, revD_lst, sPar3, sTrys, catchD, DEnds.unname, repF, D.eqTo, at_0, at_s, at_nil, set_0, set_s, fzd, frd, if_true, if_false, Bool.not_true, Bool.not_false, true_and, and_true, Bool.false_eq_true, ↓reduceIte, lenF, lenD, allF, anyF, sumF, absF, intF, tupleF, swM, ewM, eqv_int, eqv_str, eqv_bl, D.isTy, Int.cast_ofNat_Int, addD_int, addD_str, addD_lst, iaddD_int, iaddD_str, subD_int, mulD_int, mulD_str, mulD_lst, fdivD_int, modD_int, powD_int, negD_int, eqD, neD_str, neD_int, ltD_int, leD_int, gtD_int, geD_int, isD, isnD, D.isNon, inDv, ninDv, ixD_lst, ixD_tup, ixD_str, slD_lst, slD_frl, slD_str, dLc, dLook, Slot.calm]
      have : validE t p c = false := by unfold validE; rw [h1, h2]; rfl
      rw [this] at hq
      exact hq _
    | true =>
      obtain ⟨x, rfl, hx, _⟩ := isWord_str h1
      obtain ⟨y, rfl, hy, _⟩ := isWord_str h2
      simp -implicitDefEqProofs only [runD, startE, outsE, outs_0, outs_s, List.length_cons, List.length_nil, List.cons_append, List.nil_append, List.replicate, Nat.sub_zero, Nat.add_one_sub_one, Nat.reduceSub, Nat.reduceAdd, dC, dVar_M, dVarM_fz, dVarM_own, dIxN_M, dIxM_fz, dIxM_own, dFnN_M, dFnM_fz, dFnM_own, dOp, dUn, dArgs, dLst, dTup, dFn, dIsi, dMs, dPart, dSl, dIfE, Slot.known, tVal, tTru, tAnd, tOr, tNot, dAnd, dOr, dNot, dChain, iLst, iTup, iStr, iRng1, iRng2, iEnum, iZip, gN, gNs, gT, Tgt.g, tYes, wipeE, backE, dAVs, dCall, avSlot, AV.ok, Slot.isOwn, bA_nil, bA_v, bA_m, D.isRef, List.all_cons, List.all_nil, List.map_cons, List.map_nil, Bool.and_true, Bool.true_and, List.tail_cons, List.tail_nil, List.head?_cons, sNx, sSeq, sRet, sRetN, sExp, sAsg, sAsgO, sIf, sAug, sFor, sWh, sBrk, sCnt, sRaise, sApp, Slot.ownL, sPut, sPar, sParL, sFld, dFld, dMake, mkC, dMakeV, dCm, dObj, D.isObj, dCallV, dCallS, dEqO, dIsO, dDct0, isBD_bl, notBD_bl, revD_lst, sPar3, sTrys, catchD, DEnds.unname, repF, D.eqTo, at_0, at_s, at_nil, set_0, set_s, fzd, frd, if_true, if_false, Bool.not_true, Bool.not_false, true_and, and_true, Bool.false_eq_true, ↓reduceIte, lenF, lenD, allF, anyF, sumF, absF, intF, tupleF, swM, ewM, eqv_int, eqv_str, eqv_bl, D.isTy, Int.cast_ofNat_Int, addD_int, addD_str, addD_lst, iaddD_int, iaddD_str, subD_int, mulD_int, mulD_str, mulD_lst, fdivD_int, modD_int, powD_int, negD_int, eqD, neD_str, neD_int, ltD_int, leD_int, gtD_int, geD_int, isD, isnD, D.isNon, inDv, ninDv, ixD_lst, ixD_tup, ixD_str, slD_lst, slD_frl, slD_str, dLc, dLook, Slot.calm]
      refine ⟨c, 0, x.length, rfl, hc, fun outs => ?_⟩
      simp -implicitDefEqProofs only [runD, startE, outsE, outs_0, outs_s, List.length_cons, List.length_nil, List.cons_append, List.nil_append, List.replicate, Nat.sub_zero, Nat.add_one_sub_one, Nat.reduceSub, Nat.reduceAdd, dC, dVar_M, dVarM_fz, dVarM_own, dIxN_M, dIxM_fz, dIxM_own, dFnN_M, dFnM_fz, dFnM_own, dOp, dUn, dArgs, dLst, dTup, dFn, dIsi, dMs, dPart, dSl, dIfE, Slot.known, tVal, tTru, tAnd, tOr, tNot, dAnd, dOr, dNot, dChain, iLst, iTup, iStr, iRng1, iRng2, iEnum, iZip, gN, gNs, gT, Tgt.g, tYes, wipeE, backE, dAVs, dCall, avSlot, AV.ok, Slot.isOwn, bA_nil, bA_v, bA_m, D.isRef, List.all_cons, List.all_nil, List.map_cons, List.map_nil, Bool.and_true, Bool.true_and, List.tail_cons, List.tail_nil, List.head?_cons, sNx, sSeq, sRet, sRetN, sExp, sAsg, sAsgO, sIf, sAug, sFor, sWh, sBrk, sCnt, sRaise, sApp, Slot.ownL, sPut, sPar, sParL, sFld, dFld, dMake, mkC, dMakeV, dCm, dObj, D.isObj, dCallV, dCallS, dEqO, dIsO, dDct0, isBD_bl, notBD_bl, revD_lst, sPar3, sTrys, catchD, DEnds.unname, repF, D.eqTo, at_0, at_s, at_nil, set_0, set_s, fzd, frd, if_true, if_false, Bool.not_true, Bool.not_false, true_and, and_true, Bool.false_eq_true, ↓reduceIte, lenF, lenD, allF, anyF, sumF, absF, intF, tupleF, swM, ewM, eqv_int, eqv_str, eqv_bl, D.isTy, Int.cast_ofNat_Int, addD_int, addD_str, addD_lst, iaddD_int, iaddD_str, subD_int, mulD_int, mulD_str, mulD_lst, fdivD_int, modD_int, powD_int, negD_int, eqD, neD_str, neD_int, ltD_int, leD_int, gtD_int, geD_int, isD, isnD, D.isNon, inDv, ninDv, ixD_lst, ixD_tup, ixD_str, slD_lst, slD_frl, slD_str, dLc, dLook, Slot.calm]
      cases h3 : inRange c 0 x.length with
      | false =>
        have : validE (.str x) (.str y) c = false := by
          unfold validE
          rw [h1, h2]
          cases c with
          | int i =>
            have h3 : (decide (0 ≤ i) && decide (i ≤ (x.length : Int))) = false := h3
            show (true && true && (decide (0 ≤ i) && decide (i ≤ (x.length : Int)) && suit x y i.toNat)) = false
            rw [h3]
            rfl
          | _ => rfl
        rw [this] at hq
        exact hq _
      | true =>
        cases c with
        | int i =>
          have h3 : (decide (0 ≤ i) && decide (i ≤ (x.length : Int))) = true := h3
          have h4 := h3
          rw [Bool.and_eq_true, decide_eq_true_eq, decide_eq_true_eq] at h4
          have hi : (i.toNat : Int) = i := Int.toNat_of_nonneg h4.1
          have : validE (.str x) (.str y) (.int i) = suit x y i.toNat := by
            unfold validE
            rw [h1, h2]
            show (true && true && (decide (0 ≤ i) && decide (i ≤ (x.length : Int)) && suit x y i.toNat)) = _
            rw [h3]
            rfl
          rw [this] at hq
          exact (if_pos rfl).mpr ⟨x, y, i.toNat, by rw [hi], fun outs => hq _⟩
        | _ => cases h3
def badPart (t p c : D) : Option Tx := if isWord t 2000 = false then some [116, 97, 107, 101, 115] else if isWord p 2000 = false then some [112, 117, 116, 115] else if validE t p c = false then some [99, 111, 114, 101] else none
/-- Effect.__init__: 0 self, 1 takes, 2 puts, 3 core -/
def b_Effect___init__ : DS := sSeq (sIf (tNot (tVal (dCall C_is_word [.v (dVar 1), .v (dC (.int 2000))]))) (sRaise 3 (dC (.str [116, 97, 107, 101, 115]))) (sNx)) (sSeq (sIf (tNot (tVal (dCall C_is_word [.v (dVar 2), .v (dC (.int 2000))]))) (sRaise 3 (dC (.str [112, 117, 116, 115]))) (sNx)) (sSeq (sIf (tNot (tVal (dCall C_Effect_is_valid [.v (dVar 1), .v (dVar 2), .v (dVar 3)]))) (sRaise 3 (dC (.str [99, 111, 114, 101]))) (sNx)) (sSeq (sFld 0 0 0 (dVar 1)) (sSeq (sFld 0 0 1 (dVar 2)) (sFld 0 0 2 (dVar 3))))))
def C_Effect___init__ : Con := fun args Q E => ∃ t p c, args = [.own (.obj 0 []), .fz t, .fz p, .fz c] ∧ t.plain ∧ p.plain ∧ c.plain ∧
  (badPart t p c = none → ∀ r o1 o2 o3, r.d = .non → Q r [.own (.obj 0 [t, p, c]), o1, o2, o3]) ∧ ∀ x, badPart t p c = some x → ∀ outs, E ⟨3, .str x⟩ outs
theorem p_Effect___init__ : ∀ args Q E, args.length = 4 → C_Effect___init__ args Q E → runD 4 b_Effect___init__ args Q E := by
  intro args Q E _ h
  obtain ⟨t, p, c, rfl, ht, hp, hc, hq, he⟩ := h
  unfold b_Effect___init__
  simp -implicitDefEqProofs only [runD, startE, outsE, outs_0, outs_s, List.length_cons, List.length_nil, List.cons_append, List.nil_append, List.replicate, Nat.sub_zero, Nat.add_one_sub_one, Nat.reduceSub, Nat.reduceAdd, dC, dVar_M, dVarM_fz, dVarM_own, dIxN_M, dIxM_fz, dIxM_own, dFnN_M, dFnM_fz, dFnM_own, dOp, dUn, dArgs, dLst, dTup, dFn, dIsi, dMs, dPart, dSl, dIfE, Slot.known, tVal, tTru, tAnd, tOr, tNot, dAnd, dOr, dNot, dChain, iLst, iTup, iStr, iRng1, iRng2, iEnum, iZip, gN, gNs, gT, Tgt.g, tYes, wipeE, backE, dAVs, dCall, avSlot, AV.ok, Slot.isOwn, bA_nil, bA_v, bA_m, D.isRef, List.all_cons, List.all_nil, List.map_cons, List.map_nil, Bool.and_true, Bool.true_and, List.tail_cons, List.tail_nil, List.head?_cons, sNx, sSeq, sRet, sRetN, sExp, sAsg, sAsgO, sIf, sAug, sFor, sWh, sBrk, sCnt, sRaise, sApp, Slot.ownL, sPut, sPar, sParL, sFld, dFld, dMake, mkC, dMakeV, dCm, dObj, D.isObj, dCallV, dCallS, dEqO, dIsO, dDct0, isBD_bl, notBD_bl, revD_lst, sPar3, sTrys, catchD, DEnds.unname, repF, D.eqTo, at_0, at_s, at_nil, set_0, set_s, fzd, frd, if_true, if_false, Bool.not_true, Bool.not_false, true_and, and_true, Bool.false_eq_true, ↓reduceIte, lenF, lenD, allF, anyF, sumF, absF, intF, tupleF, swM, ewM, eqv_int, eqv_str, eqv_bl, D.isTy, Int.cast_ofNat_Int, addD_int, addD_str, addD_lst, iaddD_int, iaddD_str, subD_int, mulD_int, mulD_str, mulD_lst, fdivD_int, modD_int, powD_int, negD_int, eqD, neD_str, neD_int, ltD_int, leD_int, gtD_int, geD_int, isD, isnD, D.isNon, inDv, ninDv, ixD_lst, ixD_tup, ixD_str, slD_lst, slD_frl, slD_str, dLc, dLook, Slot.calm]
  refine ⟨t, 2000, rfl, ht, by decide, fun outs => ?_⟩
  simp -implicitDefEqProofs only [runD, startE, outsE, outs_0, outs_s, List.length_cons, List.length_nil, List.cons_append, List.nil_append, List.replicate, Nat.sub_zero, Nat.add_one_sub_one, Nat.reduceSub, Nat.reduceAdd, dC, dVar_M, dVarM_fz, dVarM_own, dIxN_M, dIxM_fz, dIxM_own, dFnN_M, dFnM_fz, dFnM_own, dOp, dUn, dArgs, dLst, dTup, dFn, dIsi, dMs, dPart, dSl, dIfE, Slot.known, tVal, tTru, tAnd, tOr, tNot, dAnd, dOr, dNot, dChain, iLst, iTup, iStr, iRng1, iRng2, iEnum, iZip, gN, gNs, gT, Tgt.g, tYes, wipeE, backE, dAVs, dCall, avSlot, AV.ok, Slot.isOwn, bA_nil, bA_v, bA_m, D.isRef, List.all_cons, List.all_nil, List.map_cons, List.map_nil, Bool.and_true, Bool.true_and, List.tail_cons, List.tail_nil, List.head?_cons, sNx, sSeq, sRet, sRetN, sExp, sAsg, sAsgO, sIf, sAug, sFor, sWh, sBrk, sCnt, sRaise, sApp, Slot.ownL, sPut, sPar, sParL, sFld, dFld, dMake, mkC, dMakeV, dCm, dObj, D.isObj, dCallV, dCallS, dEqO, dIsO, dDct0, isBD_bl, notBD_bl, revD_lst, sPar3, sTrys, catchD, DEnds.unname, repF, D.eqTo, at_0, at_s, at_nil, set_0, set_s, fzd, frd, if_true, if_false, Bool.not_true, Bool.not_false, true_and, and_true, Bool.false_eq_true, ↓reduceIte, lenF, lenD, allF, anyF, sumF, absF, intF, tupleF, swM, ewM, eqv_int, eqv_str, eqv_bl, D.isTy, Int.cast_ofNat_Int, addD_int, addD_str, addD_lst, iaddD_int, iaddD_str, subD_int, mulD_int, mulD_str, mulD_lst, fdivD_int, modD_int, powD_int, negD_int, eqD, neD_str, neD_int, ltD_int, leD_int, gtD_int, geD_int, isD, isnD, D.isNon, inDv, ninDv, ixD_lst, ixD_tup, ixD_str, slD_lst, slD_frl, slD_str, dLc, dLook, Slot.calm]
  cases h1 : isWord t 2000 with
  | false => exact he _ (by unfold badPart; rw [if_pos h1]) _
  | true =>
    simp -implicitDefEqProofs only [runD, startE, outsE, outs_0, outs_s, List.length_cons, List.length_nil, List.cons_append, List.nil_append, List.replicate, Nat.sub_zero, Nat.add_one_sub_one, Nat.reduceSub, Nat.reduceAdd, dC, dVar_M, dVarM_fz, dVarM_own, dIxN_M, dIxM_fz, dIxM_own, dFnN_M, dFnM_fz, dFnM_own, dOp, dUn, dArgs, dLst, dTup, dFn, dIsi, dMs, dPart, dSl, dIfE, Slot.known, tVal, tTru, tAnd, tOr, tNot, dAnd, dOr, dNot, dChain, iLst, iTup, iStr, iRng1, iRng2, iEnum, iZip, gN, gNs, gT, Tgt.g, tYes, wipeE, backE, dAVs, dCall, avSlot, AV.ok, Slot.isOwn, bA_nil, bA_v, bA_m, D.isRef, List.all_cons, List.all_nil, List.map_cons, List.map_nil, Bool.and_true, Bool.true_and, List.tail_cons, List.tail_nil, List.head?_cons, sNx, sSeq, sRet, sRetN, sExp, sAsg, sAsgO, sIf, sAug, sFor, sWh, sBrk, sCnt, sRaise, sApp, Slot.ownL, sPut, sPar, sParL, sFld, dFld, dMake, mkC, dMakeV, dCm, dObj, D.isObj, dCallV, dCallS, dEqO, dIsO, dDct0, isBD_bl, notBD_bl, revD_lst, sPar3, sTrys, catchD, DEnds.unname, repF, D.eqTo, at_0, at_s, at_nil, set_0, set_s, fzd, frd, if_true, if_false, Bool.not_true, Bool.not_false, true_and, and_true, Bool.false_eq_true, ↓reduceIte, lenF, lenD, allF, anyF, sumF, absF, intF, tupleF, swM, ewM, eqv_int, eqv_str, eqv_bl, D.isTy, Int.cast_ofNat_Int, addD_int, addD_str, addD_lst, iaddD_int, iaddD_str, subD_int, mulD_int, mulD_str, mulD_lst, fdivD_int, modD_int, powD_int, negD_int, eqD, neD_str, neD_int, ltD_int, leD_int, gtD_int, geD_int, isD, isnD, D.isNon, inDv, ninDv, ixD_lst, ixD_tup, ixD_str, slD_lst, slD_frl, slD_str, dLc, dLook, Slot.calm]
    refine ⟨p, 2000, rfl, hp, by decide, fun outs => ?_⟩
    simp -implicitDefEqProofs only [runD, startE, outsE, outs_0, outs_s, List.length_cons, List.length_nil, List.cons_append, List.nil_append, List.replicate, Nat.sub_zero, Nat.add_one_sub_one, Nat.reduceSub, Nat.reduceAdd, dC, dVar_M, dVarM_fz, dVarM_own, dIxN_M, dIxM_fz, dIxM_own, dFnN_M, dFnM_fz, dFnM_own, dOp, dUn, dArgs, dLst, dTup, dFn, dIsi, dMs, dPart, dSl, dIfE, Slot.known, tVal, tTru, tAnd, tOr, tNot, dAnd, dOr, dNot, dChain, iLst, iTup, iStr, iRng1, iRng2, iEnum, iZip, gN, gNs, gT, Tgt.g, tYes, wipeE, backE, dAVs, dCall, avSlot, AV.ok, Slot.isOwn, bA_nil, bA_v, bA_m, D.isRef, List.all_cons, List.all_nil, List.map_cons, List.map_nil, Bool.and_true, Bool.true_and, List.tail_cons, List.tail_nil, List.head?_cons, sNx, sSeq, sRet, sRetN, sExp, sAsg, sAsgO, sIf, sAug, sFor, sWh, sBrk, sCnt, sRaise, sApp, Slot.ownL, sPut, sPar, sParL, sFld, dFld, dMake, mkC, dMakeV, dCm, dObj, D.isObj, dCallV, dCallS, dEqO, dIsO, dDct0, isBD_bl, notBD_bl, revD_lst, sPar3, sTrys, catchD, DEnds.unname, repF, D.eqTo, at_0, at_s, at_nil, set_0, set_s, fzd, frd, if_true, if_false, Bool.not_true, Bool.not_false, true_and, and_true, Bool.false_eq_true, ↓reduceIte, lenF, lenD, allF, anyF, sumF, absF, intF, tupleF, swM, ewM, eqv_int, eqv_str, eqv_bl, D.isTy, Int.cast_ofNat_Int, addD_int, addD_str, addD_lst, iaddD_int, iaddD_str, subD_int, mulD_int, mulD_str, mulD_lst, fdivD_int, modD_int, powD_int, negD_int, eqD, neD_str, neD_int, ltD_int, leD_int, gtD_int, geD_int, isD, isnD, D.isNon, inDv, ninDv, ixD_lst, ixD_tup, ixD_str, slD_lst, slD_frl, slD_str, dLc, dLook, Slot.calm]
    cases h2 : isWord p 2000 with
    | false => exact he _ (by unfold badPart; rw [if_neg (by rw [h1]; decide), if_pos h2]) _
    | true =>
      simp -implicitDefEqProofs only [runD, startE, outsE, outs_0, outs_s, List.length_cons, List.length_nil, List.cons_append, List.nil_append, List.replicate, Nat.sub_zero, Nat.add_one_sub_one, Nat.reduceSub, Nat.reduceAdd, dC, dVar_M, dVarM_fz, dVarM_own, dIxN_M, dIxM_fz, dIxM_own, dFnN_M, dFnM_fz, dFnM_own, dOp, dUn, dArgs, dLst, dTup, dFn, dIsi, dMs, dPart, dSl, dIfE, Slot.known, tVal, tTru, tAnd, tOr, tNot, dAnd, dOr, dNot, dChain, iLst, iTup, iStr, iRng1, iRng2, iEnum, iZip, gN, gNs, gT, Tgt.g, tYes, wipeE, backE, dAVs, dCall, avSlot, AV.ok, Slot.isOwn, bA_nil, bA_v, bA_m, D.isRef, List.all_cons, List.all_nil, List.map_cons, List.map_nil, Bool.and_true, Bool.true_and, List.tail_cons, List.tail_nil, List.head?_cons, sNx, sSeq, sRet, sRetN, sExp, sAsg, sAsgO, sIf, sAug, sFor, sWh, sBrk, sCnt, sRaise, sApp, Slot.ownL, sPut, sPar, sParL, sFld, dFld, dMake, mkC, dMakeV, dCm, dObj, D.isObj, dCallV, dCallS, dEqO, dIsO, dDct0, isBD_bl, notBD_bl, revD_lst, sPar3, sTrys, catchD, DEnds.unname, repF, D.eqTo, at_0, at_s, at_nil, set_0, set_s, fzd, frd, if_true, if_false, Bool.not_true, Bool.not_false, true_and, and_true, Bool.false_eq_true, ↓reduceIte, lenF, lenD, allF, anyF, sumF, absF, intF, tupleF, swM, ewM, eqv_int, eqv_str, eqv_bl, D.isTy, Int.cast_ofNat_Int, addD_int, addD_str, addD_lst, iaddD_int, iaddD_str, subD_int, mulD_int, mulD_str, mulD_lst, fdivD_int, modD_int, powD_int, negD_int, eqD, neD_str, neD_int, ltD_int, leD_int, gtD_int, geD_int, isD, isnD, D.isNon, inDv, ninDv, ixD_lst, ixD_tup, ixD_str, slD_lst, slD_frl, slD_str, dLc, dLook, Slot.calm]
      refine ⟨t, p, c, rfl, ht, hp, hc, fun outs => ?_⟩
      simp -implicitDefEqProofs only [runD, startE, outsE, outs_0, outs_s, List.length_cons, List.length_nil, List.cons_append, List.nil_append, List.replicate, Nat.sub_zero, Nat.add_one_sub_one, Nat.reduceSub, Nat.reduceAdd, dC, dVar_M, dVarM_fz, dVarM_own, dIxN_M, dIxM_fz, dIxM_own, dFnN_M, dFnM_fz, dFnM_own, dOp, dUn, dArgs, dLst, dTup, dFn, dIsi, dMs, dPart, dSl, dIfE, Slot.known, tVal, tTru, tAnd, tOr, tNot, dAnd, dOr, dNot, dChain, iLst, iTup, iStr, iRng1, iRng2, iEnum, iZip, gN, gNs, gT, Tgt.g, tYes, wipeE, backE, dAVs, dCall, avSlot, AV.ok, Slot.isOwn, bA_nil, bA_v, bA_m, D.isRef, List.all_cons, List.all_nil, List.map_cons, List.map_nil, Bool.and_true, Bool.true_and, List.tail_cons, List.tail_nil, List.head?_cons, sNx, sSeq, sRet, sRetN, sExp, sAsg, sAsgO, sIf, sAug, sFor, sWh, sBrk, sCnt, sRaise, sApp, Slot.ownL, sPut, sPar, sParL, sFld, dFld, dMake, mkC, dMakeV, dCm, dObj, D.isObj, dCallV, dCallS, dEqO, dIsO, dDct0, isBD_bl, notBD_bl, revD_lst, sPar3, sTrys, catchD, DEnds.unname, repF, D.eqTo, at_0, at_s, at_nil, set_0, set_s, fzd, frd, if_true, if_false, Bool.not_true, Bool.not_false, true_and, and_true, Bool.false_eq_true, ↓reduceIte, lenF, lenD, allF, anyF, sumF, absF, intF, tupleF, swM, ewM, eqv_int, eqv_str, eqv_bl, D.isTy, Int.cast_ofNat_Int, addD_int, addD_str, addD_lst, iaddD_int, iaddD_str, subD_int, mulD_int, mulD_str, mulD_lst, fdivD_int, modD_int, powD_int, negD_int, eqD, neD_str, neD_int, ltD_int, leD_int, gtD_int, geD_int, isD, isnD, D.isNon, inDv, ninDv, ixD_lst, ixD_tup, ixD_str, slD_lst, slD_frl, slD_str, dLc, dLook, Slot.calm]
      cases h3 : validE t p c with
      | false => exact he _ (by unfold badPart; rw [if_neg (by rw [h1]; decide), if_neg (by rw [h2]; decide), if_pos h3]) _
      | true =>
        have hb : badPart t p c = none := by unfold badPart; rw [if_neg (by rw [h1]; decide), if_neg (by rw [h2]; decide), if_neg (by rw [h3]; decide)]
        exact ⟨Nat.le_refl 0, Nat.le_refl 1, Nat.le_refl 2, hq hb _ _ _ _ rfl⟩
/-- the least suitable number from n on, in f tries -/
def leastS (t p : Tx) : Nat → Nat → Nat
  | 0, n => n
  | f + 1, n => if suit t p n = true then n else leastS t p f (n + 1)
def leastOf (t p : Tx) (n : Nat) : Nat := leastS t p (t.length - n) n
theorem suit_big {t p : Tx} {n : Nat} (h : t.length ≤ n) : suit t p n = true := by unfold suit; rw [decide_eq_true h]; rfl
theorem leastOf_yes {t p : Tx} {n : Nat} (h : suit t p n = true) : leastOf t p n = n := by
  unfold leastOf
  cases e : t.length - n with
  | zero => rfl
  | succ f => rw [leastS, if_pos h]
theorem leastOf_no {t p : Tx} {n : Nat} (h : suit t p n = false) : leastOf t p n = leastOf t p (n + 1) := by
  unfold leastOf
  have hn : n < t.length := by
    by_cases q : t.length ≤ n
    · rw [suit_big q] at h; cases h
    · omega
  have e : t.length - n = (t.length - (n + 1)) + 1 := by omega
  rw [e, leastS, if_neg (by rw [h]; decide)]
/-- least_suitable: 0 takes, 1 puts, 2 least, 3 number -/
def b_least_suitable : DS := sSeq (sAsg (gN 3) (dVar 2)) (sSeq (sWh (tNot (tVal (dCall C_is_suitable [.v (dVar 0), .v (dVar 1), .v (dVar 3)]))) (sAug 3 iaddD (dC (.int 1)))) (sRet (dVar 3)))
def C_least_suitable : Con := fun args Q _ => ∃ (t p : Tx) (n : Nat), args = [.fz (.str t), .fz (.str p), .fz (.int n)] ∧ ∀ outs, Q (.fz (.int (leastOf t p n))) outs
theorem p_least_suitable : ∀ args Q E, args.length = 3 → C_least_suitable args Q E → runD 4 b_least_suitable args Q E := by
  intro args Q E _ h
  obtain ⟨t, p, n, rfl, hq⟩ := h
  unfold b_least_suitable
  simp -implicitDefEqProofs only [runD, startE, outsE, outs_0, outs_s, List.length_cons, List.length_nil, List.cons_append, List.nil_append, List.replicate, Nat.sub_zero, Nat.add_one_sub_one, Nat.reduceSub, Nat.reduceAdd, dC, dVar_M, dVarM_fz, dVarM_own, dIxN_M, dIxM_fz, dIxM_own, dFnN_M, dFnM_fz, dFnM_own, dOp, dUn, dArgs, dLst, dTup, dFn, dIsi, dMs, dPart, dSl, dIfE, Slot.known, tVal, tTru, tAnd, tOr, tNot, dAnd, dOr, dNot, dChain, iLst, iTup, iStr, iRng1, iRng2, iEnum, iZip, gN, gNs, gT, Tgt.g, tYes, wipeE, backE, dAVs, dCall, avSlot, AV.ok, Slot.isOwn, bA_nil, bA_v, bA_m, D.isRef, List.all_cons, List.all_nil, List.map_cons, List.map_nil, Bool.and_true, Bool.true_and, List.tail_cons, List.tail_nil, List.head?_cons, sNx, sSeq, sRet, sRetN, sExp, sAsg, sAsgO, sIf, sAug, sFor, sWh, sBrk, sCnt, sRaise, sApp, Slot.ownL, sPut, sPar, sParL, sFld, dFld, dMake, mkC, dMakeV, dCm, dObj, D.isObj, dCallV, dCallS, dEqO, dIsO, dDct0, isBD_bl, notBD_bl, revD_lst, sPar3, sTrys, catchD, DEnds.unname, repF, D.eqTo, at_0, at_s, at_nil, set_0, set_s, fzd, frd, if_true, if_false, Bool.not_true, Bool.not_false, true_and, and_true, Bool.false_eq_true, ↓reduceIte, lenF, lenD, allF, anyF, sumF, absF, intF, tupleF, swM, ewM, eqv_int, eqv_str, eqv_bl, D.isTy, Int.cast_ofNat_Int, addD_int, addD_str, addD_lst, iaddD_int, iaddD_str, subD_int, mulD_int, mulD_str, mulD_lst, fdivD_int, modD_int, powD_int, negD_int, eqD, neD_str, neD_int, ltD_int, leD_int, gtD_int, geD_int, isD, isnD, D.isNon, inDv, ninDv, ixD_lst, ixD_tup, ixD_str, slD_lst, slD_frl, slD_str, dLc, dLook, Slot.calm]
  refine whL_inv (I := fun m ρ => ∃ j : Nat, ρ = [.fz (.str t), .fz (.str p), .fz (.int n), .fz (.int j)] ∧ m = t.length - j ∧ leastOf t p j = leastOf t p n) (fun m ρ h k hk => ?_) (t.length - n) _ ⟨n, rfl, rfl, rfl⟩
  obtain ⟨j, rfl, hm, hj⟩ := h
  simp -implicitDefEqProofs only [runD, startE, outsE, outs_0, outs_s, List.length_cons, List.length_nil, List.cons_append, List.nil_append, List.replicate, Nat.sub_zero, Nat.add_one_sub_one, Nat.reduceSub, Nat.reduceAdd, dC, dVar_M, dVarM_fz, dVarM_own, dIxN_M, dIxM_fz, dIxM_own, dFnN_M, dFnM_fz, dFnM_own, dOp, dUn, dArgs, dLst, dTup, dFn, dIsi, dMs, dPart, dSl, dIfE, Slot.known, tVal, tTru, tAnd, tOr, tNot, dAnd, dOr, dNot, dChain, iLst, iTup, iStr, iRng1, iRng2, iEnum, iZip, gN, gNs, gT, Tgt.g, tYes, wipeE, backE, dAVs, dCall, avSlot, AV.ok, Slot.isOwn, bA_nil, bA_v, bA_m, D.isRef, List.all_cons, List.all_nil, List.map_cons, List.map_nil, Bool.and_true, Bool.true_and, List.tail_cons, List.tail_nil, List.head?_cons, sNx, sSeq, sRet, sRetN, sExp, sAsg, sAsgO, sIf, sAug, sFor, sWh, sBrk, sCnt, sRaise, sApp, Slot.ownL, sPut, sPar, sParL, sFld, dFld, dMake, mkC, dMakeV, dCm, dObj, D.isObj, dCallV, dCallS, dEqO, dIsO, dDct0, isBD_bl, notBD_bl, revD_lst, sPar3, sTrys, catchD, DEnds.unname, repF, D.eqTo, at_0, at_s, at_nil, set_0, set_s, fzd, frd, if_true, if_false, Bool.not_true, Bool.not_false, true_and, and_true, Bool.false_eq_true, ↓reduceIte, lenF, lenD, allF, anyF, sumF, absF, intF, tupleF, swM, ewM, eqv_int, eqv_str, eqv_bl, D.isTy, Int.cast_ofNat_Int, addD_int, addD_str, addD_lst, iaddD_int, iaddD_str, subD_int, mulD_int, mulD_str, mulD_lst, fdivD_int, modD_int, powD_int, negD_int, eqD, neD_str, neD_int, ltD_int, leD_int, gtD_int, geD_int, isD, isnD, D.isNon, inDv, ninDv, ixD_lst, ixD_tup, ixD_str, slD_lst, slD_frl, slD_str, dLc, dLook, Slot.calm]
  refine ⟨t, p, j, rfl, fun outs => ?_⟩
  simp -implicitDefEqProofs only [runD, startE, outsE, outs_0, outs_s, List.length_cons, List.length_nil, List.cons_append, List.nil_append, List.replicate, Nat.sub_zero, Nat.add_one_sub_one, Nat.reduceSub, Nat.reduceAdd, dC, dVar_M, dVarM_fz, dVarM_own, dIxN_M, dIxM_fz, dIxM_own, dFnN_M, dFnM_fz, dFnM_own, dOp, dUn, dArgs, dLst, dTup, dFn, dIsi, dMs, dPart, dSl, dIfE, Slot.known, tVal, tTru, tAnd, tOr, tNot, dAnd, dOr, dNot, dChain, iLst, iTup, iStr, iRng1, iRng2, iEnum, iZip, gN, gNs, gT, Tgt.g, tYes, wipeE, backE, dAVs, dCall, avSlot, AV.ok, Slot.isOwn, bA_nil, bA_v, bA_m, D.isRef, List.all_cons, List.all_nil, List.map_cons, List.map_nil, Bool.and_true, Bool.true_and, List.tail_cons, List.tail_nil, List.head?_cons, sNx, sSeq, sRet, sRetN, sExp, sAsg, sAsgO, sIf, sAug, sFor, sWh, sBrk, sCnt, sRaise, sApp, Slot.ownL, sPut, sPar, sParL, sFld, dFld, dMake, mkC, dMakeV, dCm, dObj, D.isObj, dCallV, dCallS, dEqO, dIsO, dDct0, isBD_bl, notBD_bl, revD_lst, sPar3, sTrys, catchD, DEnds.unname, repF, D.eqTo, at_0, at_s, at_nil, set_0, set_s, fzd, frd, if_true, if_false, Bool.not_true, Bool.not_false, true_and, and_true, Bool.false_eq_true, ↓reduceIte, lenF, lenD, allF, anyF, sumF, absF, intF, tupleF, swM, ewM, eqv_int, eqv_str, eqv_bl, D.isTy, Int.cast_ofNat_Int, addD_int, addD_str, addD_lst, iaddD_int, iaddD_str, subD_int, mulD_int, mulD_str, mulD_lst, fdivD_int, modD_int, powD_int, negD_int, eqD, neD_str, neD_int, ltD_int, leD_int, gtD_int, geD_int, isD, isnD, D.isNon, inDv, ninDv, ixD_lst, ixD_tup, ixD_str, slD_lst, slD_frl, slD_str, dLc, dLook, Slot.calm]
  cases h1 : suit t p j with
  | true =>
    simp -implicitDefEqProofs only [runD, startE, outsE, outs_0, outs_s, List.length_cons, List.length_nil, List.cons_append, List.nil_append, List.replicate, Nat.sub_zero, Nat.add_one_sub_one, Nat.reduceSub, Nat.reduceAdd, dC, dVar_M, dVarM_fz, dVarM_own, dIxN_M, dIxM_fz, dIxM_own, dFnN_M, dFnM_fz, dFnM_own, dOp, dUn, dArgs, dLst, dTup, dFn, dIsi, dMs, dPart, dSl, dIfE, Slot.known, tVal, tTru, tAnd, tOr, tNot, dAnd, dOr, dNot, dChain, iLst, iTup, iStr, iRng1, iRng2, iEnum, iZip, gN, gNs, gT, Tgt.g, tYes, wipeE, backE, dAVs, dCall, avSlot, AV.ok, Slot.isOwn, bA_nil, bA_v, bA_m, D.isRef, List.all_cons, List.all_nil, List.map_cons, List.map_nil, Bool.and_true, Bool.true_and, List.tail_cons, List.tail_nil, List.head?_cons, sNx, sSeq, sRet, sRetN, sExp, sAsg, sAsgO, sIf, sAug, sFor, sWh, sBrk, sCnt, sRaise, sApp, Slot.ownL, sPut, sPar, sParL, sFld, dFld, dMake, mkC, dMakeV, dCm, dObj, D.isObj, dCallV, dCallS, dEqO, dIsO, dDct0, isBD_bl, notBD_bl, revD_lst, sPar3, sTrys, catchD, DEnds.unname, repF, D.eqTo, at_0, at_s, at_nil, set_0, set_s, fzd, frd, if_true, if_false, Bool.not_true, Bool.not_false, true_and, and_true, Bool.false_eq_true, ↓reduceIte, lenF, lenD, allF, anyF, sumF, absF, intF, tupleF, swM, ewM, eqv_int, eqv_str, eqv_bl, D.isTy, Int.cast_ofNat_Int, addD_int, addD_str, addD_lst, iaddD_int, iaddD_str, subD_int, mulD_int, mulD_str, mulD_lst, fdivD_int, modD_int, powD_int, negD_int, eqD, neD_str, neD_int, ltD_int, leD_int, gtD_int, geD_int, isD, isnD, D.isNon, inDv, ninDv, ixD_lst, ixD_tup, ixD_str, slD_lst, slD_frl, slD_str, dLc, dLook, Slot.calm]
    rw [leastOf_yes h1] at hj
    rw [hj]
    exact hq _
  | false =>
    simp -implicitDefEqProofs only [runD, startE, outsE, outs_0, outs_s, List.length_cons, List.length_nil, List.cons_append, List.nil_append, List.replicate, Nat.sub_zero, Nat.add_one_sub_one, Nat.reduceSub, Nat.reduceAdd, dC, dVar_M, dVarM_fz, dVarM_own, dIxN_M, dIxM_fz, dIxM_own, dFnN_M, dFnM_fz, dFnM_own, dOp, dUn, dArgs, dLst, dTup, dFn, dIsi, dMs, dPart, dSl, dIfE, Slot.known, tVal, tTru, tAnd, tOr, tNot, dAnd, dOr, dNot, dChain, iLst, iTup, iStr, iRng1, iRng2, iEnum, iZip, gN, gNs, gT, Tgt.g, tYes, wipeE, backE, dAVs, dCall, avSlot, AV.ok, Slot.isOwn, bA_nil, bA_v, bA_m, D.isRef, List.all_cons, List.all_nil, List.map_cons, List.map_nil, Bool.and_true, Bool.true_and, List.tail_cons, List.tail_nil, List.head?_cons, sNx, sSeq, sRet, sRetN, sExp, sAsg, sAsgO, sIf, sAug, sFor, sWh, sBrk, sCnt, sRaise, sApp, Slot.ownL, sPut, sPar, sParL, sFld, dFld, dMake, mkC, dMakeV, dCm, dObj, D.isObj, dCallV, dCallS, dEqO, dIsO, dDct0, isBD_bl, notBD_bl, revD_lst, sPar3, sTrys, catchD, DEnds.unname, repF, D.eqTo, at_0, at_s, at_nil, set_0, set_s, fzd, frd, if_true, if_false, Bool.not_true, Bool.not_false, true_and, and_true, Bool.false_eq_true, ↓reduceIte, lenF, lenD, allF, anyF, sumF, absF, intF, tupleF, swM, ewM, eqv_int, eqv_str, eqv_bl, D.isTy, Int.cast_ofNat_Int, addD_int, addD_str, addD_lst, iaddD_int, iaddD_str, subD_int, mulD_int, mulD_str, mulD_lst, fdivD_int, modD_int, powD_int, negD_int, eqD, neD_str, neD_int, ltD_int, leD_int, gtD_int, geD_int, isD, isnD, D.isNon, inDv, ninDv, ixD_lst, ixD_tup, ixD_str, slD_lst, slD_frl, slD_str, dLc, dLook, Slot.calm]
    have hn : j < t.length := by
      by_cases q : t.length ≤ j
      · rw [suit_big q] at h1; cases h1
      · omega
    exact hk (t.length - (j + 1)) _ (by omega) ⟨j + 1, rfl, rfl, by rw [← leastOf_no h1]; exact hj⟩
/-- the depths at the takes -/
def depthsL : List St2 → Int → List Int
  | [], _ => []
  | s :: ss, d => if s.1 == 45 then (d + 1) :: depthsL ss (d + 1) else depthsL ss (d - 1)
/-- depths: 0 steps, 1 found, 2 depth, 3 step -/
def b_depths : DS := sSeq (sAsgO 1 (dLst [])) (sSeq (sAsg (gN 2) (dC (.int 0))) (sSeq (sFor (iLst (dVar 0)) (gN 3) (sSeq (sAug 2 iaddD (dIfE (tVal (dOp eqD (dOp ixD (dVar 3) (dC (.int 0))) (dC (.str [45])))) (dC (.int 1)) (dUn negD (dC (.int 1))))) (sIf (tVal (dOp eqD (dOp ixD (dVar 3) (dC (.int 0))) (dC (.str [45])))) (sApp 1 (dVar 2)) (sNx)))) (sRet (dVar 1))))
def C_depths : Con := fun args Q _ => ∃ ss, args = [.fz (seqD ss)] ∧ ss.length ≤ 1000000 ∧ ∀ r outs, r.d = .lst ((depthsL ss 0).map D.int) → Q r outs
theorem p_depths : ∀ args Q E, args.length = 1 → C_depths args Q E → runD 4 b_depths args Q E := by
  intro args Q E _ h
  obtain ⟨ss, rfl, hl, hq⟩ := h
  unfold b_depths
  simp -implicitDefEqProofs only [runD, startE, outsE, outs_0, outs_s, List.length_cons, List.length_nil, List.cons_append, List.nil_append, List.replicate, Nat.sub_zero, Nat.add_one_sub_one, Nat.reduceSub, Nat.reduceAdd, dC, dVar_M, dVarM_fz, dVarM_own, dIxN_M, dIxM_fz, dIxM_own, dFnN_M, dFnM_fz, dFnM_own, dOp, dUn, dArgs, dLst, dTup, dFn, dIsi, dMs, dPart, dSl, dIfE, Slot.known, tVal, tTru, tAnd, tOr, tNot, dAnd, dOr, dNot, dChain, iLst, iTup, iStr, iRng1, iRng2, iEnum, iZip, gN, gNs, gT, Tgt.g, tYes, wipeE, backE, dAVs, dCall, avSlot, AV.ok, Slot.isOwn, bA_nil, bA_v, bA_m, D.isRef, List.all_cons, List.all_nil, List.map_cons, List.map_nil, Bool.and_true, Bool.true_and, List.tail_cons, List.tail_nil, List.head?_cons, sNx, sSeq, sRet, sRetN, sExp, sAsg, sAsgO, sIf, sAug, sFor, sWh, sBrk, sCnt, sRaise, sApp, Slot.ownL, sPut, sPar, sParL, sFld, dFld, dMake, mkC, dMakeV, dCm, dObj, D.isObj, dCallV, dCallS, dEqO, dIsO, dDct0, isBD_bl, notBD_bl, revD_lst, sPar3, sTrys, catchD, DEnds.unname, repF, D.eqTo, at_0, at_s, at_nil, set_0, set_s, fzd, frd, if_true, if_false, Bool.not_true, Bool.not_false, true_and, and_true, Bool.false_eq_true, ↓reduceIte, lenF, lenD, allF, anyF, sumF, absF, intF, tupleF, swM, ewM, eqv_int, eqv_str, eqv_bl, D.isTy, Int.cast_ofNat_Int, addD_int, addD_str, addD_lst, iaddD_int, iaddD_str, subD_int, mulD_int, mulD_str, mulD_lst, fdivD_int, modD_int, powD_int, negD_int, eqD, neD_str, neD_int, ltD_int, leD_int, gtD_int, geD_int, isD, isnD, D.isNon, inDv, ninDv, ixD_lst, ixD_tup, ixD_str, slD_lst, slD_frl, slD_str, dLc, dLook, Slot.calm]
  refine ⟨by decide, ?_⟩
  unfold seqD
  simp -implicitDefEqProofs only [runD, startE, outsE, outs_0, outs_s, List.length_cons, List.length_nil, List.cons_append, List.nil_append, List.replicate, Nat.sub_zero, Nat.add_one_sub_one, Nat.reduceSub, Nat.reduceAdd, dC, dVar_M, dVarM_fz, dVarM_own, dIxN_M, dIxM_fz, dIxM_own, dFnN_M, dFnM_fz, dFnM_own, dOp, dUn, dArgs, dLst, dTup, dFn, dIsi, dMs, dPart, dSl, dIfE, Slot.known, tVal, tTru, tAnd, tOr, tNot, dAnd, dOr, dNot, dChain, iLst, iTup, iStr, iRng1, iRng2, iEnum, iZip, gN, gNs, gT, Tgt.g, tYes, wipeE, backE, dAVs, dCall, avSlot, AV.ok, Slot.isOwn, bA_nil, bA_v, bA_m, D.isRef, List.all_cons, List.all_nil, List.map_cons, List.map_nil, Bool.and_true, Bool.true_and, List.tail_cons, List.tail_nil, List.head?_cons, sNx, sSeq, sRet, sRetN, sExp, sAsg, sAsgO, sIf, sAug, sFor, sWh, sBrk, sCnt, sRaise, sApp, Slot.ownL, sPut, sPar, sParL, sFld, dFld, dMake, mkC, dMakeV, dCm, dObj, D.isObj, dCallV, dCallS, dEqO, dIsO, dDct0, isBD_bl, notBD_bl, revD_lst, sPar3, sTrys, catchD, DEnds.unname, repF, D.eqTo, at_0, at_s, at_nil, set_0, set_s, fzd, frd, if_true, if_false, Bool.not_true, Bool.not_false, true_and, and_true, Bool.false_eq_true, ↓reduceIte, lenF, lenD, allF, anyF, sumF, absF, intF, tupleF, swM, ewM, eqv_int, eqv_str, eqv_bl, D.isTy, Int.cast_ofNat_Int, addD_int, addD_str, addD_lst, iaddD_int, iaddD_str, subD_int, mulD_int, mulD_str, mulD_lst, fdivD_int, modD_int, powD_int, negD_int, eqD, neD_str, neD_int, ltD_int, leD_int, gtD_int, geD_int, isD, isnD, D.isNon, inDv, ninDv, ixD_lst, ixD_tup, ixD_str, slD_lst, slD_frl, slD_str, dLc, dLook, Slot.calm]
  refine forL_inv (I := fun es ρ => ∃ ts acc d s3, es = ts.map stepD ∧ ρ = [.fz (.lst (ss.map stepD)), .own (.lst (acc.map D.int)), .fz (.int d), s3] ∧ acc ++ depthsL ts d = depthsL ss 0 ∧ acc.length + ts.length ≤ 1000000) (fun ρ h => ?_) (fun x es ρ h k hk => ?_) _ _ ⟨ss, [], 0, .no, rfl, rfl, rfl, by simpa using hl⟩
  · obtain ⟨ts, acc, d, s3, h1, rfl, h2, h3⟩ := h
    cases ts with
    | nil =>
      simp -implicitDefEqProofs only [runD, startE, outsE, outs_0, outs_s, List.length_cons, List.length_nil, List.cons_append, List.nil_append, List.replicate, Nat.sub_zero, Nat.add_one_sub_one, Nat.reduceSub, Nat.reduceAdd, dC, dVar_M, dVarM_fz, dVarM_own, dIxN_M, dIxM_fz, dIxM_own, dFnN_M, dFnM_fz, dFnM_own, dOp, dUn, dArgs, dLst, dTup, dFn, dIsi, dMs, dPart, dSl, dIfE, Slot.known, tVal, tTru, tAnd, tOr, tNot, dAnd, dOr, dNot, dChain, iLst, iTup, iStr, iRng1, iRng2, iEnum, iZip, gN, gNs, gT, Tgt.g, tYes, wipeE, backE, dAVs, dCall, avSlot, AV.ok, Slot.isOwn, bA_nil, bA_v, bA_m, D.isRef, List.all_cons, List.all_nil, List.map_cons, List.map_nil, Bool.and_true, Bool.true_and, List.tail_cons, List.tail_nil, List.head?_cons, sNx, sSeq, sRet, sRetN, sExp, sAsg, sAsgO, sIf, sAug, sFor, sWh, sBrk, sCnt, sRaise, sApp, Slot.ownL, sPut, sPar, sParL, sFld, dFld, dMake, mkC, dMakeV, dCm, dObj, D.isObj, dCallV, dCallS, dEqO, dIsO, dDct0, isBD_bl, notBD_bl, revD_lst, sPar3, sTrys, catchD, DEnds.unname, repF, D.eqTo, at_0, at_s, at_nil, set_0, set_s, fzd, frd, if_true, if_false, Bool.not_true, Bool.not_false, true_and, and_true, Bool.false_eq_true, ↓reduceIte, lenF, lenD, allF, anyF, sumF, absF, intF, tupleF, swM, ewM, eqv_int, eqv_str, eqv_bl, D.isTy, Int.cast_ofNat_Int, addD_int, addD_str, addD_lst, iaddD_int, iaddD_str, subD_int, mulD_int, mulD_str, mulD_lst, fdivD_int, modD_int, powD_int, negD_int, eqD, neD_str, neD_int, ltD_int, leD_int, gtD_int, geD_int, isD, isnD, D.isNon, inDv, ninDv, ixD_lst, ixD_tup, ixD_str, slD_lst, slD_frl, slD_str, dLc, dLook, Slot.calm]
      refine hq _ _ ?_
      rw [depthsL, List.append_nil] at h2
      rw [← h2]
      rfl
    | cons t ts => cases h1
  · obtain ⟨ts, acc, d, s3, h1, rfl, h2, h3⟩ := h
    cases ts with
    | nil => cases h1
    | cons t ts =>
      cases h1
      obtain ⟨a, b⟩ := t
      unfold stepD
      simp -implicitDefEqProofs only [runD, startE, outsE, outs_0, outs_s, List.length_cons, List.length_nil, List.cons_append, List.nil_append, List.replicate, Nat.sub_zero, Nat.add_one_sub_one, Nat.reduceSub, Nat.reduceAdd, dC, dVar_M, dVarM_fz, dVarM_own, dIxN_M, dIxM_fz, dIxM_own, dFnN_M, dFnM_fz, dFnM_own, dOp, dUn, dArgs, dLst, dTup, dFn, dIsi, dMs, dPart, dSl, dIfE, Slot.known, tVal, tTru, tAnd, tOr, tNot, dAnd, dOr, dNot, dChain, iLst, iTup, iStr, iRng1, iRng2, iEnum, iZip, gN, gNs, gT, Tgt.g, tYes, wipeE, backE, dAVs, dCall, avSlot, AV.ok, Slot.isOwn, bA_nil, bA_v, bA_m, D.isRef, List.all_cons, List.all_nil, List.map_cons, List.map_nil, Bool.and_true, Bool.true_and, List.tail_cons, List.tail_nil, List.head?_cons, sNx, sSeq, sRet, sRetN, sExp, sAsg, sAsgO, sIf, sAug, sFor, sWh, sBrk, sCnt, sRaise, sApp, Slot.ownL, sPut, sPar, sParL, sFld, dFld, dMake, mkC, dMakeV, dCm, dObj, D.isObj, dCallV, dCallS, dEqO, dIsO, dDct0, isBD_bl, notBD_bl, revD_lst, sPar3, sTrys, catchD, DEnds.unname, repF, D.eqTo, at_0, at_s, at_nil, set_0, set_s, fzd, frd, if_true, if_false, Bool.not_true, Bool.not_false, true_and, and_true, Bool.false_eq_true, ↓reduceIte, lenF, lenD, allF, anyF, sumF, absF, intF, tupleF, swM, ewM, eqv_int, eqv_str, eqv_bl, D.isTy, Int.cast_ofNat_Int, addD_int, addD_str, addD_lst, iaddD_int, iaddD_str, subD_int, mulD_int, mulD_str, mulD_lst, fdivD_int, modD_int, powD_int, negD_int, eqD, neD_str, neD_int, ltD_int, leD_int, gtD_int, geD_int, isD, isnD, D.isNon, inDv, ninDv, ixD_lst, ixD_tup, ixD_str, slD_lst, slD_frl, slD_str, dLc, dLook, Slot.calm]
      refine ⟨0, a, rfl, rfl, .inl rfl, ?_⟩
      have hb : ([a] == [45]) = (a == 45) := by simp
      rw [hb]
      simp only [List.length_cons] at h3
      cases hs : (a == 45) with
      | true =>
        have e : depthsL ((a, b) :: ts) d = (d + 1) :: depthsL ts (d + 1) := by rw [depthsL]; exact if_pos hs
        simp -implicitDefEqProofs only [runD, startE, outsE, outs_0, outs_s, List.length_cons, List.length_nil, List.cons_append, List.nil_append, List.replicate, Nat.sub_zero, Nat.add_one_sub_one, Nat.reduceSub, Nat.reduceAdd, dC, dVar_M, dVarM_fz, dVarM_own, dIxN_M, dIxM_fz, dIxM_own, dFnN_M, dFnM_fz, dFnM_own, dOp, dUn, dArgs, dLst, dTup, dFn, dIsi, dMs, dPart, dSl, dIfE, Slot.known, tVal, tTru, tAnd, tOr, tNot, dAnd, dOr, dNot, dChain, iLst, iTup, iStr, iRng1, iRng2, iEnum, iZip, gN, gNs, gT, Tgt.g, tYes, wipeE, backE, dAVs, dCall, avSlot, AV.ok, Slot.isOwn, bA_nil, bA_v, bA_m, D.isRef, List.all_cons, List.all_nil, List.map_cons, List.map_nil, Bool.and_true, Bool.true_and, List.tail_cons, List.tail_nil, List.head?_cons, sNx, sSeq, sRet, sRetN, sExp, sAsg, sAsgO, sIf, sAug, sFor, sWh, sBrk, sCnt, sRaise, sApp, Slot.ownL, sPut, sPar, sParL, sFld, dFld, dMake, mkC, dMakeV, dCm, dObj, D.isObj, dCallV, dCallS, dEqO, dIsO, dDct0, isBD_bl, notBD_bl, revD_lst, sPar3, sTrys, catchD, DEnds.unname, repF, D.eqTo, at_0, at_s, at_nil, set_0, set_s, fzd, frd, if_true, if_false, Bool.not_true, Bool.not_false, true_and, and_true, Bool.false_eq_true, ↓reduceIte, lenF, lenD, allF, anyF, sumF, absF, intF, tupleF, swM, ewM, eqv_int, eqv_str, eqv_bl, D.isTy, Int.cast_ofNat_Int, addD_int, addD_str, addD_lst, iaddD_int, iaddD_str, subD_int, mulD_int, mulD_str, mulD_lst, fdivD_int, modD_int, powD_int, negD_int, eqD, neD_str, neD_int, ltD_int, leD_int, gtD_int, geD_int, isD, isnD, D.isNon, inDv, ninDv, ixD_lst, ixD_tup, ixD_str, slD_lst, slD_frl, slD_str, dLc, dLook, Slot.calm]
        refine ⟨0, a, rfl, rfl, .inl rfl, ?_⟩
        rw [hb, hs]
        simp -implicitDefEqProofs only [runD, startE, outsE, outs_0, outs_s, List.length_cons, List.length_nil, List.cons_append, List.nil_append, List.replicate, Nat.sub_zero, Nat.add_one_sub_one, Nat.reduceSub, Nat.reduceAdd, dC, dVar_M, dVarM_fz, dVarM_own, dIxN_M, dIxM_fz, dIxM_own, dFnN_M, dFnM_fz, dFnM_own, dOp, dUn, dArgs, dLst, dTup, dFn, dIsi, dMs, dPart, dSl, dIfE, Slot.known, tVal, tTru, tAnd, tOr, tNot, dAnd, dOr, dNot, dChain, iLst, iTup, iStr, iRng1, iRng2, iEnum, iZip, gN, gNs, gT, Tgt.g, tYes, wipeE, backE, dAVs, dCall, avSlot, AV.ok, Slot.isOwn, bA_nil, bA_v, bA_m, D.isRef, List.all_cons, List.all_nil, List.map_cons, List.map_nil, Bool.and_true, Bool.true_and, List.tail_cons, List.tail_nil, List.head?_cons, sNx, sSeq, sRet, sRetN, sExp, sAsg, sAsgO, sIf, sAug, sFor, sWh, sBrk, sCnt, sRaise, sApp, Slot.ownL, sPut, sPar, sParL, sFld, dFld, dMake, mkC, dMakeV, dCm, dObj, D.isObj, dCallV, dCallS, dEqO, dIsO, dDct0, isBD_bl, notBD_bl, revD_lst, sPar3, sTrys, catchD, DEnds.unname, repF, D.eqTo, at_0, at_s, at_nil, set_0, set_s, fzd, frd, if_true, if_false, Bool.not_true, Bool.not_false, true_and, and_true, Bool.false_eq_true, ↓reduceIte, lenF, lenD, allF, anyF, sumF, absF, intF, tupleF, swM, ewM, eqv_int, eqv_str, eqv_bl, D.isTy, Int.cast_ofNat_Int, addD_int, addD_str, addD_lst, iaddD_int, iaddD_str, subD_int, mulD_int, mulD_str, mulD_lst, fdivD_int, modD_int, powD_int, negD_int, eqD, neD_str, neD_int, ltD_int, leD_int, gtD_int, geD_int, isD, isnD, D.isNon, inDv, ninDv, ixD_lst, ixD_tup, ixD_str, slD_lst, slD_frl, slD_str, dLc, dLook, Slot.calm]
        refine ⟨?_, ?_⟩
        · rw [List.length_map]; show acc.length < 16777216; omega
        · refine hk _ ⟨ts, acc ++ [d + 1], d + 1, .fz (.str [a, b]), rfl, ?_, ?_, ?_⟩
          · rw [List.map_append]; rfl
          · rw [List.append_assoc, ← h2, e]; rfl
          · rw [List.length_append]; show acc.length + 1 + _ ≤ _; omega
      | false =>
        have e : depthsL ((a, b) :: ts) d = depthsL ts (d - 1) := by rw [depthsL]; exact if_neg (by show ¬ (a == 45) = true; rw [hs]; decide)
        simp -implicitDefEqProofs only [runD, startE, outsE, outs_0, outs_s, List.length_cons, List.length_nil, List.cons_append, List.nil_append, List.replicate, Nat.sub_zero, Nat.add_one_sub_one, Nat.reduceSub, Nat.reduceAdd, dC, dVar_M, dVarM_fz, dVarM_own, dIxN_M, dIxM_fz, dIxM_own, dFnN_M, dFnM_fz, dFnM_own, dOp, dUn, dArgs, dLst, dTup, dFn, dIsi, dMs, dPart, dSl, dIfE, Slot.known, tVal, tTru, tAnd, tOr, tNot, dAnd, dOr, dNot, dChain, iLst, iTup, iStr, iRng1, iRng2, iEnum, iZip, gN, gNs, gT, Tgt.g, tYes, wipeE, backE, dAVs, dCall, avSlot, AV.ok, Slot.isOwn, bA_nil, bA_v, bA_m, D.isRef, List.all_cons, List.all_nil, List.map_cons, List.map_nil, Bool.and_true, Bool.true_and, List.tail_cons, List.tail_nil, List.head?_cons, sNx, sSeq, sRet, sRetN, sExp, sAsg, sAsgO, sIf, sAug, sFor, sWh, sBrk, sCnt, sRaise, sApp, Slot.ownL, sPut, sPar, sParL, sFld, dFld, dMake, mkC, dMakeV, dCm, dObj, D.isObj, dCallV, dCallS, dEqO, dIsO, dDct0, isBD_bl, notBD_bl, revD_lst, sPar3, sTrys, catchD, DEnds.unname, repF, D.eqTo, at_0, at_s, at_nil, set_0, set_s, fzd, frd, if_true, if_false, Bool.not_true, Bool.not_false, true_and, and_true, Bool.false_eq_true, ↓reduceIte, lenF, lenD, allF, anyF, sumF, absF, intF, tupleF, swM, ewM, eqv_int, eqv_str, eqv_bl, D.isTy, Int.cast_ofNat_Int, addD_int, addD_str, addD_lst, iaddD_int, iaddD_str, subD_int, mulD_int, mulD_str, mulD_lst, fdivD_int, modD_int, powD_int, negD_int, eqD, neD_str, neD_int, ltD_int, leD_int, gtD_int, geD_int, isD, isnD, D.isNon, inDv, ninDv, ixD_lst, ixD_tup, ixD_str, slD_lst, slD_frl, slD_str, dLc, dLook, Slot.calm]
        refine ⟨0, a, rfl, rfl, .inl rfl, ?_⟩
        rw [hb, hs]
        simp -implicitDefEqProofs only [runD, startE, outsE, outs_0, outs_s, List.length_cons, List.length_nil, List.cons_append, List.nil_append, List.replicate, Nat.sub_zero, Nat.add_one_sub_one, Nat.reduceSub, Nat.reduceAdd, dC, dVar_M, dVarM_fz, dVarM_own, dIxN_M, dIxM_fz, dIxM_own, dFnN_M, dFnM_fz, dFnM_own, dOp, dUn, dArgs, dLst, dTup, dFn, dIsi, dMs, dPart, dSl, dIfE, Slot.known, tVal, tTru, tAnd, tOr, tNot, dAnd, dOr, dNot, dChain, iLst, iTup, iStr, iRng1, iRng2, iEnum, iZip, gN, gNs, gT, Tgt.g, tYes, wipeE, backE, dAVs, dCall, avSlot, AV.ok, Slot.isOwn, bA_nil, bA_v, bA_m, D.isRef, List.all_cons, List.all_nil, List.map_cons, List.map_nil, Bool.and_true, Bool.true_and, List.tail_cons, List.tail_nil, List.head?_cons, sNx, sSeq, sRet, sRetN, sExp, sAsg, sAsgO, sIf, sAug, sFor, sWh, sBrk, sCnt, sRaise, sApp, Slot.ownL, sPut, sPar, sParL, sFld, dFld, dMake, mkC, dMakeV, dCm, dObj, D.isObj, dCallV, dCallS, dEqO, dIsO, dDct0, isBD_bl, notBD_bl, revD_lst, sPar3, sTrys, catchD, DEnds.unname, repF, D.eqTo, at_0, at_s, at_nil, set_0, set_s, fzd, frd, if_true, if_false, Bool.not_true, Bool.not_false, true_and, and_true, Bool.false_eq_true, ↓reduceIte, lenF, lenD, allF, anyF, sumF, absF, intF, tupleF, swM, ewM, eqv_int, eqv_str, eqv_bl, D.isTy, Int.cast_ofNat_Int, addD_int, addD_str, addD_lst, iaddD_int, iaddD_str, subD_int, mulD_int, mulD_str, mulD_lst, fdivD_int, modD_int, powD_int, negD_int, eqD, neD_str, neD_int, ltD_int, leD_int, gtD_int, geD_int, isD, isnD, D.isNon, inDv, ninDv, ixD_lst, ixD_tup, ixD_str, slD_lst, slD_frl, slD_str, dLc, dLook, Slot.calm]
        exact hk _ ⟨ts, acc, d - 1, _, rfl, rfl, by rw [← h2, e], by omega⟩
end DL

set_option linter.all false
set_option autoImplicit false
set_option maxRecDepth 100000
namespace DL
/-! need, effect -/
def maxL (ds : List Int) : Int := ds.foldr max 0
theorem maxL_mem : ∀ ds : List Int, maxL ds ∈ (0 : Int) :: ds
  | [] => List.mem_cons_self
  | d :: ds => by
    show max d (maxL ds) ∈ _
    have h := maxL_mem ds
    by_cases q : d ≤ maxL ds
    · rw [Int.max_eq_right q]
      rcases List.mem_cons.mp h with e | e
      · rw [e]; exact List.mem_cons_self
      · exact List.mem_cons_of_mem _ (List.mem_cons_of_mem _ e)
    · rw [Int.max_eq_left (by omega)]
      exact List.mem_cons_of_mem _ List.mem_cons_self
theorem maxL_le : ∀ (ds : List Int) (y : Int), y ∈ (0 : Int) :: ds → y ≤ maxL ds
  | [], y, h => by
    simp only [List.mem_cons, List.not_mem_nil, or_false] at h
    rw [h]
    exact Int.le_refl _
  | d :: ds, y, h => by
    show y ≤ max d (maxL ds)
    rcases List.mem_cons.mp h with e | e
    · have := maxL_le ds 0 List.mem_cons_self
      omega
    · rcases List.mem_cons.mp e with e | e
      · omega
      · have := maxL_le ds y (List.mem_cons_of_mem _ e)
        omega
theorem maxL_nonneg (ds : List Int) : 0 ≤ maxL ds := maxL_le ds 0 List.mem_cons_self
theorem max_need {ds : List Int} {k : R → Prop} (h : k (.fz (.int (maxL ds)))) : maxF [.lst (D.int 0 :: ds.map D.int)] k := by
  refine ⟨0 :: ds, rfl, by simp, fun m hm hy => ?_⟩
  have h1 := maxL_le ds m hm
  have h2 := hy _ (maxL_mem ds)
  have : m = maxL ds := by omega
  rw [this]
  exact h
def needL (ss : List St2) : Int := maxL (depthsL ss 0)
theorem depths_le : ∀ (ss : List St2) (d y : Int), y ∈ depthsL ss d → y ≤ d + (itemsOf 45 ss).length
  | [], _, _, h => by cases h
  | s :: ss, d, y, h => by
    rw [depthsL] at h
    unfold itemsOf
    rw [List.filter_cons]
    cases hs : (s.1 == 45) with
    | true =>
      rw [hs, if_pos rfl] at h
      rw [if_pos rfl, List.map_cons, List.length_cons]
      rcases List.mem_cons.mp h with e | e
      · omega
      · have := depths_le ss (d + 1) y e
        unfold itemsOf at this
        omega
    | false =>
      rw [hs, if_neg (by decide)] at h
      rw [if_neg (by decide)]
      have := depths_le ss (d - 1) y h
      unfold itemsOf at this
      omega
theorem need_le (ss : List St2) : needL ss ≤ (itemsOf 45 ss).length := by
  rcases List.mem_cons.mp (maxL_mem (depthsL ss 0)) with e | e
  · show maxL _ ≤ _
    rw [e]
    omega
  · have := depths_le ss 0 _ e
    show maxL _ ≤ _
    omega
theorem leastOf_spec (t p : Tx) : ∀ n, n ≤ t.length → n ≤ leastOf t p n ∧ leastOf t p n ≤ t.length ∧ suit t p (leastOf t p n) = true := by
  have : ∀ f n, f = t.length - n → n ≤ t.length → n ≤ leastOf t p n ∧ leastOf t p n ≤ t.length ∧ suit t p (leastOf t p n) = true := by
    intro f
    induction f with
    | zero =>
      intro n hf hn
      have h : suit t p n = true := suit_big (by omega)
      rw [leastOf_yes h]
      exact ⟨Nat.le_refl _, hn, h⟩
    | succ f ih =>
      intro n hf hn
      cases h : suit t p n with
      | true => rw [leastOf_yes h]; exact ⟨Nat.le_refl _, hn, h⟩
      | false =>
        rw [leastOf_no h]
        have := ih (n + 1) (by omega) (by omega)
        exact ⟨by omega, this.2⟩
  exact fun n hn => this _ n rfl hn
/-- the core of a sequence's effect -/
def coreOf (ss : List St2) : Nat := leastOf (itemsOf 45 ss) (itemsOf 43 ss) (needL ss).toNat
theorem items_ok {sg : Nat} {ss : List St2} (h : okSeq ss) : (itemsOf sg ss).length ≤ 400 ∧ (itemsOf sg ss).all isItem = true := by
  unfold itemsOf
  refine ⟨?_, ?_⟩
  · rw [List.length_map]
    exact Nat.le_trans (List.length_filter_le _ _) h.1
  · rw [List.all_eq_true]
    intro c hc
    obtain ⟨s, hs, rfl⟩ := List.mem_map.mp hc
    have := h.2 s (List.mem_filter.mp hs).1
    unfold okSt at this
    rw [Bool.and_eq_true] at this
    exact this.2
theorem word_ok {x : Tx} {n : Nat} (h : x.length ≤ n) (h2 : x.all isItem = true) : isWord (.str x) n = true := by
  show (decide (x.length ≤ n) && x.all isItem) = true
  rw [decide_eq_true h, h2]
  rfl
def effD (ss : List St2) : D := .obj 0 [.str (itemsOf 45 ss), .str (itemsOf 43 ss), .int (coreOf ss)]
theorem badPart_of {x y : Tx} {n : Nat} (hx : x.length ≤ 2000) (hx2 : x.all isItem = true) (hy : y.length ≤ 2000) (hy2 : y.all isItem = true) (hn : n ≤ x.length) (hs : suit x y n = true) : badPart (.str x) (.str y) (.int n) = none := by
  have h1 := word_ok hx hx2
  have h2 := word_ok hy hy2
  have h3 : validE (.str x) (.str y) (.int n) = true := by
    unfold validE
    rw [h1, h2]
    show (true && true && (decide (0 ≤ (n : Int)) && decide ((n : Int) ≤ (x.length : Int)) && suit x y (n : Int).toNat)) = true
    rw [Int.toNat_natCast, hs, decide_eq_true (by omega), decide_eq_true (by omega)]
    rfl
  unfold badPart
  rw [if_neg (by rw [h1]; decide), if_neg (by rw [h2]; decide), if_neg (by rw [h3]; decide)]
theorem core_ok (ss : List St2) : coreOf ss ≤ (itemsOf 45 ss).length ∧ suit (itemsOf 45 ss) (itemsOf 43 ss) (coreOf ss) = true := by
  have h := need_le ss
  have h0 := maxL_nonneg (depthsL ss 0)
  have := leastOf_spec (itemsOf 45 ss) (itemsOf 43 ss) (needL ss).toNat (by omega)
  exact this.2
/-- Effect.of: 0 cls, 1 steps, 2 takes, 3 puts -/
def b_Effect_of : DS := sSeq (sExp (dCall C_check_sequence [.v (dVar 1)])) (sSeq (sPar 2 3 (dCall C_chosen [.v (dVar 1), .v (dC (.str [45]))]) (dCall C_chosen [.v (dVar 1), .v (dC (.str [43]))])) (sRet (dMakeV 0 0 C_Effect___init__ [dVar 2, dVar 3, dCall C_least_suitable [.v (dVar 2), .v (dVar 3), .v (dFn maxF [dOp addD (dLst [dC (.int 0)]) (dCall C_depths [.v (dVar 1)])])]])))
def C_Effect_of : Con := fun args Q E => ∃ d, args = [.fz (.cls 0), .fz d] ∧ d.plainL ∧ (firstInv d = .non → ∃ ss, d = seqD ss ∧ okSeq ss ∧ ∀ r outs, r.d = effD ss → Q r outs) ∧ ∀ v, firstInv d = .tup [v] → ∀ outs, E ⟨1, v⟩ outs
theorem p_Effect_of : ∀ args Q E, args.length = 2 → C_Effect_of args Q E → runD 4 b_Effect_of args Q E := by
  intro args Q E _ h
  obtain ⟨d, rfl, hp, h1, h2⟩ := h
  unfold b_Effect_of
  simp -implicitDefEqProofs only [runD, startE, outsE, outs_0, outs_s, List.length_cons, List.length_nil, List.cons_append, List.nil_append, List.replicate, Nat.sub_zero, Nat.add_one_sub_one, Nat.reduceSub, Nat.reduceAdd, dC, dVar_M, dVarM_fz, dVarM_own, dIxN_M, dIxM_fz, dIxM_own, dFnN_M, dFnM_fz, dFnM_own, dOp, dUn, dArgs, dLst, dTup, dFn, dIsi, dMs, dPart, dSl, dIfE, Slot.known, tVal, tTru, tAnd, tOr, tNot, dAnd, dOr, dNot, dChain, iLst, iTup, iStr, iRng1, iRng2, iEnum, iZip, gN, gNs, gT, Tgt.g, tYes, wipeE, backE, dAVs, dCall, avSlot, AV.ok, Slot.isOwn, bA_nil, bA_v, bA_m, D.isRef, List.all_cons, List.all_nil, List.map_cons, List.map_nil, Bool.and_true, Bool.true_and, List.tail_cons, List.tail_nil, List.head?_cons, sNx, sSeq, sRet, sRetN, sExp, sAsg, sAsgO, sIf, sAug, sFor, sWh, sBrk, sCnt, sRaise, sApp, Slot.ownL, sPut, sPar, sParL, sFld, dFld, dMake, mkC, dMakeV, dCm, dObj, D.isObj, dCallV, dCallS, dEqO, dIsO, dDct0, isBD_bl, notBD_bl, revD_lst, sPar3, sTrys, catchD, DEnds.unname, repF, D.eqTo, at_0, at_s, at_nil, set_0, set_s, fzd, frd, if_true, if_false, Bool.not_true, Bool.not_false, true_and, and_true, Bool.false_eq_true, ↓reduceIte, lenF, lenD, allF, anyF, sumF, absF, intF, tupleF, swM, ewM, eqv_int, eqv_str, eqv_bl, D.isTy, Int.cast_ofNat_Int, addD_int, addD_str, addD_lst, iaddD_int, iaddD_str, subD_int, mulD_int, mulD_str, mulD_lst, fdivD_int, modD_int, powD_int, negD_int, eqD, neD_str, neD_int, ltD_int, leD_int, gtD_int, geD_int, isD, isnD, D.isNon, inDv, ninDv, ixD_lst, ixD_tup, ixD_str, slD_lst, slD_frl, slD_str, dLc, dLook, Slot.calm]
  refine ⟨d, rfl, hp, fun e r outs hr => ?_, fun v e outs => h2 v e _⟩
  obtain ⟨ss, rfl, ok, hq⟩ := h1 e
  try simp -implicitDefEqProofs only [runD, startE, outsE, outs_0, outs_s, List.length_cons, List.length_nil, List.cons_append, List.nil_append, List.replicate, Nat.sub_zero, Nat.add_one_sub_one, Nat.reduceSub, Nat.reduceAdd, dC, dVar_M, dVarM_fz, dVarM_own, dIxN_M, dIxM_fz, dIxM_own, dFnN_M, dFnM_fz, dFnM_own, dOp, dUn, dArgs, dLst, dTup, dFn, dIsi, dMs, dPart, dSl, dIfE, Slot.known, tVal, tTru, tAnd, tOr, tNot, dAnd, dOr, dNot, dChain, iLst, iTup, iStr, iRng1, iRng2, iEnum, iZip, gN, gNs, gT, Tgt.g, tYes, wipeE, backE, dAVs, dCall, avSlot, AV.ok, Slot.isOwn, bA_nil, bA_v, bA_m, D.isRef, List.all_cons, List.all_nil, List.map_cons, List.map_nil, Bool.and_true, Bool.true_and, List.tail_cons, List.tail_nil, List.head?_cons, sNx, sSeq, sRet, sRetN, sExp, sAsg, sAsgO, sIf, sAug, sFor, sWh, sBrk, sCnt, sRaise, sApp, Slot.ownL, sPut, sPar, sParL, sFld, dFld, dMake, mkC, dMakeV, dCm, dObj, D.isObj, dCallV, dCallS, dEqO, dIsO, dDct0, isBD_bl, notBD_bl, revD_lst, sPar3, sTrys, catchD, DEnds.unname, repF, D.eqTo, at_0, at_s, at_nil, set_0, set_s, fzd, frd, if_true, if_false, Bool.not_true, Bool.not_false, true_and, and_true, Bool.false_eq_true, ↓reduceIte, lenF, lenD, allF, anyF, sumF, absF, intF, tupleF, swM, ewM, eqv_int, eqv_str, eqv_bl, D.isTy, Int.cast_ofNat_Int, addD_int, addD_str, addD_lst, iaddD_int, iaddD_str, subD_int, mulD_int, mulD_str, mulD_lst, fdivD_int, modD_int, powD_int, negD_int, eqD, neD_str, neD_int, ltD_int, leD_int, gtD_int, geD_int, isD, isnD, D.isNon, inDv, ninDv, ixD_lst, ixD_tup, ixD_str, slD_lst, slD_frl, slD_str, dLc, dLook, Slot.calm]
  have hlen : ss.length ≤ 1000000 := by have := ok.1; omega
  refine ⟨ss, 45, rfl, hlen, fun outs => ?_⟩
  simp -implicitDefEqProofs only [runD, startE, outsE, outs_0, outs_s, List.length_cons, List.length_nil, List.cons_append, List.nil_append, List.replicate, Nat.sub_zero, Nat.add_one_sub_one, Nat.reduceSub, Nat.reduceAdd, dC, dVar_M, dVarM_fz, dVarM_own, dIxN_M, dIxM_fz, dIxM_own, dFnN_M, dFnM_fz, dFnM_own, dOp, dUn, dArgs, dLst, dTup, dFn, dIsi, dMs, dPart, dSl, dIfE, Slot.known, tVal, tTru, tAnd, tOr, tNot, dAnd, dOr, dNot, dChain, iLst, iTup, iStr, iRng1, iRng2, iEnum, iZip, gN, gNs, gT, Tgt.g, tYes, wipeE, backE, dAVs, dCall, avSlot, AV.ok, Slot.isOwn, bA_nil, bA_v, bA_m, D.isRef, List.all_cons, List.all_nil, List.map_cons, List.map_nil, Bool.and_true, Bool.true_and, List.tail_cons, List.tail_nil, List.head?_cons, sNx, sSeq, sRet, sRetN, sExp, sAsg, sAsgO, sIf, sAug, sFor, sWh, sBrk, sCnt, sRaise, sApp, Slot.ownL, sPut, sPar, sParL, sFld, dFld, dMake, mkC, dMakeV, dCm, dObj, D.isObj, dCallV, dCallS, dEqO, dIsO, dDct0, isBD_bl, notBD_bl, revD_lst, sPar3, sTrys, catchD, DEnds.unname, repF, D.eqTo, at_0, at_s, at_nil, set_0, set_s, fzd, frd, if_true, if_false, Bool.not_true, Bool.not_false, true_and, and_true, Bool.false_eq_true, ↓reduceIte, lenF, lenD, allF, anyF, sumF, absF, intF, tupleF, swM, ewM, eqv_int, eqv_str, eqv_bl, D.isTy, Int.cast_ofNat_Int, addD_int, addD_str, addD_lst, iaddD_int, iaddD_str, subD_int, mulD_int, mulD_str, mulD_lst, fdivD_int, modD_int, powD_int, negD_int, eqD, neD_str, neD_int, ltD_int, leD_int, gtD_int, geD_int, isD, isnD, D.isNon, inDv, ninDv, ixD_lst, ixD_tup, ixD_str, slD_lst, slD_frl, slD_str, dLc, dLook, Slot.calm]
  refine ⟨ss, 43, rfl, hlen, fun outs => ?_⟩
  simp -implicitDefEqProofs only [runD, startE, outsE, outs_0, outs_s, List.length_cons, List.length_nil, List.cons_append, List.nil_append, List.replicate, Nat.sub_zero, Nat.add_one_sub_one, Nat.reduceSub, Nat.reduceAdd, dC, dVar_M, dVarM_fz, dVarM_own, dIxN_M, dIxM_fz, dIxM_own, dFnN_M, dFnM_fz, dFnM_own, dOp, dUn, dArgs, dLst, dTup, dFn, dIsi, dMs, dPart, dSl, dIfE, Slot.known, tVal, tTru, tAnd, tOr, tNot, dAnd, dOr, dNot, dChain, iLst, iTup, iStr, iRng1, iRng2, iEnum, iZip, gN, gNs, gT, Tgt.g, tYes, wipeE, backE, dAVs, dCall, avSlot, AV.ok, Slot.isOwn, bA_nil, bA_v, bA_m, D.isRef, List.all_cons, List.all_nil, List.map_cons, List.map_nil, Bool.and_true, Bool.true_and, List.tail_cons, List.tail_nil, List.head?_cons, sNx, sSeq, sRet, sRetN, sExp, sAsg, sAsgO, sIf, sAug, sFor, sWh, sBrk, sCnt, sRaise, sApp, Slot.ownL, sPut, sPar, sParL, sFld, dFld, dMake, mkC, dMakeV, dCm, dObj, D.isObj, dCallV, dCallS, dEqO, dIsO, dDct0, isBD_bl, notBD_bl, revD_lst, sPar3, sTrys, catchD, DEnds.unname, repF, D.eqTo, at_0, at_s, at_nil, set_0, set_s, fzd, frd, if_true, if_false, Bool.not_true, Bool.not_false, true_and, and_true, Bool.false_eq_true, ↓reduceIte, lenF, lenD, allF, anyF, sumF, absF, intF, tupleF, swM, ewM, eqv_int, eqv_str, eqv_bl, D.isTy, Int.cast_ofNat_Int, addD_int, addD_str, addD_lst, iaddD_int, iaddD_str, subD_int, mulD_int, mulD_str, mulD_lst, fdivD_int, modD_int, powD_int, negD_int, eqD, neD_str, neD_int, ltD_int, leD_int, gtD_int, geD_int, isD, isnD, D.isNon, inDv, ninDv, ixD_lst, ixD_tup, ixD_str, slD_lst, slD_frl, slD_str, dLc, dLook, Slot.calm]
  refine ⟨by decide, ss, rfl, hlen, fun r outs hr => ?_⟩
  simp only [hr]
  try simp -implicitDefEqProofs only [runD, startE, outsE, outs_0, outs_s, List.length_cons, List.length_nil, List.cons_append, List.nil_append, List.replicate, Nat.sub_zero, Nat.add_one_sub_one, Nat.reduceSub, Nat.reduceAdd, dC, dVar_M, dVarM_fz, dVarM_own, dIxN_M, dIxM_fz, dIxM_own, dFnN_M, dFnM_fz, dFnM_own, dOp, dUn, dArgs, dLst, dTup, dFn, dIsi, dMs, dPart, dSl, dIfE, Slot.known, tVal, tTru, tAnd, tOr, tNot, dAnd, dOr, dNot, dChain, iLst, iTup, iStr, iRng1, iRng2, iEnum, iZip, gN, gNs, gT, Tgt.g, tYes, wipeE, backE, dAVs, dCall, avSlot, AV.ok, Slot.isOwn, bA_nil, bA_v, bA_m, D.isRef, List.all_cons, List.all_nil, List.map_cons, List.map_nil, Bool.and_true, Bool.true_and, List.tail_cons, List.tail_nil, List.head?_cons, sNx, sSeq, sRet, sRetN, sExp, sAsg, sAsgO, sIf, sAug, sFor, sWh, sBrk, sCnt, sRaise, sApp, Slot.ownL, sPut, sPar, sParL, sFld, dFld, dMake, mkC, dMakeV, dCm, dObj, D.isObj, dCallV, dCallS, dEqO, dIsO, dDct0, isBD_bl, notBD_bl, revD_lst, sPar3, sTrys, catchD, DEnds.unname, repF, D.eqTo, at_0, at_s, at_nil, set_0, set_s, fzd, frd, if_true, if_false, Bool.not_true, Bool.not_false, true_and, and_true, Bool.false_eq_true, ↓reduceIte, lenF, lenD, allF, anyF, sumF, absF, intF, tupleF, swM, ewM, eqv_int, eqv_str, eqv_bl, D.isTy, Int.cast_ofNat_Int, addD_int, addD_str, addD_lst, iaddD_int, iaddD_str, subD_int, mulD_int, mulD_str, mulD_lst, fdivD_int, modD_int, powD_int, negD_int, eqD, neD_str, neD_int, ltD_int, leD_int, gtD_int, geD_int, isD, isnD, D.isNon, inDv, ninDv, ixD_lst, ixD_tup, ixD_str, slD_lst, slD_frl, slD_str, dLc, dLook, Slot.calm]
  refine ⟨?_, ?_⟩
  · have : (depthsL ss 0).length ≤ ss.length := by
      have : ∀ (ss : List St2) d, (depthsL ss d).length ≤ ss.length := by
        intro ss
        induction ss with
        | nil => intro d; exact Nat.le_refl _
        | cons s ss ih =>
          intro d
          rw [depthsL]
          split
          · have := ih (d + 1); simp only [List.length_cons]; omega
          · have := ih (d - 1); simp only [List.length_cons]; omega
      exact this ss 0
    simp only [List.length_map]
    show _ ≤ 16777216
    omega
  · refine max_need (k := fun t => _) ?_
    have hn : (0 : Int) ≤ maxL (depthsL ss 0) := maxL_nonneg _
    refine ⟨itemsOf 45 ss, itemsOf 43 ss, (needL ss).toNat, ?_, fun outs => ?_⟩
    · show _ = [_, _, Slot.fz (.int ((maxL (depthsL ss 0)).toNat : Int))]
      rw [Int.toNat_of_nonneg hn]
      rfl
    · simp -implicitDefEqProofs only [runD, startE, outsE, outs_0, outs_s, List.length_cons, List.length_nil, List.cons_append, List.nil_append, List.replicate, Nat.sub_zero, Nat.add_one_sub_one, Nat.reduceSub, Nat.reduceAdd, dC, dVar_M, dVarM_fz, dVarM_own, dIxN_M, dIxM_fz, dIxM_own, dFnN_M, dFnM_fz, dFnM_own, dOp, dUn, dArgs, dLst, dTup, dFn, dIsi, dMs, dPart, dSl, dIfE, Slot.known, tVal, tTru, tAnd, tOr, tNot, dAnd, dOr, dNot, dChain, iLst, iTup, iStr, iRng1, iRng2, iEnum, iZip, gN, gNs, gT, Tgt.g, tYes, wipeE, backE, dAVs, dCall, avSlot, AV.ok, Slot.isOwn, bA_nil, bA_v, bA_m, D.isRef, List.all_cons, List.all_nil, List.map_cons, List.map_nil, Bool.and_true, Bool.true_and, List.tail_cons, List.tail_nil, List.head?_cons, sNx, sSeq, sRet, sRetN, sExp, sAsg, sAsgO, sIf, sAug, sFor, sWh, sBrk, sCnt, sRaise, sApp, Slot.ownL, sPut, sPar, sParL, sFld, dFld, dMake, mkC, dMakeV, dCm, dObj, D.isObj, dCallV, dCallS, dEqO, dIsO, dDct0, isBD_bl, notBD_bl, revD_lst, sPar3, sTrys, catchD, DEnds.unname, repF, D.eqTo, at_0, at_s, at_nil, set_0, set_s, fzd, frd, if_true, if_false, Bool.not_true, Bool.not_false, true_and, and_true, Bool.false_eq_true, ↓reduceIte, lenF, lenD, allF, anyF, sumF, absF, intF, tupleF, swM, ewM, eqv_int, eqv_str, eqv_bl, D.isTy, Int.cast_ofNat_Int, addD_int, addD_str, addD_lst, iaddD_int, iaddD_str, subD_int, mulD_int, mulD_str, mulD_lst, fdivD_int, modD_int, powD_int, negD_int, eqD, neD_str, neD_int, ltD_int, leD_int, gtD_int, geD_int, isD, isnD, D.isNon, inDv, ninDv, ixD_lst, ixD_tup, ixD_str, slD_lst, slD_frl, slD_str, dLc, dLook, Slot.calm]
      have i1 := items_ok (sg := 45) ok
      have i2 := items_ok (sg := 43) ok
      have c := core_ok ss
      refine ⟨.str (itemsOf 45 ss), .str (itemsOf 43 ss), .int (coreOf ss), rfl, (fun h => nomatch h), (fun h => nomatch h), (fun h => nomatch h), fun _ r o1 o2 o3 hr => ⟨hr, _, rfl, hq _ _ rfl⟩, fun x hx => ?_⟩
      rw [badPart_of (by omega) i1.2 (by omega) i2.2 c.1 c.2] at hx
      cases hx
/-- effect_of: 0 steps -/
def b_effect_of : DS := sRet (dCm 0 C_Effect_of [dVar 0])
def C_effect_of : Con := fun args Q E => ∃ d, args = [.fz d] ∧ d.plainL ∧ (firstInv d = .non → ∃ ss, d = seqD ss ∧ okSeq ss ∧ ∀ r outs, r.d = effD ss → Q r outs) ∧ ∀ v, firstInv d = .tup [v] → ∀ outs, E ⟨1, v⟩ outs
theorem p_effect_of : ∀ args Q E, args.length = 1 → C_effect_of args Q E → runD 1 b_effect_of args Q E := by
  intro args Q E _ h
  obtain ⟨d, rfl, hp, h1, h2⟩ := h
  unfold b_effect_of
  simp -implicitDefEqProofs only [runD, startE, outsE, outs_0, outs_s, List.length_cons, List.length_nil, List.cons_append, List.nil_append, List.replicate, Nat.sub_zero, Nat.add_one_sub_one, Nat.reduceSub, Nat.reduceAdd, dC, dVar_M, dVarM_fz, dVarM_own, dIxN_M, dIxM_fz, dIxM_own, dFnN_M, dFnM_fz, dFnM_own, dOp, dUn, dArgs, dLst, dTup, dFn, dIsi, dMs, dPart, dSl, dIfE, Slot.known, tVal, tTru, tAnd, tOr, tNot, dAnd, dOr, dNot, dChain, iLst, iTup, iStr, iRng1, iRng2, iEnum, iZip, gN, gNs, gT, Tgt.g, tYes, wipeE, backE, dAVs, dCall, avSlot, AV.ok, Slot.isOwn, bA_nil, bA_v, bA_m, D.isRef, List.all_cons, List.all_nil, List.map_cons, List.map_nil, Bool.and_true, Bool.true_and, List.tail_cons, List.tail_nil, List.head?_cons, sNx, sSeq, sRet, sRetN, sExp, sAsg, sAsgO, sIf, sAug, sFor, sWh, sBrk, sCnt, sRaise, sApp, Slot.ownL, sPut, sPar, sParL, sFld, dFld, dMake, mkC, dMakeV, dCm, dObj, D.isObj, dCallV, dCallS, dEqO, dIsO, dDct0, isBD_bl, notBD_bl, revD_lst, sPar3, sTrys, catchD, DEnds.unname, repF, D.eqTo, at_0, at_s, at_nil, set_0, set_s, fzd, frd, if_true, if_false, Bool.not_true, Bool.not_false, true_and, and_true, Bool.false_eq_true, ↓reduceIte, lenF, lenD, allF, anyF, sumF, absF, intF, tupleF, swM, ewM, eqv_int, eqv_str, eqv_bl, D.isTy, Int.cast_ofNat_Int, addD_int, addD_str, addD_lst, iaddD_int, iaddD_str, subD_int, mulD_int, mulD_str, mulD_lst, fdivD_int, modD_int, powD_int, negD_int, eqD, neD_str, neD_int, ltD_int, leD_int, gtD_int, geD_int, isD, isnD, D.isNon, inDv, ninDv, ixD_lst, ixD_tup, ixD_str, slD_lst, slD_frl, slD_str, dLc, dLook, Slot.calm]
  refine ⟨d, rfl, hp, fun e => ?_, fun v e outs => h2 v e _⟩
  obtain ⟨ss, rfl, ok, hq⟩ := h1 e
  exact ⟨ss, rfl, ok, fun r outs hr => hq _ _ hr⟩
/-- what holds of functions that check their sequence first -/
def seqCon (d : D) (f : List St2 → D) (Q : R → List Slot → Prop) (E : Exc → List Slot → Prop) : Prop := d.plainL ∧ (firstInv d = .non → ∃ ss, d = seqD ss ∧ okSeq ss ∧ ∀ r outs, r.d = f ss → Q r outs) ∧ ∀ v, firstInv d = .tup [v] → ∀ outs, E ⟨1, v⟩ outs
/-- takes_of: 0 steps -/
def b_takes_of : DS := sSeq (sExp (dCall C_check_sequence [.v (dVar 0)])) (sRet (dCall C_chosen [.v (dVar 0), .v (dC (.str [45]))]))
def C_takes_of : Con := fun args Q E => ∃ d, args = [.fz d] ∧ seqCon d (fun ss => .str (itemsOf 45 ss)) Q E
theorem p_takes_of : ∀ args Q E, args.length = 1 → C_takes_of args Q E → runD 1 b_takes_of args Q E := by
  intro args Q E _ h
  obtain ⟨d, rfl, hp, h1, h2⟩ := h
  unfold b_takes_of
  simp -implicitDefEqProofs only [runD, startE, outsE, outs_0, outs_s, List.length_cons, List.length_nil, List.cons_append, List.nil_append, List.replicate, Nat.sub_zero, Nat.add_one_sub_one, Nat.reduceSub, Nat.reduceAdd, dC, dVar_M, dVarM_fz, dVarM_own, dIxN_M, dIxM_fz, dIxM_own, dFnN_M, dFnM_fz, dFnM_own, dOp, dUn, dArgs, dLst, dTup, dFn, dIsi, dMs, dPart, dSl, dIfE, Slot.known, tVal, tTru, tAnd, tOr, tNot, dAnd, dOr, dNot, dChain, iLst, iTup, iStr, iRng1, iRng2, iEnum, iZip, gN, gNs, gT, Tgt.g, tYes, wipeE, backE, dAVs, dCall, avSlot, AV.ok, Slot.isOwn, bA_nil, bA_v, bA_m, D.isRef, List.all_cons, List.all_nil, List.map_cons, List.map_nil, Bool.and_true, Bool.true_and, List.tail_cons, List.tail_nil, List.head?_cons, sNx, sSeq, sRet, sRetN, sExp, sAsg, sAsgO, sIf, sAug, sFor, sWh, sBrk, sCnt, sRaise, sApp, Slot.ownL, sPut, sPar, sParL, sFld, dFld, dMake, mkC, dMakeV, dCm, dObj, D.isObj, dCallV, dCallS, dEqO, dIsO, dDct0, isBD_bl, notBD_bl, revD_lst, sPar3, sTrys, catchD, DEnds.unname, repF, D.eqTo, at_0, at_s, at_nil, set_0, set_s, fzd, frd, if_true, if_false, Bool.not_true, Bool.not_false, true_and, and_true, Bool.false_eq_true, ↓reduceIte, lenF, lenD, allF, anyF, sumF, absF, intF, tupleF, swM, ewM, eqv_int, eqv_str, eqv_bl, D.isTy, Int.cast_ofNat_Int, addD_int, addD_str, addD_lst, iaddD_int, iaddD_str, subD_int, mulD_int, mulD_str, mulD_lst, fdivD_int, modD_int, powD_int, negD_int, eqD, neD_str, neD_int, ltD_int, leD_int, gtD_int, geD_int, isD, isnD, D.isNon, inDv, ninDv, ixD_lst, ixD_tup, ixD_str, slD_lst, slD_frl, slD_str, dLc, dLook, Slot.calm]
  refine ⟨d, rfl, hp, fun e r outs hr => ?_, fun v e outs => h2 v e _⟩
  obtain ⟨ss, rfl, ok, hq⟩ := h1 e
  try simp -implicitDefEqProofs only [runD, startE, outsE, outs_0, outs_s, List.length_cons, List.length_nil, List.cons_append, List.nil_append, List.replicate, Nat.sub_zero, Nat.add_one_sub_one, Nat.reduceSub, Nat.reduceAdd, dC, dVar_M, dVarM_fz, dVarM_own, dIxN_M, dIxM_fz, dIxM_own, dFnN_M, dFnM_fz, dFnM_own, dOp, dUn, dArgs, dLst, dTup, dFn, dIsi, dMs, dPart, dSl, dIfE, Slot.known, tVal, tTru, tAnd, tOr, tNot, dAnd, dOr, dNot, dChain, iLst, iTup, iStr, iRng1, iRng2, iEnum, iZip, gN, gNs, gT, Tgt.g, tYes, wipeE, backE, dAVs, dCall, avSlot, AV.ok, Slot.isOwn, bA_nil, bA_v, bA_m, D.isRef, List.all_cons, List.all_nil, List.map_cons, List.map_nil, Bool.and_true, Bool.true_and, List.tail_cons, List.tail_nil, List.head?_cons, sNx, sSeq, sRet, sRetN, sExp, sAsg, sAsgO, sIf, sAug, sFor, sWh, sBrk, sCnt, sRaise, sApp, Slot.ownL, sPut, sPar, sParL, sFld, dFld, dMake, mkC, dMakeV, dCm, dObj, D.isObj, dCallV, dCallS, dEqO, dIsO, dDct0, isBD_bl, notBD_bl, revD_lst, sPar3, sTrys, catchD, DEnds.unname, repF, D.eqTo, at_0, at_s, at_nil, set_0, set_s, fzd, frd, if_true, if_false, Bool.not_true, Bool.not_false, true_and, and_true, Bool.false_eq_true, ↓reduceIte, lenF, lenD, allF, anyF, sumF, absF, intF, tupleF, swM, ewM, eqv_int, eqv_str, eqv_bl, D.isTy, Int.cast_ofNat_Int, addD_int, addD_str, addD_lst, iaddD_int, iaddD_str, subD_int, mulD_int, mulD_str, mulD_lst, fdivD_int, modD_int, powD_int, negD_int, eqD, neD_str, neD_int, ltD_int, leD_int, gtD_int, geD_int, isD, isnD, D.isNon, inDv, ninDv, ixD_lst, ixD_tup, ixD_str, slD_lst, slD_frl, slD_str, dLc, dLook, Slot.calm]
  exact ⟨ss, 45, rfl, by have := ok.1; omega, fun outs => hq _ _ rfl⟩
/-- puts_of: 0 steps -/
def b_puts_of : DS := sSeq (sExp (dCall C_check_sequence [.v (dVar 0)])) (sRet (dCall C_chosen [.v (dVar 0), .v (dC (.str [43]))]))
def C_puts_of : Con := fun args Q E => ∃ d, args = [.fz d] ∧ seqCon d (fun ss => .str (itemsOf 43 ss)) Q E
theorem p_puts_of : ∀ args Q E, args.length = 1 → C_puts_of args Q E → runD 1 b_puts_of args Q E := by
  intro args Q E _ h
  obtain ⟨d, rfl, hp, h1, h2⟩ := h
  unfold b_puts_of
  simp -implicitDefEqProofs only [runD, startE, outsE, outs_0, outs_s, List.length_cons, List.length_nil, List.cons_append, List.nil_append, List.replicate, Nat.sub_zero, Nat.add_one_sub_one, Nat.reduceSub, Nat.reduceAdd, dC, dVar_M, dVarM_fz, dVarM_own, dIxN_M, dIxM_fz, dIxM_own, dFnN_M, dFnM_fz, dFnM_own, dOp, dUn, dArgs, dLst, dTup, dFn, dIsi, dMs, dPart, dSl, dIfE, Slot.known, tVal, tTru, tAnd, tOr, tNot, dAnd, dOr, dNot, dChain, iLst, iTup, iStr, iRng1, iRng2, iEnum, iZip, gN, gNs, gT, Tgt.g, tYes, wipeE, backE, dAVs, dCall, avSlot, AV.ok, Slot.isOwn, bA_nil, bA_v, bA_m, D.isRef, List.all_cons, List.all_nil, List.map_cons, List.map_nil, Bool.and_true, Bool.true_and, List.tail_cons, List.tail_nil, List.head?_cons, sNx, sSeq, sRet, sRetN, sExp, sAsg, sAsgO, sIf, sAug, sFor, sWh, sBrk, sCnt, sRaise, sApp, Slot.ownL, sPut, sPar, sParL, sFld, dFld, dMake, mkC, dMakeV, dCm, dObj, D.isObj, dCallV, dCallS, dEqO, dIsO, dDct0, isBD_bl, notBD_bl, revD_lst, sPar3, sTrys, catchD, DEnds.unname, repF, D.eqTo, at_0, at_s, at_nil, set_0, set_s, fzd, frd, if_true, if_false, Bool.not_true, Bool.not_false, true_and, and_true, Bool.false_eq_true, ↓reduceIte, lenF, lenD, allF, anyF, sumF, absF, intF, tupleF, swM, ewM, eqv_int, eqv_str, eqv_bl, D.isTy, Int.cast_ofNat_Int, addD_int, addD_str, addD_lst, iaddD_int, iaddD_str, subD_int, mulD_int, mulD_str, mulD_lst, fdivD_int, modD_int, powD_int, negD_int, eqD, neD_str, neD_int, ltD_int, leD_int, gtD_int, geD_int, isD, isnD, D.isNon, inDv, ninDv, ixD_lst, ixD_tup, ixD_str, slD_lst, slD_frl, slD_str, dLc, dLook, Slot.calm]
  refine ⟨d, rfl, hp, fun e r outs hr => ?_, fun v e outs => h2 v e _⟩
  obtain ⟨ss, rfl, ok, hq⟩ := h1 e
  try simp -implicitDefEqProofs only [runD, startE, outsE, outs_0, outs_s, List.length_cons, List.length_nil, List.cons_append, List.nil_append, List.replicate, Nat.sub_zero, Nat.add_one_sub_one, Nat.reduceSub, Nat.reduceAdd, dC, dVar_M, dVarM_fz, dVarM_own, dIxN_M, dIxM_fz, dIxM_own, dFnN_M, dFnM_fz, dFnM_own, dOp, dUn, dArgs, dLst, dTup, dFn, dIsi, dMs, dPart, dSl, dIfE, Slot.known, tVal, tTru, tAnd, tOr, tNot, dAnd, dOr, dNot, dChain, iLst, iTup, iStr, iRng1, iRng2, iEnum, iZip, gN, gNs, gT, Tgt.g, tYes, wipeE, backE, dAVs, dCall, avSlot, AV.ok, Slot.isOwn, bA_nil, bA_v, bA_m, D.isRef, List.all_cons, List.all_nil, List.map_cons, List.map_nil, Bool.and_true, Bool.true_and, List.tail_cons, List.tail_nil, List.head?_cons, sNx, sSeq, sRet, sRetN, sExp, sAsg, sAsgO, sIf, sAug, sFor, sWh, sBrk, sCnt, sRaise, sApp, Slot.ownL, sPut, sPar, sParL, sFld, dFld, dMake, mkC, dMakeV, dCm, dObj, D.isObj, dCallV, dCallS, dEqO, dIsO, dDct0, isBD_bl, notBD_bl, revD_lst, sPar3, sTrys, catchD, DEnds.unname, repF, D.eqTo, at_0, at_s, at_nil, set_0, set_s, fzd, frd, if_true, if_false, Bool.not_true, Bool.not_false, true_and, and_true, Bool.false_eq_true, ↓reduceIte, lenF, lenD, allF, anyF, sumF, absF, intF, tupleF, swM, ewM, eqv_int, eqv_str, eqv_bl, D.isTy, Int.cast_ofNat_Int, addD_int, addD_str, addD_lst, iaddD_int, iaddD_str, subD_int, mulD_int, mulD_str, mulD_lst, fdivD_int, modD_int, powD_int, negD_int, eqD, neD_str, neD_int, ltD_int, leD_int, gtD_int, geD_int, isD, isnD, D.isNon, inDv, ninDv, ixD_lst, ixD_tup, ixD_str, slD_lst, slD_frl, slD_str, dLc, dLook, Slot.calm]
  exact ⟨ss, 43, rfl, by have := ok.1; omega, fun outs => hq _ _ rfl⟩
theorem depths_len : ∀ (ss : List St2) d, (depthsL ss d).length ≤ ss.length
  | [], _ => Nat.le_refl _
  | s :: ss, d => by
    rw [depthsL]
    split
    · have := depths_len ss (d + 1); simp only [List.length_cons]; omega
    · have := depths_len ss (d - 1); simp only [List.length_cons]; omega
/-- need_of: 0 steps -/
def b_need_of : DS := sSeq (sExp (dCall C_check_sequence [.v (dVar 0)])) (sRet (dFn maxF [dOp addD (dLst [dC (.int 0)]) (dCall C_depths [.v (dVar 0)])]))
def C_need_of : Con := fun args Q E => ∃ d, args = [.fz d] ∧ seqCon d (fun ss => .int (needL ss)) Q E
theorem p_need_of : ∀ args Q E, args.length = 1 → C_need_of args Q E → runD 1 b_need_of args Q E := by
  intro args Q E _ h
  obtain ⟨d, rfl, hp, h1, h2⟩ := h
  unfold b_need_of
  simp -implicitDefEqProofs only [runD, startE, outsE, outs_0, outs_s, List.length_cons, List.length_nil, List.cons_append, List.nil_append, List.replicate, Nat.sub_zero, Nat.add_one_sub_one, Nat.reduceSub, Nat.reduceAdd, dC, dVar_M, dVarM_fz, dVarM_own, dIxN_M, dIxM_fz, dIxM_own, dFnN_M, dFnM_fz, dFnM_own, dOp, dUn, dArgs, dLst, dTup, dFn, dIsi, dMs, dPart, dSl, dIfE, Slot.known, tVal, tTru, tAnd, tOr, tNot, dAnd, dOr, dNot, dChain, iLst, iTup, iStr, iRng1, iRng2, iEnum, iZip, gN, gNs, gT, Tgt.g, tYes, wipeE, backE, dAVs, dCall, avSlot, AV.ok, Slot.isOwn, bA_nil, bA_v, bA_m, D.isRef, List.all_cons, List.all_nil, List.map_cons, List.map_nil, Bool.and_true, Bool.true_and, List.tail_cons, List.tail_nil, List.head?_cons, sNx, sSeq, sRet, sRetN, sExp, sAsg, sAsgO, sIf, sAug, sFor, sWh, sBrk, sCnt, sRaise, sApp, Slot.ownL, sPut, sPar, sParL, sFld, dFld, dMake, mkC, dMakeV, dCm, dObj, D.isObj, dCallV, dCallS, dEqO, dIsO, dDct0, isBD_bl, notBD_bl, revD_lst, sPar3, sTrys, catchD, DEnds.unname, repF, D.eqTo, at_0, at_s, at_nil, set_0, set_s, fzd, frd, if_true, if_false, Bool.not_true, Bool.not_false, true_and, and_true, Bool.false_eq_true, ↓reduceIte, lenF, lenD, allF, anyF, sumF, absF, intF, tupleF, swM, ewM, eqv_int, eqv_str, eqv_bl, D.isTy, Int.cast_ofNat_Int, addD_int, addD_str, addD_lst, iaddD_int, iaddD_str, subD_int, mulD_int, mulD_str, mulD_lst, fdivD_int, modD_int, powD_int, negD_int, eqD, neD_str, neD_int, ltD_int, leD_int, gtD_int, geD_int, isD, isnD, D.isNon, inDv, ninDv, ixD_lst, ixD_tup, ixD_str, slD_lst, slD_frl, slD_str, dLc, dLook, Slot.calm]
  refine ⟨d, rfl, hp, fun e r outs hr => ?_, fun v e outs => h2 v e _⟩
  obtain ⟨ss, rfl, ok, hq⟩ := h1 e
  try simp -implicitDefEqProofs only [runD, startE, outsE, outs_0, outs_s, List.length_cons, List.length_nil, List.cons_append, List.nil_append, List.replicate, Nat.sub_zero, Nat.add_one_sub_one, Nat.reduceSub, Nat.reduceAdd, dC, dVar_M, dVarM_fz, dVarM_own, dIxN_M, dIxM_fz, dIxM_own, dFnN_M, dFnM_fz, dFnM_own, dOp, dUn, dArgs, dLst, dTup, dFn, dIsi, dMs, dPart, dSl, dIfE, Slot.known, tVal, tTru, tAnd, tOr, tNot, dAnd, dOr, dNot, dChain, iLst, iTup, iStr, iRng1, iRng2, iEnum, iZip, gN, gNs, gT, Tgt.g, tYes, wipeE, backE, dAVs, dCall, avSlot, AV.ok, Slot.isOwn, bA_nil, bA_v, bA_m, D.isRef, List.all_cons, List.all_nil, List.map_cons, List.map_nil, Bool.and_true, Bool.true_and, List.tail_cons, List.tail_nil, List.head?_cons, sNx, sSeq, sRet, sRetN, sExp, sAsg, sAsgO, sIf, sAug, sFor, sWh, sBrk, sCnt, sRaise, sApp, Slot.ownL, sPut, sPar, sParL, sFld, dFld, dMake, mkC, dMakeV, dCm, dObj, D.isObj, dCallV, dCallS, dEqO, dIsO, dDct0, isBD_bl, notBD_bl, revD_lst, sPar3, sTrys, catchD, DEnds.unname, repF, D.eqTo, at_0, at_s, at_nil, set_0, set_s, fzd, frd, if_true, if_false, Bool.not_true, Bool.not_false, true_and, and_true, Bool.false_eq_true, ↓reduceIte, lenF, lenD, allF, anyF, sumF, absF, intF, tupleF, swM, ewM, eqv_int, eqv_str, eqv_bl, D.isTy, Int.cast_ofNat_Int, addD_int, addD_str, addD_lst, iaddD_int, iaddD_str, subD_int, mulD_int, mulD_str, mulD_lst, fdivD_int, modD_int, powD_int, negD_int, eqD, neD_str, neD_int, ltD_int, leD_int, gtD_int, geD_int, isD, isnD, D.isNon, inDv, ninDv, ixD_lst, ixD_tup, ixD_str, slD_lst, slD_frl, slD_str, dLc, dLook, Slot.calm]
  have hlen : ss.length ≤ 1000000 := by have := ok.1; omega
  refine ⟨by decide, ss, rfl, hlen, fun r outs hr => ?_⟩
  simp only [hr]
  try simp -implicitDefEqProofs only [runD, startE, outsE, outs_0, outs_s, List.length_cons, List.length_nil, List.cons_append, List.nil_append, List.replicate, Nat.sub_zero, Nat.add_one_sub_one, Nat.reduceSub, Nat.reduceAdd, dC, dVar_M, dVarM_fz, dVarM_own, dIxN_M, dIxM_fz, dIxM_own, dFnN_M, dFnM_fz, dFnM_own, dOp, dUn, dArgs, dLst, dTup, dFn, dIsi, dMs, dPart, dSl, dIfE, Slot.known, tVal, tTru, tAnd, tOr, tNot, dAnd, dOr, dNot, dChain, iLst, iTup, iStr, iRng1, iRng2, iEnum, iZip, gN, gNs, gT, Tgt.g, tYes, wipeE, backE, dAVs, dCall, avSlot, AV.ok, Slot.isOwn, bA_nil, bA_v, bA_m, D.isRef, List.all_cons, List.all_nil, List.map_cons, List.map_nil, Bool.and_true, Bool.true_and, List.tail_cons, List.tail_nil, List.head?_cons, sNx, sSeq, sRet, sRetN, sExp, sAsg, sAsgO, sIf, sAug, sFor, sWh, sBrk, sCnt, sRaise, sApp, Slot.ownL, sPut, sPar, sParL, sFld, dFld, dMake, mkC, dMakeV, dCm, dObj, D.isObj, dCallV, dCallS, dEqO, dIsO, dDct0, isBD_bl, notBD_bl, revD_lst, sPar3, sTrys, catchD, DEnds.unname, repF, D.eqTo, at_0, at_s, at_nil, set_0, set_s, fzd, frd, if_true, if_false, Bool.not_true, Bool.not_false, true_and, and_true, Bool.false_eq_true, ↓reduceIte, lenF, lenD, allF, anyF, sumF, absF, intF, tupleF, swM, ewM, eqv_int, eqv_str, eqv_bl, D.isTy, Int.cast_ofNat_Int, addD_int, addD_str, addD_lst, iaddD_int, iaddD_str, subD_int, mulD_int, mulD_str, mulD_lst, fdivD_int, modD_int, powD_int, negD_int, eqD, neD_str, neD_int, ltD_int, leD_int, gtD_int, geD_int, isD, isnD, D.isNon, inDv, ninDv, ixD_lst, ixD_tup, ixD_str, slD_lst, slD_frl, slD_str, dLc, dLook, Slot.calm]
  refine ⟨?_, ?_⟩
  · have := depths_len ss 0
    simp only [List.length_map]
    show _ ≤ 16777216
    omega
  · exact max_need (k := fun t => Q t _) (hq _ _ rfl)
end DL

set_option linter.all false
set_option autoImplicit false
set_option maxRecDepth 100000
namespace DL
/-! the law's own helpers: the pool -/
def poolOk (s : Slot) : Prop := ∃ a b : Int, s = .own (.lst [.int a, .int b]) ∧ 0 ≤ b ∧ b < 2147483648
/-- _law_hand: 0 _law_script, 1 _law_k, 2 _law_cell, 3 _law_seed -/
def b__law_hand : DS := sSeq (sAsg (gN 2) (dOp ixD (dOp addD (dSl (dVar 0) (some (dVar 1)) (some (dOp addD (dVar 1) (dC (.int 1))))) (dLst [dC (.int 0)])) (dC (.int 0)))) (sSeq (sAsg (gN 3) (dOp modD (dOp mulD (dOp addD (dOp addD (dOp modD (dVar 2) (dC (.int 2147483647))) (dOp mulD (dC (.int 7919)) (dVar 1))) (dC (.int 1))) (dC (.int 48271))) (dC (.int 2147483629)))) (sRet (dLst [dOp mulD (dFn intF [dOp geD (dVar 2) (dOp powD (dC (.int 10)) (dC (.int 18)))]) (dVar 2), dVar 3])))
def C__law_hand : Con := fun args Q _ => ∃ (ns : List Int) (k : Nat), args = [.fz (.frl (ns.map .int)), .fz (.int k)] ∧ ns.length ≤ 63 ∧ k ≤ 1000 ∧ ∀ a b : Int, 0 ≤ b → b < 2147483648 → ∀ outs, Q (.fr (.lst [.int a, .int b])) outs
theorem cut_map {α β : Type} (f : α → β) (xs : List α) (lo hi : Option Int) : cut (xs.map f) lo hi = (cut xs lo hi).map f := by
  unfold cut
  rw [List.length_map, List.map_take, List.map_drop]
theorem cut_len {α : Type} (xs : List α) (lo hi : Option Int) : (cut xs lo hi).length ≤ xs.length := by
  unfold cut
  rw [List.length_take, List.length_drop]
  omega
theorem p__law_hand : ∀ args Q E, args.length = 2 → C__law_hand args Q E → runD 4 b__law_hand args Q E := by
  intro args Q E _ h
  obtain ⟨ns, k, rfl, hl, hk, hq⟩ := h
  unfold b__law_hand
  simp -implicitDefEqProofs only [runD, startE, outsE, outs_0, outs_s, List.length_cons, List.length_nil, List.cons_append, List.nil_append, List.replicate, Nat.sub_zero, Nat.add_one_sub_one, Nat.reduceSub, Nat.reduceAdd, dC, dVar_M, dVarM_fz, dVarM_own, dIxN_M, dIxM_fz, dIxM_own, dFnN_M, dFnM_fz, dFnM_own, dOp, dUn, dArgs, dLst, dTup, dFn, dIsi, dMs, dPart, dSl, dIfE, Slot.known, tVal, tTru, tAnd, tOr, tNot, dAnd, dOr, dNot, dChain, iLst, iTup, iStr, iRng1, iRng2, iEnum, iZip, gN, gNs, gT, Tgt.g, tYes, wipeE, backE, dAVs, dCall, avSlot, AV.ok, Slot.isOwn, bA_nil, bA_v, bA_m, D.isRef, List.all_cons, List.all_nil, List.map_cons, List.map_nil, Bool.and_true, Bool.true_and, List.tail_cons, List.tail_nil, List.head?_cons, sNx, sSeq, sRet, sRetN, sExp, sAsg, sAsgO, sIf, sAug, sFor, sWh, sBrk, sCnt, sRaise, sApp, Slot.ownL, sPut, sPar, sParL, sFld, dFld, dMake, mkC, dMakeV, dCm, dObj, D.isObj, dCallV, dCallS, dEqO, dIsO, dDct0, isBD_bl, notBD_bl, revD_lst, sPar3, sTrys, catchD, DEnds.unname, repF, D.eqTo, at_0, at_s, at_nil, set_0, set_s, fzd, frd, if_true, if_false, Bool.not_true, Bool.not_false, true_and, and_true, Bool.false_eq_true, ↓reduceIte, lenF, lenD, allF, anyF, sumF, absF, intF, tupleF, swM, ewM, eqv_int, eqv_str, eqv_bl, D.isTy, Int.cast_ofNat_Int, addD_int, addD_str, addD_lst, iaddD_int, iaddD_str, subD_int, mulD_int, mulD_str, mulD_lst, fdivD_int, modD_int, powD_int, negD_int, eqD, neD_str, neD_int, ltD_int, leD_int, gtD_int, geD_int, isD, isnD, D.isNon, inDv, ninDv, ixD_lst, ixD_tup, ixD_str, slD_lst, slD_frl, slD_str, dLc, dLook, Slot.calm]
  refine ⟨by decide, ?_, ?_⟩
  · have := cut_len (ns.map D.int) (some (k : Int)) (some ((k : Int) + 1))
    rw [List.length_map] at this
    show _ ≤ 16777216
    omega
  · obtain ⟨c, hc⟩ : ∃ c : Int, (cut (ns.map D.int) (some (k : Int)) (some ((k : Int) + 1)) ++ [.int 0])[0]? = some (.int c) := by
      rw [cut_map]
      cases cut ns (some (k : Int)) (some ((k : Int) + 1)) with
      | nil => exact ⟨0, rfl⟩
      | cons c cs => exact ⟨c, rfl⟩
    refine ⟨0, .int c, ?_, hc, ?_⟩
    · unfold ixN
      rw [if_pos (by decide), List.length_append, if_pos (by show (0 : Int) < ((_ + 1 : Nat) : Int); omega)]
      rfl
    · simp -implicitDefEqProofs only [runD, startE, outsE, outs_0, outs_s, List.length_cons, List.length_nil, List.cons_append, List.nil_append, List.replicate, Nat.sub_zero, Nat.add_one_sub_one, Nat.reduceSub, Nat.reduceAdd, dC, dVar_M, dVarM_fz, dVarM_own, dIxN_M, dIxM_fz, dIxM_own, dFnN_M, dFnM_fz, dFnM_own, dOp, dUn, dArgs, dLst, dTup, dFn, dIsi, dMs, dPart, dSl, dIfE, Slot.known, tVal, tTru, tAnd, tOr, tNot, dAnd, dOr, dNot, dChain, iLst, iTup, iStr, iRng1, iRng2, iEnum, iZip, gN, gNs, gT, Tgt.g, tYes, wipeE, backE, dAVs, dCall, avSlot, AV.ok, Slot.isOwn, bA_nil, bA_v, bA_m, D.isRef, List.all_cons, List.all_nil, List.map_cons, List.map_nil, Bool.and_true, Bool.true_and, List.tail_cons, List.tail_nil, List.head?_cons, sNx, sSeq, sRet, sRetN, sExp, sAsg, sAsgO, sIf, sAug, sFor, sWh, sBrk, sCnt, sRaise, sApp, Slot.ownL, sPut, sPar, sParL, sFld, dFld, dMake, mkC, dMakeV, dCm, dObj, D.isObj, dCallV, dCallS, dEqO, dIsO, dDct0, isBD_bl, notBD_bl, revD_lst, sPar3, sTrys, catchD, DEnds.unname, repF, D.eqTo, at_0, at_s, at_nil, set_0, set_s, fzd, frd, if_true, if_false, Bool.not_true, Bool.not_false, true_and, and_true, Bool.false_eq_true, ↓reduceIte, lenF, lenD, allF, anyF, sumF, absF, intF, tupleF, swM, ewM, eqv_int, eqv_str, eqv_bl, D.isTy, Int.cast_ofNat_Int, addD_int, addD_str, addD_lst, iaddD_int, iaddD_str, subD_int, mulD_int, mulD_str, mulD_lst, fdivD_int, modD_int, powD_int, negD_int, eqD, neD_str, neD_int, ltD_int, leD_int, gtD_int, geD_int, isD, isnD, D.isNon, inDv, ninDv, ixD_lst, ixD_tup, ixD_str, slD_lst, slD_frl, slD_str, dLc, dLook, Slot.calm]
      refine ⟨by decide, .inl ⟨by decide, by decide⟩, .inr ⟨by decide, by decide⟩, by decide, ⟨by decide, by decide, by decide⟩, ?_, by decide, ?_⟩
      · left
        split <;> exact ⟨by decide, by decide⟩
      · refine hq _ _ (Int.emod_nonneg _ (by decide)) ?_ _
        have := Int.emod_lt_of_pos ((c % 2147483647 + 7919 * (k : Int) + 1) * 48271) (b := 2147483629) (by decide)
        omega
/-- _law_draw: 0 _law_pool, 1 _law_size, 2 _law_found -/
def b__law_draw : DS := sSeq (sIf (tVal (dOp gtD (dIxN 0 (dC (.int 0))) (dC (.int 0)))) (sSeq (sAsg (gN 2) (dOp modD (dIxN 0 (dC (.int 0))) (dVar 1))) (sSeq (sPut 0 (dC (.int 0)) (dOp fdivD (dIxN 0 (dC (.int 0))) (dVar 1))) (sRet (dVar 2)))) (sNx)) (sSeq (sPut 0 (dC (.int 1)) (dOp modD (dOp addD (dOp mulD (dIxN 0 (dC (.int 1))) (dC (.int 48271))) (dC (.int 11))) (dC (.int 2147483647)))) (sRet (dOp modD (dOp fdivD (dOp modD (dOp mulD (dIxN 0 (dC (.int 1))) (dIxN 0 (dC (.int 1)))) (dC (.int 2147483629))) (dC (.int 64))) (dVar 1))))
def C__law_draw : Con := fun args Q _ => ∃ (p : Slot) (s : Int), args = [p, .fz (.int s)] ∧ poolOk p ∧ 0 < s ∧ s < 1073741824 ∧ ∀ (r : Int) (p' o : Slot), 0 ≤ r → r < s → poolOk p' → Q (.fz (.int r)) [p', o]
theorem p__law_draw : ∀ args Q E, args.length = 2 → C__law_draw args Q E → runD 3 b__law_draw args Q E := by
  intro args Q E _ h
  obtain ⟨p, s, rfl, ⟨a, b, rfl, hb1, hb2⟩, hs1, hs2, hq⟩ := h
  unfold b__law_draw
  simp -implicitDefEqProofs only [runD, startE, outsE, outs_0, outs_s, List.length_cons, List.length_nil, List.cons_append, List.nil_append, List.replicate, Nat.sub_zero, Nat.add_one_sub_one, Nat.reduceSub, Nat.reduceAdd, dC, dVar_M, dVarM_fz, dVarM_own, dIxN_M, dIxM_fz, dIxM_own, dFnN_M, dFnM_fz, dFnM_own, dOp, dUn, dArgs, dLst, dTup, dFn, dIsi, dMs, dPart, dSl, dIfE, Slot.known, tVal, tTru, tAnd, tOr, tNot, dAnd, dOr, dNot, dChain, iLst, iTup, iStr, iRng1, iRng2, iEnum, iZip, gN, gNs, gT, Tgt.g, tYes, wipeE, backE, dAVs, dCall, avSlot, AV.ok, Slot.isOwn, bA_nil, bA_v, bA_m, D.isRef, List.all_cons, List.all_nil, List.map_cons, List.map_nil, Bool.and_true, Bool.true_and, List.tail_cons, List.tail_nil, List.head?_cons, sNx, sSeq, sRet, sRetN, sExp, sAsg, sAsgO, sIf, sAug, sFor, sWh, sBrk, sCnt, sRaise, sApp, Slot.ownL, sPut, sPar, sParL, sFld, dFld, dMake, mkC, dMakeV, dCm, dObj, D.isObj, dCallV, dCallS, dEqO, dIsO, dDct0, isBD_bl, notBD_bl, revD_lst, sPar3, sTrys, catchD, DEnds.unname, repF, D.eqTo, at_0, at_s, at_nil, set_0, set_s, fzd, frd, if_true, if_false, Bool.not_true, Bool.not_false, true_and, and_true, Bool.false_eq_true, ↓reduceIte, lenF, lenD, allF, anyF, sumF, absF, intF, tupleF, swM, ewM, eqv_int, eqv_str, eqv_bl, D.isTy, Int.cast_ofNat_Int, addD_int, addD_str, addD_lst, iaddD_int, iaddD_str, subD_int, mulD_int, mulD_str, mulD_lst, fdivD_int, modD_int, powD_int, negD_int, eqD, neD_str, neD_int, ltD_int, leD_int, gtD_int, geD_int, isD, isnD, D.isNon, inDv, ninDv, ixD_lst, ixD_tup, ixD_str, slD_lst, slD_frl, slD_str, dLc, dLook, Slot.calm]
  refine ⟨0, .int a, rfl, rfl, ?_⟩
  simp -implicitDefEqProofs only [runD, startE, outsE, outs_0, outs_s, List.length_cons, List.length_nil, List.cons_append, List.nil_append, List.replicate, Nat.sub_zero, Nat.add_one_sub_one, Nat.reduceSub, Nat.reduceAdd, dC, dVar_M, dVarM_fz, dVarM_own, dIxN_M, dIxM_fz, dIxM_own, dFnN_M, dFnM_fz, dFnM_own, dOp, dUn, dArgs, dLst, dTup, dFn, dIsi, dMs, dPart, dSl, dIfE, Slot.known, tVal, tTru, tAnd, tOr, tNot, dAnd, dOr, dNot, dChain, iLst, iTup, iStr, iRng1, iRng2, iEnum, iZip, gN, gNs, gT, Tgt.g, tYes, wipeE, backE, dAVs, dCall, avSlot, AV.ok, Slot.isOwn, bA_nil, bA_v, bA_m, D.isRef, List.all_cons, List.all_nil, List.map_cons, List.map_nil, Bool.and_true, Bool.true_and, List.tail_cons, List.tail_nil, List.head?_cons, sNx, sSeq, sRet, sRetN, sExp, sAsg, sAsgO, sIf, sAug, sFor, sWh, sBrk, sCnt, sRaise, sApp, Slot.ownL, sPut, sPar, sParL, sFld, dFld, dMake, mkC, dMakeV, dCm, dObj, D.isObj, dCallV, dCallS, dEqO, dIsO, dDct0, isBD_bl, notBD_bl, revD_lst, sPar3, sTrys, catchD, DEnds.unname, repF, D.eqTo, at_0, at_s, at_nil, set_0, set_s, fzd, frd, if_true, if_false, Bool.not_true, Bool.not_false, true_and, and_true, Bool.false_eq_true, ↓reduceIte, lenF, lenD, allF, anyF, sumF, absF, intF, tupleF, swM, ewM, eqv_int, eqv_str, eqv_bl, D.isTy, Int.cast_ofNat_Int, addD_int, addD_str, addD_lst, iaddD_int, iaddD_str, subD_int, mulD_int, mulD_str, mulD_lst, fdivD_int, modD_int, powD_int, negD_int, eqD, neD_str, neD_int, ltD_int, leD_int, gtD_int, geD_int, isD, isnD, D.isNon, inDv, ninDv, ixD_lst, ixD_tup, ixD_str, slD_lst, slD_frl, slD_str, dLc, dLook, Slot.calm]
  by_cases ha : (0 : Int) < a
  · rw [decide_eq_true ha]
    refine (if_pos rfl).mpr ⟨0, .int a, rfl, rfl, ?_⟩
    simp -implicitDefEqProofs only [runD, startE, outsE, outs_0, outs_s, List.length_cons, List.length_nil, List.cons_append, List.nil_append, List.replicate, Nat.sub_zero, Nat.add_one_sub_one, Nat.reduceSub, Nat.reduceAdd, dC, dVar_M, dVarM_fz, dVarM_own, dIxN_M, dIxM_fz, dIxM_own, dFnN_M, dFnM_fz, dFnM_own, dOp, dUn, dArgs, dLst, dTup, dFn, dIsi, dMs, dPart, dSl, dIfE, Slot.known, tVal, tTru, tAnd, tOr, tNot, dAnd, dOr, dNot, dChain, iLst, iTup, iStr, iRng1, iRng2, iEnum, iZip, gN, gNs, gT, Tgt.g, tYes, wipeE, backE, dAVs, dCall, avSlot, AV.ok, Slot.isOwn, bA_nil, bA_v, bA_m, D.isRef, List.all_cons, List.all_nil, List.map_cons, List.map_nil, Bool.and_true, Bool.true_and, List.tail_cons, List.tail_nil, List.head?_cons, sNx, sSeq, sRet, sRetN, sExp, sAsg, sAsgO, sIf, sAug, sFor, sWh, sBrk, sCnt, sRaise, sApp, Slot.ownL, sPut, sPar, sParL, sFld, dFld, dMake, mkC, dMakeV, dCm, dObj, D.isObj, dCallV, dCallS, dEqO, dIsO, dDct0, isBD_bl, notBD_bl, revD_lst, sPar3, sTrys, catchD, DEnds.unname, repF, D.eqTo, at_0, at_s, at_nil, set_0, set_s, fzd, frd, if_true, if_false, Bool.not_true, Bool.not_false, true_and, and_true, Bool.false_eq_true, ↓reduceIte, lenF, lenD, allF, anyF, sumF, absF, intF, tupleF, swM, ewM, eqv_int, eqv_str, eqv_bl, D.isTy, Int.cast_ofNat_Int, addD_int, addD_str, addD_lst, iaddD_int, iaddD_str, subD_int, mulD_int, mulD_str, mulD_lst, fdivD_int, modD_int, powD_int, negD_int, eqD, neD_str, neD_int, ltD_int, leD_int, gtD_int, geD_int, isD, isnD, D.isNon, inDv, ninDv, ixD_lst, ixD_tup, ixD_str, slD_lst, slD_frl, slD_str, dLc, dLook, Slot.calm]
    refine ⟨hs1, 0, .int a, rfl, rfl, ?_⟩
    simp -implicitDefEqProofs only [runD, startE, outsE, outs_0, outs_s, List.length_cons, List.length_nil, List.cons_append, List.nil_append, List.replicate, Nat.sub_zero, Nat.add_one_sub_one, Nat.reduceSub, Nat.reduceAdd, dC, dVar_M, dVarM_fz, dVarM_own, dIxN_M, dIxM_fz, dIxM_own, dFnN_M, dFnM_fz, dFnM_own, dOp, dUn, dArgs, dLst, dTup, dFn, dIsi, dMs, dPart, dSl, dIfE, Slot.known, tVal, tTru, tAnd, tOr, tNot, dAnd, dOr, dNot, dChain, iLst, iTup, iStr, iRng1, iRng2, iEnum, iZip, gN, gNs, gT, Tgt.g, tYes, wipeE, backE, dAVs, dCall, avSlot, AV.ok, Slot.isOwn, bA_nil, bA_v, bA_m, D.isRef, List.all_cons, List.all_nil, List.map_cons, List.map_nil, Bool.and_true, Bool.true_and, List.tail_cons, List.tail_nil, List.head?_cons, sNx, sSeq, sRet, sRetN, sExp, sAsg, sAsgO, sIf, sAug, sFor, sWh, sBrk, sCnt, sRaise, sApp, Slot.ownL, sPut, sPar, sParL, sFld, dFld, dMake, mkC, dMakeV, dCm, dObj, D.isObj, dCallV, dCallS, dEqO, dIsO, dDct0, isBD_bl, notBD_bl, revD_lst, sPar3, sTrys, catchD, DEnds.unname, repF, D.eqTo, at_0, at_s, at_nil, set_0, set_s, fzd, frd, if_true, if_false, Bool.not_true, Bool.not_false, true_and, and_true, Bool.false_eq_true, ↓reduceIte, lenF, lenD, allF, anyF, sumF, absF, intF, tupleF, swM, ewM, eqv_int, eqv_str, eqv_bl, D.isTy, Int.cast_ofNat_Int, addD_int, addD_str, addD_lst, iaddD_int, iaddD_str, subD_int, mulD_int, mulD_str, mulD_lst, fdivD_int, modD_int, powD_int, negD_int, eqD, neD_str, neD_int, ltD_int, leD_int, gtD_int, geD_int, isD, isnD, D.isNon, inDv, ninDv, ixD_lst, ixD_tup, ixD_str, slD_lst, slD_frl, slD_str, dLc, dLook, Slot.calm]
    refine ⟨⟨hs1, hs2⟩, 0, rfl, ?_⟩
    exact hq _ _ _ (Int.emod_nonneg _ (by omega)) (Int.emod_lt_of_pos _ hs1) ⟨a / s, b, rfl, hb1, hb2⟩
  · rw [decide_eq_false ha]
    simp -implicitDefEqProofs only [runD, startE, outsE, outs_0, outs_s, List.length_cons, List.length_nil, List.cons_append, List.nil_append, List.replicate, Nat.sub_zero, Nat.add_one_sub_one, Nat.reduceSub, Nat.reduceAdd, dC, dVar_M, dVarM_fz, dVarM_own, dIxN_M, dIxM_fz, dIxM_own, dFnN_M, dFnM_fz, dFnM_own, dOp, dUn, dArgs, dLst, dTup, dFn, dIsi, dMs, dPart, dSl, dIfE, Slot.known, tVal, tTru, tAnd, tOr, tNot, dAnd, dOr, dNot, dChain, iLst, iTup, iStr, iRng1, iRng2, iEnum, iZip, gN, gNs, gT, Tgt.g, tYes, wipeE, backE, dAVs, dCall, avSlot, AV.ok, Slot.isOwn, bA_nil, bA_v, bA_m, D.isRef, List.all_cons, List.all_nil, List.map_cons, List.map_nil, Bool.and_true, Bool.true_and, List.tail_cons, List.tail_nil, List.head?_cons, sNx, sSeq, sRet, sRetN, sExp, sAsg, sAsgO, sIf, sAug, sFor, sWh, sBrk, sCnt, sRaise, sApp, Slot.ownL, sPut, sPar, sParL, sFld, dFld, dMake, mkC, dMakeV, dCm, dObj, D.isObj, dCallV, dCallS, dEqO, dIsO, dDct0, isBD_bl, notBD_bl, revD_lst, sPar3, sTrys, catchD, DEnds.unname, repF, D.eqTo, at_0, at_s, at_nil, set_0, set_s, fzd, frd, if_true, if_false, Bool.not_true, Bool.not_false, true_and, and_true, Bool.false_eq_true, ↓reduceIte, lenF, lenD, allF, anyF, sumF, absF, intF, tupleF, swM, ewM, eqv_int, eqv_str, eqv_bl, D.isTy, Int.cast_ofNat_Int, addD_int, addD_str, addD_lst, iaddD_int, iaddD_str, subD_int, mulD_int, mulD_str, mulD_lst, fdivD_int, modD_int, powD_int, negD_int, eqD, neD_str, neD_int, ltD_int, leD_int, gtD_int, geD_int, isD, isnD, D.isNon, inDv, ninDv, ixD_lst, ixD_tup, ixD_str, slD_lst, slD_frl, slD_str, dLc, dLook, Slot.calm]
    refine ⟨1, .int b, rfl, rfl, ?_⟩
    simp -implicitDefEqProofs only [runD, startE, outsE, outs_0, outs_s, List.length_cons, List.length_nil, List.cons_append, List.nil_append, List.replicate, Nat.sub_zero, Nat.add_one_sub_one, Nat.reduceSub, Nat.reduceAdd, dC, dVar_M, dVarM_fz, dVarM_own, dIxN_M, dIxM_fz, dIxM_own, dFnN_M, dFnM_fz, dFnM_own, dOp, dUn, dArgs, dLst, dTup, dFn, dIsi, dMs, dPart, dSl, dIfE, Slot.known, tVal, tTru, tAnd, tOr, tNot, dAnd, dOr, dNot, dChain, iLst, iTup, iStr, iRng1, iRng2, iEnum, iZip, gN, gNs, gT, Tgt.g, tYes, wipeE, backE, dAVs, dCall, avSlot, AV.ok, Slot.isOwn, bA_nil, bA_v, bA_m, D.isRef, List.all_cons, List.all_nil, List.map_cons, List.map_nil, Bool.and_true, Bool.true_and, List.tail_cons, List.tail_nil, List.head?_cons, sNx, sSeq, sRet, sRetN, sExp, sAsg, sAsgO, sIf, sAug, sFor, sWh, sBrk, sCnt, sRaise, sApp, Slot.ownL, sPut, sPar, sParL, sFld, dFld, dMake, mkC, dMakeV, dCm, dObj, D.isObj, dCallV, dCallS, dEqO, dIsO, dDct0, isBD_bl, notBD_bl, revD_lst, sPar3, sTrys, catchD, DEnds.unname, repF, D.eqTo, at_0, at_s, at_nil, set_0, set_s, fzd, frd, if_true, if_false, Bool.not_true, Bool.not_false, true_and, and_true, Bool.false_eq_true, ↓reduceIte, lenF, lenD, allF, anyF, sumF, absF, intF, tupleF, swM, ewM, eqv_int, eqv_str, eqv_bl, D.isTy, Int.cast_ofNat_Int, addD_int, addD_str, addD_lst, iaddD_int, iaddD_str, subD_int, mulD_int, mulD_str, mulD_lst, fdivD_int, modD_int, powD_int, negD_int, eqD, neD_str, neD_int, ltD_int, leD_int, gtD_int, geD_int, isD, isnD, D.isNon, inDv, ninDv, ixD_lst, ixD_tup, ixD_str, slD_lst, slD_frl, slD_str, dLc, dLook, Slot.calm]
    refine ⟨.inr ⟨by decide, by decide⟩, by decide, 1, rfl, ?_⟩
    have h0 : 0 ≤ (b * 48271 + 11) % 2147483647 := Int.emod_nonneg _ (by decide)
    have h1 : (b * 48271 + 11) % 2147483647 < 2147483647 := Int.emod_lt_of_pos _ (by decide)
    refine ⟨1, .int ((b * 48271 + 11) % 2147483647), rfl, rfl, 1, .int ((b * 48271 + 11) % 2147483647), rfl, rfl, ?_⟩
    simp -implicitDefEqProofs only [runD, startE, outsE, outs_0, outs_s, List.length_cons, List.length_nil, List.cons_append, List.nil_append, List.replicate, Nat.sub_zero, Nat.add_one_sub_one, Nat.reduceSub, Nat.reduceAdd, dC, dVar_M, dVarM_fz, dVarM_own, dIxN_M, dIxM_fz, dIxM_own, dFnN_M, dFnM_fz, dFnM_own, dOp, dUn, dArgs, dLst, dTup, dFn, dIsi, dMs, dPart, dSl, dIfE, Slot.known, tVal, tTru, tAnd, tOr, tNot, dAnd, dOr, dNot, dChain, iLst, iTup, iStr, iRng1, iRng2, iEnum, iZip, gN, gNs, gT, Tgt.g, tYes, wipeE, backE, dAVs, dCall, avSlot, AV.ok, Slot.isOwn, bA_nil, bA_v, bA_m, D.isRef, List.all_cons, List.all_nil, List.map_cons, List.map_nil, Bool.and_true, Bool.true_and, List.tail_cons, List.tail_nil, List.head?_cons, sNx, sSeq, sRet, sRetN, sExp, sAsg, sAsgO, sIf, sAug, sFor, sWh, sBrk, sCnt, sRaise, sApp, Slot.ownL, sPut, sPar, sParL, sFld, dFld, dMake, mkC, dMakeV, dCm, dObj, D.isObj, dCallV, dCallS, dEqO, dIsO, dDct0, isBD_bl, notBD_bl, revD_lst, sPar3, sTrys, catchD, DEnds.unname, repF, D.eqTo, at_0, at_s, at_nil, set_0, set_s, fzd, frd, if_true, if_false, Bool.not_true, Bool.not_false, true_and, and_true, Bool.false_eq_true, ↓reduceIte, lenF, lenD, allF, anyF, sumF, absF, intF, tupleF, swM, ewM, eqv_int, eqv_str, eqv_bl, D.isTy, Int.cast_ofNat_Int, addD_int, addD_str, addD_lst, iaddD_int, iaddD_str, subD_int, mulD_int, mulD_str, mulD_lst, fdivD_int, modD_int, powD_int, negD_int, eqD, neD_str, neD_int, ltD_int, leD_int, gtD_int, geD_int, isD, isnD, D.isNon, inDv, ninDv, ixD_lst, ixD_tup, ixD_str, slD_lst, slD_frl, slD_str, dLc, dLook, Slot.calm]
    refine ⟨.inl ⟨by omega, by omega⟩, by decide, ⟨by decide, by decide⟩, hs1, ?_⟩
    exact hq _ _ _ (Int.emod_nonneg _ (by omega)) (Int.emod_lt_of_pos _ hs1) ⟨a, _, rfl, h0, by omega⟩
def okLs (ls : Tx) : Prop := ls ≠ [] ∧ ls.length ≤ 8 ∧ ls.all isItem = true
theorem ix_nat {n : Nat} {r : Int} (h0 : 0 ≤ r) (h1 : r < n) : ixN n r = some r.toNat := by
  unfold ixN
  rw [if_pos h0, if_pos h1]
theorem pool_own {p : Slot} (h : poolOk p) : p.isOwn = true ∧ p.known = true := by
  obtain ⟨a, b, rfl, _⟩ := h
  exact ⟨rfl, rfl⟩
end DL

set_option linter.all false
set_option autoImplicit false
set_option maxRecDepth 100000
namespace DL
/-- _law_letters: 0 _law_pool -/
def b__law_letters : DS := sRet (dOp ixD (dLst [dC (.str [97, 98]), dC (.str [97, 98]), dC (.str [97]), dC (.str [97, 98, 99]), dC (.str [104, 103]), dC (.str [97, 98, 99, 100, 101, 102, 103, 104])]) (dCall C__law_draw [.m 0, .v (dC (.int 6))]))
def C__law_letters : Con := fun args Q _ => ∃ p, args = [p] ∧ poolOk p ∧ ∀ ls p', okLs ls → poolOk p' → Q (.fz (.str ls)) [p']
theorem p__law_letters : ∀ args Q E, args.length = 1 → C__law_letters args Q E → runD 1 b__law_letters args Q E := by
  intro args Q E _ h
  obtain ⟨p, rfl, ⟨a, b, rfl, h0, h1⟩, hq⟩ := h
  unfold b__law_letters
  simp -implicitDefEqProofs only [runD, startE, outsE, outs_0, outs_s, List.length_cons, List.length_nil, List.cons_append, List.nil_append, List.replicate, Nat.sub_zero, Nat.add_one_sub_one, Nat.reduceSub, Nat.reduceAdd, dC, dVar_M, dVarM_fz, dVarM_own, dIxN_M, dIxM_fz, dIxM_own, dFnN_M, dFnM_fz, dFnM_own, dOp, dUn, dArgs, dLst, dTup, dFn, dIsi, dMs, dPart, dSl, dIfE, Slot.known, tVal, tTru, tAnd, tOr, tNot, dAnd, dOr, dNot, dChain, iLst, iTup, iStr, iRng1, iRng2, iEnum, iZip, gN, gNs, gT, Tgt.g, tYes, wipeE, backE, dAVs, dCall, avSlot, AV.ok, Slot.isOwn, bA_nil, bA_v, bA_m, D.isRef, List.all_cons, List.all_nil, List.map_cons, List.map_nil, Bool.and_true, Bool.true_and, List.tail_cons, List.tail_nil, List.head?_cons, sNx, sSeq, sRet, sRetN, sExp, sAsg, sAsgO, sIf, sAug, sFor, sWh, sBrk, sCnt, sRaise, sApp, Slot.ownL, sPut, sPar, sParL, sFld, dFld, dMake, mkC, dMakeV, dCm, dObj, D.isObj, dCallV, dCallS, dEqO, dIsO, dDct0, isBD_bl, notBD_bl, revD_lst, sPar3, sTrys, catchD, DEnds.unname, repF, D.eqTo, at_0, at_s, at_nil, set_0, set_s, fzd, frd, if_true, if_false, Bool.not_true, Bool.not_false, true_and, and_true, Bool.false_eq_true, ↓reduceIte, lenF, lenD, allF, anyF, sumF, absF, intF, tupleF, swM, ewM, eqv_int, eqv_str, eqv_bl, D.isTy, Int.cast_ofNat_Int, addD_int, addD_str, addD_lst, iaddD_int, iaddD_str, subD_int, mulD_int, mulD_str, mulD_lst, fdivD_int, modD_int, powD_int, negD_int, eqD, neD_str, neD_int, ltD_int, leD_int, gtD_int, geD_int, isD, isnD, D.isNon, inDv, ninDv, ixD_lst, ixD_tup, ixD_str, slD_lst, slD_frl, slD_str, dLc, dLook, Slot.calm]
  refine ⟨by decide, ⟨_, _, rfl, ⟨a, b, rfl, h0, h1⟩, by decide, by decide, fun r p' o hr0 hr1 hp' => ?_⟩⟩
  simp -implicitDefEqProofs only [runD, startE, outsE, outs_0, outs_s, List.length_cons, List.length_nil, List.cons_append, List.nil_append, List.replicate, Nat.sub_zero, Nat.add_one_sub_one, Nat.reduceSub, Nat.reduceAdd, dC, dVar_M, dVarM_fz, dVarM_own, dIxN_M, dIxM_fz, dIxM_own, dFnN_M, dFnM_fz, dFnM_own, dOp, dUn, dArgs, dLst, dTup, dFn, dIsi, dMs, dPart, dSl, dIfE, Slot.known, tVal, tTru, tAnd, tOr, tNot, dAnd, dOr, dNot, dChain, iLst, iTup, iStr, iRng1, iRng2, iEnum, iZip, gN, gNs, gT, Tgt.g, tYes, wipeE, backE, dAVs, dCall, avSlot, AV.ok, Slot.isOwn, bA_nil, bA_v, bA_m, D.isRef, List.all_cons, List.all_nil, List.map_cons, List.map_nil, Bool.and_true, Bool.true_and, List.tail_cons, List.tail_nil, List.head?_cons, sNx, sSeq, sRet, sRetN, sExp, sAsg, sAsgO, sIf, sAug, sFor, sWh, sBrk, sCnt, sRaise, sApp, Slot.ownL, sPut, sPar, sParL, sFld, dFld, dMake, mkC, dMakeV, dCm, dObj, D.isObj, dCallV, dCallS, dEqO, dIsO, dDct0, isBD_bl, notBD_bl, revD_lst, sPar3, sTrys, catchD, DEnds.unname, repF, D.eqTo, at_0, at_s, at_nil, set_0, set_s, fzd, frd, if_true, if_false, Bool.not_true, Bool.not_false, true_and, and_true, Bool.false_eq_true, ↓reduceIte, lenF, lenD, allF, anyF, sumF, absF, intF, tupleF, swM, ewM, eqv_int, eqv_str, eqv_bl, D.isTy, Int.cast_ofNat_Int, addD_int, addD_str, addD_lst, iaddD_int, iaddD_str, subD_int, mulD_int, mulD_str, mulD_lst, fdivD_int, modD_int, powD_int, negD_int, eqD, neD_str, neD_int, ltD_int, leD_int, gtD_int, geD_int, isD, isnD, D.isNon, inDv, ninDv, ixD_lst, ixD_tup, ixD_str, slD_lst, slD_frl, slD_str, dLc, dLook, Slot.calm]
  have : r = 0 ∨ r = 1 ∨ r = 2 ∨ r = 3 ∨ r = 4 ∨ r = 5 := by omega
  rcases this with rfl | rfl | rfl | rfl | rfl | rfl <;> refine ⟨_, _, rfl, rfl, hq _ _ ⟨by decide, by decide, by decide⟩ hp'⟩
theorem rng_len (lo : Int) (n : Nat) : (rng lo n).length = n := by unfold rng; rw [List.length_map, List.length_range]
theorem rng_succ (lo : Int) (n : Nat) : rng lo (n + 1) = .int lo :: rng (lo + 1) n := by
  unfold rng
  rw [List.range_succ_eq_map, List.map_cons, List.map_map]
  refine congr (congrArg List.cons ?_) ?_
  · show D.int (lo + ((0 : Nat) : Int)) = _
    rw [show lo + ((0 : Nat) : Int) = lo from by omega]
  · refine List.map_congr_left fun k _ => ?_
    show D.int (lo + ((k + 1 : Nat) : Int)) = D.int (lo + 1 + (k : Int))
    rw [show lo + ((k + 1 : Nat) : Int) = lo + 1 + (k : Int) from by omega]
/-- one letter drawn -/
theorem ls_at {ls : Tx} {r : Int} (h0 : 0 ≤ r) (h1 : r < ls.length) : ∃ c, ls[r.toNat]? = some c ∧ (ls.all isItem = true → isItem c = true) := by
  have hi : r.toNat < ls.length := by omega
  refine ⟨ls[r.toNat], List.getElem?_eq_getElem hi, fun h => ?_⟩
  exact List.all_eq_true.mp h _ (List.getElem_mem hi)
theorem ls_pos {ls : Tx} (h : okLs ls) : 0 < ls.length := by
  obtain ⟨h1, _⟩ := h
  cases ls with
  | nil => exact absurd rfl h1
  | cons a l => simp
/-- _law_word: 0 _law_pool, 1 _law_letters, 2 _law_most, 3 _law_turn -/
def b__law_word : DS := sRet (dMs joinM (dC (.str [])) [dLc [3] (iRng1 (dCall C__law_draw [.m 0, .v (dOp addD (dVar 2) (dC (.int 1)))])) (Tgt.g (.one 3)) (tYes) (dOp ixD (dVar 1) (dCall C__law_draw [.m 0, .v (dFn lenF [dVar 1])]))])
def C__law_word : Con := fun args Q _ => ∃ (p : Slot) (ls : Tx) (n : Nat), args = [p, .fz (.str ls), .fz (.int n)] ∧ poolOk p ∧ okLs ls ∧ n ≤ 10000 ∧ ∀ (t : Tx) p' o1 o2, t.length ≤ n → t.all isItem = true → poolOk p' → Q (.fz (.str t)) [p', o1, o2]
theorem p__law_word : ∀ args Q E, args.length = 3 → C__law_word args Q E → runD 4 b__law_word args Q E := by
  intro args Q E _ h
  obtain ⟨p, ls, n, rfl, ⟨a, b, rfl, h0, h1⟩, hls, hn, hq⟩ := h
  unfold b__law_word
  simp -implicitDefEqProofs only [runD, startE, outsE, outs_0, outs_s, List.length_cons, List.length_nil, List.cons_append, List.nil_append, List.replicate, Nat.sub_zero, Nat.add_one_sub_one, Nat.reduceSub, Nat.reduceAdd, dC, dVar_M, dVarM_fz, dVarM_own, dIxN_M, dIxM_fz, dIxM_own, dFnN_M, dFnM_fz, dFnM_own, dOp, dUn, dArgs, dLst, dTup, dFn, dIsi, dMs, dPart, dSl, dIfE, Slot.known, tVal, tTru, tAnd, tOr, tNot, dAnd, dOr, dNot, dChain, iLst, iTup, iStr, iRng1, iRng2, iEnum, iZip, gN, gNs, gT, Tgt.g, tYes, wipeE, backE, dAVs, dCall, avSlot, AV.ok, Slot.isOwn, bA_nil, bA_v, bA_m, D.isRef, List.all_cons, List.all_nil, List.map_cons, List.map_nil, Bool.and_true, Bool.true_and, List.tail_cons, List.tail_nil, List.head?_cons, sNx, sSeq, sRet, sRetN, sExp, sAsg, sAsgO, sIf, sAug, sFor, sWh, sBrk, sCnt, sRaise, sApp, Slot.ownL, sPut, sPar, sParL, sFld, dFld, dMake, mkC, dMakeV, dCm, dObj, D.isObj, dCallV, dCallS, dEqO, dIsO, dDct0, isBD_bl, notBD_bl, revD_lst, sPar3, sTrys, catchD, DEnds.unname, repF, D.eqTo, at_0, at_s, at_nil, set_0, set_s, fzd, frd, if_true, if_false, Bool.not_true, Bool.not_false, true_and, and_true, Bool.false_eq_true, ↓reduceIte, lenF, lenD, allF, anyF, sumF, absF, intF, tupleF, swM, ewM, eqv_int, eqv_str, eqv_bl, D.isTy, Int.cast_ofNat_Int, addD_int, addD_str, addD_lst, iaddD_int, iaddD_str, subD_int, mulD_int, mulD_str, mulD_lst, fdivD_int, modD_int, powD_int, negD_int, eqD, neD_str, neD_int, ltD_int, leD_int, gtD_int, geD_int, isD, isnD, D.isNon, inDv, ninDv, ixD_lst, ixD_tup, ixD_str, slD_lst, slD_frl, slD_str, dLc, dLook, Slot.calm]
  refine ⟨_, _, rfl, ⟨a, b, rfl, h0, h1⟩, by omega, by omega, fun r p' o hr0 hr1 hp' => ?_⟩
  simp -implicitDefEqProofs only [runD, startE, outsE, outs_0, outs_s, List.length_cons, List.length_nil, List.cons_append, List.nil_append, List.replicate, Nat.sub_zero, Nat.add_one_sub_one, Nat.reduceSub, Nat.reduceAdd, dC, dVar_M, dVarM_fz, dVarM_own, dIxN_M, dIxM_fz, dIxM_own, dFnN_M, dFnM_fz, dFnM_own, dOp, dUn, dArgs, dLst, dTup, dFn, dIsi, dMs, dPart, dSl, dIfE, Slot.known, tVal, tTru, tAnd, tOr, tNot, dAnd, dOr, dNot, dChain, iLst, iTup, iStr, iRng1, iRng2, iEnum, iZip, gN, gNs, gT, Tgt.g, tYes, wipeE, backE, dAVs, dCall, avSlot, AV.ok, Slot.isOwn, bA_nil, bA_v, bA_m, D.isRef, List.all_cons, List.all_nil, List.map_cons, List.map_nil, Bool.and_true, Bool.true_and, List.tail_cons, List.tail_nil, List.head?_cons, sNx, sSeq, sRet, sRetN, sExp, sAsg, sAsgO, sIf, sAug, sFor, sWh, sBrk, sCnt, sRaise, sApp, Slot.ownL, sPut, sPar, sParL, sFld, dFld, dMake, mkC, dMakeV, dCm, dObj, D.isObj, dCallV, dCallS, dEqO, dIsO, dDct0, isBD_bl, notBD_bl, revD_lst, sPar3, sTrys, catchD, DEnds.unname, repF, D.eqTo, at_0, at_s, at_nil, set_0, set_s, fzd, frd, if_true, if_false, Bool.not_true, Bool.not_false, true_and, and_true, Bool.false_eq_true, ↓reduceIte, lenF, lenD, allF, anyF, sumF, absF, intF, tupleF, swM, ewM, eqv_int, eqv_str, eqv_bl, D.isTy, Int.cast_ofNat_Int, addD_int, addD_str, addD_lst, iaddD_int, iaddD_str, subD_int, mulD_int, mulD_str, mulD_lst, fdivD_int, modD_int, powD_int, negD_int, eqD, neD_str, neD_int, ltD_int, leD_int, gtD_int, geD_int, isD, isnD, D.isNon, inDv, ninDv, ixD_lst, ixD_tup, ixD_str, slD_lst, slD_frl, slD_str, dLc, dLook, Slot.calm]
  refine ⟨⟨by omega, by omega⟩, fun i hi d => ?_, ?_⟩
  · simp only [List.mem_cons, List.not_mem_nil, or_false] at hi
    subst hi
    exact fun h => nomatch h
  · refine lcL_inv (I := fun xs acc ρ => ∃ p' t, ρ = [p', .fz (.str ls), .fz (.int n), .no] ∧ poolOk p' ∧ acc = t.map (fun c => D.str [c]) ∧ t.all isItem = true ∧ acc.length + xs.length = r.toNat) (fun acc ρ h => ?_) (fun x xs acc ρ h k1 k2 hk1 hk2 => ?_) _ _ _ ⟨p', [], rfl, hp', rfl, rfl, by rw [rng_len]; simp⟩
    · obtain ⟨p2, t, rfl, hp2, rfl, ht, hl⟩ := h
      simp -implicitDefEqProofs only [runD, startE, outsE, outs_0, outs_s, List.length_cons, List.length_nil, List.cons_append, List.nil_append, List.replicate, Nat.sub_zero, Nat.add_one_sub_one, Nat.reduceSub, Nat.reduceAdd, dC, dVar_M, dVarM_fz, dVarM_own, dIxN_M, dIxM_fz, dIxM_own, dFnN_M, dFnM_fz, dFnM_own, dOp, dUn, dArgs, dLst, dTup, dFn, dIsi, dMs, dPart, dSl, dIfE, Slot.known, tVal, tTru, tAnd, tOr, tNot, dAnd, dOr, dNot, dChain, iLst, iTup, iStr, iRng1, iRng2, iEnum, iZip, gN, gNs, gT, Tgt.g, tYes, wipeE, backE, dAVs, dCall, avSlot, AV.ok, Slot.isOwn, bA_nil, bA_v, bA_m, D.isRef, List.all_cons, List.all_nil, List.map_cons, List.map_nil, Bool.and_true, Bool.true_and, List.tail_cons, List.tail_nil, List.head?_cons, sNx, sSeq, sRet, sRetN, sExp, sAsg, sAsgO, sIf, sAug, sFor, sWh, sBrk, sCnt, sRaise, sApp, Slot.ownL, sPut, sPar, sParL, sFld, dFld, dMake, mkC, dMakeV, dCm, dObj, D.isObj, dCallV, dCallS, dEqO, dIsO, dDct0, isBD_bl, notBD_bl, revD_lst, sPar3, sTrys, catchD, DEnds.unname, repF, D.eqTo, at_0, at_s, at_nil, set_0, set_s, fzd, frd, if_true, if_false, Bool.not_true, Bool.not_false, true_and, and_true, Bool.false_eq_true, ↓reduceIte, lenF, lenD, allF, anyF, sumF, absF, intF, tupleF, swM, ewM, eqv_int, eqv_str, eqv_bl, D.isTy, Int.cast_ofNat_Int, addD_int, addD_str, addD_lst, iaddD_int, iaddD_str, subD_int, mulD_int, mulD_str, mulD_lst, fdivD_int, modD_int, powD_int, negD_int, eqD, neD_str, neD_int, ltD_int, leD_int, gtD_int, geD_int, isD, isnD, D.isNon, inDv, ninDv, ixD_lst, ixD_tup, ixD_str, slD_lst, slD_frl, slD_str, dLc, dLook, Slot.calm]
      simp only [List.length_map, List.length_nil] at hl
      refine join_one (k := fun t => Q t _) ?_ (hq _ _ _ _ ?_ ht hp2)
      · show t.length ≤ 16777216; omega
      · omega
    · obtain ⟨p2, t, rfl, ⟨a2, b2, rfl, h20, h21⟩, rfl, ht, hl⟩ := h
      simp -implicitDefEqProofs only [runD, startE, outsE, outs_0, outs_s, List.length_cons, List.length_nil, List.cons_append, List.nil_append, List.replicate, Nat.sub_zero, Nat.add_one_sub_one, Nat.reduceSub, Nat.reduceAdd, dC, dVar_M, dVarM_fz, dVarM_own, dIxN_M, dIxM_fz, dIxM_own, dFnN_M, dFnM_fz, dFnM_own, dOp, dUn, dArgs, dLst, dTup, dFn, dIsi, dMs, dPart, dSl, dIfE, Slot.known, tVal, tTru, tAnd, tOr, tNot, dAnd, dOr, dNot, dChain, iLst, iTup, iStr, iRng1, iRng2, iEnum, iZip, gN, gNs, gT, Tgt.g, tYes, wipeE, backE, dAVs, dCall, avSlot, AV.ok, Slot.isOwn, bA_nil, bA_v, bA_m, D.isRef, List.all_cons, List.all_nil, List.map_cons, List.map_nil, Bool.and_true, Bool.true_and, List.tail_cons, List.tail_nil, List.head?_cons, sNx, sSeq, sRet, sRetN, sExp, sAsg, sAsgO, sIf, sAug, sFor, sWh, sBrk, sCnt, sRaise, sApp, Slot.ownL, sPut, sPar, sParL, sFld, dFld, dMake, mkC, dMakeV, dCm, dObj, D.isObj, dCallV, dCallS, dEqO, dIsO, dDct0, isBD_bl, notBD_bl, revD_lst, sPar3, sTrys, catchD, DEnds.unname, repF, D.eqTo, at_0, at_s, at_nil, set_0, set_s, fzd, frd, if_true, if_false, Bool.not_true, Bool.not_false, true_and, and_true, Bool.false_eq_true, ↓reduceIte, lenF, lenD, allF, anyF, sumF, absF, intF, tupleF, swM, ewM, eqv_int, eqv_str, eqv_bl, D.isTy, Int.cast_ofNat_Int, addD_int, addD_str, addD_lst, iaddD_int, iaddD_str, subD_int, mulD_int, mulD_str, mulD_lst, fdivD_int, modD_int, powD_int, negD_int, eqD, neD_str, neD_int, ltD_int, leD_int, gtD_int, geD_int, isD, isnD, D.isNon, inDv, ninDv, ixD_lst, ixD_tup, ixD_str, slD_lst, slD_frl, slD_str, dLc, dLook, Slot.calm]
      have hpos := ls_pos hls
      refine ⟨_, _, rfl, ⟨a2, b2, rfl, h20, h21⟩, by omega, by have := hls.2.1; omega, fun r2 p3 o2 hr20 hr21 hp3 => ?_⟩
      simp -implicitDefEqProofs only [runD, startE, outsE, outs_0, outs_s, List.length_cons, List.length_nil, List.cons_append, List.nil_append, List.replicate, Nat.sub_zero, Nat.add_one_sub_one, Nat.reduceSub, Nat.reduceAdd, dC, dVar_M, dVarM_fz, dVarM_own, dIxN_M, dIxM_fz, dIxM_own, dFnN_M, dFnM_fz, dFnM_own, dOp, dUn, dArgs, dLst, dTup, dFn, dIsi, dMs, dPart, dSl, dIfE, Slot.known, tVal, tTru, tAnd, tOr, tNot, dAnd, dOr, dNot, dChain, iLst, iTup, iStr, iRng1, iRng2, iEnum, iZip, gN, gNs, gT, Tgt.g, tYes, wipeE, backE, dAVs, dCall, avSlot, AV.ok, Slot.isOwn, bA_nil, bA_v, bA_m, D.isRef, List.all_cons, List.all_nil, List.map_cons, List.map_nil, Bool.and_true, Bool.true_and, List.tail_cons, List.tail_nil, List.head?_cons, sNx, sSeq, sRet, sRetN, sExp, sAsg, sAsgO, sIf, sAug, sFor, sWh, sBrk, sCnt, sRaise, sApp, Slot.ownL, sPut, sPar, sParL, sFld, dFld, dMake, mkC, dMakeV, dCm, dObj, D.isObj, dCallV, dCallS, dEqO, dIsO, dDct0, isBD_bl, notBD_bl, revD_lst, sPar3, sTrys, catchD, DEnds.unname, repF, D.eqTo, at_0, at_s, at_nil, set_0, set_s, fzd, frd, if_true, if_false, Bool.not_true, Bool.not_false, true_and, and_true, Bool.false_eq_true, ↓reduceIte, lenF, lenD, allF, anyF, sumF, absF, intF, tupleF, swM, ewM, eqv_int, eqv_str, eqv_bl, D.isTy, Int.cast_ofNat_Int, addD_int, addD_str, addD_lst, iaddD_int, iaddD_str, subD_int, mulD_int, mulD_str, mulD_lst, fdivD_int, modD_int, powD_int, negD_int, eqD, neD_str, neD_int, ltD_int, leD_int, gtD_int, geD_int, isD, isnD, D.isNon, inDv, ninDv, ixD_lst, ixD_tup, ixD_str, slD_lst, slD_frl, slD_str, dLc, dLook, Slot.calm]
      obtain ⟨c, hc, hit⟩ := ls_at hr20 hr21
      refine ⟨_, c, ix_nat hr20 hr21, hc, hk1 _ _ ⟨?_, p3, t ++ [c], rfl, hp3, ?_, ?_, ?_⟩⟩
      · simp only [List.length_map, List.length_cons] at hl ⊢
        show _ < 16777216
        omega
      · rw [List.map_append]; rfl
      · rw [List.all_append, ht]; simp [hit hls.2.2]
      · simp only [List.length_append, List.length_map, List.length_cons, List.length_nil] at hl ⊢
        omega
/-- _law_steps: 0 _law_pool, 1 _law_letters, 2 _law_most, 3 _law_size, 4 _law_turn -/
def b__law_steps : DS := sSeq (sAsg (gN 3) (dCall C__law_draw [.m 0, .v (dOp addD (dVar 2) (dC (.int 1)))])) (sRet (dLc [4] (iRng1 (dVar 3)) (Tgt.g (.one 4)) (tYes) (dOp addD (dOp ixD (dC (.str [43, 45])) (dCall C__law_draw [.m 0, .v (dC (.int 2))])) (dOp ixD (dVar 1) (dCall C__law_draw [.m 0, .v (dFn lenF [dVar 1])])))))
def C__law_steps : Con := fun args Q _ => ∃ (p : Slot) (ls : Tx) (n : Nat), args = [p, .fz (.str ls), .fz (.int n)] ∧ poolOk p ∧ okLs ls ∧ n ≤ 10000 ∧ ∀ (ss : List St2) r p' o1 o2, ss.length ≤ n → (∀ s ∈ ss, okSt s = true) → poolOk p' → r.d = seqD ss → Q r [p', o1, o2]
theorem p__law_steps : ∀ args Q E, args.length = 3 → C__law_steps args Q E → runD 5 b__law_steps args Q E := by
  intro args Q E _ h
  obtain ⟨p, ls, n, rfl, ⟨a, b, rfl, h0, h1⟩, hls, hn, hq⟩ := h
  unfold b__law_steps
  simp -implicitDefEqProofs only [runD, startE, outsE, outs_0, outs_s, List.length_cons, List.length_nil, List.cons_append, List.nil_append, List.replicate, Nat.sub_zero, Nat.add_one_sub_one, Nat.reduceSub, Nat.reduceAdd, dC, dVar_M, dVarM_fz, dVarM_own, dIxN_M, dIxM_fz, dIxM_own, dFnN_M, dFnM_fz, dFnM_own, dOp, dUn, dArgs, dLst, dTup, dFn, dIsi, dMs, dPart, dSl, dIfE, Slot.known, tVal, tTru, tAnd, tOr, tNot, dAnd, dOr, dNot, dChain, iLst, iTup, iStr, iRng1, iRng2, iEnum, iZip, gN, gNs, gT, Tgt.g, tYes, wipeE, backE, dAVs, dCall, avSlot, AV.ok, Slot.isOwn, bA_nil, bA_v, bA_m, D.isRef, List.all_cons, List.all_nil, List.map_cons, List.map_nil, Bool.and_true, Bool.true_and, List.tail_cons, List.tail_nil, List.head?_cons, sNx, sSeq, sRet, sRetN, sExp, sAsg, sAsgO, sIf, sAug, sFor, sWh, sBrk, sCnt, sRaise, sApp, Slot.ownL, sPut, sPar, sParL, sFld, dFld, dMake, mkC, dMakeV, dCm, dObj, D.isObj, dCallV, dCallS, dEqO, dIsO, dDct0, isBD_bl, notBD_bl, revD_lst, sPar3, sTrys, catchD, DEnds.unname, repF, D.eqTo, at_0, at_s, at_nil, set_0, set_s, fzd, frd, if_true, if_false, Bool.not_true, Bool.not_false, true_and, and_true, Bool.false_eq_true, ↓reduceIte, lenF, lenD, allF, anyF, sumF, absF, intF, tupleF, swM, ewM, eqv_int, eqv_str, eqv_bl, D.isTy, Int.cast_ofNat_Int, addD_int, addD_str, addD_lst, iaddD_int, iaddD_str, subD_int, mulD_int, mulD_str, mulD_lst, fdivD_int, modD_int, powD_int, negD_int, eqD, neD_str, neD_int, ltD_int, leD_int, gtD_int, geD_int, isD, isnD, D.isNon, inDv, ninDv, ixD_lst, ixD_tup, ixD_str, slD_lst, slD_frl, slD_str, dLc, dLook, Slot.calm]
  refine ⟨_, _, rfl, ⟨a, b, rfl, h0, h1⟩, by omega, by omega, fun r p' o hr0 hr1 hp' => ?_⟩
  simp -implicitDefEqProofs only [runD, startE, outsE, outs_0, outs_s, List.length_cons, List.length_nil, List.cons_append, List.nil_append, List.replicate, Nat.sub_zero, Nat.add_one_sub_one, Nat.reduceSub, Nat.reduceAdd, dC, dVar_M, dVarM_fz, dVarM_own, dIxN_M, dIxM_fz, dIxM_own, dFnN_M, dFnM_fz, dFnM_own, dOp, dUn, dArgs, dLst, dTup, dFn, dIsi, dMs, dPart, dSl, dIfE, Slot.known, tVal, tTru, tAnd, tOr, tNot, dAnd, dOr, dNot, dChain, iLst, iTup, iStr, iRng1, iRng2, iEnum, iZip, gN, gNs, gT, Tgt.g, tYes, wipeE, backE, dAVs, dCall, avSlot, AV.ok, Slot.isOwn, bA_nil, bA_v, bA_m, D.isRef, List.all_cons, List.all_nil, List.map_cons, List.map_nil, Bool.and_true, Bool.true_and, List.tail_cons, List.tail_nil, List.head?_cons, sNx, sSeq, sRet, sRetN, sExp, sAsg, sAsgO, sIf, sAug, sFor, sWh, sBrk, sCnt, sRaise, sApp, Slot.ownL, sPut, sPar, sParL, sFld, dFld, dMake, mkC, dMakeV, dCm, dObj, D.isObj, dCallV, dCallS, dEqO, dIsO, dDct0, isBD_bl, notBD_bl, revD_lst, sPar3, sTrys, catchD, DEnds.unname, repF, D.eqTo, at_0, at_s, at_nil, set_0, set_s, fzd, frd, if_true, if_false, Bool.not_true, Bool.not_false, true_and, and_true, Bool.false_eq_true, ↓reduceIte, lenF, lenD, allF, anyF, sumF, absF, intF, tupleF, swM, ewM, eqv_int, eqv_str, eqv_bl, D.isTy, Int.cast_ofNat_Int, addD_int, addD_str, addD_lst, iaddD_int, iaddD_str, subD_int, mulD_int, mulD_str, mulD_lst, fdivD_int, modD_int, powD_int, negD_int, eqD, neD_str, neD_int, ltD_int, leD_int, gtD_int, geD_int, isD, isnD, D.isNon, inDv, ninDv, ixD_lst, ixD_tup, ixD_str, slD_lst, slD_frl, slD_str, dLc, dLook, Slot.calm]
  refine ⟨⟨by omega, by omega⟩, fun i hi d => ?_, ?_⟩
  · simp only [List.mem_cons, List.not_mem_nil, or_false] at hi
    subst hi
    exact fun h => nomatch h
  · refine lcL_inv (I := fun xs acc ρ => ∃ p' ss, ρ = [p', .fz (.str ls), .fz (.int n), .fz (.int r), .no] ∧ poolOk p' ∧ acc = ss.map stepD ∧ (∀ s ∈ ss, okSt s = true) ∧ acc.length + xs.length = r.toNat) (fun acc ρ h => ?_) (fun x xs acc ρ h k1 k2 hk1 hk2 => ?_) _ _ _ ⟨p', [], rfl, hp', rfl, fun s hs => (nomatch hs), by rw [rng_len]; simp⟩
    · obtain ⟨p2, t, rfl, hp2, rfl, ht, hl⟩ := h
      simp -implicitDefEqProofs only [runD, startE, outsE, outs_0, outs_s, List.length_cons, List.length_nil, List.cons_append, List.nil_append, List.replicate, Nat.sub_zero, Nat.add_one_sub_one, Nat.reduceSub, Nat.reduceAdd, dC, dVar_M, dVarM_fz, dVarM_own, dIxN_M, dIxM_fz, dIxM_own, dFnN_M, dFnM_fz, dFnM_own, dOp, dUn, dArgs, dLst, dTup, dFn, dIsi, dMs, dPart, dSl, dIfE, Slot.known, tVal, tTru, tAnd, tOr, tNot, dAnd, dOr, dNot, dChain, iLst, iTup, iStr, iRng1, iRng2, iEnum, iZip, gN, gNs, gT, Tgt.g, tYes, wipeE, backE, dAVs, dCall, avSlot, AV.ok, Slot.isOwn, bA_nil, bA_v, bA_m, D.isRef, List.all_cons, List.all_nil, List.map_cons, List.map_nil, Bool.and_true, Bool.true_and, List.tail_cons, List.tail_nil, List.head?_cons, sNx, sSeq, sRet, sRetN, sExp, sAsg, sAsgO, sIf, sAug, sFor, sWh, sBrk, sCnt, sRaise, sApp, Slot.ownL, sPut, sPar, sParL, sFld, dFld, dMake, mkC, dMakeV, dCm, dObj, D.isObj, dCallV, dCallS, dEqO, dIsO, dDct0, isBD_bl, notBD_bl, revD_lst, sPar3, sTrys, catchD, DEnds.unname, repF, D.eqTo, at_0, at_s, at_nil, set_0, set_s, fzd, frd, if_true, if_false, Bool.not_true, Bool.not_false, true_and, and_true, Bool.false_eq_true, ↓reduceIte, lenF, lenD, allF, anyF, sumF, absF, intF, tupleF, swM, ewM, eqv_int, eqv_str, eqv_bl, D.isTy, Int.cast_ofNat_Int, addD_int, addD_str, addD_lst, iaddD_int, iaddD_str, subD_int, mulD_int, mulD_str, mulD_lst, fdivD_int, modD_int, powD_int, negD_int, eqD, neD_str, neD_int, ltD_int, leD_int, gtD_int, geD_int, isD, isnD, D.isNon, inDv, ninDv, ixD_lst, ixD_tup, ixD_str, slD_lst, slD_frl, slD_str, dLc, dLook, Slot.calm]
      simp only [List.length_map, List.length_nil] at hl
      exact hq t _ _ _ _ (by omega) ht hp2 rfl
    · obtain ⟨p2, t, rfl, ⟨a2, b2, rfl, h20, h21⟩, rfl, ht, hl⟩ := h
      simp -implicitDefEqProofs only [runD, startE, outsE, outs_0, outs_s, List.length_cons, List.length_nil, List.cons_append, List.nil_append, List.replicate, Nat.sub_zero, Nat.add_one_sub_one, Nat.reduceSub, Nat.reduceAdd, dC, dVar_M, dVarM_fz, dVarM_own, dIxN_M, dIxM_fz, dIxM_own, dFnN_M, dFnM_fz, dFnM_own, dOp, dUn, dArgs, dLst, dTup, dFn, dIsi, dMs, dPart, dSl, dIfE, Slot.known, tVal, tTru, tAnd, tOr, tNot, dAnd, dOr, dNot, dChain, iLst, iTup, iStr, iRng1, iRng2, iEnum, iZip, gN, gNs, gT, Tgt.g, tYes, wipeE, backE, dAVs, dCall, avSlot, AV.ok, Slot.isOwn, bA_nil, bA_v, bA_m, D.isRef, List.all_cons, List.all_nil, List.map_cons, List.map_nil, Bool.and_true, Bool.true_and, List.tail_cons, List.tail_nil, List.head?_cons, sNx, sSeq, sRet, sRetN, sExp, sAsg, sAsgO, sIf, sAug, sFor, sWh, sBrk, sCnt, sRaise, sApp, Slot.ownL, sPut, sPar, sParL, sFld, dFld, dMake, mkC, dMakeV, dCm, dObj, D.isObj, dCallV, dCallS, dEqO, dIsO, dDct0, isBD_bl, notBD_bl, revD_lst, sPar3, sTrys, catchD, DEnds.unname, repF, D.eqTo, at_0, at_s, at_nil, set_0, set_s, fzd, frd, if_true, if_false, Bool.not_true, Bool.not_false, true_and, and_true, Bool.false_eq_true, ↓reduceIte, lenF, lenD, allF, anyF, sumF, absF, intF, tupleF, swM, ewM, eqv_int, eqv_str, eqv_bl, D.isTy, Int.cast_ofNat_Int, addD_int, addD_str, addD_lst, iaddD_int, iaddD_str, subD_int, mulD_int, mulD_str, mulD_lst, fdivD_int, modD_int, powD_int, negD_int, eqD, neD_str, neD_int, ltD_int, leD_int, gtD_int, geD_int, isD, isnD, D.isNon, inDv, ninDv, ixD_lst, ixD_tup, ixD_str, slD_lst, slD_frl, slD_str, dLc, dLook, Slot.calm]
      refine ⟨_, _, rfl, ⟨a2, b2, rfl, h20, h21⟩, by omega, by omega, fun r2 p3 o2 hr20 hr21 hp3 => ?_⟩
      simp -implicitDefEqProofs only [runD, startE, outsE, outs_0, outs_s, List.length_cons, List.length_nil, List.cons_append, List.nil_append, List.replicate, Nat.sub_zero, Nat.add_one_sub_one, Nat.reduceSub, Nat.reduceAdd, dC, dVar_M, dVarM_fz, dVarM_own, dIxN_M, dIxM_fz, dIxM_own, dFnN_M, dFnM_fz, dFnM_own, dOp, dUn, dArgs, dLst, dTup, dFn, dIsi, dMs, dPart, dSl, dIfE, Slot.known, tVal, tTru, tAnd, tOr, tNot, dAnd, dOr, dNot, dChain, iLst, iTup, iStr, iRng1, iRng2, iEnum, iZip, gN, gNs, gT, Tgt.g, tYes, wipeE, backE, dAVs, dCall, avSlot, AV.ok, Slot.isOwn, bA_nil, bA_v, bA_m, D.isRef, List.all_cons, List.all_nil, List.map_cons, List.map_nil, Bool.and_true, Bool.true_and, List.tail_cons, List.tail_nil, List.head?_cons, sNx, sSeq, sRet, sRetN, sExp, sAsg, sAsgO, sIf, sAug, sFor, sWh, sBrk, sCnt, sRaise, sApp, Slot.ownL, sPut, sPar, sParL, sFld, dFld, dMake, mkC, dMakeV, dCm, dObj, D.isObj, dCallV, dCallS, dEqO, dIsO, dDct0, isBD_bl, notBD_bl, revD_lst, sPar3, sTrys, catchD, DEnds.unname, repF, D.eqTo, at_0, at_s, at_nil, set_0, set_s, fzd, frd, if_true, if_false, Bool.not_true, Bool.not_false, true_and, and_true, Bool.false_eq_true, ↓reduceIte, lenF, lenD, allF, anyF, sumF, absF, intF, tupleF, swM, ewM, eqv_int, eqv_str, eqv_bl, D.isTy, Int.cast_ofNat_Int, addD_int, addD_str, addD_lst, iaddD_int, iaddD_str, subD_int, mulD_int, mulD_str, mulD_lst, fdivD_int, modD_int, powD_int, negD_int, eqD, neD_str, neD_int, ltD_int, leD_int, gtD_int, geD_int, isD, isnD, D.isNon, inDv, ninDv, ixD_lst, ixD_tup, ixD_str, slD_lst, slD_frl, slD_str, dLc, dLook, Slot.calm]
      have hpos := ls_pos hls
      obtain ⟨a3, b3, rfl, h30, h31⟩ := hp3
      have hsg : ∃ sg : Nat, ([43, 45] : Tx)[r2.toNat]? = some sg ∧ (sg == 43 || sg == 45) = true := by
        have : r2 = 0 ∨ r2 = 1 := by omega
        rcases this with rfl | rfl
        · exact ⟨43, rfl, rfl⟩
        · exact ⟨45, rfl, rfl⟩
      obtain ⟨sg, hsg1, hsg2⟩ := hsg
      refine ⟨_, sg, ix_nat hr20 (by show r2 < 2; omega), hsg1, ?_⟩
      simp -implicitDefEqProofs only [runD, startE, outsE, outs_0, outs_s, List.length_cons, List.length_nil, List.cons_append, List.nil_append, List.replicate, Nat.sub_zero, Nat.add_one_sub_one, Nat.reduceSub, Nat.reduceAdd, dC, dVar_M, dVarM_fz, dVarM_own, dIxN_M, dIxM_fz, dIxM_own, dFnN_M, dFnM_fz, dFnM_own, dOp, dUn, dArgs, dLst, dTup, dFn, dIsi, dMs, dPart, dSl, dIfE, Slot.known, tVal, tTru, tAnd, tOr, tNot, dAnd, dOr, dNot, dChain, iLst, iTup, iStr, iRng1, iRng2, iEnum, iZip, gN, gNs, gT, Tgt.g, tYes, wipeE, backE, dAVs, dCall, avSlot, AV.ok, Slot.isOwn, bA_nil, bA_v, bA_m, D.isRef, List.all_cons, List.all_nil, List.map_cons, List.map_nil, Bool.and_true, Bool.true_and, List.tail_cons, List.tail_nil, List.head?_cons, sNx, sSeq, sRet, sRetN, sExp, sAsg, sAsgO, sIf, sAug, sFor, sWh, sBrk, sCnt, sRaise, sApp, Slot.ownL, sPut, sPar, sParL, sFld, dFld, dMake, mkC, dMakeV, dCm, dObj, D.isObj, dCallV, dCallS, dEqO, dIsO, dDct0, isBD_bl, notBD_bl, revD_lst, sPar3, sTrys, catchD, DEnds.unname, repF, D.eqTo, at_0, at_s, at_nil, set_0, set_s, fzd, frd, if_true, if_false, Bool.not_true, Bool.not_false, true_and, and_true, Bool.false_eq_true, ↓reduceIte, lenF, lenD, allF, anyF, sumF, absF, intF, tupleF, swM, ewM, eqv_int, eqv_str, eqv_bl, D.isTy, Int.cast_ofNat_Int, addD_int, addD_str, addD_lst, iaddD_int, iaddD_str, subD_int, mulD_int, mulD_str, mulD_lst, fdivD_int, modD_int, powD_int, negD_int, eqD, neD_str, neD_int, ltD_int, leD_int, gtD_int, geD_int, isD, isnD, D.isNon, inDv, ninDv, ixD_lst, ixD_tup, ixD_str, slD_lst, slD_frl, slD_str, dLc, dLook, Slot.calm]
      refine ⟨_, _, rfl, ⟨a3, b3, rfl, h30, h31⟩, by omega, by have := hls.2.1; omega, fun r4 p4 o4 hr40 hr41 hp4 => ?_⟩
      simp -implicitDefEqProofs only [runD, startE, outsE, outs_0, outs_s, List.length_cons, List.length_nil, List.cons_append, List.nil_append, List.replicate, Nat.sub_zero, Nat.add_one_sub_one, Nat.reduceSub, Nat.reduceAdd, dC, dVar_M, dVarM_fz, dVarM_own, dIxN_M, dIxM_fz, dIxM_own, dFnN_M, dFnM_fz, dFnM_own, dOp, dUn, dArgs, dLst, dTup, dFn, dIsi, dMs, dPart, dSl, dIfE, Slot.known, tVal, tTru, tAnd, tOr, tNot, dAnd, dOr, dNot, dChain, iLst, iTup, iStr, iRng1, iRng2, iEnum, iZip, gN, gNs, gT, Tgt.g, tYes, wipeE, backE, dAVs, dCall, avSlot, AV.ok, Slot.isOwn, bA_nil, bA_v, bA_m, D.isRef, List.all_cons, List.all_nil, List.map_cons, List.map_nil, Bool.and_true, Bool.true_and, List.tail_cons, List.tail_nil, List.head?_cons, sNx, sSeq, sRet, sRetN, sExp, sAsg, sAsgO, sIf, sAug, sFor, sWh, sBrk, sCnt, sRaise, sApp, Slot.ownL, sPut, sPar, sParL, sFld, dFld, dMake, mkC, dMakeV, dCm, dObj, D.isObj, dCallV, dCallS, dEqO, dIsO, dDct0, isBD_bl, notBD_bl, revD_lst, sPar3, sTrys, catchD, DEnds.unname, repF, D.eqTo, at_0, at_s, at_nil, set_0, set_s, fzd, frd, if_true, if_false, Bool.not_true, Bool.not_false, true_and, and_true, Bool.false_eq_true, ↓reduceIte, lenF, lenD, allF, anyF, sumF, absF, intF, tupleF, swM, ewM, eqv_int, eqv_str, eqv_bl, D.isTy, Int.cast_ofNat_Int, addD_int, addD_str, addD_lst, iaddD_int, iaddD_str, subD_int, mulD_int, mulD_str, mulD_lst, fdivD_int, modD_int, powD_int, negD_int, eqD, neD_str, neD_int, ltD_int, leD_int, gtD_int, geD_int, isD, isnD, D.isNon, inDv, ninDv, ixD_lst, ixD_tup, ixD_str, slD_lst, slD_frl, slD_str, dLc, dLook, Slot.calm]
      obtain ⟨c, hc, hit⟩ := ls_at hr40 hr41
      refine ⟨_, c, ix_nat hr40 hr41, hc, by decide, hk1 _ _ ⟨?_, p4, t ++ [(sg, c)], rfl, hp4, ?_, ?_, ?_⟩⟩
      · simp only [List.length_map, List.length_cons] at hl ⊢
        show _ < 16777216
        omega
      · rw [List.map_append]; rfl
      · intro s hs
        rcases List.mem_append.mp hs with h | h
        · exact ht s h
        · simp only [List.mem_cons, List.not_mem_nil, or_false] at h
          subst h
          unfold okSt
          rw [hsg2, hit hls.2.2]
          rfl
      · simp only [List.length_append, List.length_map, List.length_cons, List.length_nil] at hl ⊢
        omega
end DL

set_option linter.all false
set_option autoImplicit false
set_option maxRecDepth 100000
namespace DL
/-- running -/
def exec : Tx → List St2 → Nat → Tx × Option Nat
  | q, [], _ => (q, none)
  | q, s :: ss, i => if s.1 == 43 then exec (q ++ [s.2]) ss (i + 1) else match q with
    | c :: q' => if c == s.2 then exec q' ss (i + 1) else (c :: q', some i)
    | [] => ([], some i)
theorem exec_cons {q : Tx} {s : St2} {ss : List St2} {i : Nat} : exec q (s :: ss) i = if s.1 == 43 then exec (q ++ [s.2]) ss (i + 1) else match q with
    | c :: q' => if c == s.2 then exec q' ss (i + 1) else (c :: q', some i)
    | [] => ([], some i) := rfl
theorem exec_on : ∀ (ss tt : List St2) (q : Tx) (i : Nat), (exec q ss i).2 = none → exec q (ss ++ tt) i = exec (exec q ss i).1 tt (i + ss.length)
  | [], tt, q, i, _ => rfl
  | s :: ss, tt, q, i, h => by
    have e : i + (s :: ss).length = i + 1 + ss.length := by rw [List.length_cons]; omega
    rw [exec_cons] at h
    rw [List.cons_append, e, exec_cons, exec_cons]
    split at h
    · rw [if_pos (by assumption), if_pos (by assumption)]
      exact exec_on ss tt _ _ h
    · rw [if_neg (by assumption), if_neg (by assumption)]
      split at h
      · split at h
        · rw [if_pos (by assumption), if_pos (by assumption)]
          exact exec_on ss tt _ _ h
        · cases h
      · cases h
theorem exec_put {x q : Tx} {ss : List St2} {c : Nat} (h : exec x ss 0 = (q, none)) : exec x (ss ++ [(43, c)]) 0 = (q ++ [c], none) := by
  rw [exec_on ss _ _ _ (by rw [h]), h]; rfl
theorem exec_take {x q : Tx} {ss : List St2} {c : Nat} (h : exec x ss 0 = (c :: q, none)) : exec x (ss ++ [(45, c)]) 0 = (q, none) := by
  rw [exec_on ss _ _ _ (by rw [h]), h]
  show (if c == c then (q, none) else (c :: q, some (0 + ss.length))) = _
  rw [if_pos (by simp)]
/-- _law_near: 0 _law_pool, 1 _law_letters_here, 2 _law_most, 3 _law_shorter, 4 _law_queue, 5 _law_steps_here, 6 _law_turn, 7 _law_item -/
def b__law_near : DS := sSeq (sAsg (gN 3) (dCall C__law_word [.m 0, .v (dVar 1), .v (dVar 2)])) (sSeq (sParL 4 5 (dVar 3)) (sSeq (sFor (iRng1 (dCall C__law_draw [.m 0, .v (dOp addD (dOp mulD (dC (.int 2)) (dVar 2)) (dC (.int 1)))])) (gN 6) (sIf (tAnd (tVal (dOp neD (dVar 4) (dC (.str [])))) (tVal (dOp eqD (dCall C__law_draw [.m 0, .v (dC (.int 2))]) (dC (.int 0))))) (sSeq (sApp 5 (dOp addD (dC (.str [45])) (dOp ixD (dVar 4) (dC (.int 0))))) (sAsg (gN 4) (dSl (dVar 4) (some (dC (.int 1))) none))) (sSeq (sAsg (gN 7) (dOp ixD (dVar 1) (dCall C__law_draw [.m 0, .v (dFn lenF [dVar 1])]))) (sSeq (sApp 5 (dOp addD (dC (.str [43])) (dVar 7))) (sAsg (gN 4) (dOp addD (dVar 4) (dVar 7))))))) (sRet (dTup [dVar 3, dVar 5, dVar 4]))))
def C__law_near : Con := fun args Q _ => ∃ (p : Slot) (ls : Tx) (n : Nat), args = [p, .fz (.str ls), .fz (.int n)] ∧ poolOk p ∧ okLs ls ∧ n ≤ 1000 ∧
  ∀ (x y : Tx) (ss : List St2) r p' o1 o2, x.length ≤ n → x.all isItem = true → y.length ≤ n + ss.length → y.all isItem = true → exec x ss 0 = (y, none) → ss.length ≤ 2 * n → (∀ s ∈ ss, okSt s = true) → poolOk p' → r.d = .tup [.str x, seqD ss, .str y] → Q r [p', o1, o2]
theorem p__law_near : ∀ args Q E, args.length = 3 → C__law_near args Q E → runD 8 b__law_near args Q E := by
  intro args Q E _ h
  obtain ⟨p, ls, n, rfl, ⟨a, b, rfl, h0, h1⟩, hls, hn, hq⟩ := h
  have hpos := ls_pos hls
  unfold b__law_near
  simp -implicitDefEqProofs only [runD, startE, outsE, outs_0, outs_s, List.length_cons, List.length_nil, List.cons_append, List.nil_append, List.replicate, Nat.sub_zero, Nat.add_one_sub_one, Nat.reduceSub, Nat.reduceAdd, dC, dVar_M, dVarM_fz, dVarM_own, dIxN_M, dIxM_fz, dIxM_own, dFnN_M, dFnM_fz, dFnM_own, dOp, dUn, dArgs, dLst, dTup, dFn, dIsi, dMs, dPart, dSl, dIfE, Slot.known, tVal, tTru, tAnd, tOr, tNot, dAnd, dOr, dNot, dChain, iLst, iTup, iStr, iRng1, iRng2, iEnum, iZip, gN, gNs, gT, Tgt.g, tYes, wipeE, backE, dAVs, dCall, avSlot, AV.ok, Slot.isOwn, bA_nil, bA_v, bA_m, D.isRef, List.all_cons, List.all_nil, List.map_cons, List.map_nil, Bool.and_true, Bool.true_and, List.tail_cons, List.tail_nil, List.head?_cons, sNx, sSeq, sRet, sRetN, sExp, sAsg, sAsgO, sIf, sAug, sFor, sWh, sBrk, sCnt, sRaise, sApp, Slot.ownL, sPut, sPar, sParL, sFld, dFld, dMake, mkC, dMakeV, dCm, dObj, D.isObj, dCallV, dCallS, dEqO, dIsO, dDct0, isBD_bl, notBD_bl, revD_lst, sPar3, sTrys, catchD, DEnds.unname, repF, D.eqTo, at_0, at_s, at_nil, set_0, set_s, fzd, frd, if_true, if_false, Bool.not_true, Bool.not_false, true_and, and_true, Bool.false_eq_true, ↓reduceIte, lenF, lenD, allF, anyF, sumF, absF, intF, tupleF, swM, ewM, eqv_int, eqv_str, eqv_bl, D.isTy, Int.cast_ofNat_Int, addD_int, addD_str, addD_lst, iaddD_int, iaddD_str, subD_int, mulD_int, mulD_str, mulD_lst, fdivD_int, modD_int, powD_int, negD_int, eqD, neD_str, neD_int, ltD_int, leD_int, gtD_int, geD_int, isD, isnD, D.isNon, inDv, ninDv, ixD_lst, ixD_tup, ixD_str, slD_lst, slD_frl, slD_str, dLc, dLook, Slot.calm]
  refine ⟨_, ls, n, rfl, ⟨a, b, rfl, h0, h1⟩, hls, by omega, fun x p1 o1 o2 hx1 hx2 hp1 => ?_⟩
  obtain ⟨a1, b1, rfl, h10, h11⟩ := hp1
  simp -implicitDefEqProofs only [runD, startE, outsE, outs_0, outs_s, List.length_cons, List.length_nil, List.cons_append, List.nil_append, List.replicate, Nat.sub_zero, Nat.add_one_sub_one, Nat.reduceSub, Nat.reduceAdd, dC, dVar_M, dVarM_fz, dVarM_own, dIxN_M, dIxM_fz, dIxM_own, dFnN_M, dFnM_fz, dFnM_own, dOp, dUn, dArgs, dLst, dTup, dFn, dIsi, dMs, dPart, dSl, dIfE, Slot.known, tVal, tTru, tAnd, tOr, tNot, dAnd, dOr, dNot, dChain, iLst, iTup, iStr, iRng1, iRng2, iEnum, iZip, gN, gNs, gT, Tgt.g, tYes, wipeE, backE, dAVs, dCall, avSlot, AV.ok, Slot.isOwn, bA_nil, bA_v, bA_m, D.isRef, List.all_cons, List.all_nil, List.map_cons, List.map_nil, Bool.and_true, Bool.true_and, List.tail_cons, List.tail_nil, List.head?_cons, sNx, sSeq, sRet, sRetN, sExp, sAsg, sAsgO, sIf, sAug, sFor, sWh, sBrk, sCnt, sRaise, sApp, Slot.ownL, sPut, sPar, sParL, sFld, dFld, dMake, mkC, dMakeV, dCm, dObj, D.isObj, dCallV, dCallS, dEqO, dIsO, dDct0, isBD_bl, notBD_bl, revD_lst, sPar3, sTrys, catchD, DEnds.unname, repF, D.eqTo, at_0, at_s, at_nil, set_0, set_s, fzd, frd, if_true, if_false, Bool.not_true, Bool.not_false, true_and, and_true, Bool.false_eq_true, ↓reduceIte, lenF, lenD, allF, anyF, sumF, absF, intF, tupleF, swM, ewM, eqv_int, eqv_str, eqv_bl, D.isTy, Int.cast_ofNat_Int, addD_int, addD_str, addD_lst, iaddD_int, iaddD_str, subD_int, mulD_int, mulD_str, mulD_lst, fdivD_int, modD_int, powD_int, negD_int, eqD, neD_str, neD_int, ltD_int, leD_int, gtD_int, geD_int, isD, isnD, D.isNon, inDv, ninDv, ixD_lst, ixD_tup, ixD_str, slD_lst, slD_frl, slD_str, dLc, dLook, Slot.calm]
  refine ⟨.inl ⟨by decide, by decide⟩, _, _, rfl, ⟨a1, b1, rfl, h10, h11⟩, by omega, by omega, fun r p2 o hr0 hr1 hp2 => ?_⟩
  simp -implicitDefEqProofs only [runD, startE, outsE, outs_0, outs_s, List.length_cons, List.length_nil, List.cons_append, List.nil_append, List.replicate, Nat.sub_zero, Nat.add_one_sub_one, Nat.reduceSub, Nat.reduceAdd, dC, dVar_M, dVarM_fz, dVarM_own, dIxN_M, dIxM_fz, dIxM_own, dFnN_M, dFnM_fz, dFnM_own, dOp, dUn, dArgs, dLst, dTup, dFn, dIsi, dMs, dPart, dSl, dIfE, Slot.known, tVal, tTru, tAnd, tOr, tNot, dAnd, dOr, dNot, dChain, iLst, iTup, iStr, iRng1, iRng2, iEnum, iZip, gN, gNs, gT, Tgt.g, tYes, wipeE, backE, dAVs, dCall, avSlot, AV.ok, Slot.isOwn, bA_nil, bA_v, bA_m, D.isRef, List.all_cons, List.all_nil, List.map_cons, List.map_nil, Bool.and_true, Bool.true_and, List.tail_cons, List.tail_nil, List.head?_cons, sNx, sSeq, sRet, sRetN, sExp, sAsg, sAsgO, sIf, sAug, sFor, sWh, sBrk, sCnt, sRaise, sApp, Slot.ownL, sPut, sPar, sParL, sFld, dFld, dMake, mkC, dMakeV, dCm, dObj, D.isObj, dCallV, dCallS, dEqO, dIsO, dDct0, isBD_bl, notBD_bl, revD_lst, sPar3, sTrys, catchD, DEnds.unname, repF, D.eqTo, at_0, at_s, at_nil, set_0, set_s, fzd, frd, if_true, if_false, Bool.not_true, Bool.not_false, true_and, and_true, Bool.false_eq_true, ↓reduceIte, lenF, lenD, allF, anyF, sumF, absF, intF, tupleF, swM, ewM, eqv_int, eqv_str, eqv_bl, D.isTy, Int.cast_ofNat_Int, addD_int, addD_str, addD_lst, iaddD_int, iaddD_str, subD_int, mulD_int, mulD_str, mulD_lst, fdivD_int, modD_int, powD_int, negD_int, eqD, neD_str, neD_int, ltD_int, leD_int, gtD_int, geD_int, isD, isnD, D.isNon, inDv, ninDv, ixD_lst, ixD_tup, ixD_str, slD_lst, slD_frl, slD_str, dLc, dLook, Slot.calm]
  refine ⟨⟨by omega, by omega⟩, ?_⟩
  refine forL_inv (I := fun es ρ => ∃ (p' : Slot) (q : Tx) (ss : List St2) (s6 s7 : Slot), ρ = [p', .fz (.str ls), .fz (.int n), .fz (.str x), .fz (.str q), .own (.lst (ss.map stepD)), s6, s7] ∧ poolOk p' ∧ q.all isItem = true ∧ (∀ s ∈ ss, okSt s = true) ∧ q.length ≤ n + ss.length ∧ ss.length + es.length = r.toNat ∧ exec x ss 0 = (q, none))
    (fun ρ h => ?_) (fun e es ρ h k hk => ?_) _ _ ⟨p2, x, [], .no, .no, rfl, hp2, hx2, fun s hs => (nomatch hs), by simp; omega, by rw [rng_len]; simp, rfl⟩
  · obtain ⟨p3, q, ss, s6, s7, rfl, hp3, hq1, hs1, hl1, hl2, hex⟩ := h
    simp -implicitDefEqProofs only [runD, startE, outsE, outs_0, outs_s, List.length_cons, List.length_nil, List.cons_append, List.nil_append, List.replicate, Nat.sub_zero, Nat.add_one_sub_one, Nat.reduceSub, Nat.reduceAdd, dC, dVar_M, dVarM_fz, dVarM_own, dIxN_M, dIxM_fz, dIxM_own, dFnN_M, dFnM_fz, dFnM_own, dOp, dUn, dArgs, dLst, dTup, dFn, dIsi, dMs, dPart, dSl, dIfE, Slot.known, tVal, tTru, tAnd, tOr, tNot, dAnd, dOr, dNot, dChain, iLst, iTup, iStr, iRng1, iRng2, iEnum, iZip, gN, gNs, gT, Tgt.g, tYes, wipeE, backE, dAVs, dCall, avSlot, AV.ok, Slot.isOwn, bA_nil, bA_v, bA_m, D.isRef, List.all_cons, List.all_nil, List.map_cons, List.map_nil, Bool.and_true, Bool.true_and, List.tail_cons, List.tail_nil, List.head?_cons, sNx, sSeq, sRet, sRetN, sExp, sAsg, sAsgO, sIf, sAug, sFor, sWh, sBrk, sCnt, sRaise, sApp, Slot.ownL, sPut, sPar, sParL, sFld, dFld, dMake, mkC, dMakeV, dCm, dObj, D.isObj, dCallV, dCallS, dEqO, dIsO, dDct0, isBD_bl, notBD_bl, revD_lst, sPar3, sTrys, catchD, DEnds.unname, repF, D.eqTo, at_0, at_s, at_nil, set_0, set_s, fzd, frd, if_true, if_false, Bool.not_true, Bool.not_false, true_and, and_true, Bool.false_eq_true, ↓reduceIte, lenF, lenD, allF, anyF, sumF, absF, intF, tupleF, swM, ewM, eqv_int, eqv_str, eqv_bl, D.isTy, Int.cast_ofNat_Int, addD_int, addD_str, addD_lst, iaddD_int, iaddD_str, subD_int, mulD_int, mulD_str, mulD_lst, fdivD_int, modD_int, powD_int, negD_int, eqD, neD_str, neD_int, ltD_int, leD_int, gtD_int, geD_int, isD, isnD, D.isNon, inDv, ninDv, ixD_lst, ixD_tup, ixD_str, slD_lst, slD_frl, slD_str, dLc, dLook, Slot.calm]
    simp only [List.length_nil] at hl2
    exact ⟨by decide, hq x q ss _ _ _ _ (by omega) hx2 hl1 hq1 hex (by omega) hs1 hp3 rfl⟩
  · obtain ⟨p3, q, ss, s6, s7, rfl, ⟨a3, b3, rfl, h30, h31⟩, hq1, hs1, hl1, hl2, hex⟩ := h
    simp only [List.length_cons] at hl2
    -- both ways of a step
    have put : ∀ (p4 : Slot) (c : Nat), poolOk p4 → isItem c = true → ∀ s6 s7, k [p4, .fz (.str ls), .fz (.int n), .fz (.str x), .fz (.str (q ++ [c])), .own (.lst (ss.map stepD ++ [.str [43, c]])), s6, s7] := fun p4 c hp4 hc s6 s7 => by
      refine hk _ ⟨p4, q ++ [c], ss ++ [(43, c)], s6, s7, by rw [List.map_append]; rfl, hp4, ?_, ?_, ?_, ?_, exec_put hex⟩
      · rw [List.all_append, hq1]; simp [hc]
      · intro s hs
        rcases List.mem_append.mp hs with h | h
        · exact hs1 s h
        · simp only [List.mem_cons, List.not_mem_nil, or_false] at h
          subst h
          unfold okSt
          rw [hc]
          rfl
      · simp only [List.length_append, List.length_cons, List.length_nil]; omega
      · simp only [List.length_append, List.length_cons, List.length_nil]; omega
    have app : (ss.map stepD).length < maxTx := by
      rw [List.length_map]
      show _ < 16777216
      omega
    simp -implicitDefEqProofs only [runD, startE, outsE, outs_0, outs_s, List.length_cons, List.length_nil, List.cons_append, List.nil_append, List.replicate, Nat.sub_zero, Nat.add_one_sub_one, Nat.reduceSub, Nat.reduceAdd, dC, dVar_M, dVarM_fz, dVarM_own, dIxN_M, dIxM_fz, dIxM_own, dFnN_M, dFnM_fz, dFnM_own, dOp, dUn, dArgs, dLst, dTup, dFn, dIsi, dMs, dPart, dSl, dIfE, Slot.known, tVal, tTru, tAnd, tOr, tNot, dAnd, dOr, dNot, dChain, iLst, iTup, iStr, iRng1, iRng2, iEnum, iZip, gN, gNs, gT, Tgt.g, tYes, wipeE, backE, dAVs, dCall, avSlot, AV.ok, Slot.isOwn, bA_nil, bA_v, bA_m, D.isRef, List.all_cons, List.all_nil, List.map_cons, List.map_nil, Bool.and_true, Bool.true_and, List.tail_cons, List.tail_nil, List.head?_cons, sNx, sSeq, sRet, sRetN, sExp, sAsg, sAsgO, sIf, sAug, sFor, sWh, sBrk, sCnt, sRaise, sApp, Slot.ownL, sPut, sPar, sParL, sFld, dFld, dMake, mkC, dMakeV, dCm, dObj, D.isObj, dCallV, dCallS, dEqO, dIsO, dDct0, isBD_bl, notBD_bl, revD_lst, sPar3, sTrys, catchD, DEnds.unname, repF, D.eqTo, at_0, at_s, at_nil, set_0, set_s, fzd, frd, if_true, if_false, Bool.not_true, Bool.not_false, true_and, and_true, Bool.false_eq_true, ↓reduceIte, lenF, lenD, allF, anyF, sumF, absF, intF, tupleF, swM, ewM, eqv_int, eqv_str, eqv_bl, D.isTy, Int.cast_ofNat_Int, addD_int, addD_str, addD_lst, iaddD_int, iaddD_str, subD_int, mulD_int, mulD_str, mulD_lst, fdivD_int, modD_int, powD_int, negD_int, eqD, neD_str, neD_int, ltD_int, leD_int, gtD_int, geD_int, isD, isnD, D.isNon, inDv, ninDv, ixD_lst, ixD_tup, ixD_str, slD_lst, slD_frl, slD_str, dLc, dLook, Slot.calm]
    refine ⟨.inl rfl, ?_⟩
    cases q with
    | nil =>
      rw [show (([] : Tx) == []) = true from rfl]
      simp -implicitDefEqProofs only [runD, startE, outsE, outs_0, outs_s, List.length_cons, List.length_nil, List.cons_append, List.nil_append, List.replicate, Nat.sub_zero, Nat.add_one_sub_one, Nat.reduceSub, Nat.reduceAdd, dC, dVar_M, dVarM_fz, dVarM_own, dIxN_M, dIxM_fz, dIxM_own, dFnN_M, dFnM_fz, dFnM_own, dOp, dUn, dArgs, dLst, dTup, dFn, dIsi, dMs, dPart, dSl, dIfE, Slot.known, tVal, tTru, tAnd, tOr, tNot, dAnd, dOr, dNot, dChain, iLst, iTup, iStr, iRng1, iRng2, iEnum, iZip, gN, gNs, gT, Tgt.g, tYes, wipeE, backE, dAVs, dCall, avSlot, AV.ok, Slot.isOwn, bA_nil, bA_v, bA_m, D.isRef, List.all_cons, List.all_nil, List.map_cons, List.map_nil, Bool.and_true, Bool.true_and, List.tail_cons, List.tail_nil, List.head?_cons, sNx, sSeq, sRet, sRetN, sExp, sAsg, sAsgO, sIf, sAug, sFor, sWh, sBrk, sCnt, sRaise, sApp, Slot.ownL, sPut, sPar, sParL, sFld, dFld, dMake, mkC, dMakeV, dCm, dObj, D.isObj, dCallV, dCallS, dEqO, dIsO, dDct0, isBD_bl, notBD_bl, revD_lst, sPar3, sTrys, catchD, DEnds.unname, repF, D.eqTo, at_0, at_s, at_nil, set_0, set_s, fzd, frd, if_true, if_false, Bool.not_true, Bool.not_false, true_and, and_true, Bool.false_eq_true, ↓reduceIte, lenF, lenD, allF, anyF, sumF, absF, intF, tupleF, swM, ewM, eqv_int, eqv_str, eqv_bl, D.isTy, Int.cast_ofNat_Int, addD_int, addD_str, addD_lst, iaddD_int, iaddD_str, subD_int, mulD_int, mulD_str, mulD_lst, fdivD_int, modD_int, powD_int, negD_int, eqD, neD_str, neD_int, ltD_int, leD_int, gtD_int, geD_int, isD, isnD, D.isNon, inDv, ninDv, ixD_lst, ixD_tup, ixD_str, slD_lst, slD_frl, slD_str, dLc, dLook, Slot.calm]
      refine ⟨_, _, rfl, ⟨a3, b3, rfl, h30, h31⟩, by omega, by have := hls.2.1; omega, fun r5 p5 o5 hr50 hr51 hp5 => ?_⟩
      simp -implicitDefEqProofs only [runD, startE, outsE, outs_0, outs_s, List.length_cons, List.length_nil, List.cons_append, List.nil_append, List.replicate, Nat.sub_zero, Nat.add_one_sub_one, Nat.reduceSub, Nat.reduceAdd, dC, dVar_M, dVarM_fz, dVarM_own, dIxN_M, dIxM_fz, dIxM_own, dFnN_M, dFnM_fz, dFnM_own, dOp, dUn, dArgs, dLst, dTup, dFn, dIsi, dMs, dPart, dSl, dIfE, Slot.known, tVal, tTru, tAnd, tOr, tNot, dAnd, dOr, dNot, dChain, iLst, iTup, iStr, iRng1, iRng2, iEnum, iZip, gN, gNs, gT, Tgt.g, tYes, wipeE, backE, dAVs, dCall, avSlot, AV.ok, Slot.isOwn, bA_nil, bA_v, bA_m, D.isRef, List.all_cons, List.all_nil, List.map_cons, List.map_nil, Bool.and_true, Bool.true_and, List.tail_cons, List.tail_nil, List.head?_cons, sNx, sSeq, sRet, sRetN, sExp, sAsg, sAsgO, sIf, sAug, sFor, sWh, sBrk, sCnt, sRaise, sApp, Slot.ownL, sPut, sPar, sParL, sFld, dFld, dMake, mkC, dMakeV, dCm, dObj, D.isObj, dCallV, dCallS, dEqO, dIsO, dDct0, isBD_bl, notBD_bl, revD_lst, sPar3, sTrys, catchD, DEnds.unname, repF, D.eqTo, at_0, at_s, at_nil, set_0, set_s, fzd, frd, if_true, if_false, Bool.not_true, Bool.not_false, true_and, and_true, Bool.false_eq_true, ↓reduceIte, lenF, lenD, allF, anyF, sumF, absF, intF, tupleF, swM, ewM, eqv_int, eqv_str, eqv_bl, D.isTy, Int.cast_ofNat_Int, addD_int, addD_str, addD_lst, iaddD_int, iaddD_str, subD_int, mulD_int, mulD_str, mulD_lst, fdivD_int, modD_int, powD_int, negD_int, eqD, neD_str, neD_int, ltD_int, leD_int, gtD_int, geD_int, isD, isnD, D.isNon, inDv, ninDv, ixD_lst, ixD_tup, ixD_str, slD_lst, slD_frl, slD_str, dLc, dLook, Slot.calm]
      obtain ⟨c, hc, hit⟩ := ls_at hr50 hr51
      refine ⟨_, c, ix_nat hr50 hr51, hc, by decide, app, by decide, ?_⟩
      exact put p5 c hp5 (hit hls.2.2) _ _
    | cons c0 q0 =>
      rw [show ((c0 :: q0 : Tx) == []) = false from rfl]
      simp -implicitDefEqProofs only [runD, startE, outsE, outs_0, outs_s, List.length_cons, List.length_nil, List.cons_append, List.nil_append, List.replicate, Nat.sub_zero, Nat.add_one_sub_one, Nat.reduceSub, Nat.reduceAdd, dC, dVar_M, dVarM_fz, dVarM_own, dIxN_M, dIxM_fz, dIxM_own, dFnN_M, dFnM_fz, dFnM_own, dOp, dUn, dArgs, dLst, dTup, dFn, dIsi, dMs, dPart, dSl, dIfE, Slot.known, tVal, tTru, tAnd, tOr, tNot, dAnd, dOr, dNot, dChain, iLst, iTup, iStr, iRng1, iRng2, iEnum, iZip, gN, gNs, gT, Tgt.g, tYes, wipeE, backE, dAVs, dCall, avSlot, AV.ok, Slot.isOwn, bA_nil, bA_v, bA_m, D.isRef, List.all_cons, List.all_nil, List.map_cons, List.map_nil, Bool.and_true, Bool.true_and, List.tail_cons, List.tail_nil, List.head?_cons, sNx, sSeq, sRet, sRetN, sExp, sAsg, sAsgO, sIf, sAug, sFor, sWh, sBrk, sCnt, sRaise, sApp, Slot.ownL, sPut, sPar, sParL, sFld, dFld, dMake, mkC, dMakeV, dCm, dObj, D.isObj, dCallV, dCallS, dEqO, dIsO, dDct0, isBD_bl, notBD_bl, revD_lst, sPar3, sTrys, catchD, DEnds.unname, repF, D.eqTo, at_0, at_s, at_nil, set_0, set_s, fzd, frd, if_true, if_false, Bool.not_true, Bool.not_false, true_and, and_true, Bool.false_eq_true, ↓reduceIte, lenF, lenD, allF, anyF, sumF, absF, intF, tupleF, swM, ewM, eqv_int, eqv_str, eqv_bl, D.isTy, Int.cast_ofNat_Int, addD_int, addD_str, addD_lst, iaddD_int, iaddD_str, subD_int, mulD_int, mulD_str, mulD_lst, fdivD_int, modD_int, powD_int, negD_int, eqD, neD_str, neD_int, ltD_int, leD_int, gtD_int, geD_int, isD, isnD, D.isNon, inDv, ninDv, ixD_lst, ixD_tup, ixD_str, slD_lst, slD_frl, slD_str, dLc, dLook, Slot.calm]
      refine ⟨_, _, rfl, ⟨a3, b3, rfl, h30, h31⟩, by omega, by omega, fun r4 p4 o4 hr40 hr41 hp4 => ?_⟩
      obtain ⟨a4, b4, rfl, h40, h41⟩ := hp4
      simp -implicitDefEqProofs only [runD, startE, outsE, outs_0, outs_s, List.length_cons, List.length_nil, List.cons_append, List.nil_append, List.replicate, Nat.sub_zero, Nat.add_one_sub_one, Nat.reduceSub, Nat.reduceAdd, dC, dVar_M, dVarM_fz, dVarM_own, dIxN_M, dIxM_fz, dIxM_own, dFnN_M, dFnM_fz, dFnM_own, dOp, dUn, dArgs, dLst, dTup, dFn, dIsi, dMs, dPart, dSl, dIfE, Slot.known, tVal, tTru, tAnd, tOr, tNot, dAnd, dOr, dNot, dChain, iLst, iTup, iStr, iRng1, iRng2, iEnum, iZip, gN, gNs, gT, Tgt.g, tYes, wipeE, backE, dAVs, dCall, avSlot, AV.ok, Slot.isOwn, bA_nil, bA_v, bA_m, D.isRef, List.all_cons, List.all_nil, List.map_cons, List.map_nil, Bool.and_true, Bool.true_and, List.tail_cons, List.tail_nil, List.head?_cons, sNx, sSeq, sRet, sRetN, sExp, sAsg, sAsgO, sIf, sAug, sFor, sWh, sBrk, sCnt, sRaise, sApp, Slot.ownL, sPut, sPar, sParL, sFld, dFld, dMake, mkC, dMakeV, dCm, dObj, D.isObj, dCallV, dCallS, dEqO, dIsO, dDct0, isBD_bl, notBD_bl, revD_lst, sPar3, sTrys, catchD, DEnds.unname, repF, D.eqTo, at_0, at_s, at_nil, set_0, set_s, fzd, frd, if_true, if_false, Bool.not_true, Bool.not_false, true_and, and_true, Bool.false_eq_true, ↓reduceIte, lenF, lenD, allF, anyF, sumF, absF, intF, tupleF, swM, ewM, eqv_int, eqv_str, eqv_bl, D.isTy, Int.cast_ofNat_Int, addD_int, addD_str, addD_lst, iaddD_int, iaddD_str, subD_int, mulD_int, mulD_str, mulD_lst, fdivD_int, modD_int, powD_int, negD_int, eqD, neD_str, neD_int, ltD_int, leD_int, gtD_int, geD_int, isD, isnD, D.isNon, inDv, ninDv, ixD_lst, ixD_tup, ixD_str, slD_lst, slD_frl, slD_str, dLc, dLook, Slot.calm]
      refine ⟨.inl rfl, ?_⟩
      have hc0 : isItem c0 = true := by
        have := List.all_eq_true.mp hq1 c0 List.mem_cons_self
        exact this
      cases h4 : (r4 == 0) with
      | true =>
        simp -implicitDefEqProofs only [runD, startE, outsE, outs_0, outs_s, List.length_cons, List.length_nil, List.cons_append, List.nil_append, List.replicate, Nat.sub_zero, Nat.add_one_sub_one, Nat.reduceSub, Nat.reduceAdd, dC, dVar_M, dVarM_fz, dVarM_own, dIxN_M, dIxM_fz, dIxM_own, dFnN_M, dFnM_fz, dFnM_own, dOp, dUn, dArgs, dLst, dTup, dFn, dIsi, dMs, dPart, dSl, dIfE, Slot.known, tVal, tTru, tAnd, tOr, tNot, dAnd, dOr, dNot, dChain, iLst, iTup, iStr, iRng1, iRng2, iEnum, iZip, gN, gNs, gT, Tgt.g, tYes, wipeE, backE, dAVs, dCall, avSlot, AV.ok, Slot.isOwn, bA_nil, bA_v, bA_m, D.isRef, List.all_cons, List.all_nil, List.map_cons, List.map_nil, Bool.and_true, Bool.true_and, List.tail_cons, List.tail_nil, List.head?_cons, sNx, sSeq, sRet, sRetN, sExp, sAsg, sAsgO, sIf, sAug, sFor, sWh, sBrk, sCnt, sRaise, sApp, Slot.ownL, sPut, sPar, sParL, sFld, dFld, dMake, mkC, dMakeV, dCm, dObj, D.isObj, dCallV, dCallS, dEqO, dIsO, dDct0, isBD_bl, notBD_bl, revD_lst, sPar3, sTrys, catchD, DEnds.unname, repF, D.eqTo, at_0, at_s, at_nil, set_0, set_s, fzd, frd, if_true, if_false, Bool.not_true, Bool.not_false, true_and, and_true, Bool.false_eq_true, ↓reduceIte, lenF, lenD, allF, anyF, sumF, absF, intF, tupleF, swM, ewM, eqv_int, eqv_str, eqv_bl, D.isTy, Int.cast_ofNat_Int, addD_int, addD_str, addD_lst, iaddD_int, iaddD_str, subD_int, mulD_int, mulD_str, mulD_lst, fdivD_int, modD_int, powD_int, negD_int, eqD, neD_str, neD_int, ltD_int, leD_int, gtD_int, geD_int, isD, isnD, D.isNon, inDv, ninDv, ixD_lst, ixD_tup, ixD_str, slD_lst, slD_frl, slD_str, dLc, dLook, Slot.calm]
        refine ⟨0, c0, ?_, rfl, by decide, app, ?_⟩
        · unfold ixN
          rw [if_pos (by decide), if_pos (by show (0 : Int) < ((q0.length + 1 : Nat) : Int); omega)]
          rfl
        · have hcut : cut (c0 :: q0) (some 1) none = q0 := cut_from (x := c0 :: q0) (n := 1)
          rw [hcut]
          refine hk _ ⟨_, q0, ss ++ [(45, c0)], _, _, by rw [List.map_append]; rfl, ⟨a4, b4, rfl, h40, h41⟩, ?_, ?_, ?_, ?_, exec_take hex⟩
          · rw [List.all_cons, Bool.and_eq_true] at hq1
            exact hq1.2
          · intro s hs
            rcases List.mem_append.mp hs with h | h
            · exact hs1 s h
            · simp only [List.mem_cons, List.not_mem_nil, or_false] at h
              subst h
              unfold okSt
              rw [hc0]
              rfl
          · simp only [List.length_append, List.length_cons, List.length_nil] at hl1 ⊢; omega
          · simp only [List.length_append, List.length_cons, List.length_nil]; omega
      | false =>
        simp -implicitDefEqProofs only [runD, startE, outsE, outs_0, outs_s, List.length_cons, List.length_nil, List.cons_append, List.nil_append, List.replicate, Nat.sub_zero, Nat.add_one_sub_one, Nat.reduceSub, Nat.reduceAdd, dC, dVar_M, dVarM_fz, dVarM_own, dIxN_M, dIxM_fz, dIxM_own, dFnN_M, dFnM_fz, dFnM_own, dOp, dUn, dArgs, dLst, dTup, dFn, dIsi, dMs, dPart, dSl, dIfE, Slot.known, tVal, tTru, tAnd, tOr, tNot, dAnd, dOr, dNot, dChain, iLst, iTup, iStr, iRng1, iRng2, iEnum, iZip, gN, gNs, gT, Tgt.g, tYes, wipeE, backE, dAVs, dCall, avSlot, AV.ok, Slot.isOwn, bA_nil, bA_v, bA_m, D.isRef, List.all_cons, List.all_nil, List.map_cons, List.map_nil, Bool.and_true, Bool.true_and, List.tail_cons, List.tail_nil, List.head?_cons, sNx, sSeq, sRet, sRetN, sExp, sAsg, sAsgO, sIf, sAug, sFor, sWh, sBrk, sCnt, sRaise, sApp, Slot.ownL, sPut, sPar, sParL, sFld, dFld, dMake, mkC, dMakeV, dCm, dObj, D.isObj, dCallV, dCallS, dEqO, dIsO, dDct0, isBD_bl, notBD_bl, revD_lst, sPar3, sTrys, catchD, DEnds.unname, repF, D.eqTo, at_0, at_s, at_nil, set_0, set_s, fzd, frd, if_true, if_false, Bool.not_true, Bool.not_false, true_and, and_true, Bool.false_eq_true, ↓reduceIte, lenF, lenD, allF, anyF, sumF, absF, intF, tupleF, swM, ewM, eqv_int, eqv_str, eqv_bl, D.isTy, Int.cast_ofNat_Int, addD_int, addD_str, addD_lst, iaddD_int, iaddD_str, subD_int, mulD_int, mulD_str, mulD_lst, fdivD_int, modD_int, powD_int, negD_int, eqD, neD_str, neD_int, ltD_int, leD_int, gtD_int, geD_int, isD, isnD, D.isNon, inDv, ninDv, ixD_lst, ixD_tup, ixD_str, slD_lst, slD_frl, slD_str, dLc, dLook, Slot.calm]
        refine ⟨_, _, rfl, ⟨a4, b4, rfl, h40, h41⟩, by omega, by have := hls.2.1; omega, fun r5 p5 o5 hr50 hr51 hp5 => ?_⟩
        simp -implicitDefEqProofs only [runD, startE, outsE, outs_0, outs_s, List.length_cons, List.length_nil, List.cons_append, List.nil_append, List.replicate, Nat.sub_zero, Nat.add_one_sub_one, Nat.reduceSub, Nat.reduceAdd, dC, dVar_M, dVarM_fz, dVarM_own, dIxN_M, dIxM_fz, dIxM_own, dFnN_M, dFnM_fz, dFnM_own, dOp, dUn, dArgs, dLst, dTup, dFn, dIsi, dMs, dPart, dSl, dIfE, Slot.known, tVal, tTru, tAnd, tOr, tNot, dAnd, dOr, dNot, dChain, iLst, iTup, iStr, iRng1, iRng2, iEnum, iZip, gN, gNs, gT, Tgt.g, tYes, wipeE, backE, dAVs, dCall, avSlot, AV.ok, Slot.isOwn, bA_nil, bA_v, bA_m, D.isRef, List.all_cons, List.all_nil, List.map_cons, List.map_nil, Bool.and_true, Bool.true_and, List.tail_cons, List.tail_nil, List.head?_cons, sNx, sSeq, sRet, sRetN, sExp, sAsg, sAsgO, sIf, sAug, sFor, sWh, sBrk, sCnt, sRaise, sApp, Slot.ownL, sPut, sPar, sParL, sFld, dFld, dMake, mkC, dMakeV, dCm, dObj, D.isObj, dCallV, dCallS, dEqO, dIsO, dDct0, isBD_bl, notBD_bl, revD_lst, sPar3, sTrys, catchD, DEnds.unname, repF, D.eqTo, at_0, at_s, at_nil, set_0, set_s, fzd, frd, if_true, if_false, Bool.not_true, Bool.not_false, true_and, and_true, Bool.false_eq_true, ↓reduceIte, lenF, lenD, allF, anyF, sumF, absF, intF, tupleF, swM, ewM, eqv_int, eqv_str, eqv_bl, D.isTy, Int.cast_ofNat_Int, addD_int, addD_str, addD_lst, iaddD_int, iaddD_str, subD_int, mulD_int, mulD_str, mulD_lst, fdivD_int, modD_int, powD_int, negD_int, eqD, neD_str, neD_int, ltD_int, leD_int, gtD_int, geD_int, isD, isnD, D.isNon, inDv, ninDv, ixD_lst, ixD_tup, ixD_str, slD_lst, slD_frl, slD_str, dLc, dLook, Slot.calm]
        obtain ⟨c, hc, hit⟩ := ls_at hr50 hr51
        refine ⟨_, c, ix_nat hr50 hr51, hc, by decide, app, ?_, ?_⟩
        · simp only [List.length_cons, List.length_nil] at hl1 ⊢; show _ ≤ 16777216; omega
        · exact put p5 c hp5 (hit hls.2.2) _ _
/-- _law_fit: 0 _law_takes, 1 _law_puts, 2 _law_number -/
def b__law_fit : DS := sRet (dOr (dOp geD (dVar 2) (dFn lenF [dVar 0])) (dOp eqD (dSl (dVar 0) (some (dVar 2)) none) (dSl (dVar 1) none (some (dOp subD (dFn lenF [dVar 0]) (dVar 2))))))
def C__law_fit : Con := fun args Q _ => ∃ (t p : Tx) (n : Nat), args = [.fz (.str t), .fz (.str p), .fz (.int n)] ∧ ∀ outs, Q (.fz (.bl (suit t p n))) outs
theorem cut_to {x : Tx} {n : Nat} : cut x none (some (n : Int)) = x.take n := by
  have e : sIx x.length x.length (some (n : Int)) = min n x.length := by
    show (if (n : Int) < 0 then ((n : Int) + (x.length : Int)).toNat else min (n : Int).toNat x.length) = _
    rw [if_neg (by omega), Int.toNat_natCast]
  show (x.drop 0).take (sIx x.length x.length (some (n : Int)) - 0) = _
  rw [e, List.drop_zero, Nat.sub_zero]
  by_cases h : n ≤ x.length
  · rw [Nat.min_eq_left h]
  · rw [Nat.min_eq_right (by omega), List.take_length, List.take_of_length_le (by omega)]
theorem p__law_fit : ∀ args Q E, args.length = 3 → C__law_fit args Q E → runD 3 b__law_fit args Q E := by
  intro args Q E _ h
  obtain ⟨t, p, n, rfl, hq⟩ := h
  unfold b__law_fit
  simp -implicitDefEqProofs only [runD, startE, outsE, outs_0, outs_s, List.length_cons, List.length_nil, List.cons_append, List.nil_append, List.replicate, Nat.sub_zero, Nat.add_one_sub_one, Nat.reduceSub, Nat.reduceAdd, dC, dVar_M, dVarM_fz, dVarM_own, dIxN_M, dIxM_fz, dIxM_own, dFnN_M, dFnM_fz, dFnM_own, dOp, dUn, dArgs, dLst, dTup, dFn, dIsi, dMs, dPart, dSl, dIfE, Slot.known, tVal, tTru, tAnd, tOr, tNot, dAnd, dOr, dNot, dChain, iLst, iTup, iStr, iRng1, iRng2, iEnum, iZip, gN, gNs, gT, Tgt.g, tYes, wipeE, backE, dAVs, dCall, avSlot, AV.ok, Slot.isOwn, bA_nil, bA_v, bA_m, D.isRef, List.all_cons, List.all_nil, List.map_cons, List.map_nil, Bool.and_true, Bool.true_and, List.tail_cons, List.tail_nil, List.head?_cons, sNx, sSeq, sRet, sRetN, sExp, sAsg, sAsgO, sIf, sAug, sFor, sWh, sBrk, sCnt, sRaise, sApp, Slot.ownL, sPut, sPar, sParL, sFld, dFld, dMake, mkC, dMakeV, dCm, dObj, D.isObj, dCallV, dCallS, dEqO, dIsO, dDct0, isBD_bl, notBD_bl, revD_lst, sPar3, sTrys, catchD, DEnds.unname, repF, D.eqTo, at_0, at_s, at_nil, set_0, set_s, fzd, frd, if_true, if_false, Bool.not_true, Bool.not_false, true_and, and_true, Bool.false_eq_true, ↓reduceIte, lenF, lenD, allF, anyF, sumF, absF, intF, tupleF, swM, ewM, eqv_int, eqv_str, eqv_bl, D.isTy, Int.cast_ofNat_Int, addD_int, addD_str, addD_lst, iaddD_int, iaddD_str, subD_int, mulD_int, mulD_str, mulD_lst, fdivD_int, modD_int, powD_int, negD_int, eqD, neD_str, neD_int, ltD_int, leD_int, gtD_int, geD_int, isD, isnD, D.isNon, inDv, ninDv, ixD_lst, ixD_tup, ixD_str, slD_lst, slD_frl, slD_str, dLc, dLook, Slot.calm]
  have e : decide ((t.length : Int) ≤ (n : Int)) = decide (t.length ≤ n) := by rw [decide_eq_decide]; omega
  have hq2 : ∀ outs, Q (.fz (.bl (decide (t.length ≤ n) || (p.take (t.drop n).length == t.drop n)))) outs := hq
  rw [e]
  by_cases hl : t.length ≤ n
  · rw [decide_eq_true hl] at hq2 ⊢
    exact hq2 _
  · rw [decide_eq_false hl] at hq2 ⊢
    simp -implicitDefEqProofs only [runD, startE, outsE, outs_0, outs_s, List.length_cons, List.length_nil, List.cons_append, List.nil_append, List.replicate, Nat.sub_zero, Nat.add_one_sub_one, Nat.reduceSub, Nat.reduceAdd, dC, dVar_M, dVarM_fz, dVarM_own, dIxN_M, dIxM_fz, dIxM_own, dFnN_M, dFnM_fz, dFnM_own, dOp, dUn, dArgs, dLst, dTup, dFn, dIsi, dMs, dPart, dSl, dIfE, Slot.known, tVal, tTru, tAnd, tOr, tNot, dAnd, dOr, dNot, dChain, iLst, iTup, iStr, iRng1, iRng2, iEnum, iZip, gN, gNs, gT, Tgt.g, tYes, wipeE, backE, dAVs, dCall, avSlot, AV.ok, Slot.isOwn, bA_nil, bA_v, bA_m, D.isRef, List.all_cons, List.all_nil, List.map_cons, List.map_nil, Bool.and_true, Bool.true_and, List.tail_cons, List.tail_nil, List.head?_cons, sNx, sSeq, sRet, sRetN, sExp, sAsg, sAsgO, sIf, sAug, sFor, sWh, sBrk, sCnt, sRaise, sApp, Slot.ownL, sPut, sPar, sParL, sFld, dFld, dMake, mkC, dMakeV, dCm, dObj, D.isObj, dCallV, dCallS, dEqO, dIsO, dDct0, isBD_bl, notBD_bl, revD_lst, sPar3, sTrys, catchD, DEnds.unname, repF, D.eqTo, at_0, at_s, at_nil, set_0, set_s, fzd, frd, if_true, if_false, Bool.not_true, Bool.not_false, true_and, and_true, Bool.false_eq_true, ↓reduceIte, lenF, lenD, allF, anyF, sumF, absF, intF, tupleF, swM, ewM, eqv_int, eqv_str, eqv_bl, D.isTy, Int.cast_ofNat_Int, addD_int, addD_str, addD_lst, iaddD_int, iaddD_str, subD_int, mulD_int, mulD_str, mulD_lst, fdivD_int, modD_int, powD_int, negD_int, eqD, neD_str, neD_int, ltD_int, leD_int, gtD_int, geD_int, isD, isnD, D.isNon, inDv, ninDv, ixD_lst, ixD_tup, ixD_str, slD_lst, slD_frl, slD_str, dLc, dLook, Slot.calm]
    have e2 : (t.length : Int) - (n : Int) = ((t.length - n : Nat) : Int) := by omega
    rw [e2, cut_from, cut_to]
    refine ⟨.inl rfl, ?_⟩
    rw [List.length_drop] at hq2
    have : (t.drop n == p.take (t.length - n)) = (p.take (t.length - n) == t.drop n) := BEq.comm
    rw [this]
    exact hq2 _
end DL

set_option linter.all false
set_option autoImplicit false
set_option maxRecDepth 100000
namespace DL
def stepV (s : St2) : Int := if (s.1 == 45) = true then 1 else -1
/-- the greatest depth so far, behind all steps -/
def coreLoop : List St2 → Int → Int → Int
  | [], _, c => c
  | s :: ss, d, c => coreLoop ss (d + stepV s) (max c (d + stepV s))
theorem coreLoop_eq : ∀ (ss : List St2) (d c : Int), d ≤ c → 0 ≤ c → coreLoop ss d c = max c (maxL (depthsL ss d))
  | [], d, c, _, h0 => by
    show c = max c 0
    omega
  | s :: ss, d, c, h, h0 => by
    rw [coreLoop, depthsL]
    unfold stepV
    cases hs : (s.1 == 45) with
    | true =>
      rw [if_pos rfl, if_pos rfl, coreLoop_eq ss _ _ (by omega) (by omega)]
      show _ = max c (max (d + 1) (maxL (depthsL ss (d + 1))))
      omega
    | false =>
      rw [if_neg (by decide), if_neg (by decide), coreLoop_eq ss _ _ (by omega) (by omega)]
      have : d + -1 = d - 1 := by omega
      rw [this]
      omega
theorem coreLoop_need (ss : List St2) : coreLoop ss 0 0 = needL ss := by
  rw [coreLoop_eq ss 0 0 (Int.le_refl _) (Int.le_refl _)]
  have := maxL_nonneg (depthsL ss 0)
  show max 0 (maxL (depthsL ss 0)) = maxL (depthsL ss 0)
  omega
theorem max_if (c d : Int) : (if d > c then d else c) = max c d := by
  by_cases h : d > c
  · rw [if_pos h]; omega
  · rw [if_neg h]; omega
theorem min_if (c d : Int) : (if d < c then d else c) = min c d := by
  by_cases h : d < c
  · rw [if_pos h]; omega
  · rw [if_neg h]; omega
/-- the comprehension of items of one sign -/
theorem items_comp {sg : Nat} {ss : List St2} {ρ : Env} {i : Nat} {Q : List D → Env → Prop} (hl : ss.length ≤ 1000000)
    (hs : ∀ s ∈ ss, ∀ (k1 : R → Env → Prop) (k2 : Env → Prop), ((s.1 == sg) = true → ∀ r ρ', r.d = .str [s.2] → wipeE [i] ρ' = ρ → k1 r ρ') → ((s.1 == sg) = false → ∀ ρ', wipeE [i] ρ' = ρ → k2 ρ') →
      gN i (stepD s) ρ fun ρ1 => tVal (dOp eqD (dOp ixD (dVar i) (dC (.int 0))) (dC (.str [sg]))) ρ1 (fun b ρ2 => if b = true then dOp ixD (dVar i) (dC (.int 1)) ρ2 k1 noE else k2 ρ2) noE)
    (hq : Q ((itemsOf sg ss).map fun c => .str [c]) ρ) : lcL [i] (gN i) (tVal (dOp eqD (dOp ixD (dVar i) (dC (.int 0))) (dC (.str [sg])))) (dOp ixD (dVar i) (dC (.int 1))) Q (ss.map stepD) [] ρ := by
  refine lcL_pure (p := fun x => match x with | .str [a, _] => a == sg | _ => false) (f := fun x => match x with | .str [_, b] => D.str [b] | _ => .non) _ _ (fun x hx k1 k2 h1 h2 => ?_) [] ?_ ?_
  · obtain ⟨s, hm, rfl⟩ := List.mem_map.mp hx
    exact hs s hm k1 k2 h1 h2
  · rw [List.length_map]; show 0 + ss.length ≤ 16777216; omega
  · have e : ((ss.map stepD).filter (fun x : D => match x with | .str [a, _] => a == sg | _ => false)).map (fun x : D => match x with | .str [_, b] => D.str [b] | _ => .non) = (itemsOf sg ss).map fun c => .str [c] := by
      unfold itemsOf
      rw [List.filter_map, List.map_map, List.map_map]
      rfl
    rw [List.nil_append, e]
    exact hq
theorem items_le {sg : Nat} {ss : List St2} (h : ss.length ≤ 1000000) : (itemsOf sg ss).length ≤ maxTx := by
  unfold itemsOf
  rw [List.length_map]
  have := List.length_filter_le (fun s : St2 => s.1 == sg) ss
  show _ ≤ 16777216
  omega
/-- _law_parts: 0 _law_steps_here, 1 _law_takes, 2 _law_step, 3 _law_puts, 4 _law_core, 5 _law_depth, 6 _law_number -/
def b__law_parts : DS := sSeq (sAsg (gN 1) (dMs joinM (dC (.str [])) [dLc [2] (iLst (dVar 0)) (Tgt.g (.one 2)) (tVal (dOp eqD (dOp ixD (dVar 2) (dC (.int 0))) (dC (.str [45])))) (dOp ixD (dVar 2) (dC (.int 1)))])) (sSeq (sAsg (gN 3) (dMs joinM (dC (.str [])) [dLc [2] (iLst (dVar 0)) (Tgt.g (.one 2)) (tVal (dOp eqD (dOp ixD (dVar 2) (dC (.int 0))) (dC (.str [43])))) (dOp ixD (dVar 2) (dC (.int 1)))])) (sSeq (sAsg (gT [4, 5]) (dTup [dC (.int 0), dC (.int 0)])) (sSeq (sFor (iLst (dVar 0)) (gN 2) (sSeq (sAsg (gN 5) (dOp addD (dVar 5) (dOp ixD (dLst [dUn negD (dC (.int 1)), dC (.int 1)]) (dFn intF [dOp eqD (dOp ixD (dVar 2) (dC (.int 0))) (dC (.str [45]))])))) (sAsg (gN 4) (dFn maxF [dVar 4, dVar 5])))) (sSeq (sFor (iRng2 (dVar 4) (dOp addD (dFn lenF [dVar 1]) (dC (.int 1)))) (gN 6) (sIf (tVal (dCall C__law_fit [.v (dVar 1), .v (dVar 3), .v (dVar 6)])) (sRet (dTup [dVar 1, dVar 3, dVar 6])) (sNx))) (sRet (dTup [dVar 1, dVar 3, dFn lenF [dVar 1]]))))))
def C__law_parts : Con := fun args Q _ => ∃ ss, args = [.fz (seqD ss)] ∧ ss.length ≤ 1000000 ∧ ∀ r outs, r.d = .tup [.str (itemsOf 45 ss), .str (itemsOf 43 ss), .int (coreOf ss)] → Q r outs
theorem maxF2 {i j : Int} {k : R → Prop} : maxF [.int i, .int j] k = k (.fz (.int (max i j))) := by
  show k (.fz (.int (if j > i then j else i))) = _
  rw [max_if]
theorem minF2 {i j : Int} {k : R → Prop} : minF [.int i, .int j] k = k (.fz (.int (min i j))) := by
  show k (.fz (.int (if j < i then j else i))) = _
  rw [min_if]
theorem own1 {n : Nat} {ρ : Env} (h : ∀ d, ρ.at n ≠ .own d) : ∀ i ∈ ([n] : List Nat), ∀ d, ρ.at i ≠ .own d := by
  intro i hi
  simp only [List.mem_cons, List.not_mem_nil, or_false] at hi
  subst hi
  exact h
theorem one_eq {a b : Nat} : (([a] : Tx) == [b]) = (a == b) := by simp
theorem p__law_parts : ∀ args Q E, args.length = 1 → C__law_parts args Q E → runD 7 b__law_parts args Q E := by
  intro args Q E _ h
  obtain ⟨ss, rfl, hl, hq⟩ := h
  have hcore := core_ok ss
  have hneed := need_le ss
  have hnn := maxL_nonneg (depthsL ss 0)
  have hlen : (itemsOf 45 ss).length ≤ 1000000 := by
    unfold itemsOf
    rw [List.length_map]
    have := List.length_filter_le (fun s : St2 => s.1 == 45) ss
    omega
  unfold b__law_parts seqD
  simp -implicitDefEqProofs only [runD, startE, outsE, outs_0, outs_s, List.length_cons, List.length_nil, List.cons_append, List.nil_append, List.replicate, Nat.sub_zero, Nat.add_one_sub_one, Nat.reduceSub, Nat.reduceAdd, dC, dVar_M, dVarM_fz, dVarM_own, dIxN_M, dIxM_fz, dIxM_own, dFnN_M, dFnM_fz, dFnM_own, dOp, dUn, dArgs, dLst, dTup, dFn, dIsi, dMs, dPart, dSl, dIfE, Slot.known, tVal, tTru, tAnd, tOr, tNot, dAnd, dOr, dNot, dChain, iLst, iTup, iStr, iRng1, iRng2, iEnum, iZip, gN, gNs, gT, Tgt.g, tYes, wipeE, backE, dAVs, dCall, avSlot, AV.ok, Slot.isOwn, bA_nil, bA_v, bA_m, D.isRef, List.all_cons, List.all_nil, List.map_cons, List.map_nil, Bool.and_true, Bool.true_and, List.tail_cons, List.tail_nil, List.head?_cons, sNx, sSeq, sRet, sRetN, sExp, sAsg, sAsgO, sIf, sAug, sFor, sWh, sBrk, sCnt, sRaise, sApp, Slot.ownL, sPut, sPar, sParL, sFld, dFld, dMake, mkC, dMakeV, dCm, dObj, D.isObj, dCallV, dCallS, dEqO, dIsO, dDct0, isBD_bl, notBD_bl, revD_lst, sPar3, sTrys, catchD, DEnds.unname, repF, D.eqTo, at_0, at_s, at_nil, set_0, set_s, fzd, frd, if_true, if_false, Bool.not_true, Bool.not_false, true_and, and_true, Bool.false_eq_true, ↓reduceIte, lenF, lenD, allF, anyF, sumF, absF, intF, tupleF, swM, ewM, eqv_int, eqv_str, eqv_bl, D.isTy, Int.cast_ofNat_Int, addD_int, addD_str, addD_lst, iaddD_int, iaddD_str, subD_int, mulD_int, mulD_str, mulD_lst, fdivD_int, modD_int, powD_int, negD_int, eqD, neD_str, neD_int, ltD_int, leD_int, gtD_int, geD_int, isD, isnD, D.isNon, inDv, ninDv, ixD_lst, ixD_tup, ixD_str, slD_lst, slD_frl, slD_str, dLc, dLook, Slot.calm]
  refine ⟨own1 (fun d h => nomatch h), items_comp hl (fun s hs k1 k2 h1 h2 => ?_) ?_⟩
  · unfold stepD
    simp -implicitDefEqProofs only [runD, startE, outsE, outs_0, outs_s, List.length_cons, List.length_nil, List.cons_append, List.nil_append, List.replicate, Nat.sub_zero, Nat.add_one_sub_one, Nat.reduceSub, Nat.reduceAdd, dC, dVar_M, dVarM_fz, dVarM_own, dIxN_M, dIxM_fz, dIxM_own, dFnN_M, dFnM_fz, dFnM_own, dOp, dUn, dArgs, dLst, dTup, dFn, dIsi, dMs, dPart, dSl, dIfE, Slot.known, tVal, tTru, tAnd, tOr, tNot, dAnd, dOr, dNot, dChain, iLst, iTup, iStr, iRng1, iRng2, iEnum, iZip, gN, gNs, gT, Tgt.g, tYes, wipeE, backE, dAVs, dCall, avSlot, AV.ok, Slot.isOwn, bA_nil, bA_v, bA_m, D.isRef, List.all_cons, List.all_nil, List.map_cons, List.map_nil, Bool.and_true, Bool.true_and, List.tail_cons, List.tail_nil, List.head?_cons, sNx, sSeq, sRet, sRetN, sExp, sAsg, sAsgO, sIf, sAug, sFor, sWh, sBrk, sCnt, sRaise, sApp, Slot.ownL, sPut, sPar, sParL, sFld, dFld, dMake, mkC, dMakeV, dCm, dObj, D.isObj, dCallV, dCallS, dEqO, dIsO, dDct0, isBD_bl, notBD_bl, revD_lst, sPar3, sTrys, catchD, DEnds.unname, repF, D.eqTo, at_0, at_s, at_nil, set_0, set_s, fzd, frd, if_true, if_false, Bool.not_true, Bool.not_false, true_and, and_true, Bool.false_eq_true, ↓reduceIte, lenF, lenD, allF, anyF, sumF, absF, intF, tupleF, swM, ewM, eqv_int, eqv_str, eqv_bl, D.isTy, Int.cast_ofNat_Int, addD_int, addD_str, addD_lst, iaddD_int, iaddD_str, subD_int, mulD_int, mulD_str, mulD_lst, fdivD_int, modD_int, powD_int, negD_int, eqD, neD_str, neD_int, ltD_int, leD_int, gtD_int, geD_int, isD, isnD, D.isNon, inDv, ninDv, ixD_lst, ixD_tup, ixD_str, slD_lst, slD_frl, slD_str, dLc, dLook, Slot.calm]
    refine ⟨0, s.1, rfl, rfl, .inl rfl, ?_⟩
    rw [one_eq]
    cases hs : (s.1 == 45) with
    | true => exact (if_pos rfl).mpr ⟨1, s.2, rfl, rfl, h1 hs _ _ rfl rfl⟩
    | false => exact h2 hs _ rfl
  simp -implicitDefEqProofs only [runD, startE, outsE, outs_0, outs_s, List.length_cons, List.length_nil, List.cons_append, List.nil_append, List.replicate, Nat.sub_zero, Nat.add_one_sub_one, Nat.reduceSub, Nat.reduceAdd, dC, dVar_M, dVarM_fz, dVarM_own, dIxN_M, dIxM_fz, dIxM_own, dFnN_M, dFnM_fz, dFnM_own, dOp, dUn, dArgs, dLst, dTup, dFn, dIsi, dMs, dPart, dSl, dIfE, Slot.known, tVal, tTru, tAnd, tOr, tNot, dAnd, dOr, dNot, dChain, iLst, iTup, iStr, iRng1, iRng2, iEnum, iZip, gN, gNs, gT, Tgt.g, tYes, wipeE, backE, dAVs, dCall, avSlot, AV.ok, Slot.isOwn, bA_nil, bA_v, bA_m, D.isRef, List.all_cons, List.all_nil, List.map_cons, List.map_nil, Bool.and_true, Bool.true_and, List.tail_cons, List.tail_nil, List.head?_cons, sNx, sSeq, sRet, sRetN, sExp, sAsg, sAsgO, sIf, sAug, sFor, sWh, sBrk, sCnt, sRaise, sApp, Slot.ownL, sPut, sPar, sParL, sFld, dFld, dMake, mkC, dMakeV, dCm, dObj, D.isObj, dCallV, dCallS, dEqO, dIsO, dDct0, isBD_bl, notBD_bl, revD_lst, sPar3, sTrys, catchD, DEnds.unname, repF, D.eqTo, at_0, at_s, at_nil, set_0, set_s, fzd, frd, if_true, if_false, Bool.not_true, Bool.not_false, true_and, and_true, Bool.false_eq_true, ↓reduceIte, lenF, lenD, allF, anyF, sumF, absF, intF, tupleF, swM, ewM, eqv_int, eqv_str, eqv_bl, D.isTy, Int.cast_ofNat_Int, addD_int, addD_str, addD_lst, iaddD_int, iaddD_str, subD_int, mulD_int, mulD_str, mulD_lst, fdivD_int, modD_int, powD_int, negD_int, eqD, neD_str, neD_int, ltD_int, leD_int, gtD_int, geD_int, isD, isnD, D.isNon, inDv, ninDv, ixD_lst, ixD_tup, ixD_str, slD_lst, slD_frl, slD_str, dLc, dLook, Slot.calm]
  refine join_one (items_le hl) ?_
  simp -implicitDefEqProofs only [runD, startE, outsE, outs_0, outs_s, List.length_cons, List.length_nil, List.cons_append, List.nil_append, List.replicate, Nat.sub_zero, Nat.add_one_sub_one, Nat.reduceSub, Nat.reduceAdd, dC, dVar_M, dVarM_fz, dVarM_own, dIxN_M, dIxM_fz, dIxM_own, dFnN_M, dFnM_fz, dFnM_own, dOp, dUn, dArgs, dLst, dTup, dFn, dIsi, dMs, dPart, dSl, dIfE, Slot.known, tVal, tTru, tAnd, tOr, tNot, dAnd, dOr, dNot, dChain, iLst, iTup, iStr, iRng1, iRng2, iEnum, iZip, gN, gNs, gT, Tgt.g, tYes, wipeE, backE, dAVs, dCall, avSlot, AV.ok, Slot.isOwn, bA_nil, bA_v, bA_m, D.isRef, List.all_cons, List.all_nil, List.map_cons, List.map_nil, Bool.and_true, Bool.true_and, List.tail_cons, List.tail_nil, List.head?_cons, sNx, sSeq, sRet, sRetN, sExp, sAsg, sAsgO, sIf, sAug, sFor, sWh, sBrk, sCnt, sRaise, sApp, Slot.ownL, sPut, sPar, sParL, sFld, dFld, dMake, mkC, dMakeV, dCm, dObj, D.isObj, dCallV, dCallS, dEqO, dIsO, dDct0, isBD_bl, notBD_bl, revD_lst, sPar3, sTrys, catchD, DEnds.unname, repF, D.eqTo, at_0, at_s, at_nil, set_0, set_s, fzd, frd, if_true, if_false, Bool.not_true, Bool.not_false, true_and, and_true, Bool.false_eq_true, ↓reduceIte, lenF, lenD, allF, anyF, sumF, absF, intF, tupleF, swM, ewM, eqv_int, eqv_str, eqv_bl, D.isTy, Int.cast_ofNat_Int, addD_int, addD_str, addD_lst, iaddD_int, iaddD_str, subD_int, mulD_int, mulD_str, mulD_lst, fdivD_int, modD_int, powD_int, negD_int, eqD, neD_str, neD_int, ltD_int, leD_int, gtD_int, geD_int, isD, isnD, D.isNon, inDv, ninDv, ixD_lst, ixD_tup, ixD_str, slD_lst, slD_frl, slD_str, dLc, dLook, Slot.calm]
  refine ⟨own1 (fun d h => nomatch h), items_comp hl (fun s hs k1 k2 h1 h2 => ?_) ?_⟩
  · unfold stepD
    simp -implicitDefEqProofs only [runD, startE, outsE, outs_0, outs_s, List.length_cons, List.length_nil, List.cons_append, List.nil_append, List.replicate, Nat.sub_zero, Nat.add_one_sub_one, Nat.reduceSub, Nat.reduceAdd, dC, dVar_M, dVarM_fz, dVarM_own, dIxN_M, dIxM_fz, dIxM_own, dFnN_M, dFnM_fz, dFnM_own, dOp, dUn, dArgs, dLst, dTup, dFn, dIsi, dMs, dPart, dSl, dIfE, Slot.known, tVal, tTru, tAnd, tOr, tNot, dAnd, dOr, dNot, dChain, iLst, iTup, iStr, iRng1, iRng2, iEnum, iZip, gN, gNs, gT, Tgt.g, tYes, wipeE, backE, dAVs, dCall, avSlot, AV.ok, Slot.isOwn, bA_nil, bA_v, bA_m, D.isRef, List.all_cons, List.all_nil, List.map_cons, List.map_nil, Bool.and_true, Bool.true_and, List.tail_cons, List.tail_nil, List.head?_cons, sNx, sSeq, sRet, sRetN, sExp, sAsg, sAsgO, sIf, sAug, sFor, sWh, sBrk, sCnt, sRaise, sApp, Slot.ownL, sPut, sPar, sParL, sFld, dFld, dMake, mkC, dMakeV, dCm, dObj, D.isObj, dCallV, dCallS, dEqO, dIsO, dDct0, isBD_bl, notBD_bl, revD_lst, sPar3, sTrys, catchD, DEnds.unname, repF, D.eqTo, at_0, at_s, at_nil, set_0, set_s, fzd, frd, if_true, if_false, Bool.not_true, Bool.not_false, true_and, and_true, Bool.false_eq_true, ↓reduceIte, lenF, lenD, allF, anyF, sumF, absF, intF, tupleF, swM, ewM, eqv_int, eqv_str, eqv_bl, D.isTy, Int.cast_ofNat_Int, addD_int, addD_str, addD_lst, iaddD_int, iaddD_str, subD_int, mulD_int, mulD_str, mulD_lst, fdivD_int, modD_int, powD_int, negD_int, eqD, neD_str, neD_int, ltD_int, leD_int, gtD_int, geD_int, isD, isnD, D.isNon, inDv, ninDv, ixD_lst, ixD_tup, ixD_str, slD_lst, slD_frl, slD_str, dLc, dLook, Slot.calm]
    refine ⟨0, s.1, rfl, rfl, .inl rfl, ?_⟩
    rw [one_eq]
    cases hs : (s.1 == 43) with
    | true => exact (if_pos rfl).mpr ⟨1, s.2, rfl, rfl, h1 hs _ _ rfl rfl⟩
    | false => exact h2 hs _ rfl
  simp -implicitDefEqProofs only [runD, startE, outsE, outs_0, outs_s, List.length_cons, List.length_nil, List.cons_append, List.nil_append, List.replicate, Nat.sub_zero, Nat.add_one_sub_one, Nat.reduceSub, Nat.reduceAdd, dC, dVar_M, dVarM_fz, dVarM_own, dIxN_M, dIxM_fz, dIxM_own, dFnN_M, dFnM_fz, dFnM_own, dOp, dUn, dArgs, dLst, dTup, dFn, dIsi, dMs, dPart, dSl, dIfE, Slot.known, tVal, tTru, tAnd, tOr, tNot, dAnd, dOr, dNot, dChain, iLst, iTup, iStr, iRng1, iRng2, iEnum, iZip, gN, gNs, gT, Tgt.g, tYes, wipeE, backE, dAVs, dCall, avSlot, AV.ok, Slot.isOwn, bA_nil, bA_v, bA_m, D.isRef, List.all_cons, List.all_nil, List.map_cons, List.map_nil, Bool.and_true, Bool.true_and, List.tail_cons, List.tail_nil, List.head?_cons, sNx, sSeq, sRet, sRetN, sExp, sAsg, sAsgO, sIf, sAug, sFor, sWh, sBrk, sCnt, sRaise, sApp, Slot.ownL, sPut, sPar, sParL, sFld, dFld, dMake, mkC, dMakeV, dCm, dObj, D.isObj, dCallV, dCallS, dEqO, dIsO, dDct0, isBD_bl, notBD_bl, revD_lst, sPar3, sTrys, catchD, DEnds.unname, repF, D.eqTo, at_0, at_s, at_nil, set_0, set_s, fzd, frd, if_true, if_false, Bool.not_true, Bool.not_false, true_and, and_true, Bool.false_eq_true, ↓reduceIte, lenF, lenD, allF, anyF, sumF, absF, intF, tupleF, swM, ewM, eqv_int, eqv_str, eqv_bl, D.isTy, Int.cast_ofNat_Int, addD_int, addD_str, addD_lst, iaddD_int, iaddD_str, subD_int, mulD_int, mulD_str, mulD_lst, fdivD_int, modD_int, powD_int, negD_int, eqD, neD_str, neD_int, ltD_int, leD_int, gtD_int, geD_int, isD, isnD, D.isNon, inDv, ninDv, ixD_lst, ixD_tup, ixD_str, slD_lst, slD_frl, slD_str, dLc, dLook, Slot.calm]
  refine join_one (items_le hl) ?_
  simp -implicitDefEqProofs only [runD, startE, outsE, outs_0, outs_s, List.length_cons, List.length_nil, List.cons_append, List.nil_append, List.replicate, Nat.sub_zero, Nat.add_one_sub_one, Nat.reduceSub, Nat.reduceAdd, dC, dVar_M, dVarM_fz, dVarM_own, dIxN_M, dIxM_fz, dIxM_own, dFnN_M, dFnM_fz, dFnM_own, dOp, dUn, dArgs, dLst, dTup, dFn, dIsi, dMs, dPart, dSl, dIfE, Slot.known, tVal, tTru, tAnd, tOr, tNot, dAnd, dOr, dNot, dChain, iLst, iTup, iStr, iRng1, iRng2, iEnum, iZip, gN, gNs, gT, Tgt.g, tYes, wipeE, backE, dAVs, dCall, avSlot, AV.ok, Slot.isOwn, bA_nil, bA_v, bA_m, D.isRef, List.all_cons, List.all_nil, List.map_cons, List.map_nil, Bool.and_true, Bool.true_and, List.tail_cons, List.tail_nil, List.head?_cons, sNx, sSeq, sRet, sRetN, sExp, sAsg, sAsgO, sIf, sAug, sFor, sWh, sBrk, sCnt, sRaise, sApp, Slot.ownL, sPut, sPar, sParL, sFld, dFld, dMake, mkC, dMakeV, dCm, dObj, D.isObj, dCallV, dCallS, dEqO, dIsO, dDct0, isBD_bl, notBD_bl, revD_lst, sPar3, sTrys, catchD, DEnds.unname, repF, D.eqTo, at_0, at_s, at_nil, set_0, set_s, fzd, frd, if_true, if_false, Bool.not_true, Bool.not_false, true_and, and_true, Bool.false_eq_true, ↓reduceIte, lenF, lenD, allF, anyF, sumF, absF, intF, tupleF, swM, ewM, eqv_int, eqv_str, eqv_bl, D.isTy, Int.cast_ofNat_Int, addD_int, addD_str, addD_lst, iaddD_int, iaddD_str, subD_int, mulD_int, mulD_str, mulD_lst, fdivD_int, modD_int, powD_int, negD_int, eqD, neD_str, neD_int, ltD_int, leD_int, gtD_int, geD_int, isD, isnD, D.isNon, inDv, ninDv, ixD_lst, ixD_tup, ixD_str, slD_lst, slD_frl, slD_str, dLc, dLook, Slot.calm]
  refine ⟨by decide, ?_⟩
  refine forL_inv (I := fun es ρ => ∃ (ts : List St2) (s2 : Slot) (c d : Int), es = ts.map stepD ∧ ρ = [.fz (.lst (ss.map stepD)), .fz (.str (itemsOf 45 ss)), s2, .fz (.str (itemsOf 43 ss)), .fz (.int c), .fz (.int d), .no] ∧ coreLoop ts d c = needL ss)
    (fun ρ h => ?_) (fun e es ρ h k hk => ?_) _ _ ⟨ss, .no, 0, 0, rfl, rfl, coreLoop_need ss⟩
  · obtain ⟨ts, s2, c, d, h1, rfl, h2⟩ := h
    cases ts with
    | cons t ts => cases h1
    | nil =>
      have hc : c = needL ss := h2
      subst hc
      simp -implicitDefEqProofs only [runD, startE, outsE, outs_0, outs_s, List.length_cons, List.length_nil, List.cons_append, List.nil_append, List.replicate, Nat.sub_zero, Nat.add_one_sub_one, Nat.reduceSub, Nat.reduceAdd, dC, dVar_M, dVarM_fz, dVarM_own, dIxN_M, dIxM_fz, dIxM_own, dFnN_M, dFnM_fz, dFnM_own, dOp, dUn, dArgs, dLst, dTup, dFn, dIsi, dMs, dPart, dSl, dIfE, Slot.known, tVal, tTru, tAnd, tOr, tNot, dAnd, dOr, dNot, dChain, iLst, iTup, iStr, iRng1, iRng2, iEnum, iZip, gN, gNs, gT, Tgt.g, tYes, wipeE, backE, dAVs, dCall, avSlot, AV.ok, Slot.isOwn, bA_nil, bA_v, bA_m, D.isRef, List.all_cons, List.all_nil, List.map_cons, List.map_nil, Bool.and_true, Bool.true_and, List.tail_cons, List.tail_nil, List.head?_cons, sNx, sSeq, sRet, sRetN, sExp, sAsg, sAsgO, sIf, sAug, sFor, sWh, sBrk, sCnt, sRaise, sApp, Slot.ownL, sPut, sPar, sParL, sFld, dFld, dMake, mkC, dMakeV, dCm, dObj, D.isObj, dCallV, dCallS, dEqO, dIsO, dDct0, isBD_bl, notBD_bl, revD_lst, sPar3, sTrys, catchD, DEnds.unname, repF, D.eqTo, at_0, at_s, at_nil, set_0, set_s, fzd, frd, if_true, if_false, Bool.not_true, Bool.not_false, true_and, and_true, Bool.false_eq_true, ↓reduceIte, lenF, lenD, allF, anyF, sumF, absF, intF, tupleF, swM, ewM, eqv_int, eqv_str, eqv_bl, D.isTy, Int.cast_ofNat_Int, addD_int, addD_str, addD_lst, iaddD_int, iaddD_str, subD_int, mulD_int, mulD_str, mulD_lst, fdivD_int, modD_int, powD_int, negD_int, eqD, neD_str, neD_int, ltD_int, leD_int, gtD_int, geD_int, isD, isnD, D.isNon, inDv, ninDv, ixD_lst, ixD_tup, ixD_str, slD_lst, slD_frl, slD_str, dLc, dLook, Slot.calm]
      have hn0 : (0 : Int) ≤ needL ss := hnn
      refine ⟨⟨by omega, by omega, by omega, by omega⟩, ?_⟩
      refine forL_inv (I := fun es ρ => ∃ (j : Nat) (s6 : Slot), es = rng (j : Int) ((itemsOf 45 ss).length + 1 - j) ∧ j ≤ (itemsOf 45 ss).length + 1 ∧ ρ = [.fz (.lst (ss.map stepD)), .fz (.str (itemsOf 45 ss)), s2, .fz (.str (itemsOf 43 ss)), .fz (.int (needL ss)), .fz (.int d), s6] ∧ leastOf (itemsOf 45 ss) (itemsOf 43 ss) j = coreOf ss)
        (fun ρ h => ?_) (fun e es ρ h k hk => ?_) _ _ ⟨(needL ss).toNat, .no, ?_, by omega, rfl, rfl⟩
      · obtain ⟨j, s6, h1, h2, rfl, h3⟩ := h
        have : (itemsOf 45 ss).length + 1 - j = 0 := by
          have := congrArg List.length h1
          rw [rng_len] at this
          exact this.symm
        rw [leastOf_yes (suit_big (by omega))] at h3
        omega
      · obtain ⟨j, s6, h1, h2, rfl, h3⟩ := h
        cases hj : (itemsOf 45 ss).length + 1 - j with
        | zero => rw [hj] at h1; cases h1
        | succ m =>
          rw [hj, rng_succ] at h1
          cases h1
          simp -implicitDefEqProofs only [runD, startE, outsE, outs_0, outs_s, List.length_cons, List.length_nil, List.cons_append, List.nil_append, List.replicate, Nat.sub_zero, Nat.add_one_sub_one, Nat.reduceSub, Nat.reduceAdd, dC, dVar_M, dVarM_fz, dVarM_own, dIxN_M, dIxM_fz, dIxM_own, dFnN_M, dFnM_fz, dFnM_own, dOp, dUn, dArgs, dLst, dTup, dFn, dIsi, dMs, dPart, dSl, dIfE, Slot.known, tVal, tTru, tAnd, tOr, tNot, dAnd, dOr, dNot, dChain, iLst, iTup, iStr, iRng1, iRng2, iEnum, iZip, gN, gNs, gT, Tgt.g, tYes, wipeE, backE, dAVs, dCall, avSlot, AV.ok, Slot.isOwn, bA_nil, bA_v, bA_m, D.isRef, List.all_cons, List.all_nil, List.map_cons, List.map_nil, Bool.and_true, Bool.true_and, List.tail_cons, List.tail_nil, List.head?_cons, sNx, sSeq, sRet, sRetN, sExp, sAsg, sAsgO, sIf, sAug, sFor, sWh, sBrk, sCnt, sRaise, sApp, Slot.ownL, sPut, sPar, sParL, sFld, dFld, dMake, mkC, dMakeV, dCm, dObj, D.isObj, dCallV, dCallS, dEqO, dIsO, dDct0, isBD_bl, notBD_bl, revD_lst, sPar3, sTrys, catchD, DEnds.unname, repF, D.eqTo, at_0, at_s, at_nil, set_0, set_s, fzd, frd, if_true, if_false, Bool.not_true, Bool.not_false, true_and, and_true, Bool.false_eq_true, ↓reduceIte, lenF, lenD, allF, anyF, sumF, absF, intF, tupleF, swM, ewM, eqv_int, eqv_str, eqv_bl, D.isTy, Int.cast_ofNat_Int, addD_int, addD_str, addD_lst, iaddD_int, iaddD_str, subD_int, mulD_int, mulD_str, mulD_lst, fdivD_int, modD_int, powD_int, negD_int, eqD, neD_str, neD_int, ltD_int, leD_int, gtD_int, geD_int, isD, isnD, D.isNon, inDv, ninDv, ixD_lst, ixD_tup, ixD_str, slD_lst, slD_frl, slD_str, dLc, dLook, Slot.calm]
          refine ⟨itemsOf 45 ss, itemsOf 43 ss, j, rfl, fun outs => ?_⟩
          simp -implicitDefEqProofs only [runD, startE, outsE, outs_0, outs_s, List.length_cons, List.length_nil, List.cons_append, List.nil_append, List.replicate, Nat.sub_zero, Nat.add_one_sub_one, Nat.reduceSub, Nat.reduceAdd, dC, dVar_M, dVarM_fz, dVarM_own, dIxN_M, dIxM_fz, dIxM_own, dFnN_M, dFnM_fz, dFnM_own, dOp, dUn, dArgs, dLst, dTup, dFn, dIsi, dMs, dPart, dSl, dIfE, Slot.known, tVal, tTru, tAnd, tOr, tNot, dAnd, dOr, dNot, dChain, iLst, iTup, iStr, iRng1, iRng2, iEnum, iZip, gN, gNs, gT, Tgt.g, tYes, wipeE, backE, dAVs, dCall, avSlot, AV.ok, Slot.isOwn, bA_nil, bA_v, bA_m, D.isRef, List.all_cons, List.all_nil, List.map_cons, List.map_nil, Bool.and_true, Bool.true_and, List.tail_cons, List.tail_nil, List.head?_cons, sNx, sSeq, sRet, sRetN, sExp, sAsg, sAsgO, sIf, sAug, sFor, sWh, sBrk, sCnt, sRaise, sApp, Slot.ownL, sPut, sPar, sParL, sFld, dFld, dMake, mkC, dMakeV, dCm, dObj, D.isObj, dCallV, dCallS, dEqO, dIsO, dDct0, isBD_bl, notBD_bl, revD_lst, sPar3, sTrys, catchD, DEnds.unname, repF, D.eqTo, at_0, at_s, at_nil, set_0, set_s, fzd, frd, if_true, if_false, Bool.not_true, Bool.not_false, true_and, and_true, Bool.false_eq_true, ↓reduceIte, lenF, lenD, allF, anyF, sumF, absF, intF, tupleF, swM, ewM, eqv_int, eqv_str, eqv_bl, D.isTy, Int.cast_ofNat_Int, addD_int, addD_str, addD_lst, iaddD_int, iaddD_str, subD_int, mulD_int, mulD_str, mulD_lst, fdivD_int, modD_int, powD_int, negD_int, eqD, neD_str, neD_int, ltD_int, leD_int, gtD_int, geD_int, isD, isnD, D.isNon, inDv, ninDv, ixD_lst, ixD_tup, ixD_str, slD_lst, slD_frl, slD_str, dLc, dLook, Slot.calm]
          cases hs : suit (itemsOf 45 ss) (itemsOf 43 ss) j with
          | true =>
            rw [leastOf_yes hs] at h3
            subst h3
            exact ⟨by decide, hq _ _ rfl⟩
          | false =>
            refine hk _ ⟨j + 1, _, ?_, by omega, rfl, by rw [← leastOf_no hs]; exact h3⟩
            have : (itemsOf 45 ss).length + 1 - (j + 1) = m := by omega
            rw [this]
            rfl
      · have e1 : ((needL ss).toNat : Int) = needL ss := Int.toNat_of_nonneg hn0
        rw [e1]
        congr 1
        omega
  · obtain ⟨ts, s2, c, d, h1, rfl, h2⟩ := h
    cases ts with
    | nil => cases h1
    | cons t ts =>
      cases h1
      unfold stepD
      simp -implicitDefEqProofs only [runD, startE, outsE, outs_0, outs_s, List.length_cons, List.length_nil, List.cons_append, List.nil_append, List.replicate, Nat.sub_zero, Nat.add_one_sub_one, Nat.reduceSub, Nat.reduceAdd, dC, dVar_M, dVarM_fz, dVarM_own, dIxN_M, dIxM_fz, dIxM_own, dFnN_M, dFnM_fz, dFnM_own, dOp, dUn, dArgs, dLst, dTup, dFn, dIsi, dMs, dPart, dSl, dIfE, Slot.known, tVal, tTru, tAnd, tOr, tNot, dAnd, dOr, dNot, dChain, iLst, iTup, iStr, iRng1, iRng2, iEnum, iZip, gN, gNs, gT, Tgt.g, tYes, wipeE, backE, dAVs, dCall, avSlot, AV.ok, Slot.isOwn, bA_nil, bA_v, bA_m, D.isRef, List.all_cons, List.all_nil, List.map_cons, List.map_nil, Bool.and_true, Bool.true_and, List.tail_cons, List.tail_nil, List.head?_cons, sNx, sSeq, sRet, sRetN, sExp, sAsg, sAsgO, sIf, sAug, sFor, sWh, sBrk, sCnt, sRaise, sApp, Slot.ownL, sPut, sPar, sParL, sFld, dFld, dMake, mkC, dMakeV, dCm, dObj, D.isObj, dCallV, dCallS, dEqO, dIsO, dDct0, isBD_bl, notBD_bl, revD_lst, sPar3, sTrys, catchD, DEnds.unname, repF, D.eqTo, at_0, at_s, at_nil, set_0, set_s, fzd, frd, if_true, if_false, Bool.not_true, Bool.not_false, true_and, and_true, Bool.false_eq_true, ↓reduceIte, lenF, lenD, allF, anyF, sumF, absF, intF, tupleF, swM, ewM, eqv_int, eqv_str, eqv_bl, D.isTy, Int.cast_ofNat_Int, addD_int, addD_str, addD_lst, iaddD_int, iaddD_str, subD_int, mulD_int, mulD_str, mulD_lst, fdivD_int, modD_int, powD_int, negD_int, eqD, neD_str, neD_int, ltD_int, leD_int, gtD_int, geD_int, isD, isnD, D.isNon, inDv, ninDv, ixD_lst, ixD_tup, ixD_str, slD_lst, slD_frl, slD_str, dLc, dLook, Slot.calm]
      refine ⟨by decide, 0, t.1, rfl, rfl, .inl rfl, ?_⟩
      rw [one_eq]
      rw [coreLoop] at h2
      unfold stepV at h2
      cases hs : (t.1 == 45) with
      | true =>
        rw [hs, if_pos rfl] at h2
        simp -implicitDefEqProofs only [runD, startE, outsE, outs_0, outs_s, List.length_cons, List.length_nil, List.cons_append, List.nil_append, List.replicate, Nat.sub_zero, Nat.add_one_sub_one, Nat.reduceSub, Nat.reduceAdd, dC, dVar_M, dVarM_fz, dVarM_own, dIxN_M, dIxM_fz, dIxM_own, dFnN_M, dFnM_fz, dFnM_own, dOp, dUn, dArgs, dLst, dTup, dFn, dIsi, dMs, dPart, dSl, dIfE, Slot.known, tVal, tTru, tAnd, tOr, tNot, dAnd, dOr, dNot, dChain, iLst, iTup, iStr, iRng1, iRng2, iEnum, iZip, gN, gNs, gT, Tgt.g, tYes, wipeE, backE, dAVs, dCall, avSlot, AV.ok, Slot.isOwn, bA_nil, bA_v, bA_m, D.isRef, List.all_cons, List.all_nil, List.map_cons, List.map_nil, Bool.and_true, Bool.true_and, List.tail_cons, List.tail_nil, List.head?_cons, sNx, sSeq, sRet, sRetN, sExp, sAsg, sAsgO, sIf, sAug, sFor, sWh, sBrk, sCnt, sRaise, sApp, Slot.ownL, sPut, sPar, sParL, sFld, dFld, dMake, mkC, dMakeV, dCm, dObj, D.isObj, dCallV, dCallS, dEqO, dIsO, dDct0, isBD_bl, notBD_bl, revD_lst, sPar3, sTrys, catchD, DEnds.unname, repF, D.eqTo, at_0, at_s, at_nil, set_0, set_s, fzd, frd, if_true, if_false, Bool.not_true, Bool.not_false, true_and, and_true, Bool.false_eq_true, ↓reduceIte, lenF, lenD, allF, anyF, sumF, absF, intF, tupleF, swM, ewM, eqv_int, eqv_str, eqv_bl, D.isTy, Int.cast_ofNat_Int, addD_int, addD_str, addD_lst, iaddD_int, iaddD_str, subD_int, mulD_int, mulD_str, mulD_lst, fdivD_int, modD_int, powD_int, negD_int, eqD, neD_str, neD_int, ltD_int, leD_int, gtD_int, geD_int, isD, isnD, D.isNon, inDv, ninDv, ixD_lst, ixD_tup, ixD_str, slD_lst, slD_frl, slD_str, dLc, dLook, Slot.calm]
        refine ⟨1, .int 1, rfl, rfl, ?_⟩
        simp -implicitDefEqProofs only [runD, startE, outsE, outs_0, outs_s, List.length_cons, List.length_nil, List.cons_append, List.nil_append, List.replicate, Nat.sub_zero, Nat.add_one_sub_one, Nat.reduceSub, Nat.reduceAdd, dC, dVar_M, dVarM_fz, dVarM_own, dIxN_M, dIxM_fz, dIxM_own, dFnN_M, dFnM_fz, dFnM_own, dOp, dUn, dArgs, dLst, dTup, dFn, dIsi, dMs, dPart, dSl, dIfE, Slot.known, tVal, tTru, tAnd, tOr, tNot, dAnd, dOr, dNot, dChain, iLst, iTup, iStr, iRng1, iRng2, iEnum, iZip, gN, gNs, gT, Tgt.g, tYes, wipeE, backE, dAVs, dCall, avSlot, AV.ok, Slot.isOwn, bA_nil, bA_v, bA_m, D.isRef, List.all_cons, List.all_nil, List.map_cons, List.map_nil, Bool.and_true, Bool.true_and, List.tail_cons, List.tail_nil, List.head?_cons, sNx, sSeq, sRet, sRetN, sExp, sAsg, sAsgO, sIf, sAug, sFor, sWh, sBrk, sCnt, sRaise, sApp, Slot.ownL, sPut, sPar, sParL, sFld, dFld, dMake, mkC, dMakeV, dCm, dObj, D.isObj, dCallV, dCallS, dEqO, dIsO, dDct0, isBD_bl, notBD_bl, revD_lst, sPar3, sTrys, catchD, DEnds.unname, repF, D.eqTo, at_0, at_s, at_nil, set_0, set_s, fzd, frd, if_true, if_false, Bool.not_true, Bool.not_false, true_and, and_true, Bool.false_eq_true, ↓reduceIte, lenF, lenD, allF, anyF, sumF, absF, intF, tupleF, swM, ewM, eqv_int, eqv_str, eqv_bl, D.isTy, Int.cast_ofNat_Int, addD_int, addD_str, addD_lst, iaddD_int, iaddD_str, subD_int, mulD_int, mulD_str, mulD_lst, fdivD_int, modD_int, powD_int, negD_int, eqD, neD_str, neD_int, ltD_int, leD_int, gtD_int, geD_int, isD, isnD, D.isNon, inDv, ninDv, ixD_lst, ixD_tup, ixD_str, slD_lst, slD_frl, slD_str, dLc, dLook, Slot.calm]
        rw [maxF2]
        exact hk _ ⟨ts, _, max c (d + 1), d + 1, rfl, rfl, h2⟩
      | false =>
        rw [hs, if_neg (by decide)] at h2
        simp -implicitDefEqProofs only [runD, startE, outsE, outs_0, outs_s, List.length_cons, List.length_nil, List.cons_append, List.nil_append, List.replicate, Nat.sub_zero, Nat.add_one_sub_one, Nat.reduceSub, Nat.reduceAdd, dC, dVar_M, dVarM_fz, dVarM_own, dIxN_M, dIxM_fz, dIxM_own, dFnN_M, dFnM_fz, dFnM_own, dOp, dUn, dArgs, dLst, dTup, dFn, dIsi, dMs, dPart, dSl, dIfE, Slot.known, tVal, tTru, tAnd, tOr, tNot, dAnd, dOr, dNot, dChain, iLst, iTup, iStr, iRng1, iRng2, iEnum, iZip, gN, gNs, gT, Tgt.g, tYes, wipeE, backE, dAVs, dCall, avSlot, AV.ok, Slot.isOwn, bA_nil, bA_v, bA_m, D.isRef, List.all_cons, List.all_nil, List.map_cons, List.map_nil, Bool.and_true, Bool.true_and, List.tail_cons, List.tail_nil, List.head?_cons, sNx, sSeq, sRet, sRetN, sExp, sAsg, sAsgO, sIf, sAug, sFor, sWh, sBrk, sCnt, sRaise, sApp, Slot.ownL, sPut, sPar, sParL, sFld, dFld, dMake, mkC, dMakeV, dCm, dObj, D.isObj, dCallV, dCallS, dEqO, dIsO, dDct0, isBD_bl, notBD_bl, revD_lst, sPar3, sTrys, catchD, DEnds.unname, repF, D.eqTo, at_0, at_s, at_nil, set_0, set_s, fzd, frd, if_true, if_false, Bool.not_true, Bool.not_false, true_and, and_true, Bool.false_eq_true, ↓reduceIte, lenF, lenD, allF, anyF, sumF, absF, intF, tupleF, swM, ewM, eqv_int, eqv_str, eqv_bl, D.isTy, Int.cast_ofNat_Int, addD_int, addD_str, addD_lst, iaddD_int, iaddD_str, subD_int, mulD_int, mulD_str, mulD_lst, fdivD_int, modD_int, powD_int, negD_int, eqD, neD_str, neD_int, ltD_int, leD_int, gtD_int, geD_int, isD, isnD, D.isNon, inDv, ninDv, ixD_lst, ixD_tup, ixD_str, slD_lst, slD_frl, slD_str, dLc, dLook, Slot.calm]
        refine ⟨0, .int (-1), rfl, rfl, ?_⟩
        simp -implicitDefEqProofs only [runD, startE, outsE, outs_0, outs_s, List.length_cons, List.length_nil, List.cons_append, List.nil_append, List.replicate, Nat.sub_zero, Nat.add_one_sub_one, Nat.reduceSub, Nat.reduceAdd, dC, dVar_M, dVarM_fz, dVarM_own, dIxN_M, dIxM_fz, dIxM_own, dFnN_M, dFnM_fz, dFnM_own, dOp, dUn, dArgs, dLst, dTup, dFn, dIsi, dMs, dPart, dSl, dIfE, Slot.known, tVal, tTru, tAnd, tOr, tNot, dAnd, dOr, dNot, dChain, iLst, iTup, iStr, iRng1, iRng2, iEnum, iZip, gN, gNs, gT, Tgt.g, tYes, wipeE, backE, dAVs, dCall, avSlot, AV.ok, Slot.isOwn, bA_nil, bA_v, bA_m, D.isRef, List.all_cons, List.all_nil, List.map_cons, List.map_nil, Bool.and_true, Bool.true_and, List.tail_cons, List.tail_nil, List.head?_cons, sNx, sSeq, sRet, sRetN, sExp, sAsg, sAsgO, sIf, sAug, sFor, sWh, sBrk, sCnt, sRaise, sApp, Slot.ownL, sPut, sPar, sParL, sFld, dFld, dMake, mkC, dMakeV, dCm, dObj, D.isObj, dCallV, dCallS, dEqO, dIsO, dDct0, isBD_bl, notBD_bl, revD_lst, sPar3, sTrys, catchD, DEnds.unname, repF, D.eqTo, at_0, at_s, at_nil, set_0, set_s, fzd, frd, if_true, if_false, Bool.not_true, Bool.not_false, true_and, and_true, Bool.false_eq_true, ↓reduceIte, lenF, lenD, allF, anyF, sumF, absF, intF, tupleF, swM, ewM, eqv_int, eqv_str, eqv_bl, D.isTy, Int.cast_ofNat_Int, addD_int, addD_str, addD_lst, iaddD_int, iaddD_str, subD_int, mulD_int, mulD_str, mulD_lst, fdivD_int, modD_int, powD_int, negD_int, eqD, neD_str, neD_int, ltD_int, leD_int, gtD_int, geD_int, isD, isnD, D.isNon, inDv, ninDv, ixD_lst, ixD_tup, ixD_str, slD_lst, slD_frl, slD_str, dLc, dLook, Slot.calm]
        rw [maxF2]
        exact hk _ ⟨ts, _, max c (d + -1), d + -1, rfl, rfl, h2⟩
/-- _law_need: 0 _law_steps_here, 1 _law_size, 2 _law_least, 3 _law_step -/
def b__law_need : DS := sSeq (sAsg (gT [1, 2]) (dTup [dC (.int 0), dC (.int 0)])) (sSeq (sFor (iLst (dVar 0)) (gN 3) (sSeq (sAsg (gN 1) (dOp addD (dVar 1) (dOp ixD (dLst [dC (.int 1), dUn negD (dC (.int 1))]) (dFn intF [dOp eqD (dOp ixD (dVar 3) (dC (.int 0))) (dC (.str [45]))])))) (sAsg (gN 2) (dFn minF [dVar 2, dVar 1])))) (sRet (dUn negD (dVar 2))))
def C__law_need : Con := fun args Q _ => ∃ ss, args = [.fz (seqD ss)] ∧ ∀ outs, Q (.fz (.int (needL ss))) outs
theorem p__law_need : ∀ args Q E, args.length = 1 → C__law_need args Q E → runD 4 b__law_need args Q E := by
  intro args Q E _ h
  obtain ⟨ss, rfl, hq⟩ := h
  unfold b__law_need seqD
  simp -implicitDefEqProofs only [runD, startE, outsE, outs_0, outs_s, List.length_cons, List.length_nil, List.cons_append, List.nil_append, List.replicate, Nat.sub_zero, Nat.add_one_sub_one, Nat.reduceSub, Nat.reduceAdd, dC, dVar_M, dVarM_fz, dVarM_own, dIxN_M, dIxM_fz, dIxM_own, dFnN_M, dFnM_fz, dFnM_own, dOp, dUn, dArgs, dLst, dTup, dFn, dIsi, dMs, dPart, dSl, dIfE, Slot.known, tVal, tTru, tAnd, tOr, tNot, dAnd, dOr, dNot, dChain, iLst, iTup, iStr, iRng1, iRng2, iEnum, iZip, gN, gNs, gT, Tgt.g, tYes, wipeE, backE, dAVs, dCall, avSlot, AV.ok, Slot.isOwn, bA_nil, bA_v, bA_m, D.isRef, List.all_cons, List.all_nil, List.map_cons, List.map_nil, Bool.and_true, Bool.true_and, List.tail_cons, List.tail_nil, List.head?_cons, sNx, sSeq, sRet, sRetN, sExp, sAsg, sAsgO, sIf, sAug, sFor, sWh, sBrk, sCnt, sRaise, sApp, Slot.ownL, sPut, sPar, sParL, sFld, dFld, dMake, mkC, dMakeV, dCm, dObj, D.isObj, dCallV, dCallS, dEqO, dIsO, dDct0, isBD_bl, notBD_bl, revD_lst, sPar3, sTrys, catchD, DEnds.unname, repF, D.eqTo, at_0, at_s, at_nil, set_0, set_s, fzd, frd, if_true, if_false, Bool.not_true, Bool.not_false, true_and, and_true, Bool.false_eq_true, ↓reduceIte, lenF, lenD, allF, anyF, sumF, absF, intF, tupleF, swM, ewM, eqv_int, eqv_str, eqv_bl, D.isTy, Int.cast_ofNat_Int, addD_int, addD_str, addD_lst, iaddD_int, iaddD_str, subD_int, mulD_int, mulD_str, mulD_lst, fdivD_int, modD_int, powD_int, negD_int, eqD, neD_str, neD_int, ltD_int, leD_int, gtD_int, geD_int, isD, isnD, D.isNon, inDv, ninDv, ixD_lst, ixD_tup, ixD_str, slD_lst, slD_frl, slD_str, dLc, dLook, Slot.calm]
  refine ⟨by decide, ?_⟩
  refine forL_inv (I := fun es ρ => ∃ (ts : List St2) (s3 : Slot) (c d : Int), es = ts.map stepD ∧ ρ = [.fz (.lst (ss.map stepD)), .fz (.int (-d)), .fz (.int (-c)), s3] ∧ coreLoop ts d c = needL ss)
    (fun ρ h => ?_) (fun e es ρ h k hk => ?_) _ _ ⟨ss, .no, 0, 0, rfl, rfl, coreLoop_need ss⟩
  · obtain ⟨ts, s3, c, d, h1, rfl, h2⟩ := h
    cases ts with
    | cons t ts => cases h1
    | nil =>
      have hc : c = needL ss := h2
      subst hc
      simp -implicitDefEqProofs only [runD, startE, outsE, outs_0, outs_s, List.length_cons, List.length_nil, List.cons_append, List.nil_append, List.replicate, Nat.sub_zero, Nat.add_one_sub_one, Nat.reduceSub, Nat.reduceAdd, dC, dVar_M, dVarM_fz, dVarM_own, dIxN_M, dIxM_fz, dIxM_own, dFnN_M, dFnM_fz, dFnM_own, dOp, dUn, dArgs, dLst, dTup, dFn, dIsi, dMs, dPart, dSl, dIfE, Slot.known, tVal, tTru, tAnd, tOr, tNot, dAnd, dOr, dNot, dChain, iLst, iTup, iStr, iRng1, iRng2, iEnum, iZip, gN, gNs, gT, Tgt.g, tYes, wipeE, backE, dAVs, dCall, avSlot, AV.ok, Slot.isOwn, bA_nil, bA_v, bA_m, D.isRef, List.all_cons, List.all_nil, List.map_cons, List.map_nil, Bool.and_true, Bool.true_and, List.tail_cons, List.tail_nil, List.head?_cons, sNx, sSeq, sRet, sRetN, sExp, sAsg, sAsgO, sIf, sAug, sFor, sWh, sBrk, sCnt, sRaise, sApp, Slot.ownL, sPut, sPar, sParL, sFld, dFld, dMake, mkC, dMakeV, dCm, dObj, D.isObj, dCallV, dCallS, dEqO, dIsO, dDct0, isBD_bl, notBD_bl, revD_lst, sPar3, sTrys, catchD, DEnds.unname, repF, D.eqTo, at_0, at_s, at_nil, set_0, set_s, fzd, frd, if_true, if_false, Bool.not_true, Bool.not_false, true_and, and_true, Bool.false_eq_true, ↓reduceIte, lenF, lenD, allF, anyF, sumF, absF, intF, tupleF, swM, ewM, eqv_int, eqv_str, eqv_bl, D.isTy, Int.cast_ofNat_Int, addD_int, addD_str, addD_lst, iaddD_int, iaddD_str, subD_int, mulD_int, mulD_str, mulD_lst, fdivD_int, modD_int, powD_int, negD_int, eqD, neD_str, neD_int, ltD_int, leD_int, gtD_int, geD_int, isD, isnD, D.isNon, inDv, ninDv, ixD_lst, ixD_tup, ixD_str, slD_lst, slD_frl, slD_str, dLc, dLook, Slot.calm]
      rw [Int.neg_neg]
      exact hq _
  · obtain ⟨ts, s3, c, d, h1, rfl, h2⟩ := h
    cases ts with
    | nil => cases h1
    | cons t ts =>
      cases h1
      unfold stepD
      simp -implicitDefEqProofs only [runD, startE, outsE, outs_0, outs_s, List.length_cons, List.length_nil, List.cons_append, List.nil_append, List.replicate, Nat.sub_zero, Nat.add_one_sub_one, Nat.reduceSub, Nat.reduceAdd, dC, dVar_M, dVarM_fz, dVarM_own, dIxN_M, dIxM_fz, dIxM_own, dFnN_M, dFnM_fz, dFnM_own, dOp, dUn, dArgs, dLst, dTup, dFn, dIsi, dMs, dPart, dSl, dIfE, Slot.known, tVal, tTru, tAnd, tOr, tNot, dAnd, dOr, dNot, dChain, iLst, iTup, iStr, iRng1, iRng2, iEnum, iZip, gN, gNs, gT, Tgt.g, tYes, wipeE, backE, dAVs, dCall, avSlot, AV.ok, Slot.isOwn, bA_nil, bA_v, bA_m, D.isRef, List.all_cons, List.all_nil, List.map_cons, List.map_nil, Bool.and_true, Bool.true_and, List.tail_cons, List.tail_nil, List.head?_cons, sNx, sSeq, sRet, sRetN, sExp, sAsg, sAsgO, sIf, sAug, sFor, sWh, sBrk, sCnt, sRaise, sApp, Slot.ownL, sPut, sPar, sParL, sFld, dFld, dMake, mkC, dMakeV, dCm, dObj, D.isObj, dCallV, dCallS, dEqO, dIsO, dDct0, isBD_bl, notBD_bl, revD_lst, sPar3, sTrys, catchD, DEnds.unname, repF, D.eqTo, at_0, at_s, at_nil, set_0, set_s, fzd, frd, if_true, if_false, Bool.not_true, Bool.not_false, true_and, and_true, Bool.false_eq_true, ↓reduceIte, lenF, lenD, allF, anyF, sumF, absF, intF, tupleF, swM, ewM, eqv_int, eqv_str, eqv_bl, D.isTy, Int.cast_ofNat_Int, addD_int, addD_str, addD_lst, iaddD_int, iaddD_str, subD_int, mulD_int, mulD_str, mulD_lst, fdivD_int, modD_int, powD_int, negD_int, eqD, neD_str, neD_int, ltD_int, leD_int, gtD_int, geD_int, isD, isnD, D.isNon, inDv, ninDv, ixD_lst, ixD_tup, ixD_str, slD_lst, slD_frl, slD_str, dLc, dLook, Slot.calm]
      refine ⟨by decide, 0, t.1, rfl, rfl, .inl rfl, ?_⟩
      rw [one_eq]
      rw [coreLoop] at h2
      unfold stepV at h2
      cases hs : (t.1 == 45) with
      | true =>
        rw [hs, if_pos rfl] at h2
        simp -implicitDefEqProofs only [runD, startE, outsE, outs_0, outs_s, List.length_cons, List.length_nil, List.cons_append, List.nil_append, List.replicate, Nat.sub_zero, Nat.add_one_sub_one, Nat.reduceSub, Nat.reduceAdd, dC, dVar_M, dVarM_fz, dVarM_own, dIxN_M, dIxM_fz, dIxM_own, dFnN_M, dFnM_fz, dFnM_own, dOp, dUn, dArgs, dLst, dTup, dFn, dIsi, dMs, dPart, dSl, dIfE, Slot.known, tVal, tTru, tAnd, tOr, tNot, dAnd, dOr, dNot, dChain, iLst, iTup, iStr, iRng1, iRng2, iEnum, iZip, gN, gNs, gT, Tgt.g, tYes, wipeE, backE, dAVs, dCall, avSlot, AV.ok, Slot.isOwn, bA_nil, bA_v, bA_m, D.isRef, List.all_cons, List.all_nil, List.map_cons, List.map_nil, Bool.and_true, Bool.true_and, List.tail_cons, List.tail_nil, List.head?_cons, sNx, sSeq, sRet, sRetN, sExp, sAsg, sAsgO, sIf, sAug, sFor, sWh, sBrk, sCnt, sRaise, sApp, Slot.ownL, sPut, sPar, sParL, sFld, dFld, dMake, mkC, dMakeV, dCm, dObj, D.isObj, dCallV, dCallS, dEqO, dIsO, dDct0, isBD_bl, notBD_bl, revD_lst, sPar3, sTrys, catchD, DEnds.unname, repF, D.eqTo, at_0, at_s, at_nil, set_0, set_s, fzd, frd, if_true, if_false, Bool.not_true, Bool.not_false, true_and, and_true, Bool.false_eq_true, ↓reduceIte, lenF, lenD, allF, anyF, sumF, absF, intF, tupleF, swM, ewM, eqv_int, eqv_str, eqv_bl, D.isTy, Int.cast_ofNat_Int, addD_int, addD_str, addD_lst, iaddD_int, iaddD_str, subD_int, mulD_int, mulD_str, mulD_lst, fdivD_int, modD_int, powD_int, negD_int, eqD, neD_str, neD_int, ltD_int, leD_int, gtD_int, geD_int, isD, isnD, D.isNon, inDv, ninDv, ixD_lst, ixD_tup, ixD_str, slD_lst, slD_frl, slD_str, dLc, dLook, Slot.calm]
        refine ⟨1, .int (-1), rfl, rfl, ?_⟩
        simp -implicitDefEqProofs only [runD, startE, outsE, outs_0, outs_s, List.length_cons, List.length_nil, List.cons_append, List.nil_append, List.replicate, Nat.sub_zero, Nat.add_one_sub_one, Nat.reduceSub, Nat.reduceAdd, dC, dVar_M, dVarM_fz, dVarM_own, dIxN_M, dIxM_fz, dIxM_own, dFnN_M, dFnM_fz, dFnM_own, dOp, dUn, dArgs, dLst, dTup, dFn, dIsi, dMs, dPart, dSl, dIfE, Slot.known, tVal, tTru, tAnd, tOr, tNot, dAnd, dOr, dNot, dChain, iLst, iTup, iStr, iRng1, iRng2, iEnum, iZip, gN, gNs, gT, Tgt.g, tYes, wipeE, backE, dAVs, dCall, avSlot, AV.ok, Slot.isOwn, bA_nil, bA_v, bA_m, D.isRef, List.all_cons, List.all_nil, List.map_cons, List.map_nil, Bool.and_true, Bool.true_and, List.tail_cons, List.tail_nil, List.head?_cons, sNx, sSeq, sRet, sRetN, sExp, sAsg, sAsgO, sIf, sAug, sFor, sWh, sBrk, sCnt, sRaise, sApp, Slot.ownL, sPut, sPar, sParL, sFld, dFld, dMake, mkC, dMakeV, dCm, dObj, D.isObj, dCallV, dCallS, dEqO, dIsO, dDct0, isBD_bl, notBD_bl, revD_lst, sPar3, sTrys, catchD, DEnds.unname, repF, D.eqTo, at_0, at_s, at_nil, set_0, set_s, fzd, frd, if_true, if_false, Bool.not_true, Bool.not_false, true_and, and_true, Bool.false_eq_true, ↓reduceIte, lenF, lenD, allF, anyF, sumF, absF, intF, tupleF, swM, ewM, eqv_int, eqv_str, eqv_bl, D.isTy, Int.cast_ofNat_Int, addD_int, addD_str, addD_lst, iaddD_int, iaddD_str, subD_int, mulD_int, mulD_str, mulD_lst, fdivD_int, modD_int, powD_int, negD_int, eqD, neD_str, neD_int, ltD_int, leD_int, gtD_int, geD_int, isD, isnD, D.isNon, inDv, ninDv, ixD_lst, ixD_tup, ixD_str, slD_lst, slD_frl, slD_str, dLc, dLook, Slot.calm]
        rw [minF2]
        refine hk _ ⟨ts, .fz (.str [t.1, t.2]), max c (d + 1), d + 1, rfl, ?_, h2⟩
        rw [show -d + -1 = -(d + 1) by omega, show min (-c) (-(d + 1)) = -(max c (d + 1)) by omega]
        rfl
      | false =>
        rw [hs, if_neg (by decide)] at h2
        simp -implicitDefEqProofs only [runD, startE, outsE, outs_0, outs_s, List.length_cons, List.length_nil, List.cons_append, List.nil_append, List.replicate, Nat.sub_zero, Nat.add_one_sub_one, Nat.reduceSub, Nat.reduceAdd, dC, dVar_M, dVarM_fz, dVarM_own, dIxN_M, dIxM_fz, dIxM_own, dFnN_M, dFnM_fz, dFnM_own, dOp, dUn, dArgs, dLst, dTup, dFn, dIsi, dMs, dPart, dSl, dIfE, Slot.known, tVal, tTru, tAnd, tOr, tNot, dAnd, dOr, dNot, dChain, iLst, iTup, iStr, iRng1, iRng2, iEnum, iZip, gN, gNs, gT, Tgt.g, tYes, wipeE, backE, dAVs, dCall, avSlot, AV.ok, Slot.isOwn, bA_nil, bA_v, bA_m, D.isRef, List.all_cons, List.all_nil, List.map_cons, List.map_nil, Bool.and_true, Bool.true_and, List.tail_cons, List.tail_nil, List.head?_cons, sNx, sSeq, sRet, sRetN, sExp, sAsg, sAsgO, sIf, sAug, sFor, sWh, sBrk, sCnt, sRaise, sApp, Slot.ownL, sPut, sPar, sParL, sFld, dFld, dMake, mkC, dMakeV, dCm, dObj, D.isObj, dCallV, dCallS, dEqO, dIsO, dDct0, isBD_bl, notBD_bl, revD_lst, sPar3, sTrys, catchD, DEnds.unname, repF, D.eqTo, at_0, at_s, at_nil, set_0, set_s, fzd, frd, if_true, if_false, Bool.not_true, Bool.not_false, true_and, and_true, Bool.false_eq_true, ↓reduceIte, lenF, lenD, allF, anyF, sumF, absF, intF, tupleF, swM, ewM, eqv_int, eqv_str, eqv_bl, D.isTy, Int.cast_ofNat_Int, addD_int, addD_str, addD_lst, iaddD_int, iaddD_str, subD_int, mulD_int, mulD_str, mulD_lst, fdivD_int, modD_int, powD_int, negD_int, eqD, neD_str, neD_int, ltD_int, leD_int, gtD_int, geD_int, isD, isnD, D.isNon, inDv, ninDv, ixD_lst, ixD_tup, ixD_str, slD_lst, slD_frl, slD_str, dLc, dLook, Slot.calm]
        refine ⟨0, .int 1, rfl, rfl, ?_⟩
        simp -implicitDefEqProofs only [runD, startE, outsE, outs_0, outs_s, List.length_cons, List.length_nil, List.cons_append, List.nil_append, List.replicate, Nat.sub_zero, Nat.add_one_sub_one, Nat.reduceSub, Nat.reduceAdd, dC, dVar_M, dVarM_fz, dVarM_own, dIxN_M, dIxM_fz, dIxM_own, dFnN_M, dFnM_fz, dFnM_own, dOp, dUn, dArgs, dLst, dTup, dFn, dIsi, dMs, dPart, dSl, dIfE, Slot.known, tVal, tTru, tAnd, tOr, tNot, dAnd, dOr, dNot, dChain, iLst, iTup, iStr, iRng1, iRng2, iEnum, iZip, gN, gNs, gT, Tgt.g, tYes, wipeE, backE, dAVs, dCall, avSlot, AV.ok, Slot.isOwn, bA_nil, bA_v, bA_m, D.isRef, List.all_cons, List.all_nil, List.map_cons, List.map_nil, Bool.and_true, Bool.true_and, List.tail_cons, List.tail_nil, List.head?_cons, sNx, sSeq, sRet, sRetN, sExp, sAsg, sAsgO, sIf, sAug, sFor, sWh, sBrk, sCnt, sRaise, sApp, Slot.ownL, sPut, sPar, sParL, sFld, dFld, dMake, mkC, dMakeV, dCm, dObj, D.isObj, dCallV, dCallS, dEqO, dIsO, dDct0, isBD_bl, notBD_bl, revD_lst, sPar3, sTrys, catchD, DEnds.unname, repF, D.eqTo, at_0, at_s, at_nil, set_0, set_s, fzd, frd, if_true, if_false, Bool.not_true, Bool.not_false, true_and, and_true, Bool.false_eq_true, ↓reduceIte, lenF, lenD, allF, anyF, sumF, absF, intF, tupleF, swM, ewM, eqv_int, eqv_str, eqv_bl, D.isTy, Int.cast_ofNat_Int, addD_int, addD_str, addD_lst, iaddD_int, iaddD_str, subD_int, mulD_int, mulD_str, mulD_lst, fdivD_int, modD_int, powD_int, negD_int, eqD, neD_str, neD_int, ltD_int, leD_int, gtD_int, geD_int, isD, isnD, D.isNon, inDv, ninDv, ixD_lst, ixD_tup, ixD_str, slD_lst, slD_frl, slD_str, dLc, dLook, Slot.calm]
        rw [minF2]
        refine hk _ ⟨ts, .fz (.str [t.1, t.2]), max c (d + -1), d + -1, rfl, ?_, h2⟩
        rw [show -d + 1 = -(d + -1) by omega, show min (-c) (-(d + -1)) = -(max c (d + -1)) by omega]
        rfl
end DL

set_option linter.all false
set_option autoImplicit false
set_option maxRecDepth 100000
namespace DL
/-! what sequences do to queues: plain lists -/
theorem takeLen_iff {p x : Tx} : (p.take x.length == x) = true ↔ x <+: p := by
  rw [beq_iff_eq, List.prefix_iff_eq_take]
  exact eq_comm
theorem suit_iff {t p : Tx} {n : Nat} : suit t p n = true ↔ t.length ≤ n ∨ t.drop n <+: p := by
  unfold suit
  rw [Bool.or_eq_true, decide_eq_true_eq, takeLen_iff]
theorem suit_iff2 {t p : Tx} {n : Nat} : suit t p n = true ↔ t.drop n <+: p := by
  rw [suit_iff]
  constructor
  · rintro (h | h)
    · rw [List.drop_eq_nil_of_le h]; exact List.nil_prefix
    · exact h
  · exact .inr
/-- an effect, as data -/
structure Eff where
  t : Tx
  p : Tx
  c : Nat
def Eff.D (e : Eff) : D := .obj 0 [.str e.t, .str e.p, .int e.c]
/-- what it accepts -/
def Eff.Acc (e : Eff) (q : Tx) : Prop := e.c ≤ q.length ∧ e.t <+: q ++ e.p
instance (e : Eff) (q : Tx) : Decidable (e.Acc q) := by unfold Eff.Acc; exact inferInstance
def Eff.app (e : Eff) (q : Tx) : Tx := (q ++ e.p).drop e.t.length
def Eff.acc (e : Eff) (q : Tx) : Bool := decide (e.Acc q)
structure Eff.Ok (e : Eff) : Prop where
  core : e.c ≤ e.t.length
  suit : suit e.t e.p e.c = true
def effOf (ss : List St2) : Eff := ⟨itemsOf 45 ss, itemsOf 43 ss, coreOf ss⟩
theorem effD_eq (ss : List St2) : effD ss = (effOf ss).D := rfl
theorem effOf_ok (ss : List St2) : (effOf ss).Ok := ⟨(core_ok ss).1, (core_ok ss).2⟩
/-- a suitable number that is at least n is at least the least one -/
theorem leastOf_le {t p : Tx} : ∀ {n k : Nat}, n ≤ k → suit t p k = true → leastOf t p n ≤ k := by
  have : ∀ f n k, f = k - n → n ≤ k → suit t p k = true → leastOf t p n ≤ k := by
    intro f
    induction f with
    | zero =>
      intro n k hf hn hs
      have : n = k := by omega
      subst this
      rw [leastOf_yes hs]
      exact Nat.le_refl _
    | succ f ih =>
      intro n k hf hn hs
      cases h : suit t p n with
      | true => rw [leastOf_yes h]; exact hn
      | false => rw [leastOf_no h]; exact ih (n + 1) k (by omega) (by omega) hs
  exact fun {n k} => this _ n k rfl
theorem leastOf_ge {t p : Tx} {n : Nat} : n ≤ leastOf t p n := by
  by_cases h : n ≤ t.length
  · exact (leastOf_spec t p n h).1
  · rw [leastOf_yes (suit_big (by omega))]; exact Nat.le_refl _
theorem leastOf_suit {t p : Tx} {n : Nat} : suit t p (leastOf t p n) = true := by
  by_cases h : n ≤ t.length
  · exact (leastOf_spec t p n h).2.2
  · rw [leastOf_yes (suit_big (by omega))]; exact suit_big (by omega)
/-- where no suitable number lies between, the least ones agree -/
theorem leastOf_eq {t p : Tx} {n m : Nat} (h : n ≤ m) (hs : ∀ k, n ≤ k → suit t p k = true → m ≤ k) : leastOf t p n = leastOf t p m := by
  apply Nat.le_antisymm
  · exact leastOf_le (Nat.le_trans h leastOf_ge) leastOf_suit
  · exact leastOf_le (hs _ leastOf_ge leastOf_suit) leastOf_suit
/-- a queue that it may accept is of a suitable length -/
theorem pre_suit {t p q : Tx} (h : t <+: q ++ p) : suit t p q.length = true := by
  rw [suit_iff2]
  obtain ⟨r, hr⟩ := h
  refine ⟨r.drop (q.length - t.length), ?_⟩
  have := congrArg (List.drop q.length) hr
  rw [List.drop_append, List.drop_left] at this
  exact this
theorem acc_core {t p q : Tx} {n : Nat} (h : t <+: q ++ p) : leastOf t p n ≤ q.length ↔ n ≤ q.length :=
  ⟨fun k => Nat.le_trans leastOf_ge k, fun k => leastOf_le k (pre_suit h)⟩
theorem depths_shift : ∀ (ss : List St2) (d n : Int), (∀ y ∈ depthsL ss d, y ≤ n) ↔ (∀ y ∈ depthsL ss 0, y ≤ n - d)
  | [], d, n => by simp [depthsL]
  | s :: ss, d, n => by
    rw [depthsL, depthsL]
    cases hs : (s.1 == 45) with
    | true =>
      simp only [if_true, List.mem_cons, forall_eq_or_imp]
      rw [depths_shift ss (d + 1) n, depths_shift ss (0 + 1) (n - d)]
      have e : n - (d + 1) = n - d - (0 + 1) := by omega
      rw [e]
      constructor <;> rintro ⟨h1, h2⟩ <;> exact ⟨by omega, h2⟩
    | false =>
      simp only [Bool.false_eq_true, if_false]
      rw [depths_shift ss (d - 1) n, depths_shift ss (0 - 1) (n - d)]
      have e : n - (d - 1) = n - d - (0 - 1) := by omega
      rw [e]
theorem need_iff (ss : List St2) (n : Nat) : needL ss ≤ n ↔ ∀ y ∈ depthsL ss 0, y ≤ (n : Int) := by
  constructor
  · intro h y hy
    exact Int.le_trans (maxL_le _ y (List.mem_cons_of_mem _ hy)) h
  · intro h
    rcases List.mem_cons.mp (maxL_mem (depthsL ss 0)) with e | e
    · show maxL _ ≤ _
      rw [e]; omega
    · exact h _ e
theorem items_take {c : Nat} {ss : List St2} : itemsOf 45 ((45, c) :: ss) = c :: itemsOf 45 ss ∧ itemsOf 43 ((45, c) :: ss) = itemsOf 43 ss := ⟨rfl, rfl⟩
theorem items_put {c : Nat} {ss : List St2} : itemsOf 45 ((43, c) :: ss) = itemsOf 45 ss ∧ itemsOf 43 ((43, c) :: ss) = c :: itemsOf 43 ss := ⟨rfl, rfl⟩
def signs (ss : List St2) : Prop := ∀ s ∈ ss, s.1 = 43 ∨ s.1 = 45
theorem exec_iff : ∀ (ss : List St2) (q : Tx) (i : Nat), signs ss → ((exec q ss i).2 = none ↔ (∀ y ∈ depthsL ss 0, y ≤ (q.length : Int)) ∧ itemsOf 45 ss <+: q ++ itemsOf 43 ss) ∧
    ((exec q ss i).2 = none → (exec q ss i).1 = (q ++ itemsOf 43 ss).drop (itemsOf 45 ss).length)
  | [], q, i, _ => ⟨⟨fun _ => ⟨by simp [depthsL], List.nil_prefix⟩, fun _ => rfl⟩, fun _ => by simp [exec, itemsOf]⟩
  | (a, c) :: ss, q, i, h => by
    have hss : signs ss := fun s hs => h s (List.mem_cons_of_mem _ hs)
    rcases h (a, c) List.mem_cons_self with ha | ha
    · have ha : a = 43 := ha
      subst ha
      obtain ⟨ih1, ih2⟩ := exec_iff ss (q ++ [c]) (i + 1) hss
      have ex : exec q ((43, c) :: ss) i = exec (q ++ [c]) ss (i + 1) := rfl
      have de : depthsL ((43, c) :: ss) 0 = depthsL ss (0 - 1) := rfl
      rw [ex, items_put.1, items_put.2, de, depths_shift ss (0 - 1)]
      have el : ((q ++ [c]).length : Int) = (q.length : Int) - (0 - 1) := by rw [List.length_append]; show ((q.length + 1 : Nat) : Int) = _; omega
      have ea : q ++ c :: itemsOf 43 ss = (q ++ [c]) ++ itemsOf 43 ss := by simp
      rw [el] at ih1
      rw [ea]
      exact ⟨ih1, ih2⟩
    · have ha : a = 45 := ha
      subst ha
      have de : depthsL ((45, c) :: ss) 0 = (0 + 1) :: depthsL ss (0 + 1) := rfl
      rw [items_take.1, items_take.2, de]
      cases q with
      | nil =>
        have ex : exec [] ((45, c) :: ss) i = ([], some i) := rfl
        rw [ex]
        refine ⟨⟨fun z => (nomatch z), fun z => ?_⟩, fun z => (nomatch z)⟩
        have := z.1 (0 + 1) List.mem_cons_self
        simp at this
      | cons b q =>
        have ex : exec (b :: q) ((45, c) :: ss) i = if b == c then exec q ss (i + 1) else (b :: q, some i) := rfl
        rw [ex]
        cases hb : (b == c) with
        | true =>
          have hbc : b = c := by simpa using hb
          subst hbc
          obtain ⟨ih1, ih2⟩ := exec_iff ss q (i + 1) hss
          simp only [if_true, List.mem_cons, forall_eq_or_imp, List.cons_append, List.length_cons, List.drop_succ_cons]
          rw [ih1, depths_shift ss (0 + 1), List.cons_prefix_cons]
          have el : ((q.length + 1 : Nat) : Int) - (0 + 1) = (q.length : Int) := by omega
          rw [el]
          refine ⟨⟨fun z => ⟨⟨by omega, z.1⟩, rfl, z.2⟩, fun z => ⟨z.1.2, z.2.2⟩⟩, fun z => ih2 (ih1.mpr z)⟩
        | false =>
          have hbc : b ≠ c := by simpa using hb
          refine ⟨⟨fun z => (nomatch z), fun z => ?_⟩, fun z => (nomatch z)⟩
          have := z.2
          rw [List.cons_append, List.cons_prefix_cons] at this
          exact absurd this.1.symm hbc
/-- M1: a sequence runs exactly where its effect accepts -/
theorem runs_iff {ss : List St2} (h : signs ss) (q : Tx) (i : Nat) : (exec q ss i).2 = none ↔ (effOf ss).Acc q := by
  rw [(exec_iff ss q i h).1]
  constructor
  · rintro ⟨h1, h2⟩
    refine ⟨?_, h2⟩
    show leastOf (itemsOf 45 ss) (itemsOf 43 ss) (needL ss).toNat ≤ q.length
    rw [acc_core h2]
    have := (need_iff ss q.length).mpr h1
    omega
  · rintro ⟨h1, h2⟩
    refine ⟨?_, h2⟩
    have h1 : leastOf (itemsOf 45 ss) (itemsOf 43 ss) (needL ss).toNat ≤ q.length := h1
    have h2 : itemsOf 45 ss <+: q ++ itemsOf 43 ss := h2
    rw [acc_core h2] at h1
    have := maxL_nonneg (depthsL ss 0)
    have h3 : needL ss ≤ (q.length : Int) := by
      have e : ((needL ss).toNat : Int) = needL ss := Int.toNat_of_nonneg this
      omega
    exact (need_iff ss q.length).mp h3
theorem runs_app {ss : List St2} (h : signs ss) {q : Tx} {i : Nat} (hr : (exec q ss i).2 = none) : (exec q ss i).1 = (effOf ss).app q := (exec_iff ss q i h).2 hr
/-! composition -/
def comp (a b : Eff) : Eff := ⟨a.t ++ b.t, a.p ++ b.p, leastOf (a.t ++ b.t) (a.p ++ b.p) (max a.c (b.c + a.t.length - a.p.length))⟩
theorem comp_acc (a b : Eff) (q : Tx) : (comp a b).Acc q ↔ a.Acc q ∧ b.Acc (a.app q) := by
  have lenA : (a.app q).length = q.length + a.p.length - a.t.length := by
    show ((q ++ a.p).drop a.t.length).length = _
    rw [List.length_drop, List.length_append]
  have split : a.t <+: q ++ a.p → q ++ a.p = a.t ++ a.app q := by
    rintro ⟨r, hr⟩
    show _ = a.t ++ (q ++ a.p).drop a.t.length
    rw [← hr, List.drop_left]
  constructor
  · rintro ⟨h1, h2⟩
    have h2 : a.t ++ b.t <+: q ++ (a.p ++ b.p) := h2
    have h1 : leastOf (a.t ++ b.t) (a.p ++ b.p) (max a.c (b.c + a.t.length - a.p.length)) ≤ q.length := h1
    rw [acc_core h2] at h1
    have h3 : a.t <+: q ++ a.p := by
      refine List.prefix_of_prefix_length_le ((List.prefix_append _ _).trans h2) ?_ ?_
      · rw [← List.append_assoc]; exact List.prefix_append _ _
      · rw [List.length_append]; omega
    refine ⟨⟨by omega, h3⟩, ?_, ?_⟩
    · rw [lenA]; omega
    · rw [← List.append_assoc, split h3, List.append_assoc, List.prefix_append_right_inj] at h2
      exact h2
  · rintro ⟨⟨h1, h2⟩, h3, h4⟩
    have h5 : a.t ++ b.t <+: q ++ (a.p ++ b.p) := by
      rw [← List.append_assoc, split h2, List.append_assoc, List.prefix_append_right_inj]
      exact h4
    refine ⟨?_, h5⟩
    show leastOf (a.t ++ b.t) (a.p ++ b.p) (max a.c (b.c + a.t.length - a.p.length)) ≤ q.length
    rw [acc_core h5]
    rw [lenA] at h3
    have := h2.length_le
    rw [List.length_append] at this
    omega
theorem comp_app (a b : Eff) (q : Tx) (h : a.Acc q) : (comp a b).app q = b.app (a.app q) := by
  obtain ⟨_, r, hr⟩ := h
  show (q ++ (a.p ++ b.p)).drop (a.t ++ b.t).length = ((q ++ a.p).drop a.t.length ++ b.p).drop b.t.length
  rw [← List.append_assoc, ← hr, List.drop_left, List.length_append, List.append_assoc, ← List.drop_drop, List.drop_left]
theorem comp_ok (a b : Eff) (ha : a.Ok) (hb : b.Ok) : (comp a b).Ok := by
  refine ⟨?_, leastOf_suit⟩
  refine leastOf_le ?_ (suit_big (Nat.le_refl _))
  have := ha.core
  have := hb.core
  show max a.c (b.c + a.t.length - a.p.length) ≤ (a.t ++ b.t).length
  rw [List.length_append]
  omega
/-- what accepts alike and has the same words is the same -/
theorem eff_ext {a b : Eff} (ha : a.Ok) (hb : b.Ok) (ht : a.t = b.t) (hp : a.p = b.p) (h : ∀ q, a.Acc q ↔ b.Acc q) : a = b := by
  have le : ∀ {a b : Eff}, a.Ok → b.Ok → a.t = b.t → a.p = b.p → (∀ q, a.Acc q → b.Acc q) → b.c ≤ a.c := by
    intro a b ha hb ht hp h
    have hl : (a.t.take a.c).length = a.c := by rw [List.length_take]; exact Nat.min_eq_left ha.core
    have : a.Acc (a.t.take a.c) := by
      refine ⟨by rw [hl]; exact Nat.le_refl _, ?_⟩
      obtain ⟨r, hr⟩ := suit_iff2.mp ha.suit
      refine ⟨r, ?_⟩
      rw [← hr, ← List.append_assoc, List.take_append_drop]
    have := (h _ this).1
    rw [hl] at this
    exact this
  have h1 := le ha hb ht hp fun q => (h q).mp
  have h2 := le hb ha ht.symm hp.symm fun q => (h q).mpr
  obtain ⟨t, p, c⟩ := a
  obtain ⟨t', p', c'⟩ := b
  simp only at ht hp h1 h2
  subst ht hp
  rw [Nat.le_antisymm h2 h1]
theorem items_append (sg : Nat) (ss tt : List St2) : itemsOf sg (ss ++ tt) = itemsOf sg ss ++ itemsOf sg tt := by
  unfold itemsOf
  rw [List.filter_append, List.map_append]
theorem exec_append : ∀ (ss tt : List St2) (q : Tx) (i : Nat), (exec q (ss ++ tt) i).2 = none ↔ (exec q ss i).2 = none ∧ (exec (exec q ss i).1 tt (i + ss.length)).2 = none
  | [], tt, q, i => by simp [exec]
  | s :: ss, tt, q, i => by
    have e : i + (s :: ss).length = i + 1 + ss.length := by rw [List.length_cons]; omega
    rw [List.cons_append, e]
    rw [exec_cons, exec_cons]
    split
    · exact exec_append ss tt _ _
    · split
      · split
        · exact exec_append ss tt _ _
        · simp
      · simp
theorem signs_of {ss : List St2} (h : ∀ s ∈ ss, okSt s = true) : signs ss := fun s hs => by
  have := h s hs
  unfold okSt at this
  rw [Bool.and_eq_true, Bool.or_eq_true, beq_iff_eq, beq_iff_eq] at this
  exact this.1
/-- M2: the effect of a concatenation is the composition -/
theorem effOf_append {ss tt : List St2} (h1 : signs ss) (h2 : signs tt) : effOf (ss ++ tt) = comp (effOf ss) (effOf tt) := by
  have hst : signs (ss ++ tt) := fun s hs => (List.mem_append.mp hs).elim (h1 s) (h2 s)
  refine eff_ext (effOf_ok _) (comp_ok _ _ (effOf_ok _) (effOf_ok _)) (items_append 45 ss tt) (items_append 43 ss tt) fun q => ?_
  rw [comp_acc, ← runs_iff hst q 0, exec_append, runs_iff h1 q 0]
  constructor
  · rintro ⟨z1, z2⟩
    rw [runs_app h1 ((runs_iff h1 q 0).mpr z1), runs_iff h2] at z2
    exact ⟨z1, z2⟩
  · rintro ⟨z1, z2⟩
    rw [runs_app h1 ((runs_iff h1 q 0).mpr z1), runs_iff h2]
    exact ⟨z1, z2⟩
def idE : Eff := ⟨[], [], 0⟩
theorem idE_of : effOf [] = idE := rfl
theorem comp_id_left (a : Eff) (h : a.Ok) : comp idE a = a := by
  refine eff_ext (comp_ok _ _ ⟨Nat.le_refl _, rfl⟩ h) h rfl rfl fun q => ?_
  rw [comp_acc]
  have e : idE.app q = q := by show (q ++ []).drop 0 = q; simp
  rw [e]
  exact ⟨fun z => z.2, fun z => ⟨⟨Nat.zero_le _, List.nil_prefix⟩, z⟩⟩
theorem comp_id_right (a : Eff) (h : a.Ok) : comp a idE = a := by
  refine eff_ext (comp_ok _ _ h ⟨Nat.le_refl _, rfl⟩) h (List.append_nil _) (List.append_nil _) fun q => ?_
  rw [comp_acc]
  exact ⟨fun z => z.1, fun z => ⟨z, Nat.zero_le _, List.nil_prefix⟩⟩
theorem comp_assoc (a b c : Eff) (ha : a.Ok) (hb : b.Ok) (hc : c.Ok) : comp (comp a b) c = comp a (comp b c) := by
  refine eff_ext (comp_ok _ _ (comp_ok _ _ ha hb) hc) (comp_ok _ _ ha (comp_ok _ _ hb hc)) (List.append_assoc _ _ _) (List.append_assoc _ _ _) fun q => ?_
  rw [comp_acc, comp_acc, comp_acc, comp_acc]
  constructor
  · rintro ⟨⟨h1, h2⟩, h3⟩
    rw [comp_app a b q h1] at h3
    exact ⟨h1, h2, h3⟩
  · rintro ⟨h1, h2, h3⟩
    refine ⟨⟨h1, h2⟩, ?_⟩
    rw [comp_app a b q h1]
    exact h3
end DL

set_option linter.all false
set_option autoImplicit false
set_option maxRecDepth 100000
namespace DL
/-! queues: running, accepting -/
/-- is_queue: 0 value -/
def b_is_queue : DS := sRet (dCall C_is_word [.v (dVar 0), .v (dC (.int 2100))])
def C_is_queue : Con := fun args Q _ => ∃ d, args = [.fz d] ∧ d.plain ∧ ∀ outs, Q (.fz (.bl (isWord d 2100))) outs
theorem p_is_queue : ∀ args Q E, args.length = 1 → C_is_queue args Q E → runD 1 b_is_queue args Q E := by
  intro args Q E _ h
  obtain ⟨d, rfl, hp, hq⟩ := h
  unfold b_is_queue
  try simp -implicitDefEqProofs only [runD, startE, outsE, outs_0, outs_s, List.length_cons, List.length_nil, List.cons_append, List.nil_append, List.replicate, Nat.sub_zero, Nat.add_one_sub_one, Nat.reduceSub, Nat.reduceAdd, dC, dVar_M, dVarM_fz, dVarM_own, dIxN_M, dIxM_fz, dIxM_own, dFnN_M, dFnM_fz, dFnM_own, dOp, dUn, dArgs, dLst, dTup, dFn, dIsi, dMs, dPart, dSl, dIfE, Slot.known, tVal, tTru, tAnd, tOr, tNot, dAnd, dOr, dNot, dChain, iLst, iTup, iStr, iRng1, iRng2, iEnum, iZip, gN, gNs, gT, Tgt.g, tYes, wipeE, backE, dAVs, dCall, avSlot, AV.ok, Slot.isOwn, bA_nil, bA_v, bA_m, D.isRef, List.all_cons, List.all_nil, List.map_cons, List.map_nil, Bool.and_true, Bool.true_and, List.tail_cons, List.tail_nil, List.head?_cons, sNx, sSeq, sRet, sRetN, sExp, sAsg, sAsgO, sIf, sAug, sFor, sWh, sBrk, sCnt, sRaise, sApp, Slot.ownL, sPut, sPar, sParL, sFld, dFld, dMake, mkC, dMakeV, dCm, dObj, D.isObj, dCallV, dCallS, dEqO, dIsO, dDct0, isBD_bl, notBD_bl, revD_lst, sPar3, sTrys, catchD, DEnds.unname, repF, D.eqTo, at_0, at_s, at_nil, set_0, set_s, fzd, frd, if_true, if_false, Bool.not_true, Bool.not_false, true_and, and_true, Bool.false_eq_true, ↓reduceIte, lenF, lenD, allF, anyF, sumF, absF, intF, tupleF, swM, ewM, eqv_int, eqv_str, eqv_bl, D.isTy, Int.cast_ofNat_Int, addD_int, addD_str, addD_lst, iaddD_int, iaddD_str, subD_int, mulD_int, mulD_str, mulD_lst, fdivD_int, modD_int, powD_int, negD_int, eqD, neD_str, neD_int, ltD_int, leD_int, gtD_int, geD_int, isD, isnD, D.isNon, inDv, ninDv, ixD_lst, ixD_tup, ixD_str, slD_lst, slD_frl, slD_str, dLc, dLook, Slot.calm]
  exact ⟨d, 2100, rfl, hp, by decide, fun outs => hq _⟩
/-- check_queue: 0 queue -/
def b_check_queue : DS := sIf (tNot (tVal (dCall C_is_queue [.v (dVar 0)]))) (sRaise 0 (dVar 0)) (sNx)
def C_check_queue : Con := fun args Q E => ∃ d, args = [.fz d] ∧ d.plain ∧ (isWord d 2100 = true → ∀ r outs, r.d = .non → Q r outs) ∧ (isWord d 2100 = false → ∀ outs, E ⟨0, d⟩ outs)
theorem p_check_queue : ∀ args Q E, args.length = 1 → C_check_queue args Q E → runD 1 b_check_queue args Q E := by
  intro args Q E _ h
  obtain ⟨d, rfl, hp, h1, h2⟩ := h
  unfold b_check_queue
  try simp -implicitDefEqProofs only [runD, startE, outsE, outs_0, outs_s, List.length_cons, List.length_nil, List.cons_append, List.nil_append, List.replicate, Nat.sub_zero, Nat.add_one_sub_one, Nat.reduceSub, Nat.reduceAdd, dC, dVar_M, dVarM_fz, dVarM_own, dIxN_M, dIxM_fz, dIxM_own, dFnN_M, dFnM_fz, dFnM_own, dOp, dUn, dArgs, dLst, dTup, dFn, dIsi, dMs, dPart, dSl, dIfE, Slot.known, tVal, tTru, tAnd, tOr, tNot, dAnd, dOr, dNot, dChain, iLst, iTup, iStr, iRng1, iRng2, iEnum, iZip, gN, gNs, gT, Tgt.g, tYes, wipeE, backE, dAVs, dCall, avSlot, AV.ok, Slot.isOwn, bA_nil, bA_v, bA_m, D.isRef, List.all_cons, List.all_nil, List.map_cons, List.map_nil, Bool.and_true, Bool.true_and, List.tail_cons, List.tail_nil, List.head?_cons, sNx, sSeq, sRet, sRetN, sExp, sAsg, sAsgO, sIf, sAug, sFor, sWh, sBrk, sCnt, sRaise, sApp, Slot.ownL, sPut, sPar, sParL, sFld, dFld, dMake, mkC, dMakeV, dCm, dObj, D.isObj, dCallV, dCallS, dEqO, dIsO, dDct0, isBD_bl, notBD_bl, revD_lst, sPar3, sTrys, catchD, DEnds.unname, repF, D.eqTo, at_0, at_s, at_nil, set_0, set_s, fzd, frd, if_true, if_false, Bool.not_true, Bool.not_false, true_and, and_true, Bool.false_eq_true, ↓reduceIte, lenF, lenD, allF, anyF, sumF, absF, intF, tupleF, swM, ewM, eqv_int, eqv_str, eqv_bl, D.isTy, Int.cast_ofNat_Int, addD_int, addD_str, addD_lst, iaddD_int, iaddD_str, subD_int, mulD_int, mulD_str, mulD_lst, fdivD_int, modD_int, powD_int, negD_int, eqD, neD_str, neD_int, ltD_int, leD_int, gtD_int, geD_int, isD, isnD, D.isNon, inDv, ninDv, ixD_lst, ixD_tup, ixD_str, slD_lst, slD_frl, slD_str, dLc, dLook, Slot.calm]
  refine ⟨d, rfl, hp, fun outs => ?_⟩
  try simp -implicitDefEqProofs only [runD, startE, outsE, outs_0, outs_s, List.length_cons, List.length_nil, List.cons_append, List.nil_append, List.replicate, Nat.sub_zero, Nat.add_one_sub_one, Nat.reduceSub, Nat.reduceAdd, dC, dVar_M, dVarM_fz, dVarM_own, dIxN_M, dIxM_fz, dIxM_own, dFnN_M, dFnM_fz, dFnM_own, dOp, dUn, dArgs, dLst, dTup, dFn, dIsi, dMs, dPart, dSl, dIfE, Slot.known, tVal, tTru, tAnd, tOr, tNot, dAnd, dOr, dNot, dChain, iLst, iTup, iStr, iRng1, iRng2, iEnum, iZip, gN, gNs, gT, Tgt.g, tYes, wipeE, backE, dAVs, dCall, avSlot, AV.ok, Slot.isOwn, bA_nil, bA_v, bA_m, D.isRef, List.all_cons, List.all_nil, List.map_cons, List.map_nil, Bool.and_true, Bool.true_and, List.tail_cons, List.tail_nil, List.head?_cons, sNx, sSeq, sRet, sRetN, sExp, sAsg, sAsgO, sIf, sAug, sFor, sWh, sBrk, sCnt, sRaise, sApp, Slot.ownL, sPut, sPar, sParL, sFld, dFld, dMake, mkC, dMakeV, dCm, dObj, D.isObj, dCallV, dCallS, dEqO, dIsO, dDct0, isBD_bl, notBD_bl, revD_lst, sPar3, sTrys, catchD, DEnds.unname, repF, D.eqTo, at_0, at_s, at_nil, set_0, set_s, fzd, frd, if_true, if_false, Bool.not_true, Bool.not_false, true_and, and_true, Bool.false_eq_true, ↓reduceIte, lenF, lenD, allF, anyF, sumF, absF, intF, tupleF, swM, ewM, eqv_int, eqv_str, eqv_bl, D.isTy, Int.cast_ofNat_Int, addD_int, addD_str, addD_lst, iaddD_int, iaddD_str, subD_int, mulD_int, mulD_str, mulD_lst, fdivD_int, modD_int, powD_int, negD_int, eqD, neD_str, neD_int, ltD_int, leD_int, gtD_int, geD_int, isD, isnD, D.isNon, inDv, ninDv, ixD_lst, ixD_tup, ixD_str, slD_lst, slD_frl, slD_str, dLc, dLook, Slot.calm]
  cases hw : isWord d 2100 with
  | true => exact h1 hw _ _ rfl
  | false => exact h2 hw _
def posD : Option Nat → D
  | none => .non
  | some i => .int i
def execD (x : Tx × Option Nat) : D := .tup [.str x.1, posD x.2]
/-- execute: 0 queue, 1 steps, 2 position, 3 step -/
def b_execute : DS := sSeq (sFor (iEnum (dVar 1)) (gT [2, 3]) (sIf (tVal (dOp eqD (dOp ixD (dVar 3) (dC (.int 0))) (dC (.str [43])))) (sAug 0 iaddD (dOp ixD (dVar 3) (dC (.int 1)))) (sIf (tVal (dOp eqD (dSl (dVar 0) none (some (dC (.int 1)))) (dOp ixD (dVar 3) (dC (.int 1))))) (sAsg (gN 0) (dSl (dVar 0) (some (dC (.int 1))) none)) (sRet (dTup [dVar 0, dVar 2]))))) (sRet (dTup [dVar 0, dC .non]))
def C_execute : Con := fun args Q _ => ∃ (q : Tx) (ss : List St2), args = [.fz (.str q), .fz (seqD ss)] ∧ signs ss ∧ q.length + ss.length ≤ 1000000 ∧ ∀ r outs, r.d = execD (exec q ss 0) → Q r outs
theorem enumSeq (n : Nat) : ∀ ss : List St2, enumFrom n (ss.map stepD) = (enumFrom n (ss.map stepD)) := fun _ => rfl
theorem str1_eq {a b : Nat} : (([a] : Tx) == [b]) = (a == b) := by simp
theorem cut_one {q : Tx} : cut q none (some 1) = q.take 1 := cut_to (n := 1)
theorem cut_tail {q : Tx} : cut q (some 1) none = q.drop 1 := cut_from (n := 1)
theorem p_execute : ∀ args Q E, args.length = 2 → C_execute args Q E → runD 4 b_execute args Q E := by
  intro args Q E _ h
  obtain ⟨q, ss, rfl, hs, hl, hq⟩ := h
  unfold b_execute seqD
  try simp -implicitDefEqProofs only [runD, startE, outsE, outs_0, outs_s, List.length_cons, List.length_nil, List.cons_append, List.nil_append, List.replicate, Nat.sub_zero, Nat.add_one_sub_one, Nat.reduceSub, Nat.reduceAdd, dC, dVar_M, dVarM_fz, dVarM_own, dIxN_M, dIxM_fz, dIxM_own, dFnN_M, dFnM_fz, dFnM_own, dOp, dUn, dArgs, dLst, dTup, dFn, dIsi, dMs, dPart, dSl, dIfE, Slot.known, tVal, tTru, tAnd, tOr, tNot, dAnd, dOr, dNot, dChain, iLst, iTup, iStr, iRng1, iRng2, iEnum, iZip, gN, gNs, gT, Tgt.g, tYes, wipeE, backE, dAVs, dCall, avSlot, AV.ok, Slot.isOwn, bA_nil, bA_v, bA_m, D.isRef, List.all_cons, List.all_nil, List.map_cons, List.map_nil, Bool.and_true, Bool.true_and, List.tail_cons, List.tail_nil, List.head?_cons, sNx, sSeq, sRet, sRetN, sExp, sAsg, sAsgO, sIf, sAug, sFor, sWh, sBrk, sCnt, sRaise, sApp, Slot.ownL, sPut, sPar, sParL, sFld, dFld, dMake, mkC, dMakeV, dCm, dObj, D.isObj, dCallV, dCallS, dEqO, dIsO, dDct0, isBD_bl, notBD_bl, revD_lst, sPar3, sTrys, catchD, DEnds.unname, repF, D.eqTo, at_0, at_s, at_nil, set_0, set_s, fzd, frd, if_true, if_false, Bool.not_true, Bool.not_false, true_and, and_true, Bool.false_eq_true, ↓reduceIte, lenF, lenD, allF, anyF, sumF, absF, intF, tupleF, swM, ewM, eqv_int, eqv_str, eqv_bl, D.isTy, Int.cast_ofNat_Int, addD_int, addD_str, addD_lst, iaddD_int, iaddD_str, subD_int, mulD_int, mulD_str, mulD_lst, fdivD_int, modD_int, powD_int, negD_int, eqD, neD_str, neD_int, ltD_int, leD_int, gtD_int, geD_int, isD, isnD, D.isNon, inDv, ninDv, ixD_lst, ixD_tup, ixD_str, slD_lst, slD_frl, slD_str, dLc, dLook, Slot.calm]
  rw [enumD_from]
  refine forL_inv (I := fun es ρ => ∃ (ts : List St2) (n : Nat) (q' : Tx) (s2 s3 : Slot), es = enumFrom n (ts.map stepD) ∧ ρ = [.fz (.str q'), .fz (.lst (ss.map stepD)), s2, s3] ∧ exec q ss 0 = exec q' ts n ∧ signs ts ∧ q'.length + ts.length ≤ 1000000)
    (fun ρ h => ?_) (fun e es ρ h k hk => ?_) _ _ ⟨ss, 0, q, .no, .no, rfl, rfl, rfl, hs, hl⟩
  · obtain ⟨ts, n, q', s2, s3, h1, rfl, h2, _⟩ := h
    cases ts with
    | nil =>
      try simp -implicitDefEqProofs only [runD, startE, outsE, outs_0, outs_s, List.length_cons, List.length_nil, List.cons_append, List.nil_append, List.replicate, Nat.sub_zero, Nat.add_one_sub_one, Nat.reduceSub, Nat.reduceAdd, dC, dVar_M, dVarM_fz, dVarM_own, dIxN_M, dIxM_fz, dIxM_own, dFnN_M, dFnM_fz, dFnM_own, dOp, dUn, dArgs, dLst, dTup, dFn, dIsi, dMs, dPart, dSl, dIfE, Slot.known, tVal, tTru, tAnd, tOr, tNot, dAnd, dOr, dNot, dChain, iLst, iTup, iStr, iRng1, iRng2, iEnum, iZip, gN, gNs, gT, Tgt.g, tYes, wipeE, backE, dAVs, dCall, avSlot, AV.ok, Slot.isOwn, bA_nil, bA_v, bA_m, D.isRef, List.all_cons, List.all_nil, List.map_cons, List.map_nil, Bool.and_true, Bool.true_and, List.tail_cons, List.tail_nil, List.head?_cons, sNx, sSeq, sRet, sRetN, sExp, sAsg, sAsgO, sIf, sAug, sFor, sWh, sBrk, sCnt, sRaise, sApp, Slot.ownL, sPut, sPar, sParL, sFld, dFld, dMake, mkC, dMakeV, dCm, dObj, D.isObj, dCallV, dCallS, dEqO, dIsO, dDct0, isBD_bl, notBD_bl, revD_lst, sPar3, sTrys, catchD, DEnds.unname, repF, D.eqTo, at_0, at_s, at_nil, set_0, set_s, fzd, frd, if_true, if_false, Bool.not_true, Bool.not_false, true_and, and_true, Bool.false_eq_true, ↓reduceIte, lenF, lenD, allF, anyF, sumF, absF, intF, tupleF, swM, ewM, eqv_int, eqv_str, eqv_bl, D.isTy, Int.cast_ofNat_Int, addD_int, addD_str, addD_lst, iaddD_int, iaddD_str, subD_int, mulD_int, mulD_str, mulD_lst, fdivD_int, modD_int, powD_int, negD_int, eqD, neD_str, neD_int, ltD_int, leD_int, gtD_int, geD_int, isD, isnD, D.isNon, inDv, ninDv, ixD_lst, ixD_tup, ixD_str, slD_lst, slD_frl, slD_str, dLc, dLook, Slot.calm]
      exact ⟨by decide, hq _ _ (by rw [h2]; rfl)⟩
    | cons t ts => cases h1
  · obtain ⟨ts, n, q', s2, s3, h1, rfl, h2, h3, h4⟩ := h
    cases ts with
    | nil => cases h1
    | cons t ts =>
      cases h1
      obtain ⟨a, b⟩ := t
      have hts : signs ts := fun s hs => h3 s (List.mem_cons_of_mem _ hs)
      simp only [List.length_cons] at h4
      unfold stepD
      try simp -implicitDefEqProofs only [runD, startE, outsE, outs_0, outs_s, List.length_cons, List.length_nil, List.cons_append, List.nil_append, List.replicate, Nat.sub_zero, Nat.add_one_sub_one, Nat.reduceSub, Nat.reduceAdd, dC, dVar_M, dVarM_fz, dVarM_own, dIxN_M, dIxM_fz, dIxM_own, dFnN_M, dFnM_fz, dFnM_own, dOp, dUn, dArgs, dLst, dTup, dFn, dIsi, dMs, dPart, dSl, dIfE, Slot.known, tVal, tTru, tAnd, tOr, tNot, dAnd, dOr, dNot, dChain, iLst, iTup, iStr, iRng1, iRng2, iEnum, iZip, gN, gNs, gT, Tgt.g, tYes, wipeE, backE, dAVs, dCall, avSlot, AV.ok, Slot.isOwn, bA_nil, bA_v, bA_m, D.isRef, List.all_cons, List.all_nil, List.map_cons, List.map_nil, Bool.and_true, Bool.true_and, List.tail_cons, List.tail_nil, List.head?_cons, sNx, sSeq, sRet, sRetN, sExp, sAsg, sAsgO, sIf, sAug, sFor, sWh, sBrk, sCnt, sRaise, sApp, Slot.ownL, sPut, sPar, sParL, sFld, dFld, dMake, mkC, dMakeV, dCm, dObj, D.isObj, dCallV, dCallS, dEqO, dIsO, dDct0, isBD_bl, notBD_bl, revD_lst, sPar3, sTrys, catchD, DEnds.unname, repF, D.eqTo, at_0, at_s, at_nil, set_0, set_s, fzd, frd, if_true, if_false, Bool.not_true, Bool.not_false, true_and, and_true, Bool.false_eq_true, ↓reduceIte, lenF, lenD, allF, anyF, sumF, absF, intF, tupleF, swM, ewM, eqv_int, eqv_str, eqv_bl, D.isTy, Int.cast_ofNat_Int, addD_int, addD_str, addD_lst, iaddD_int, iaddD_str, subD_int, mulD_int, mulD_str, mulD_lst, fdivD_int, modD_int, powD_int, negD_int, eqD, neD_str, neD_int, ltD_int, leD_int, gtD_int, geD_int, isD, isnD, D.isNon, inDv, ninDv, ixD_lst, ixD_tup, ixD_str, slD_lst, slD_frl, slD_str, dLc, dLook, Slot.calm]
      refine ⟨0, a, rfl, rfl, .inl rfl, ?_⟩
      rw [str1_eq]
      rcases h3 (a, b) List.mem_cons_self with ha | ha
      · have ha : a = 43 := ha
        subst ha
        try simp -implicitDefEqProofs only [runD, startE, outsE, outs_0, outs_s, List.length_cons, List.length_nil, List.cons_append, List.nil_append, List.replicate, Nat.sub_zero, Nat.add_one_sub_one, Nat.reduceSub, Nat.reduceAdd, dC, dVar_M, dVarM_fz, dVarM_own, dIxN_M, dIxM_fz, dIxM_own, dFnN_M, dFnM_fz, dFnM_own, dOp, dUn, dArgs, dLst, dTup, dFn, dIsi, dMs, dPart, dSl, dIfE, Slot.known, tVal, tTru, tAnd, tOr, tNot, dAnd, dOr, dNot, dChain, iLst, iTup, iStr, iRng1, iRng2, iEnum, iZip, gN, gNs, gT, Tgt.g, tYes, wipeE, backE, dAVs, dCall, avSlot, AV.ok, Slot.isOwn, bA_nil, bA_v, bA_m, D.isRef, List.all_cons, List.all_nil, List.map_cons, List.map_nil, Bool.and_true, Bool.true_and, List.tail_cons, List.tail_nil, List.head?_cons, sNx, sSeq, sRet, sRetN, sExp, sAsg, sAsgO, sIf, sAug, sFor, sWh, sBrk, sCnt, sRaise, sApp, Slot.ownL, sPut, sPar, sParL, sFld, dFld, dMake, mkC, dMakeV, dCm, dObj, D.isObj, dCallV, dCallS, dEqO, dIsO, dDct0, isBD_bl, notBD_bl, revD_lst, sPar3, sTrys, catchD, DEnds.unname, repF, D.eqTo, at_0, at_s, at_nil, set_0, set_s, fzd, frd, if_true, if_false, Bool.not_true, Bool.not_false, true_and, and_true, Bool.false_eq_true, ↓reduceIte, lenF, lenD, allF, anyF, sumF, absF, intF, tupleF, swM, ewM, eqv_int, eqv_str, eqv_bl, D.isTy, Int.cast_ofNat_Int, addD_int, addD_str, addD_lst, iaddD_int, iaddD_str, subD_int, mulD_int, mulD_str, mulD_lst, fdivD_int, modD_int, powD_int, negD_int, eqD, neD_str, neD_int, ltD_int, leD_int, gtD_int, geD_int, isD, isnD, D.isNon, inDv, ninDv, ixD_lst, ixD_tup, ixD_str, slD_lst, slD_frl, slD_str, dLc, dLook, Slot.calm]
        refine (if_pos rfl).mpr ⟨1, b, rfl, rfl, ?_⟩
        refine ⟨?_, hk _ ⟨ts, n + 1, q' ++ [b], _, _, rfl, rfl, h2, hts, ?_⟩⟩
        · show q'.length + 1 ≤ 16777216; omega
        · rw [List.length_append]; show q'.length + 1 + _ ≤ _; omega
      · have ha : a = 45 := ha
        subst ha
        refine (if_neg (by decide)).mpr ?_
        try simp -implicitDefEqProofs only [runD, startE, outsE, outs_0, outs_s, List.length_cons, List.length_nil, List.cons_append, List.nil_append, List.replicate, Nat.sub_zero, Nat.add_one_sub_one, Nat.reduceSub, Nat.reduceAdd, dC, dVar_M, dVarM_fz, dVarM_own, dIxN_M, dIxM_fz, dIxM_own, dFnN_M, dFnM_fz, dFnM_own, dOp, dUn, dArgs, dLst, dTup, dFn, dIsi, dMs, dPart, dSl, dIfE, Slot.known, tVal, tTru, tAnd, tOr, tNot, dAnd, dOr, dNot, dChain, iLst, iTup, iStr, iRng1, iRng2, iEnum, iZip, gN, gNs, gT, Tgt.g, tYes, wipeE, backE, dAVs, dCall, avSlot, AV.ok, Slot.isOwn, bA_nil, bA_v, bA_m, D.isRef, List.all_cons, List.all_nil, List.map_cons, List.map_nil, Bool.and_true, Bool.true_and, List.tail_cons, List.tail_nil, List.head?_cons, sNx, sSeq, sRet, sRetN, sExp, sAsg, sAsgO, sIf, sAug, sFor, sWh, sBrk, sCnt, sRaise, sApp, Slot.ownL, sPut, sPar, sParL, sFld, dFld, dMake, mkC, dMakeV, dCm, dObj, D.isObj, dCallV, dCallS, dEqO, dIsO, dDct0, isBD_bl, notBD_bl, revD_lst, sPar3, sTrys, catchD, DEnds.unname, repF, D.eqTo, at_0, at_s, at_nil, set_0, set_s, fzd, frd, if_true, if_false, Bool.not_true, Bool.not_false, true_and, and_true, Bool.false_eq_true, ↓reduceIte, lenF, lenD, allF, anyF, sumF, absF, intF, tupleF, swM, ewM, eqv_int, eqv_str, eqv_bl, D.isTy, Int.cast_ofNat_Int, addD_int, addD_str, addD_lst, iaddD_int, iaddD_str, subD_int, mulD_int, mulD_str, mulD_lst, fdivD_int, modD_int, powD_int, negD_int, eqD, neD_str, neD_int, ltD_int, leD_int, gtD_int, geD_int, isD, isnD, D.isNon, inDv, ninDv, ixD_lst, ixD_tup, ixD_str, slD_lst, slD_frl, slD_str, dLc, dLook, Slot.calm]
        refine ⟨1, b, rfl, rfl, .inl rfl, ?_⟩
        rw [cut_one, cut_tail]
        cases q' with
        | nil =>
          refine (if_neg (by simp)).mpr ?_
          try simp -implicitDefEqProofs only [runD, startE, outsE, outs_0, outs_s, List.length_cons, List.length_nil, List.cons_append, List.nil_append, List.replicate, Nat.sub_zero, Nat.add_one_sub_one, Nat.reduceSub, Nat.reduceAdd, dC, dVar_M, dVarM_fz, dVarM_own, dIxN_M, dIxM_fz, dIxM_own, dFnN_M, dFnM_fz, dFnM_own, dOp, dUn, dArgs, dLst, dTup, dFn, dIsi, dMs, dPart, dSl, dIfE, Slot.known, tVal, tTru, tAnd, tOr, tNot, dAnd, dOr, dNot, dChain, iLst, iTup, iStr, iRng1, iRng2, iEnum, iZip, gN, gNs, gT, Tgt.g, tYes, wipeE, backE, dAVs, dCall, avSlot, AV.ok, Slot.isOwn, bA_nil, bA_v, bA_m, D.isRef, List.all_cons, List.all_nil, List.map_cons, List.map_nil, Bool.and_true, Bool.true_and, List.tail_cons, List.tail_nil, List.head?_cons, sNx, sSeq, sRet, sRetN, sExp, sAsg, sAsgO, sIf, sAug, sFor, sWh, sBrk, sCnt, sRaise, sApp, Slot.ownL, sPut, sPar, sParL, sFld, dFld, dMake, mkC, dMakeV, dCm, dObj, D.isObj, dCallV, dCallS, dEqO, dIsO, dDct0, isBD_bl, notBD_bl, revD_lst, sPar3, sTrys, catchD, DEnds.unname, repF, D.eqTo, at_0, at_s, at_nil, set_0, set_s, fzd, frd, if_true, if_false, Bool.not_true, Bool.not_false, true_and, and_true, Bool.false_eq_true, ↓reduceIte, lenF, lenD, allF, anyF, sumF, absF, intF, tupleF, swM, ewM, eqv_int, eqv_str, eqv_bl, D.isTy, Int.cast_ofNat_Int, addD_int, addD_str, addD_lst, iaddD_int, iaddD_str, subD_int, mulD_int, mulD_str, mulD_lst, fdivD_int, modD_int, powD_int, negD_int, eqD, neD_str, neD_int, ltD_int, leD_int, gtD_int, geD_int, isD, isnD, D.isNon, inDv, ninDv, ixD_lst, ixD_tup, ixD_str, slD_lst, slD_frl, slD_str, dLc, dLook, Slot.calm]
          refine ⟨by decide, hq _ _ ?_⟩
          rw [h2]
          rfl
        | cons c q' =>
          have e1 : ((c :: q').take 1 == [b]) = (c == b) := by show (([c] : Tx) == [b]) = _; exact str1_eq
          rw [e1]
          rw [exec_cons] at h2
          have h2 : exec q ss 0 = if c == b then exec q' ts (n + 1) else (c :: q', some n) := h2
          cases hb : (c == b) with
          | true =>
            rw [hb] at h2
            refine (if_pos rfl).mpr (hk _ ⟨ts, n + 1, q', _, _, rfl, rfl, h2, hts, ?_⟩)
            simp only [List.length_cons] at h4
            omega
          | false =>
            rw [hb] at h2
            refine (if_neg (by decide)).mpr ?_
            try simp -implicitDefEqProofs only [runD, startE, outsE, outs_0, outs_s, List.length_cons, List.length_nil, List.cons_append, List.nil_append, List.replicate, Nat.sub_zero, Nat.add_one_sub_one, Nat.reduceSub, Nat.reduceAdd, dC, dVar_M, dVarM_fz, dVarM_own, dIxN_M, dIxM_fz, dIxM_own, dFnN_M, dFnM_fz, dFnM_own, dOp, dUn, dArgs, dLst, dTup, dFn, dIsi, dMs, dPart, dSl, dIfE, Slot.known, tVal, tTru, tAnd, tOr, tNot, dAnd, dOr, dNot, dChain, iLst, iTup, iStr, iRng1, iRng2, iEnum, iZip, gN, gNs, gT, Tgt.g, tYes, wipeE, backE, dAVs, dCall, avSlot, AV.ok, Slot.isOwn, bA_nil, bA_v, bA_m, D.isRef, List.all_cons, List.all_nil, List.map_cons, List.map_nil, Bool.and_true, Bool.true_and, List.tail_cons, List.tail_nil, List.head?_cons, sNx, sSeq, sRet, sRetN, sExp, sAsg, sAsgO, sIf, sAug, sFor, sWh, sBrk, sCnt, sRaise, sApp, Slot.ownL, sPut, sPar, sParL, sFld, dFld, dMake, mkC, dMakeV, dCm, dObj, D.isObj, dCallV, dCallS, dEqO, dIsO, dDct0, isBD_bl, notBD_bl, revD_lst, sPar3, sTrys, catchD, DEnds.unname, repF, D.eqTo, at_0, at_s, at_nil, set_0, set_s, fzd, frd, if_true, if_false, Bool.not_true, Bool.not_false, true_and, and_true, Bool.false_eq_true, ↓reduceIte, lenF, lenD, allF, anyF, sumF, absF, intF, tupleF, swM, ewM, eqv_int, eqv_str, eqv_bl, D.isTy, Int.cast_ofNat_Int, addD_int, addD_str, addD_lst, iaddD_int, iaddD_str, subD_int, mulD_int, mulD_str, mulD_lst, fdivD_int, modD_int, powD_int, negD_int, eqD, neD_str, neD_int, ltD_int, leD_int, gtD_int, geD_int, isD, isnD, D.isNon, inDv, ninDv, ixD_lst, ixD_tup, ixD_str, slD_lst, slD_frl, slD_str, dLc, dLook, Slot.calm]
            refine ⟨by decide, hq _ _ ?_⟩
            rw [h2]
            rfl
/-- what holds of functions of a queue and a sequence -/
def runCon (dq ds : D) (Q : R → List Slot → Prop) (E : Exc → List Slot → Prop) (G : Tx → List St2 → Prop) : Prop := dq.plain ∧ ds.plainL ∧ (isWord dq 2100 = false → ∀ outs, E ⟨0, dq⟩ outs) ∧
  (isWord dq 2100 = true → (∀ v, firstInv ds = .tup [v] → ∀ outs, E ⟨1, v⟩ outs) ∧ (firstInv ds = .non → ∃ q ss, dq = .str q ∧ ds = seqD ss ∧ okSeq ss ∧ G q ss))
theorem runCon_of {q : Tx} {ss : List St2} {Q : R → List Slot → Prop} {E : Exc → List Slot → Prop} {G : Tx → List St2 → Prop} (hq : isWord (.str q) 2100 = true) (ok : okSeq ss) (h : G q ss) : runCon (.str q) (seqD ss) Q E G :=
  ⟨fun z => (nomatch z), plainL_seq ss, fun z => by (rw [hq] at z; cases z), fun _ => ⟨fun v z => by (rw [firstInv_seq ok] at z; cases z), fun _ => ⟨q, ss, rfl, rfl, ok, h⟩⟩⟩
/-- run: 0 queue, 1 steps, 2 result, 3 position -/
def b_run : DS := sSeq (sExp (dCall C_check_queue [.v (dVar 0)])) (sSeq (sExp (dCall C_check_sequence [.v (dVar 1)])) (sSeq (sAsg (gT [2, 3]) (dCall C_execute [.v (dVar 0), .v (dVar 1)])) (sSeq (sIf (tVal (dUn isnD (dVar 3))) (sRaise 7 (dVar 3)) (sNx)) (sRet (dVar 2)))))
def C_run : Con := fun args Q E => ∃ dq ds, args = [.fz dq, .fz ds] ∧ runCon dq ds Q E fun q ss => (∀ i, (exec q ss 0).2 = some i → ∀ outs, E ⟨7, .int i⟩ outs) ∧ ((exec q ss 0).2 = none → ∀ r outs, r.d = .str (exec q ss 0).1 → Q r outs)
theorem word_len {q : Tx} {n : Nat} (h : isWord (.str q) n = true) : q.length ≤ n ∧ q.all isItem = true := by
  obtain ⟨x, e, h1, h2⟩ := isWord_str h
  cases e
  exact ⟨h1, h2⟩
theorem okSeq_signs {ss : List St2} (h : okSeq ss) : signs ss := signs_of h.2
theorem p_run : ∀ args Q E, args.length = 2 → C_run args Q E → runD 4 b_run args Q E := by
  intro args Q E _ h
  obtain ⟨dq, ds, rfl, hp, hpl, hw, hg⟩ := h
  unfold b_run
  try simp -implicitDefEqProofs only [runD, startE, outsE, outs_0, outs_s, List.length_cons, List.length_nil, List.cons_append, List.nil_append, List.replicate, Nat.sub_zero, Nat.add_one_sub_one, Nat.reduceSub, Nat.reduceAdd, dC, dVar_M, dVarM_fz, dVarM_own, dIxN_M, dIxM_fz, dIxM_own, dFnN_M, dFnM_fz, dFnM_own, dOp, dUn, dArgs, dLst, dTup, dFn, dIsi, dMs, dPart, dSl, dIfE, Slot.known, tVal, tTru, tAnd, tOr, tNot, dAnd, dOr, dNot, dChain, iLst, iTup, iStr, iRng1, iRng2, iEnum, iZip, gN, gNs, gT, Tgt.g, tYes, wipeE, backE, dAVs, dCall, avSlot, AV.ok, Slot.isOwn, bA_nil, bA_v, bA_m, D.isRef, List.all_cons, List.all_nil, List.map_cons, List.map_nil, Bool.and_true, Bool.true_and, List.tail_cons, List.tail_nil, List.head?_cons, sNx, sSeq, sRet, sRetN, sExp, sAsg, sAsgO, sIf, sAug, sFor, sWh, sBrk, sCnt, sRaise, sApp, Slot.ownL, sPut, sPar, sParL, sFld, dFld, dMake, mkC, dMakeV, dCm, dObj, D.isObj, dCallV, dCallS, dEqO, dIsO, dDct0, isBD_bl, notBD_bl, revD_lst, sPar3, sTrys, catchD, DEnds.unname, repF, D.eqTo, at_0, at_s, at_nil, set_0, set_s, fzd, frd, if_true, if_false, Bool.not_true, Bool.not_false, true_and, and_true, Bool.false_eq_true, ↓reduceIte, lenF, lenD, allF, anyF, sumF, absF, intF, tupleF, swM, ewM, eqv_int, eqv_str, eqv_bl, D.isTy, Int.cast_ofNat_Int, addD_int, addD_str, addD_lst, iaddD_int, iaddD_str, subD_int, mulD_int, mulD_str, mulD_lst, fdivD_int, modD_int, powD_int, negD_int, eqD, neD_str, neD_int, ltD_int, leD_int, gtD_int, geD_int, isD, isnD, D.isNon, inDv, ninDv, ixD_lst, ixD_tup, ixD_str, slD_lst, slD_frl, slD_str, dLc, dLook, Slot.calm]
  refine ⟨dq, rfl, hp, fun w r outs hr => ?_, fun w outs => hw w _⟩
  obtain ⟨h1, h2⟩ := hg w
  try simp -implicitDefEqProofs only [runD, startE, outsE, outs_0, outs_s, List.length_cons, List.length_nil, List.cons_append, List.nil_append, List.replicate, Nat.sub_zero, Nat.add_one_sub_one, Nat.reduceSub, Nat.reduceAdd, dC, dVar_M, dVarM_fz, dVarM_own, dIxN_M, dIxM_fz, dIxM_own, dFnN_M, dFnM_fz, dFnM_own, dOp, dUn, dArgs, dLst, dTup, dFn, dIsi, dMs, dPart, dSl, dIfE, Slot.known, tVal, tTru, tAnd, tOr, tNot, dAnd, dOr, dNot, dChain, iLst, iTup, iStr, iRng1, iRng2, iEnum, iZip, gN, gNs, gT, Tgt.g, tYes, wipeE, backE, dAVs, dCall, avSlot, AV.ok, Slot.isOwn, bA_nil, bA_v, bA_m, D.isRef, List.all_cons, List.all_nil, List.map_cons, List.map_nil, Bool.and_true, Bool.true_and, List.tail_cons, List.tail_nil, List.head?_cons, sNx, sSeq, sRet, sRetN, sExp, sAsg, sAsgO, sIf, sAug, sFor, sWh, sBrk, sCnt, sRaise, sApp, Slot.ownL, sPut, sPar, sParL, sFld, dFld, dMake, mkC, dMakeV, dCm, dObj, D.isObj, dCallV, dCallS, dEqO, dIsO, dDct0, isBD_bl, notBD_bl, revD_lst, sPar3, sTrys, catchD, DEnds.unname, repF, D.eqTo, at_0, at_s, at_nil, set_0, set_s, fzd, frd, if_true, if_false, Bool.not_true, Bool.not_false, true_and, and_true, Bool.false_eq_true, ↓reduceIte, lenF, lenD, allF, anyF, sumF, absF, intF, tupleF, swM, ewM, eqv_int, eqv_str, eqv_bl, D.isTy, Int.cast_ofNat_Int, addD_int, addD_str, addD_lst, iaddD_int, iaddD_str, subD_int, mulD_int, mulD_str, mulD_lst, fdivD_int, modD_int, powD_int, negD_int, eqD, neD_str, neD_int, ltD_int, leD_int, gtD_int, geD_int, isD, isnD, D.isNon, inDv, ninDv, ixD_lst, ixD_tup, ixD_str, slD_lst, slD_frl, slD_str, dLc, dLook, Slot.calm]
  refine ⟨ds, rfl, hpl, fun e r outs hr => ?_, fun v e outs => h1 v e _⟩
  obtain ⟨q, ss, rfl, rfl, ok, h3, h4⟩ := h2 e
  try simp -implicitDefEqProofs only [runD, startE, outsE, outs_0, outs_s, List.length_cons, List.length_nil, List.cons_append, List.nil_append, List.replicate, Nat.sub_zero, Nat.add_one_sub_one, Nat.reduceSub, Nat.reduceAdd, dC, dVar_M, dVarM_fz, dVarM_own, dIxN_M, dIxM_fz, dIxM_own, dFnN_M, dFnM_fz, dFnM_own, dOp, dUn, dArgs, dLst, dTup, dFn, dIsi, dMs, dPart, dSl, dIfE, Slot.known, tVal, tTru, tAnd, tOr, tNot, dAnd, dOr, dNot, dChain, iLst, iTup, iStr, iRng1, iRng2, iEnum, iZip, gN, gNs, gT, Tgt.g, tYes, wipeE, backE, dAVs, dCall, avSlot, AV.ok, Slot.isOwn, bA_nil, bA_v, bA_m, D.isRef, List.all_cons, List.all_nil, List.map_cons, List.map_nil, Bool.and_true, Bool.true_and, List.tail_cons, List.tail_nil, List.head?_cons, sNx, sSeq, sRet, sRetN, sExp, sAsg, sAsgO, sIf, sAug, sFor, sWh, sBrk, sCnt, sRaise, sApp, Slot.ownL, sPut, sPar, sParL, sFld, dFld, dMake, mkC, dMakeV, dCm, dObj, D.isObj, dCallV, dCallS, dEqO, dIsO, dDct0, isBD_bl, notBD_bl, revD_lst, sPar3, sTrys, catchD, DEnds.unname, repF, D.eqTo, at_0, at_s, at_nil, set_0, set_s, fzd, frd, if_true, if_false, Bool.not_true, Bool.not_false, true_and, and_true, Bool.false_eq_true, ↓reduceIte, lenF, lenD, allF, anyF, sumF, absF, intF, tupleF, swM, ewM, eqv_int, eqv_str, eqv_bl, D.isTy, Int.cast_ofNat_Int, addD_int, addD_str, addD_lst, iaddD_int, iaddD_str, subD_int, mulD_int, mulD_str, mulD_lst, fdivD_int, modD_int, powD_int, negD_int, eqD, neD_str, neD_int, ltD_int, leD_int, gtD_int, geD_int, isD, isnD, D.isNon, inDv, ninDv, ixD_lst, ixD_tup, ixD_str, slD_lst, slD_frl, slD_str, dLc, dLook, Slot.calm]
  refine ⟨q, ss, rfl, okSeq_signs ok, by have := (word_len w).1; have := ok.1; omega, fun r outs hr => ?_⟩
  simp only [hr]
  unfold execD
  try simp -implicitDefEqProofs only [runD, startE, outsE, outs_0, outs_s, List.length_cons, List.length_nil, List.cons_append, List.nil_append, List.replicate, Nat.sub_zero, Nat.add_one_sub_one, Nat.reduceSub, Nat.reduceAdd, dC, dVar_M, dVarM_fz, dVarM_own, dIxN_M, dIxM_fz, dIxM_own, dFnN_M, dFnM_fz, dFnM_own, dOp, dUn, dArgs, dLst, dTup, dFn, dIsi, dMs, dPart, dSl, dIfE, Slot.known, tVal, tTru, tAnd, tOr, tNot, dAnd, dOr, dNot, dChain, iLst, iTup, iStr, iRng1, iRng2, iEnum, iZip, gN, gNs, gT, Tgt.g, tYes, wipeE, backE, dAVs, dCall, avSlot, AV.ok, Slot.isOwn, bA_nil, bA_v, bA_m, D.isRef, List.all_cons, List.all_nil, List.map_cons, List.map_nil, Bool.and_true, Bool.true_and, List.tail_cons, List.tail_nil, List.head?_cons, sNx, sSeq, sRet, sRetN, sExp, sAsg, sAsgO, sIf, sAug, sFor, sWh, sBrk, sCnt, sRaise, sApp, Slot.ownL, sPut, sPar, sParL, sFld, dFld, dMake, mkC, dMakeV, dCm, dObj, D.isObj, dCallV, dCallS, dEqO, dIsO, dDct0, isBD_bl, notBD_bl, revD_lst, sPar3, sTrys, catchD, DEnds.unname, repF, D.eqTo, at_0, at_s, at_nil, set_0, set_s, fzd, frd, if_true, if_false, Bool.not_true, Bool.not_false, true_and, and_true, Bool.false_eq_true, ↓reduceIte, lenF, lenD, allF, anyF, sumF, absF, intF, tupleF, swM, ewM, eqv_int, eqv_str, eqv_bl, D.isTy, Int.cast_ofNat_Int, addD_int, addD_str, addD_lst, iaddD_int, iaddD_str, subD_int, mulD_int, mulD_str, mulD_lst, fdivD_int, modD_int, powD_int, negD_int, eqD, neD_str, neD_int, ltD_int, leD_int, gtD_int, geD_int, isD, isnD, D.isNon, inDv, ninDv, ixD_lst, ixD_tup, ixD_str, slD_lst, slD_frl, slD_str, dLc, dLook, Slot.calm]
  cases hx : (exec q ss 0).2 with
  | none =>
    have : posD none = .non := rfl
    rw [this]
    try simp -implicitDefEqProofs only [runD, startE, outsE, outs_0, outs_s, List.length_cons, List.length_nil, List.cons_append, List.nil_append, List.replicate, Nat.sub_zero, Nat.add_one_sub_one, Nat.reduceSub, Nat.reduceAdd, dC, dVar_M, dVarM_fz, dVarM_own, dIxN_M, dIxM_fz, dIxM_own, dFnN_M, dFnM_fz, dFnM_own, dOp, dUn, dArgs, dLst, dTup, dFn, dIsi, dMs, dPart, dSl, dIfE, Slot.known, tVal, tTru, tAnd, tOr, tNot, dAnd, dOr, dNot, dChain, iLst, iTup, iStr, iRng1, iRng2, iEnum, iZip, gN, gNs, gT, Tgt.g, tYes, wipeE, backE, dAVs, dCall, avSlot, AV.ok, Slot.isOwn, bA_nil, bA_v, bA_m, D.isRef, List.all_cons, List.all_nil, List.map_cons, List.map_nil, Bool.and_true, Bool.true_and, List.tail_cons, List.tail_nil, List.head?_cons, sNx, sSeq, sRet, sRetN, sExp, sAsg, sAsgO, sIf, sAug, sFor, sWh, sBrk, sCnt, sRaise, sApp, Slot.ownL, sPut, sPar, sParL, sFld, dFld, dMake, mkC, dMakeV, dCm, dObj, D.isObj, dCallV, dCallS, dEqO, dIsO, dDct0, isBD_bl, notBD_bl, revD_lst, sPar3, sTrys, catchD, DEnds.unname, repF, D.eqTo, at_0, at_s, at_nil, set_0, set_s, fzd, frd, if_true, if_false, Bool.not_true, Bool.not_false, true_and, and_true, Bool.false_eq_true, ↓reduceIte, lenF, lenD, allF, anyF, sumF, absF, intF, tupleF, swM, ewM, eqv_int, eqv_str, eqv_bl, D.isTy, Int.cast_ofNat_Int, addD_int, addD_str, addD_lst, iaddD_int, iaddD_str, subD_int, mulD_int, mulD_str, mulD_lst, fdivD_int, modD_int, powD_int, negD_int, eqD, neD_str, neD_int, ltD_int, leD_int, gtD_int, geD_int, isD, isnD, D.isNon, inDv, ninDv, ixD_lst, ixD_tup, ixD_str, slD_lst, slD_frl, slD_str, dLc, dLook, Slot.calm]
    exact h4 hx _ _ rfl
  | some i =>
    have : posD (some i) = .int i := rfl
    rw [this]
    try simp -implicitDefEqProofs only [runD, startE, outsE, outs_0, outs_s, List.length_cons, List.length_nil, List.cons_append, List.nil_append, List.replicate, Nat.sub_zero, Nat.add_one_sub_one, Nat.reduceSub, Nat.reduceAdd, dC, dVar_M, dVarM_fz, dVarM_own, dIxN_M, dIxM_fz, dIxM_own, dFnN_M, dFnM_fz, dFnM_own, dOp, dUn, dArgs, dLst, dTup, dFn, dIsi, dMs, dPart, dSl, dIfE, Slot.known, tVal, tTru, tAnd, tOr, tNot, dAnd, dOr, dNot, dChain, iLst, iTup, iStr, iRng1, iRng2, iEnum, iZip, gN, gNs, gT, Tgt.g, tYes, wipeE, backE, dAVs, dCall, avSlot, AV.ok, Slot.isOwn, bA_nil, bA_v, bA_m, D.isRef, List.all_cons, List.all_nil, List.map_cons, List.map_nil, Bool.and_true, Bool.true_and, List.tail_cons, List.tail_nil, List.head?_cons, sNx, sSeq, sRet, sRetN, sExp, sAsg, sAsgO, sIf, sAug, sFor, sWh, sBrk, sCnt, sRaise, sApp, Slot.ownL, sPut, sPar, sParL, sFld, dFld, dMake, mkC, dMakeV, dCm, dObj, D.isObj, dCallV, dCallS, dEqO, dIsO, dDct0, isBD_bl, notBD_bl, revD_lst, sPar3, sTrys, catchD, DEnds.unname, repF, D.eqTo, at_0, at_s, at_nil, set_0, set_s, fzd, frd, if_true, if_false, Bool.not_true, Bool.not_false, true_and, and_true, Bool.false_eq_true, ↓reduceIte, lenF, lenD, allF, anyF, sumF, absF, intF, tupleF, swM, ewM, eqv_int, eqv_str, eqv_bl, D.isTy, Int.cast_ofNat_Int, addD_int, addD_str, addD_lst, iaddD_int, iaddD_str, subD_int, mulD_int, mulD_str, mulD_lst, fdivD_int, modD_int, powD_int, negD_int, eqD, neD_str, neD_int, ltD_int, leD_int, gtD_int, geD_int, isD, isnD, D.isNon, inDv, ninDv, ixD_lst, ixD_tup, ixD_str, slD_lst, slD_frl, slD_str, dLc, dLook, Slot.calm]
    exact h3 i hx _
/-- failure: 0 queue, 1 steps -/
def b_failure : DS := sSeq (sExp (dCall C_check_queue [.v (dVar 0)])) (sSeq (sExp (dCall C_check_sequence [.v (dVar 1)])) (sRet (dOp ixD (dCall C_execute [.v (dVar 0), .v (dVar 1)]) (dC (.int 1)))))
def C_failure : Con := fun args Q E => ∃ dq ds, args = [.fz dq, .fz ds] ∧ runCon dq ds Q E fun q ss => ∀ r outs, r.d = posD (exec q ss 0).2 → Q r outs
theorem p_failure : ∀ args Q E, args.length = 2 → C_failure args Q E → runD 2 b_failure args Q E := by
  intro args Q E _ h
  obtain ⟨dq, ds, rfl, hp, hpl, hw, hg⟩ := h
  unfold b_failure
  try simp -implicitDefEqProofs only [runD, startE, outsE, outs_0, outs_s, List.length_cons, List.length_nil, List.cons_append, List.nil_append, List.replicate, Nat.sub_zero, Nat.add_one_sub_one, Nat.reduceSub, Nat.reduceAdd, dC, dVar_M, dVarM_fz, dVarM_own, dIxN_M, dIxM_fz, dIxM_own, dFnN_M, dFnM_fz, dFnM_own, dOp, dUn, dArgs, dLst, dTup, dFn, dIsi, dMs, dPart, dSl, dIfE, Slot.known, tVal, tTru, tAnd, tOr, tNot, dAnd, dOr, dNot, dChain, iLst, iTup, iStr, iRng1, iRng2, iEnum, iZip, gN, gNs, gT, Tgt.g, tYes, wipeE, backE, dAVs, dCall, avSlot, AV.ok, Slot.isOwn, bA_nil, bA_v, bA_m, D.isRef, List.all_cons, List.all_nil, List.map_cons, List.map_nil, Bool.and_true, Bool.true_and, List.tail_cons, List.tail_nil, List.head?_cons, sNx, sSeq, sRet, sRetN, sExp, sAsg, sAsgO, sIf, sAug, sFor, sWh, sBrk, sCnt, sRaise, sApp, Slot.ownL, sPut, sPar, sParL, sFld, dFld, dMake, mkC, dMakeV, dCm, dObj, D.isObj, dCallV, dCallS, dEqO, dIsO, dDct0, isBD_bl, notBD_bl, revD_lst, sPar3, sTrys, catchD, DEnds.unname, repF, D.eqTo, at_0, at_s, at_nil, set_0, set_s, fzd, frd, if_true, if_false, Bool.not_true, Bool.not_false, true_and, and_true, Bool.false_eq_true, ↓reduceIte, lenF, lenD, allF, anyF, sumF, absF, intF, tupleF, swM, ewM, eqv_int, eqv_str, eqv_bl, D.isTy, Int.cast_ofNat_Int, addD_int, addD_str, addD_lst, iaddD_int, iaddD_str, subD_int, mulD_int, mulD_str, mulD_lst, fdivD_int, modD_int, powD_int, negD_int, eqD, neD_str, neD_int, ltD_int, leD_int, gtD_int, geD_int, isD, isnD, D.isNon, inDv, ninDv, ixD_lst, ixD_tup, ixD_str, slD_lst, slD_frl, slD_str, dLc, dLook, Slot.calm]
  refine ⟨dq, rfl, hp, fun w r outs hr => ?_, fun w outs => hw w _⟩
  obtain ⟨h1, h2⟩ := hg w
  try simp -implicitDefEqProofs only [runD, startE, outsE, outs_0, outs_s, List.length_cons, List.length_nil, List.cons_append, List.nil_append, List.replicate, Nat.sub_zero, Nat.add_one_sub_one, Nat.reduceSub, Nat.reduceAdd, dC, dVar_M, dVarM_fz, dVarM_own, dIxN_M, dIxM_fz, dIxM_own, dFnN_M, dFnM_fz, dFnM_own, dOp, dUn, dArgs, dLst, dTup, dFn, dIsi, dMs, dPart, dSl, dIfE, Slot.known, tVal, tTru, tAnd, tOr, tNot, dAnd, dOr, dNot, dChain, iLst, iTup, iStr, iRng1, iRng2, iEnum, iZip, gN, gNs, gT, Tgt.g, tYes, wipeE, backE, dAVs, dCall, avSlot, AV.ok, Slot.isOwn, bA_nil, bA_v, bA_m, D.isRef, List.all_cons, List.all_nil, List.map_cons, List.map_nil, Bool.and_true, Bool.true_and, List.tail_cons, List.tail_nil, List.head?_cons, sNx, sSeq, sRet, sRetN, sExp, sAsg, sAsgO, sIf, sAug, sFor, sWh, sBrk, sCnt, sRaise, sApp, Slot.ownL, sPut, sPar, sParL, sFld, dFld, dMake, mkC, dMakeV, dCm, dObj, D.isObj, dCallV, dCallS, dEqO, dIsO, dDct0, isBD_bl, notBD_bl, revD_lst, sPar3, sTrys, catchD, DEnds.unname, repF, D.eqTo, at_0, at_s, at_nil, set_0, set_s, fzd, frd, if_true, if_false, Bool.not_true, Bool.not_false, true_and, and_true, Bool.false_eq_true, ↓reduceIte, lenF, lenD, allF, anyF, sumF, absF, intF, tupleF, swM, ewM, eqv_int, eqv_str, eqv_bl, D.isTy, Int.cast_ofNat_Int, addD_int, addD_str, addD_lst, iaddD_int, iaddD_str, subD_int, mulD_int, mulD_str, mulD_lst, fdivD_int, modD_int, powD_int, negD_int, eqD, neD_str, neD_int, ltD_int, leD_int, gtD_int, geD_int, isD, isnD, D.isNon, inDv, ninDv, ixD_lst, ixD_tup, ixD_str, slD_lst, slD_frl, slD_str, dLc, dLook, Slot.calm]
  refine ⟨ds, rfl, hpl, fun e r outs hr => ?_, fun v e outs => h1 v e _⟩
  obtain ⟨q, ss, rfl, rfl, ok, h3⟩ := h2 e
  try simp -implicitDefEqProofs only [runD, startE, outsE, outs_0, outs_s, List.length_cons, List.length_nil, List.cons_append, List.nil_append, List.replicate, Nat.sub_zero, Nat.add_one_sub_one, Nat.reduceSub, Nat.reduceAdd, dC, dVar_M, dVarM_fz, dVarM_own, dIxN_M, dIxM_fz, dIxM_own, dFnN_M, dFnM_fz, dFnM_own, dOp, dUn, dArgs, dLst, dTup, dFn, dIsi, dMs, dPart, dSl, dIfE, Slot.known, tVal, tTru, tAnd, tOr, tNot, dAnd, dOr, dNot, dChain, iLst, iTup, iStr, iRng1, iRng2, iEnum, iZip, gN, gNs, gT, Tgt.g, tYes, wipeE, backE, dAVs, dCall, avSlot, AV.ok, Slot.isOwn, bA_nil, bA_v, bA_m, D.isRef, List.all_cons, List.all_nil, List.map_cons, List.map_nil, Bool.and_true, Bool.true_and, List.tail_cons, List.tail_nil, List.head?_cons, sNx, sSeq, sRet, sRetN, sExp, sAsg, sAsgO, sIf, sAug, sFor, sWh, sBrk, sCnt, sRaise, sApp, Slot.ownL, sPut, sPar, sParL, sFld, dFld, dMake, mkC, dMakeV, dCm, dObj, D.isObj, dCallV, dCallS, dEqO, dIsO, dDct0, isBD_bl, notBD_bl, revD_lst, sPar3, sTrys, catchD, DEnds.unname, repF, D.eqTo, at_0, at_s, at_nil, set_0, set_s, fzd, frd, if_true, if_false, Bool.not_true, Bool.not_false, true_and, and_true, Bool.false_eq_true, ↓reduceIte, lenF, lenD, allF, anyF, sumF, absF, intF, tupleF, swM, ewM, eqv_int, eqv_str, eqv_bl, D.isTy, Int.cast_ofNat_Int, addD_int, addD_str, addD_lst, iaddD_int, iaddD_str, subD_int, mulD_int, mulD_str, mulD_lst, fdivD_int, modD_int, powD_int, negD_int, eqD, neD_str, neD_int, ltD_int, leD_int, gtD_int, geD_int, isD, isnD, D.isNon, inDv, ninDv, ixD_lst, ixD_tup, ixD_str, slD_lst, slD_frl, slD_str, dLc, dLook, Slot.calm]
  refine ⟨q, ss, rfl, okSeq_signs ok, by have := (word_len w).1; have := ok.1; omega, fun r outs hr => ?_⟩
  simp only [hr]
  unfold execD
  exact ⟨1, _, rfl, rfl, h3 _ _ rfl⟩
theorem acc_iff {e : Eff} {q : Tx} : e.acc q = true ↔ e.Acc q := decide_eq_true_iff
theorem acc_no {e : Eff} {q : Tx} (h : ¬ e.Acc q) : e.acc q = false := decide_eq_false h
theorem acc_eq (e : Eff) (q : Tx) : e.acc q = if decide (q.length < e.c) || !suit e.t e.p q.length then false else if q.length < e.t.length then e.t.take q.length == q else q.take e.t.length == e.t := by
  by_cases h1 : q.length < e.c
  · rw [if_pos (by rw [decide_eq_true h1]; rfl)]
    exact acc_no fun z => by have := z.1; omega
  · rw [decide_eq_false h1]
    cases h2 : suit e.t e.p q.length with
    | false =>
      refine (acc_no fun z => ?_).trans (if_pos rfl).symm
      have := pre_suit z.2
      rw [h2] at this
      cases this
    | true =>
      refine Eq.trans ?_ (if_neg (by decide)).symm
      rw [Bool.eq_iff_iff, acc_iff]
      by_cases h3 : q.length < e.t.length
      · rw [if_pos h3, takeLen_iff]
        constructor
        · rintro ⟨_, h4⟩
          exact List.prefix_of_prefix_length_le (List.prefix_append q e.p) h4 (by omega)
        · intro h4
          refine ⟨by omega, ?_⟩
          obtain ⟨r, hr⟩ := h4
          rw [suit_iff2, ← hr, List.drop_left] at h2
          rw [← hr, List.prefix_append_right_inj]
          exact h2
      · rw [if_neg h3, takeLen_iff]
        constructor
        · rintro ⟨_, h4⟩
          exact List.prefix_of_prefix_length_le h4 (List.prefix_append q e.p) (by omega)
        · intro h4
          exact ⟨by omega, h4.trans (List.prefix_append _ _)⟩
/-- Effect.accepts: 0 self, 1 queue -/
def b_Effect_accepts : DS := sSeq (sExp (dCall C_check_queue [.v (dVar 1)])) (sSeq (sIf (tOr (tVal (dOp ltD (dFn lenF [dVar 1]) (dFld 0 2 (dVar 0)))) (tNot (tVal (dCall C_is_suitable [.v (dFld 0 0 (dVar 0)), .v (dFld 0 1 (dVar 0)), .v (dFn lenF [dVar 1])])))) (sRet (dC (.bl false))) (sNx)) (sSeq (sIf (tVal (dOp ltD (dFn lenF [dVar 1]) (dFn lenF [dFld 0 0 (dVar 0)]))) (sRet (dMs swM (dFld 0 0 (dVar 0)) [dVar 1])) (sNx)) (sRet (dMs swM (dVar 1) [dFld 0 0 (dVar 0)]))))
def C_Effect_accepts : Con := fun args Q E => ∃ (e : Eff) (d : D), args = [.fz e.D, .fz d] ∧ d.plain ∧ (isWord d 2100 = false → ∀ outs, E ⟨0, d⟩ outs) ∧ (isWord d 2100 = true → ∃ q, d = .str q ∧ ∀ outs, Q (.fz (.bl (e.acc q))) outs)
theorem p_Effect_accepts : ∀ args Q E, args.length = 2 → C_Effect_accepts args Q E → runD 2 b_Effect_accepts args Q E := by
  intro args Q E _ h
  obtain ⟨e, d, rfl, hp, h1, h2⟩ := h
  unfold b_Effect_accepts
  try simp -implicitDefEqProofs only [runD, startE, outsE, outs_0, outs_s, List.length_cons, List.length_nil, List.cons_append, List.nil_append, List.replicate, Nat.sub_zero, Nat.add_one_sub_one, Nat.reduceSub, Nat.reduceAdd, dC, dVar_M, dVarM_fz, dVarM_own, dIxN_M, dIxM_fz, dIxM_own, dFnN_M, dFnM_fz, dFnM_own, dOp, dUn, dArgs, dLst, dTup, dFn, dIsi, dMs, dPart, dSl, dIfE, Slot.known, tVal, tTru, tAnd, tOr, tNot, dAnd, dOr, dNot, dChain, iLst, iTup, iStr, iRng1, iRng2, iEnum, iZip, gN, gNs, gT, Tgt.g, tYes, wipeE, backE, dAVs, dCall, avSlot, AV.ok, Slot.isOwn, bA_nil, bA_v, bA_m, D.isRef, List.all_cons, List.all_nil, List.map_cons, List.map_nil, Bool.and_true, Bool.true_and, List.tail_cons, List.tail_nil, List.head?_cons, sNx, sSeq, sRet, sRetN, sExp, sAsg, sAsgO, sIf, sAug, sFor, sWh, sBrk, sCnt, sRaise, sApp, Slot.ownL, sPut, sPar, sParL, sFld, dFld, dMake, mkC, dMakeV, dCm, dObj, D.isObj, dCallV, dCallS, dEqO, dIsO, dDct0, isBD_bl, notBD_bl, revD_lst, sPar3, sTrys, catchD, DEnds.unname, repF, D.eqTo, at_0, at_s, at_nil, set_0, set_s, fzd, frd, if_true, if_false, Bool.not_true, Bool.not_false, true_and, and_true, Bool.false_eq_true, ↓reduceIte, lenF, lenD, allF, anyF, sumF, absF, intF, tupleF, swM, ewM, eqv_int, eqv_str, eqv_bl, D.isTy, Int.cast_ofNat_Int, addD_int, addD_str, addD_lst, iaddD_int, iaddD_str, subD_int, mulD_int, mulD_str, mulD_lst, fdivD_int, modD_int, powD_int, negD_int, eqD, neD_str, neD_int, ltD_int, leD_int, gtD_int, geD_int, isD, isnD, D.isNon, inDv, ninDv, ixD_lst, ixD_tup, ixD_str, slD_lst, slD_frl, slD_str, dLc, dLook, Slot.calm]
  refine ⟨d, rfl, hp, fun w r outs hr => ?_, fun w outs => h1 w _⟩
  obtain ⟨q, rfl, hq⟩ := h2 w
  rw [acc_eq] at hq
  obtain ⟨t, p, c⟩ := e
  unfold Eff.D
  try simp -implicitDefEqProofs only [runD, startE, outsE, outs_0, outs_s, List.length_cons, List.length_nil, List.cons_append, List.nil_append, List.replicate, Nat.sub_zero, Nat.add_one_sub_one, Nat.reduceSub, Nat.reduceAdd, dC, dVar_M, dVarM_fz, dVarM_own, dIxN_M, dIxM_fz, dIxM_own, dFnN_M, dFnM_fz, dFnM_own, dOp, dUn, dArgs, dLst, dTup, dFn, dIsi, dMs, dPart, dSl, dIfE, Slot.known, tVal, tTru, tAnd, tOr, tNot, dAnd, dOr, dNot, dChain, iLst, iTup, iStr, iRng1, iRng2, iEnum, iZip, gN, gNs, gT, Tgt.g, tYes, wipeE, backE, dAVs, dCall, avSlot, AV.ok, Slot.isOwn, bA_nil, bA_v, bA_m, D.isRef, List.all_cons, List.all_nil, List.map_cons, List.map_nil, Bool.and_true, Bool.true_and, List.tail_cons, List.tail_nil, List.head?_cons, sNx, sSeq, sRet, sRetN, sExp, sAsg, sAsgO, sIf, sAug, sFor, sWh, sBrk, sCnt, sRaise, sApp, Slot.ownL, sPut, sPar, sParL, sFld, dFld, dMake, mkC, dMakeV, dCm, dObj, D.isObj, dCallV, dCallS, dEqO, dIsO, dDct0, isBD_bl, notBD_bl, revD_lst, sPar3, sTrys, catchD, DEnds.unname, repF, D.eqTo, at_0, at_s, at_nil, set_0, set_s, fzd, frd, if_true, if_false, Bool.not_true, Bool.not_false, true_and, and_true, Bool.false_eq_true, ↓reduceIte, lenF, lenD, allF, anyF, sumF, absF, intF, tupleF, swM, ewM, eqv_int, eqv_str, eqv_bl, D.isTy, Int.cast_ofNat_Int, addD_int, addD_str, addD_lst, iaddD_int, iaddD_str, subD_int, mulD_int, mulD_str, mulD_lst, fdivD_int, modD_int, powD_int, negD_int, eqD, neD_str, neD_int, ltD_int, leD_int, gtD_int, geD_int, isD, isnD, D.isNon, inDv, ninDv, ixD_lst, ixD_tup, ixD_str, slD_lst, slD_frl, slD_str, dLc, dLook, Slot.calm]
  refine ⟨_, rfl, ?_⟩
  have e1 : decide ((q.length : Int) < (c : Int)) = decide (q.length < c) := by rw [decide_eq_decide]; omega
  try simp -implicitDefEqProofs only [runD, startE, outsE, outs_0, outs_s, List.length_cons, List.length_nil, List.cons_append, List.nil_append, List.replicate, Nat.sub_zero, Nat.add_one_sub_one, Nat.reduceSub, Nat.reduceAdd, dC, dVar_M, dVarM_fz, dVarM_own, dIxN_M, dIxM_fz, dIxM_own, dFnN_M, dFnM_fz, dFnM_own, dOp, dUn, dArgs, dLst, dTup, dFn, dIsi, dMs, dPart, dSl, dIfE, Slot.known, tVal, tTru, tAnd, tOr, tNot, dAnd, dOr, dNot, dChain, iLst, iTup, iStr, iRng1, iRng2, iEnum, iZip, gN, gNs, gT, Tgt.g, tYes, wipeE, backE, dAVs, dCall, avSlot, AV.ok, Slot.isOwn, bA_nil, bA_v, bA_m, D.isRef, List.all_cons, List.all_nil, List.map_cons, List.map_nil, Bool.and_true, Bool.true_and, List.tail_cons, List.tail_nil, List.head?_cons, sNx, sSeq, sRet, sRetN, sExp, sAsg, sAsgO, sIf, sAug, sFor, sWh, sBrk, sCnt, sRaise, sApp, Slot.ownL, sPut, sPar, sParL, sFld, dFld, dMake, mkC, dMakeV, dCm, dObj, D.isObj, dCallV, dCallS, dEqO, dIsO, dDct0, isBD_bl, notBD_bl, revD_lst, sPar3, sTrys, catchD, DEnds.unname, repF, D.eqTo, at_0, at_s, at_nil, set_0, set_s, fzd, frd, if_true, if_false, Bool.not_true, Bool.not_false, true_and, and_true, Bool.false_eq_true, ↓reduceIte, lenF, lenD, allF, anyF, sumF, absF, intF, tupleF, swM, ewM, eqv_int, eqv_str, eqv_bl, D.isTy, Int.cast_ofNat_Int, addD_int, addD_str, addD_lst, iaddD_int, iaddD_str, subD_int, mulD_int, mulD_str, mulD_lst, fdivD_int, modD_int, powD_int, negD_int, eqD, neD_str, neD_int, ltD_int, leD_int, gtD_int, geD_int, isD, isnD, D.isNon, inDv, ninDv, ixD_lst, ixD_tup, ixD_str, slD_lst, slD_frl, slD_str, dLc, dLook, Slot.calm]
  rw [e1]
  cases h3 : decide (q.length < c) with
  | true => rw [h3] at hq; simp -implicitDefEqProofs only [runD, startE, outsE, outs_0, outs_s, List.length_cons, List.length_nil, List.cons_append, List.nil_append, List.replicate, Nat.sub_zero, Nat.add_one_sub_one, Nat.reduceSub, Nat.reduceAdd, dC, dVar_M, dVarM_fz, dVarM_own, dIxN_M, dIxM_fz, dIxM_own, dFnN_M, dFnM_fz, dFnM_own, dOp, dUn, dArgs, dLst, dTup, dFn, dIsi, dMs, dPart, dSl, dIfE, Slot.known, tVal, tTru, tAnd, tOr, tNot, dAnd, dOr, dNot, dChain, iLst, iTup, iStr, iRng1, iRng2, iEnum, iZip, gN, gNs, gT, Tgt.g, tYes, wipeE, backE, dAVs, dCall, avSlot, AV.ok, Slot.isOwn, bA_nil, bA_v, bA_m, D.isRef, List.all_cons, List.all_nil, List.map_cons, List.map_nil, Bool.and_true, Bool.true_and, List.tail_cons, List.tail_nil, List.head?_cons, sNx, sSeq, sRet, sRetN, sExp, sAsg, sAsgO, sIf, sAug, sFor, sWh, sBrk, sCnt, sRaise, sApp, Slot.ownL, sPut, sPar, sParL, sFld, dFld, dMake, mkC, dMakeV, dCm, dObj, D.isObj, dCallV, dCallS, dEqO, dIsO, dDct0, isBD_bl, notBD_bl, revD_lst, sPar3, sTrys, catchD, DEnds.unname, repF, D.eqTo, at_0, at_s, at_nil, set_0, set_s, fzd, frd, if_true, if_false, Bool.not_true, Bool.not_false, true_and, and_true, Bool.false_eq_true, ↓reduceIte, lenF, lenD, allF, anyF, sumF, absF, intF, tupleF, swM, ewM, eqv_int, eqv_str, eqv_bl, D.isTy, Int.cast_ofNat_Int, addD_int, addD_str, addD_lst, iaddD_int, iaddD_str, subD_int, mulD_int, mulD_str, mulD_lst, fdivD_int, modD_int, powD_int, negD_int, eqD, neD_str, neD_int, ltD_int, leD_int, gtD_int, geD_int, isD, isnD, D.isNon, inDv, ninDv, ixD_lst, ixD_tup, ixD_str, slD_lst, slD_frl, slD_str, dLc, dLook, Slot.calm]; exact hq _
  | false =>
    rw [h3] at hq
    try simp -implicitDefEqProofs only [runD, startE, outsE, outs_0, outs_s, List.length_cons, List.length_nil, List.cons_append, List.nil_append, List.replicate, Nat.sub_zero, Nat.add_one_sub_one, Nat.reduceSub, Nat.reduceAdd, dC, dVar_M, dVarM_fz, dVarM_own, dIxN_M, dIxM_fz, dIxM_own, dFnN_M, dFnM_fz, dFnM_own, dOp, dUn, dArgs, dLst, dTup, dFn, dIsi, dMs, dPart, dSl, dIfE, Slot.known, tVal, tTru, tAnd, tOr, tNot, dAnd, dOr, dNot, dChain, iLst, iTup, iStr, iRng1, iRng2, iEnum, iZip, gN, gNs, gT, Tgt.g, tYes, wipeE, backE, dAVs, dCall, avSlot, AV.ok, Slot.isOwn, bA_nil, bA_v, bA_m, D.isRef, List.all_cons, List.all_nil, List.map_cons, List.map_nil, Bool.and_true, Bool.true_and, List.tail_cons, List.tail_nil, List.head?_cons, sNx, sSeq, sRet, sRetN, sExp, sAsg, sAsgO, sIf, sAug, sFor, sWh, sBrk, sCnt, sRaise, sApp, Slot.ownL, sPut, sPar, sParL, sFld, dFld, dMake, mkC, dMakeV, dCm, dObj, D.isObj, dCallV, dCallS, dEqO, dIsO, dDct0, isBD_bl, notBD_bl, revD_lst, sPar3, sTrys, catchD, DEnds.unname, repF, D.eqTo, at_0, at_s, at_nil, set_0, set_s, fzd, frd, if_true, if_false, Bool.not_true, Bool.not_false, true_and, and_true, Bool.false_eq_true, ↓reduceIte, lenF, lenD, allF, anyF, sumF, absF, intF, tupleF, swM, ewM, eqv_int, eqv_str, eqv_bl, D.isTy, Int.cast_ofNat_Int, addD_int, addD_str, addD_lst, iaddD_int, iaddD_str, subD_int, mulD_int, mulD_str, mulD_lst, fdivD_int, modD_int, powD_int, negD_int, eqD, neD_str, neD_int, ltD_int, leD_int, gtD_int, geD_int, isD, isnD, D.isNon, inDv, ninDv, ixD_lst, ixD_tup, ixD_str, slD_lst, slD_frl, slD_str, dLc, dLook, Slot.calm]
    refine ⟨_, rfl, _, rfl, t, p, q.length, rfl, fun outs => ?_⟩
    try simp -implicitDefEqProofs only [runD, startE, outsE, outs_0, outs_s, List.length_cons, List.length_nil, List.cons_append, List.nil_append, List.replicate, Nat.sub_zero, Nat.add_one_sub_one, Nat.reduceSub, Nat.reduceAdd, dC, dVar_M, dVarM_fz, dVarM_own, dIxN_M, dIxM_fz, dIxM_own, dFnN_M, dFnM_fz, dFnM_own, dOp, dUn, dArgs, dLst, dTup, dFn, dIsi, dMs, dPart, dSl, dIfE, Slot.known, tVal, tTru, tAnd, tOr, tNot, dAnd, dOr, dNot, dChain, iLst, iTup, iStr, iRng1, iRng2, iEnum, iZip, gN, gNs, gT, Tgt.g, tYes, wipeE, backE, dAVs, dCall, avSlot, AV.ok, Slot.isOwn, bA_nil, bA_v, bA_m, D.isRef, List.all_cons, List.all_nil, List.map_cons, List.map_nil, Bool.and_true, Bool.true_and, List.tail_cons, List.tail_nil, List.head?_cons, sNx, sSeq, sRet, sRetN, sExp, sAsg, sAsgO, sIf, sAug, sFor, sWh, sBrk, sCnt, sRaise, sApp, Slot.ownL, sPut, sPar, sParL, sFld, dFld, dMake, mkC, dMakeV, dCm, dObj, D.isObj, dCallV, dCallS, dEqO, dIsO, dDct0, isBD_bl, notBD_bl, revD_lst, sPar3, sTrys, catchD, DEnds.unname, repF, D.eqTo, at_0, at_s, at_nil, set_0, set_s, fzd, frd, if_true, if_false, Bool.not_true, Bool.not_false, true_and, and_true, Bool.false_eq_true, ↓reduceIte, lenF, lenD, allF, anyF, sumF, absF, intF, tupleF, swM, ewM, eqv_int, eqv_str, eqv_bl, D.isTy, Int.cast_ofNat_Int, addD_int, addD_str, addD_lst, iaddD_int, iaddD_str, subD_int, mulD_int, mulD_str, mulD_lst, fdivD_int, modD_int, powD_int, negD_int, eqD, neD_str, neD_int, ltD_int, leD_int, gtD_int, geD_int, isD, isnD, D.isNon, inDv, ninDv, ixD_lst, ixD_tup, ixD_str, slD_lst, slD_frl, slD_str, dLc, dLook, Slot.calm]
    cases h4 : suit t p q.length with
    | false => rw [h4] at hq; simp -implicitDefEqProofs only [runD, startE, outsE, outs_0, outs_s, List.length_cons, List.length_nil, List.cons_append, List.nil_append, List.replicate, Nat.sub_zero, Nat.add_one_sub_one, Nat.reduceSub, Nat.reduceAdd, dC, dVar_M, dVarM_fz, dVarM_own, dIxN_M, dIxM_fz, dIxM_own, dFnN_M, dFnM_fz, dFnM_own, dOp, dUn, dArgs, dLst, dTup, dFn, dIsi, dMs, dPart, dSl, dIfE, Slot.known, tVal, tTru, tAnd, tOr, tNot, dAnd, dOr, dNot, dChain, iLst, iTup, iStr, iRng1, iRng2, iEnum, iZip, gN, gNs, gT, Tgt.g, tYes, wipeE, backE, dAVs, dCall, avSlot, AV.ok, Slot.isOwn, bA_nil, bA_v, bA_m, D.isRef, List.all_cons, List.all_nil, List.map_cons, List.map_nil, Bool.and_true, Bool.true_and, List.tail_cons, List.tail_nil, List.head?_cons, sNx, sSeq, sRet, sRetN, sExp, sAsg, sAsgO, sIf, sAug, sFor, sWh, sBrk, sCnt, sRaise, sApp, Slot.ownL, sPut, sPar, sParL, sFld, dFld, dMake, mkC, dMakeV, dCm, dObj, D.isObj, dCallV, dCallS, dEqO, dIsO, dDct0, isBD_bl, notBD_bl, revD_lst, sPar3, sTrys, catchD, DEnds.unname, repF, D.eqTo, at_0, at_s, at_nil, set_0, set_s, fzd, frd, if_true, if_false, Bool.not_true, Bool.not_false, true_and, and_true, Bool.false_eq_true, ↓reduceIte, lenF, lenD, allF, anyF, sumF, absF, intF, tupleF, swM, ewM, eqv_int, eqv_str, eqv_bl, D.isTy, Int.cast_ofNat_Int, addD_int, addD_str, addD_lst, iaddD_int, iaddD_str, subD_int, mulD_int, mulD_str, mulD_lst, fdivD_int, modD_int, powD_int, negD_int, eqD, neD_str, neD_int, ltD_int, leD_int, gtD_int, geD_int, isD, isnD, D.isNon, inDv, ninDv, ixD_lst, ixD_tup, ixD_str, slD_lst, slD_frl, slD_str, dLc, dLook, Slot.calm]; exact hq _
    | true =>
      rw [h4] at hq
      try simp -implicitDefEqProofs only [runD, startE, outsE, outs_0, outs_s, List.length_cons, List.length_nil, List.cons_append, List.nil_append, List.replicate, Nat.sub_zero, Nat.add_one_sub_one, Nat.reduceSub, Nat.reduceAdd, dC, dVar_M, dVarM_fz, dVarM_own, dIxN_M, dIxM_fz, dIxM_own, dFnN_M, dFnM_fz, dFnM_own, dOp, dUn, dArgs, dLst, dTup, dFn, dIsi, dMs, dPart, dSl, dIfE, Slot.known, tVal, tTru, tAnd, tOr, tNot, dAnd, dOr, dNot, dChain, iLst, iTup, iStr, iRng1, iRng2, iEnum, iZip, gN, gNs, gT, Tgt.g, tYes, wipeE, backE, dAVs, dCall, avSlot, AV.ok, Slot.isOwn, bA_nil, bA_v, bA_m, D.isRef, List.all_cons, List.all_nil, List.map_cons, List.map_nil, Bool.and_true, Bool.true_and, List.tail_cons, List.tail_nil, List.head?_cons, sNx, sSeq, sRet, sRetN, sExp, sAsg, sAsgO, sIf, sAug, sFor, sWh, sBrk, sCnt, sRaise, sApp, Slot.ownL, sPut, sPar, sParL, sFld, dFld, dMake, mkC, dMakeV, dCm, dObj, D.isObj, dCallV, dCallS, dEqO, dIsO, dDct0, isBD_bl, notBD_bl, revD_lst, sPar3, sTrys, catchD, DEnds.unname, repF, D.eqTo, at_0, at_s, at_nil, set_0, set_s, fzd, frd, if_true, if_false, Bool.not_true, Bool.not_false, true_and, and_true, Bool.false_eq_true, ↓reduceIte, lenF, lenD, allF, anyF, sumF, absF, intF, tupleF, swM, ewM, eqv_int, eqv_str, eqv_bl, D.isTy, Int.cast_ofNat_Int, addD_int, addD_str, addD_lst, iaddD_int, iaddD_str, subD_int, mulD_int, mulD_str, mulD_lst, fdivD_int, modD_int, powD_int, negD_int, eqD, neD_str, neD_int, ltD_int, leD_int, gtD_int, geD_int, isD, isnD, D.isNon, inDv, ninDv, ixD_lst, ixD_tup, ixD_str, slD_lst, slD_frl, slD_str, dLc, dLook, Slot.calm]
      refine ⟨_, rfl, ?_⟩
      try simp -implicitDefEqProofs only [runD, startE, outsE, outs_0, outs_s, List.length_cons, List.length_nil, List.cons_append, List.nil_append, List.replicate, Nat.sub_zero, Nat.add_one_sub_one, Nat.reduceSub, Nat.reduceAdd, dC, dVar_M, dVarM_fz, dVarM_own, dIxN_M, dIxM_fz, dIxM_own, dFnN_M, dFnM_fz, dFnM_own, dOp, dUn, dArgs, dLst, dTup, dFn, dIsi, dMs, dPart, dSl, dIfE, Slot.known, tVal, tTru, tAnd, tOr, tNot, dAnd, dOr, dNot, dChain, iLst, iTup, iStr, iRng1, iRng2, iEnum, iZip, gN, gNs, gT, Tgt.g, tYes, wipeE, backE, dAVs, dCall, avSlot, AV.ok, Slot.isOwn, bA_nil, bA_v, bA_m, D.isRef, List.all_cons, List.all_nil, List.map_cons, List.map_nil, Bool.and_true, Bool.true_and, List.tail_cons, List.tail_nil, List.head?_cons, sNx, sSeq, sRet, sRetN, sExp, sAsg, sAsgO, sIf, sAug, sFor, sWh, sBrk, sCnt, sRaise, sApp, Slot.ownL, sPut, sPar, sParL, sFld, dFld, dMake, mkC, dMakeV, dCm, dObj, D.isObj, dCallV, dCallS, dEqO, dIsO, dDct0, isBD_bl, notBD_bl, revD_lst, sPar3, sTrys, catchD, DEnds.unname, repF, D.eqTo, at_0, at_s, at_nil, set_0, set_s, fzd, frd, if_true, if_false, Bool.not_true, Bool.not_false, true_and, and_true, Bool.false_eq_true, ↓reduceIte, lenF, lenD, allF, anyF, sumF, absF, intF, tupleF, swM, ewM, eqv_int, eqv_str, eqv_bl, D.isTy, Int.cast_ofNat_Int, addD_int, addD_str, addD_lst, iaddD_int, iaddD_str, subD_int, mulD_int, mulD_str, mulD_lst, fdivD_int, modD_int, powD_int, negD_int, eqD, neD_str, neD_int, ltD_int, leD_int, gtD_int, geD_int, isD, isnD, D.isNon, inDv, ninDv, ixD_lst, ixD_tup, ixD_str, slD_lst, slD_frl, slD_str, dLc, dLook, Slot.calm]
      have e2 : decide ((q.length : Int) < (t.length : Int)) = decide (q.length < t.length) := by rw [decide_eq_decide]; omega
      rw [e2]
      by_cases h5 : q.length < t.length
      · rw [decide_eq_true h5]
        refine (if_pos rfl).mpr ⟨_, rfl, ?_⟩
        try simp -implicitDefEqProofs only [runD, startE, outsE, outs_0, outs_s, List.length_cons, List.length_nil, List.cons_append, List.nil_append, List.replicate, Nat.sub_zero, Nat.add_one_sub_one, Nat.reduceSub, Nat.reduceAdd, dC, dVar_M, dVarM_fz, dVarM_own, dIxN_M, dIxM_fz, dIxM_own, dFnN_M, dFnM_fz, dFnM_own, dOp, dUn, dArgs, dLst, dTup, dFn, dIsi, dMs, dPart, dSl, dIfE, Slot.known, tVal, tTru, tAnd, tOr, tNot, dAnd, dOr, dNot, dChain, iLst, iTup, iStr, iRng1, iRng2, iEnum, iZip, gN, gNs, gT, Tgt.g, tYes, wipeE, backE, dAVs, dCall, avSlot, AV.ok, Slot.isOwn, bA_nil, bA_v, bA_m, D.isRef, List.all_cons, List.all_nil, List.map_cons, List.map_nil, Bool.and_true, Bool.true_and, List.tail_cons, List.tail_nil, List.head?_cons, sNx, sSeq, sRet, sRetN, sExp, sAsg, sAsgO, sIf, sAug, sFor, sWh, sBrk, sCnt, sRaise, sApp, Slot.ownL, sPut, sPar, sParL, sFld, dFld, dMake, mkC, dMakeV, dCm, dObj, D.isObj, dCallV, dCallS, dEqO, dIsO, dDct0, isBD_bl, notBD_bl, revD_lst, sPar3, sTrys, catchD, DEnds.unname, repF, D.eqTo, at_0, at_s, at_nil, set_0, set_s, fzd, frd, if_true, if_false, Bool.not_true, Bool.not_false, true_and, and_true, Bool.false_eq_true, ↓reduceIte, lenF, lenD, allF, anyF, sumF, absF, intF, tupleF, swM, ewM, eqv_int, eqv_str, eqv_bl, D.isTy, Int.cast_ofNat_Int, addD_int, addD_str, addD_lst, iaddD_int, iaddD_str, subD_int, mulD_int, mulD_str, mulD_lst, fdivD_int, modD_int, powD_int, negD_int, eqD, neD_str, neD_int, ltD_int, leD_int, gtD_int, geD_int, isD, isnD, D.isNon, inDv, ninDv, ixD_lst, ixD_tup, ixD_str, slD_lst, slD_frl, slD_str, dLc, dLook, Slot.calm]
        simp only [h5, if_true, Bool.or_false, Bool.not_true, Bool.false_eq_true, if_false] at hq
        exact hq _
      · rw [decide_eq_false h5]
        refine (if_neg (by decide)).mpr ?_
        try simp -implicitDefEqProofs only [runD, startE, outsE, outs_0, outs_s, List.length_cons, List.length_nil, List.cons_append, List.nil_append, List.replicate, Nat.sub_zero, Nat.add_one_sub_one, Nat.reduceSub, Nat.reduceAdd, dC, dVar_M, dVarM_fz, dVarM_own, dIxN_M, dIxM_fz, dIxM_own, dFnN_M, dFnM_fz, dFnM_own, dOp, dUn, dArgs, dLst, dTup, dFn, dIsi, dMs, dPart, dSl, dIfE, Slot.known, tVal, tTru, tAnd, tOr, tNot, dAnd, dOr, dNot, dChain, iLst, iTup, iStr, iRng1, iRng2, iEnum, iZip, gN, gNs, gT, Tgt.g, tYes, wipeE, backE, dAVs, dCall, avSlot, AV.ok, Slot.isOwn, bA_nil, bA_v, bA_m, D.isRef, List.all_cons, List.all_nil, List.map_cons, List.map_nil, Bool.and_true, Bool.true_and, List.tail_cons, List.tail_nil, List.head?_cons, sNx, sSeq, sRet, sRetN, sExp, sAsg, sAsgO, sIf, sAug, sFor, sWh, sBrk, sCnt, sRaise, sApp, Slot.ownL, sPut, sPar, sParL, sFld, dFld, dMake, mkC, dMakeV, dCm, dObj, D.isObj, dCallV, dCallS, dEqO, dIsO, dDct0, isBD_bl, notBD_bl, revD_lst, sPar3, sTrys, catchD, DEnds.unname, repF, D.eqTo, at_0, at_s, at_nil, set_0, set_s, fzd, frd, if_true, if_false, Bool.not_true, Bool.not_false, true_and, and_true, Bool.false_eq_true, ↓reduceIte, lenF, lenD, allF, anyF, sumF, absF, intF, tupleF, swM, ewM, eqv_int, eqv_str, eqv_bl, D.isTy, Int.cast_ofNat_Int, addD_int, addD_str, addD_lst, iaddD_int, iaddD_str, subD_int, mulD_int, mulD_str, mulD_lst, fdivD_int, modD_int, powD_int, negD_int, eqD, neD_str, neD_int, ltD_int, leD_int, gtD_int, geD_int, isD, isnD, D.isNon, inDv, ninDv, ixD_lst, ixD_tup, ixD_str, slD_lst, slD_frl, slD_str, dLc, dLook, Slot.calm]
        refine ⟨_, rfl, ?_⟩
        try simp -implicitDefEqProofs only [runD, startE, outsE, outs_0, outs_s, List.length_cons, List.length_nil, List.cons_append, List.nil_append, List.replicate, Nat.sub_zero, Nat.add_one_sub_one, Nat.reduceSub, Nat.reduceAdd, dC, dVar_M, dVarM_fz, dVarM_own, dIxN_M, dIxM_fz, dIxM_own, dFnN_M, dFnM_fz, dFnM_own, dOp, dUn, dArgs, dLst, dTup, dFn, dIsi, dMs, dPart, dSl, dIfE, Slot.known, tVal, tTru, tAnd, tOr, tNot, dAnd, dOr, dNot, dChain, iLst, iTup, iStr, iRng1, iRng2, iEnum, iZip, gN, gNs, gT, Tgt.g, tYes, wipeE, backE, dAVs, dCall, avSlot, AV.ok, Slot.isOwn, bA_nil, bA_v, bA_m, D.isRef, List.all_cons, List.all_nil, List.map_cons, List.map_nil, Bool.and_true, Bool.true_and, List.tail_cons, List.tail_nil, List.head?_cons, sNx, sSeq, sRet, sRetN, sExp, sAsg, sAsgO, sIf, sAug, sFor, sWh, sBrk, sCnt, sRaise, sApp, Slot.ownL, sPut, sPar, sParL, sFld, dFld, dMake, mkC, dMakeV, dCm, dObj, D.isObj, dCallV, dCallS, dEqO, dIsO, dDct0, isBD_bl, notBD_bl, revD_lst, sPar3, sTrys, catchD, DEnds.unname, repF, D.eqTo, at_0, at_s, at_nil, set_0, set_s, fzd, frd, if_true, if_false, Bool.not_true, Bool.not_false, true_and, and_true, Bool.false_eq_true, ↓reduceIte, lenF, lenD, allF, anyF, sumF, absF, intF, tupleF, swM, ewM, eqv_int, eqv_str, eqv_bl, D.isTy, Int.cast_ofNat_Int, addD_int, addD_str, addD_lst, iaddD_int, iaddD_str, subD_int, mulD_int, mulD_str, mulD_lst, fdivD_int, modD_int, powD_int, negD_int, eqD, neD_str, neD_int, ltD_int, leD_int, gtD_int, geD_int, isD, isnD, D.isNon, inDv, ninDv, ixD_lst, ixD_tup, ixD_str, slD_lst, slD_frl, slD_str, dLc, dLook, Slot.calm]
        simp only [h5, if_false, Bool.or_false, Bool.not_true, Bool.false_eq_true] at hq
        exact hq _
/-- Effect.apply: 0 self, 1 queue -/
def b_Effect_apply : DS := sSeq (sIf (tNot (tVal (dCall C_Effect_accepts (.v (dObj 0 (dVar 0)) :: [.v (dVar 1)])))) (sRaise 8 (dVar 1)) (sNx)) (sRet (dSl (dOp addD (dVar 1) (dFld 0 1 (dVar 0))) (some (dFn lenF [dFld 0 0 (dVar 0)])) none))
def C_Effect_apply : Con := fun args Q E => ∃ (e : Eff) (d : D), args = [.fz e.D, .fz d] ∧ d.plain ∧ e.p.length ≤ 1000000 ∧ (isWord d 2100 = false → ∀ outs, E ⟨0, d⟩ outs) ∧
  (isWord d 2100 = true → ∃ q, d = .str q ∧ (e.acc q = true → ∀ outs, Q (.fz (.str (e.app q))) outs) ∧ (e.acc q = false → ∀ outs, E ⟨8, .str q⟩ outs))
theorem p_Effect_apply : ∀ args Q E, args.length = 2 → C_Effect_apply args Q E → runD 2 b_Effect_apply args Q E := by
  intro args Q E _ h
  obtain ⟨e, d, rfl, hp, hl, h1, h2⟩ := h
  unfold b_Effect_apply
  have ho : (Eff.D e).isObj 0 = true := rfl
  try simp -implicitDefEqProofs only [runD, startE, outsE, outs_0, outs_s, List.length_cons, List.length_nil, List.cons_append, List.nil_append, List.replicate, Nat.sub_zero, Nat.add_one_sub_one, Nat.reduceSub, Nat.reduceAdd, dC, dVar_M, dVarM_fz, dVarM_own, dIxN_M, dIxM_fz, dIxM_own, dFnN_M, dFnM_fz, dFnM_own, dOp, dUn, dArgs, dLst, dTup, dFn, dIsi, dMs, dPart, dSl, dIfE, Slot.known, tVal, tTru, tAnd, tOr, tNot, dAnd, dOr, dNot, dChain, iLst, iTup, iStr, iRng1, iRng2, iEnum, iZip, gN, gNs, gT, Tgt.g, tYes, wipeE, backE, dAVs, dCall, avSlot, AV.ok, Slot.isOwn, bA_nil, bA_v, bA_m, D.isRef, List.all_cons, List.all_nil, List.map_cons, List.map_nil, Bool.and_true, Bool.true_and, List.tail_cons, List.tail_nil, List.head?_cons, sNx, sSeq, sRet, sRetN, sExp, sAsg, sAsgO, sIf, sAug, sFor, sWh, sBrk, sCnt, sRaise, sApp, Slot.ownL, sPut, sPar, sParL, sFld, dFld, dMake, mkC, dMakeV, dCm, dObj, D.isObj, dCallV, dCallS, dEqO, dIsO, dDct0, isBD_bl, notBD_bl, revD_lst, sPar3, sTrys, catchD, DEnds.unname, repF, D.eqTo, at_0, at_s, at_nil, set_0, set_s, fzd, frd, if_true, if_false, Bool.not_true, Bool.not_false, true_and, and_true, Bool.false_eq_true, ↓reduceIte, lenF, lenD, allF, anyF, sumF, absF, intF, tupleF, swM, ewM, eqv_int, eqv_str, eqv_bl, D.isTy, Int.cast_ofNat_Int, addD_int, addD_str, addD_lst, iaddD_int, iaddD_str, subD_int, mulD_int, mulD_str, mulD_lst, fdivD_int, modD_int, powD_int, negD_int, eqD, neD_str, neD_int, ltD_int, leD_int, gtD_int, geD_int, isD, isnD, D.isNon, inDv, ninDv, ixD_lst, ixD_tup, ixD_str, slD_lst, slD_frl, slD_str, dLc, dLook, Slot.calm]
  refine ⟨rfl, e, d, rfl, hp, fun w outs => h1 w _, fun w => ?_⟩
  obtain ⟨q, rfl, h3, h4⟩ := h2 w
  refine ⟨q, rfl, fun outs => ?_⟩
  try simp -implicitDefEqProofs only [runD, startE, outsE, outs_0, outs_s, List.length_cons, List.length_nil, List.cons_append, List.nil_append, List.replicate, Nat.sub_zero, Nat.add_one_sub_one, Nat.reduceSub, Nat.reduceAdd, dC, dVar_M, dVarM_fz, dVarM_own, dIxN_M, dIxM_fz, dIxM_own, dFnN_M, dFnM_fz, dFnM_own, dOp, dUn, dArgs, dLst, dTup, dFn, dIsi, dMs, dPart, dSl, dIfE, Slot.known, tVal, tTru, tAnd, tOr, tNot, dAnd, dOr, dNot, dChain, iLst, iTup, iStr, iRng1, iRng2, iEnum, iZip, gN, gNs, gT, Tgt.g, tYes, wipeE, backE, dAVs, dCall, avSlot, AV.ok, Slot.isOwn, bA_nil, bA_v, bA_m, D.isRef, List.all_cons, List.all_nil, List.map_cons, List.map_nil, Bool.and_true, Bool.true_and, List.tail_cons, List.tail_nil, List.head?_cons, sNx, sSeq, sRet, sRetN, sExp, sAsg, sAsgO, sIf, sAug, sFor, sWh, sBrk, sCnt, sRaise, sApp, Slot.ownL, sPut, sPar, sParL, sFld, dFld, dMake, mkC, dMakeV, dCm, dObj, D.isObj, dCallV, dCallS, dEqO, dIsO, dDct0, isBD_bl, notBD_bl, revD_lst, sPar3, sTrys, catchD, DEnds.unname, repF, D.eqTo, at_0, at_s, at_nil, set_0, set_s, fzd, frd, if_true, if_false, Bool.not_true, Bool.not_false, true_and, and_true, Bool.false_eq_true, ↓reduceIte, lenF, lenD, allF, anyF, sumF, absF, intF, tupleF, swM, ewM, eqv_int, eqv_str, eqv_bl, D.isTy, Int.cast_ofNat_Int, addD_int, addD_str, addD_lst, iaddD_int, iaddD_str, subD_int, mulD_int, mulD_str, mulD_lst, fdivD_int, modD_int, powD_int, negD_int, eqD, neD_str, neD_int, ltD_int, leD_int, gtD_int, geD_int, isD, isnD, D.isNon, inDv, ninDv, ixD_lst, ixD_tup, ixD_str, slD_lst, slD_frl, slD_str, dLc, dLook, Slot.calm]
  cases ha : e.acc q with
  | false => exact h4 ha _
  | true =>
    have h3 := h3 ha
    obtain ⟨t, p, c⟩ := e
    unfold Eff.D
    try simp -implicitDefEqProofs only [runD, startE, outsE, outs_0, outs_s, List.length_cons, List.length_nil, List.cons_append, List.nil_append, List.replicate, Nat.sub_zero, Nat.add_one_sub_one, Nat.reduceSub, Nat.reduceAdd, dC, dVar_M, dVarM_fz, dVarM_own, dIxN_M, dIxM_fz, dIxM_own, dFnN_M, dFnM_fz, dFnM_own, dOp, dUn, dArgs, dLst, dTup, dFn, dIsi, dMs, dPart, dSl, dIfE, Slot.known, tVal, tTru, tAnd, tOr, tNot, dAnd, dOr, dNot, dChain, iLst, iTup, iStr, iRng1, iRng2, iEnum, iZip, gN, gNs, gT, Tgt.g, tYes, wipeE, backE, dAVs, dCall, avSlot, AV.ok, Slot.isOwn, bA_nil, bA_v, bA_m, D.isRef, List.all_cons, List.all_nil, List.map_cons, List.map_nil, Bool.and_true, Bool.true_and, List.tail_cons, List.tail_nil, List.head?_cons, sNx, sSeq, sRet, sRetN, sExp, sAsg, sAsgO, sIf, sAug, sFor, sWh, sBrk, sCnt, sRaise, sApp, Slot.ownL, sPut, sPar, sParL, sFld, dFld, dMake, mkC, dMakeV, dCm, dObj, D.isObj, dCallV, dCallS, dEqO, dIsO, dDct0, isBD_bl, notBD_bl, revD_lst, sPar3, sTrys, catchD, DEnds.unname, repF, D.eqTo, at_0, at_s, at_nil, set_0, set_s, fzd, frd, if_true, if_false, Bool.not_true, Bool.not_false, true_and, and_true, Bool.false_eq_true, ↓reduceIte, lenF, lenD, allF, anyF, sumF, absF, intF, tupleF, swM, ewM, eqv_int, eqv_str, eqv_bl, D.isTy, Int.cast_ofNat_Int, addD_int, addD_str, addD_lst, iaddD_int, iaddD_str, subD_int, mulD_int, mulD_str, mulD_lst, fdivD_int, modD_int, powD_int, negD_int, eqD, neD_str, neD_int, ltD_int, leD_int, gtD_int, geD_int, isD, isnD, D.isNon, inDv, ninDv, ixD_lst, ixD_tup, ixD_str, slD_lst, slD_frl, slD_str, dLc, dLook, Slot.calm]
    refine ⟨_, rfl, ?_⟩
    try simp -implicitDefEqProofs only [runD, startE, outsE, outs_0, outs_s, List.length_cons, List.length_nil, List.cons_append, List.nil_append, List.replicate, Nat.sub_zero, Nat.add_one_sub_one, Nat.reduceSub, Nat.reduceAdd, dC, dVar_M, dVarM_fz, dVarM_own, dIxN_M, dIxM_fz, dIxM_own, dFnN_M, dFnM_fz, dFnM_own, dOp, dUn, dArgs, dLst, dTup, dFn, dIsi, dMs, dPart, dSl, dIfE, Slot.known, tVal, tTru, tAnd, tOr, tNot, dAnd, dOr, dNot, dChain, iLst, iTup, iStr, iRng1, iRng2, iEnum, iZip, gN, gNs, gT, Tgt.g, tYes, wipeE, backE, dAVs, dCall, avSlot, AV.ok, Slot.isOwn, bA_nil, bA_v, bA_m, D.isRef, List.all_cons, List.all_nil, List.map_cons, List.map_nil, Bool.and_true, Bool.true_and, List.tail_cons, List.tail_nil, List.head?_cons, sNx, sSeq, sRet, sRetN, sExp, sAsg, sAsgO, sIf, sAug, sFor, sWh, sBrk, sCnt, sRaise, sApp, Slot.ownL, sPut, sPar, sParL, sFld, dFld, dMake, mkC, dMakeV, dCm, dObj, D.isObj, dCallV, dCallS, dEqO, dIsO, dDct0, isBD_bl, notBD_bl, revD_lst, sPar3, sTrys, catchD, DEnds.unname, repF, D.eqTo, at_0, at_s, at_nil, set_0, set_s, fzd, frd, if_true, if_false, Bool.not_true, Bool.not_false, true_and, and_true, Bool.false_eq_true, ↓reduceIte, lenF, lenD, allF, anyF, sumF, absF, intF, tupleF, swM, ewM, eqv_int, eqv_str, eqv_bl, D.isTy, Int.cast_ofNat_Int, addD_int, addD_str, addD_lst, iaddD_int, iaddD_str, subD_int, mulD_int, mulD_str, mulD_lst, fdivD_int, modD_int, powD_int, negD_int, eqD, neD_str, neD_int, ltD_int, leD_int, gtD_int, geD_int, isD, isnD, D.isNon, inDv, ninDv, ixD_lst, ixD_tup, ixD_str, slD_lst, slD_frl, slD_str, dLc, dLook, Slot.calm]
    have := (word_len w).1
    refine ⟨by simp only at hl; show _ ≤ 16777216; omega, _, rfl, ?_⟩
    try simp -implicitDefEqProofs only [runD, startE, outsE, outs_0, outs_s, List.length_cons, List.length_nil, List.cons_append, List.nil_append, List.replicate, Nat.sub_zero, Nat.add_one_sub_one, Nat.reduceSub, Nat.reduceAdd, dC, dVar_M, dVarM_fz, dVarM_own, dIxN_M, dIxM_fz, dIxM_own, dFnN_M, dFnM_fz, dFnM_own, dOp, dUn, dArgs, dLst, dTup, dFn, dIsi, dMs, dPart, dSl, dIfE, Slot.known, tVal, tTru, tAnd, tOr, tNot, dAnd, dOr, dNot, dChain, iLst, iTup, iStr, iRng1, iRng2, iEnum, iZip, gN, gNs, gT, Tgt.g, tYes, wipeE, backE, dAVs, dCall, avSlot, AV.ok, Slot.isOwn, bA_nil, bA_v, bA_m, D.isRef, List.all_cons, List.all_nil, List.map_cons, List.map_nil, Bool.and_true, Bool.true_and, List.tail_cons, List.tail_nil, List.head?_cons, sNx, sSeq, sRet, sRetN, sExp, sAsg, sAsgO, sIf, sAug, sFor, sWh, sBrk, sCnt, sRaise, sApp, Slot.ownL, sPut, sPar, sParL, sFld, dFld, dMake, mkC, dMakeV, dCm, dObj, D.isObj, dCallV, dCallS, dEqO, dIsO, dDct0, isBD_bl, notBD_bl, revD_lst, sPar3, sTrys, catchD, DEnds.unname, repF, D.eqTo, at_0, at_s, at_nil, set_0, set_s, fzd, frd, if_true, if_false, Bool.not_true, Bool.not_false, true_and, and_true, Bool.false_eq_true, ↓reduceIte, lenF, lenD, allF, anyF, sumF, absF, intF, tupleF, swM, ewM, eqv_int, eqv_str, eqv_bl, D.isTy, Int.cast_ofNat_Int, addD_int, addD_str, addD_lst, iaddD_int, iaddD_str, subD_int, mulD_int, mulD_str, mulD_lst, fdivD_int, modD_int, powD_int, negD_int, eqD, neD_str, neD_int, ltD_int, leD_int, gtD_int, geD_int, isD, isnD, D.isNon, inDv, ninDv, ixD_lst, ixD_tup, ixD_str, slD_lst, slD_frl, slD_str, dLc, dLook, Slot.calm]
    rw [cut_from]
    exact h3 _
end DL

set_option linter.all false
set_option autoImplicit false
set_option maxRecDepth 100000
namespace DL
/-! effects: composition -/
structure Eff.Fit (e : Eff) : Prop where
  ok : e.Ok
  t1 : e.t.length ≤ 2000
  t2 : e.t.all isItem = true
  p1 : e.p.length ≤ 2000
  p2 : e.p.all isItem = true
theorem effOf_fit {ss : List St2} (h : okSeq ss) : (effOf ss).Fit :=
  ⟨effOf_ok ss, by have := (items_ok (sg := 45) h).1; show (itemsOf 45 ss).length ≤ 2000; omega, (items_ok (sg := 45) h).2, by have := (items_ok (sg := 43) h).1; show (itemsOf 43 ss).length ≤ 2000; omega, (items_ok (sg := 43) h).2⟩
theorem idE_fit : idE.Fit := ⟨⟨Nat.le_refl _, rfl⟩, by decide, rfl, by decide, rfl⟩
abbrev effectT : Tx := [101, 102, 102, 101, 99, 116]
/-- check_effect: 0 value -/
def b_check_effect : DS := sIf (tNot (tVal (dIsO 0 (dVar 0)))) (sRaise 3 (dC (.str [101, 102, 102, 101, 99, 116]))) (sNx)
def C_check_effect : Con := fun args Q E => ∃ d b, args = [.fz d] ∧ d.isCls 0 = some b ∧ (b = true → ∀ r outs, r.d = .non → Q r outs) ∧ (b = false → ∀ outs, E ⟨3, .str effectT⟩ outs)
theorem p_check_effect : ∀ args Q E, args.length = 1 → C_check_effect args Q E → runD 1 b_check_effect args Q E := by
  intro args Q E _ h
  obtain ⟨d, b, rfl, hb, h1, h2⟩ := h
  unfold b_check_effect
  try simp -implicitDefEqProofs only [runD, startE, outsE, outs_0, outs_s, List.length_cons, List.length_nil, List.cons_append, List.nil_append, List.replicate, Nat.sub_zero, Nat.add_one_sub_one, Nat.reduceSub, Nat.reduceAdd, dC, dVar_M, dVarM_fz, dVarM_own, dIxN_M, dIxM_fz, dIxM_own, dFnN_M, dFnM_fz, dFnM_own, dOp, dUn, dArgs, dLst, dTup, dFn, dIsi, dMs, dPart, dSl, dIfE, Slot.known, tVal, tTru, tAnd, tOr, tNot, dAnd, dOr, dNot, dChain, iLst, iTup, iStr, iRng1, iRng2, iEnum, iZip, gN, gNs, gT, Tgt.g, tYes, wipeE, backE, dAVs, dCall, avSlot, AV.ok, Slot.isOwn, bA_nil, bA_v, bA_m, D.isRef, List.all_cons, List.all_nil, List.map_cons, List.map_nil, Bool.and_true, Bool.true_and, List.tail_cons, List.tail_nil, List.head?_cons, sNx, sSeq, sRet, sRetN, sExp, sAsg, sAsgO, sIf, sAug, sFor, sWh, sBrk, sCnt, sRaise, sApp, Slot.ownL, sPut, sPar, sParL, sFld, dFld, dMake, mkC, dMakeV, dCm, dObj, D.isObj, dCallV, dCallS, dEqO, dIsO, dDct0, isBD_bl, notBD_bl, revD_lst, sPar3, sTrys, catchD, DEnds.unname, repF, D.eqTo, at_0, at_s, at_nil, set_0, set_s, fzd, frd, if_true, if_false, Bool.not_true, Bool.not_false, true_and, and_true, Bool.false_eq_true, ↓reduceIte, lenF, lenD, allF, anyF, sumF, absF, intF, tupleF, swM, ewM, eqv_int, eqv_str, eqv_bl, D.isTy, Int.cast_ofNat_Int, addD_int, addD_str, addD_lst, iaddD_int, iaddD_str, subD_int, mulD_int, mulD_str, mulD_lst, fdivD_int, modD_int, powD_int, negD_int, eqD, neD_str, neD_int, ltD_int, leD_int, gtD_int, geD_int, isD, isnD, D.isNon, inDv, ninDv, ixD_lst, ixD_tup, ixD_str, slD_lst, slD_frl, slD_str, dLc, dLook, Slot.calm]
  refine ⟨b, hb, ?_⟩
  try simp -implicitDefEqProofs only [runD, startE, outsE, outs_0, outs_s, List.length_cons, List.length_nil, List.cons_append, List.nil_append, List.replicate, Nat.sub_zero, Nat.add_one_sub_one, Nat.reduceSub, Nat.reduceAdd, dC, dVar_M, dVarM_fz, dVarM_own, dIxN_M, dIxM_fz, dIxM_own, dFnN_M, dFnM_fz, dFnM_own, dOp, dUn, dArgs, dLst, dTup, dFn, dIsi, dMs, dPart, dSl, dIfE, Slot.known, tVal, tTru, tAnd, tOr, tNot, dAnd, dOr, dNot, dChain, iLst, iTup, iStr, iRng1, iRng2, iEnum, iZip, gN, gNs, gT, Tgt.g, tYes, wipeE, backE, dAVs, dCall, avSlot, AV.ok, Slot.isOwn, bA_nil, bA_v, bA_m, D.isRef, List.all_cons, List.all_nil, List.map_cons, List.map_nil, Bool.and_true, Bool.true_and, List.tail_cons, List.tail_nil, List.head?_cons, sNx, sSeq, sRet, sRetN, sExp, sAsg, sAsgO, sIf, sAug, sFor, sWh, sBrk, sCnt, sRaise, sApp, Slot.ownL, sPut, sPar, sParL, sFld, dFld, dMake, mkC, dMakeV, dCm, dObj, D.isObj, dCallV, dCallS, dEqO, dIsO, dDct0, isBD_bl, notBD_bl, revD_lst, sPar3, sTrys, catchD, DEnds.unname, repF, D.eqTo, at_0, at_s, at_nil, set_0, set_s, fzd, frd, if_true, if_false, Bool.not_true, Bool.not_false, true_and, and_true, Bool.false_eq_true, ↓reduceIte, lenF, lenD, allF, anyF, sumF, absF, intF, tupleF, swM, ewM, eqv_int, eqv_str, eqv_bl, D.isTy, Int.cast_ofNat_Int, addD_int, addD_str, addD_lst, iaddD_int, iaddD_str, subD_int, mulD_int, mulD_str, mulD_lst, fdivD_int, modD_int, powD_int, negD_int, eqD, neD_str, neD_int, ltD_int, leD_int, gtD_int, geD_int, isD, isnD, D.isNon, inDv, ninDv, ixD_lst, ixD_tup, ixD_str, slD_lst, slD_frl, slD_str, dLc, dLook, Slot.calm]
  cases b with
  | true => exact h1 rfl _ _ rfl
  | false => exact h2 rfl _
def Eff.parts (e : Eff) : DL.D := .tup [.str e.t, .str e.p, .int e.c]
/-- parts_of: 0 effect -/
def b_parts_of : DS := sRet (dTup [dFld 0 0 (dVar 0), dFld 0 1 (dVar 0), dFld 0 2 (dVar 0)])
def C_parts_of : Con := fun args Q _ => ∃ e : Eff, args = [.fz e.D] ∧ ∀ r outs, r.d = e.parts → Q r outs
theorem p_parts_of : ∀ args Q E, args.length = 1 → C_parts_of args Q E → runD 1 b_parts_of args Q E := by
  intro args Q E _ h
  obtain ⟨⟨t, p, c⟩, rfl, hq⟩ := h
  unfold b_parts_of Eff.D
  try simp -implicitDefEqProofs only [runD, startE, outsE, outs_0, outs_s, List.length_cons, List.length_nil, List.cons_append, List.nil_append, List.replicate, Nat.sub_zero, Nat.add_one_sub_one, Nat.reduceSub, Nat.reduceAdd, dC, dVar_M, dVarM_fz, dVarM_own, dIxN_M, dIxM_fz, dIxM_own, dFnN_M, dFnM_fz, dFnM_own, dOp, dUn, dArgs, dLst, dTup, dFn, dIsi, dMs, dPart, dSl, dIfE, Slot.known, tVal, tTru, tAnd, tOr, tNot, dAnd, dOr, dNot, dChain, iLst, iTup, iStr, iRng1, iRng2, iEnum, iZip, gN, gNs, gT, Tgt.g, tYes, wipeE, backE, dAVs, dCall, avSlot, AV.ok, Slot.isOwn, bA_nil, bA_v, bA_m, D.isRef, List.all_cons, List.all_nil, List.map_cons, List.map_nil, Bool.and_true, Bool.true_and, List.tail_cons, List.tail_nil, List.head?_cons, sNx, sSeq, sRet, sRetN, sExp, sAsg, sAsgO, sIf, sAug, sFor, sWh, sBrk, sCnt, sRaise, sApp, Slot.ownL, sPut, sPar, sParL, sFld, dFld, dMake, mkC, dMakeV, dCm, dObj, D.isObj, dCallV, dCallS, dEqO, dIsO, dDct0, isBD_bl, notBD_bl, revD_lst, sPar3, sTrys, catchD, DEnds.unname, repF, D.eqTo, at_0, at_s, at_nil, set_0, set_s, fzd, frd, if_true, if_false, Bool.not_true, Bool.not_false, true_and, and_true, Bool.false_eq_true, ↓reduceIte, lenF, lenD, allF, anyF, sumF, absF, intF, tupleF, swM, ewM, eqv_int, eqv_str, eqv_bl, D.isTy, Int.cast_ofNat_Int, addD_int, addD_str, addD_lst, iaddD_int, iaddD_str, subD_int, mulD_int, mulD_str, mulD_lst, fdivD_int, modD_int, powD_int, negD_int, eqD, neD_str, neD_int, ltD_int, leD_int, gtD_int, geD_int, isD, isnD, D.isNon, inDv, ninDv, ixD_lst, ixD_tup, ixD_str, slD_lst, slD_frl, slD_str, dLc, dLook, Slot.calm]
  refine ⟨_, rfl, _, rfl, _, rfl, by decide, hq _ _ rfl⟩
theorem init_use {e : Eff} {Q : R → List Slot → Prop} {E : Exc → List Slot → Prop} (h : e.Fit) (hq : ∀ r o1 o2 o3, r.d = .non → Q r [.own e.D, o1, o2, o3]) : C_Effect___init__ [.own (.obj 0 []), .fz (.str e.t), .fz (.str e.p), .fz (.int e.c)] Q E := by
  refine ⟨_, _, _, rfl, (fun h => nomatch h), (fun h => nomatch h), (fun h => nomatch h), fun _ r o1 o2 o3 hr => hq r o1 o2 o3 hr, fun x hx => ?_⟩
  rw [badPart_of h.t1 h.t2 h.p1 h.p2 h.ok.core h.ok.suit] at hx
  cases hx
/-- Effect.identity: 0 cls -/
def b_Effect_identity : DS := sRet (dMakeV 0 0 C_Effect___init__ [dC (.str []), dC (.str []), dC (.int 0)])
def C_Effect_identity : Con := fun args Q _ => args = [.fz (.cls 0)] ∧ ∀ r outs, r.d = idE.D → Q r outs
theorem p_Effect_identity : ∀ args Q E, args.length = 1 → C_Effect_identity args Q E → runD 1 b_Effect_identity args Q E := by
  intro args Q E _ h
  obtain ⟨rfl, hq⟩ := h
  unfold b_Effect_identity
  try simp -implicitDefEqProofs only [runD, startE, outsE, outs_0, outs_s, List.length_cons, List.length_nil, List.cons_append, List.nil_append, List.replicate, Nat.sub_zero, Nat.add_one_sub_one, Nat.reduceSub, Nat.reduceAdd, dC, dVar_M, dVarM_fz, dVarM_own, dIxN_M, dIxM_fz, dIxM_own, dFnN_M, dFnM_fz, dFnM_own, dOp, dUn, dArgs, dLst, dTup, dFn, dIsi, dMs, dPart, dSl, dIfE, Slot.known, tVal, tTru, tAnd, tOr, tNot, dAnd, dOr, dNot, dChain, iLst, iTup, iStr, iRng1, iRng2, iEnum, iZip, gN, gNs, gT, Tgt.g, tYes, wipeE, backE, dAVs, dCall, avSlot, AV.ok, Slot.isOwn, bA_nil, bA_v, bA_m, D.isRef, List.all_cons, List.all_nil, List.map_cons, List.map_nil, Bool.and_true, Bool.true_and, List.tail_cons, List.tail_nil, List.head?_cons, sNx, sSeq, sRet, sRetN, sExp, sAsg, sAsgO, sIf, sAug, sFor, sWh, sBrk, sCnt, sRaise, sApp, Slot.ownL, sPut, sPar, sParL, sFld, dFld, dMake, mkC, dMakeV, dCm, dObj, D.isObj, dCallV, dCallS, dEqO, dIsO, dDct0, isBD_bl, notBD_bl, revD_lst, sPar3, sTrys, catchD, DEnds.unname, repF, D.eqTo, at_0, at_s, at_nil, set_0, set_s, fzd, frd, if_true, if_false, Bool.not_true, Bool.not_false, true_and, and_true, Bool.false_eq_true, ↓reduceIte, lenF, lenD, allF, anyF, sumF, absF, intF, tupleF, swM, ewM, eqv_int, eqv_str, eqv_bl, D.isTy, Int.cast_ofNat_Int, addD_int, addD_str, addD_lst, iaddD_int, iaddD_str, subD_int, mulD_int, mulD_str, mulD_lst, fdivD_int, modD_int, powD_int, negD_int, eqD, neD_str, neD_int, ltD_int, leD_int, gtD_int, geD_int, isD, isnD, D.isNon, inDv, ninDv, ixD_lst, ixD_tup, ixD_str, slD_lst, slD_frl, slD_str, dLc, dLook, Slot.calm]
  exact init_use (e := idE) idE_fit fun r o1 o2 o3 hr => ⟨hr, _, rfl, hq _ _ rfl⟩
/-- composed: 0 one, 1 other, 2 takes, 3 puts, 4 core, 5 later, 6 start -/
def b_composed : DS := sSeq (sAsg (gT [2, 3, 4]) (dCall C_parts_of [.v (dVar 0)])) (sSeq (sAsg (gN 5) (dCall C_parts_of [.v (dVar 1)])) (sSeq (sAsg (gN 6) (dFn maxF [dVar 4, dOp subD (dOp addD (dOp ixD (dVar 5) (dC (.int 2))) (dFn lenF [dVar 2])) (dFn lenF [dVar 3])])) (sSeq (sPar 2 3 (dOp addD (dVar 2) (dOp ixD (dVar 5) (dC (.int 0)))) (dOp addD (dVar 3) (dOp ixD (dVar 5) (dC (.int 1))))) (sRet (dTup [dVar 2, dVar 3, dCall C_least_suitable [.v (dVar 2), .v (dVar 3), .v (dVar 6)]])))))
def C_composed : Con := fun args Q _ => ∃ a b : Eff, args = [.fz a.D, .fz b.D] ∧ a.t.length + b.t.length ≤ 1000000 ∧ a.p.length + b.p.length ≤ 1000000 ∧ ∀ r outs, r.d = (comp a b).parts → Q r outs
theorem p_composed : ∀ args Q E, args.length = 2 → C_composed args Q E → runD 7 b_composed args Q E := by
  intro args Q E _ h
  obtain ⟨a, b, rfl, h1, h2, hq⟩ := h
  unfold b_composed
  try simp -implicitDefEqProofs only [runD, startE, outsE, outs_0, outs_s, List.length_cons, List.length_nil, List.cons_append, List.nil_append, List.replicate, Nat.sub_zero, Nat.add_one_sub_one, Nat.reduceSub, Nat.reduceAdd, dC, dVar_M, dVarM_fz, dVarM_own, dIxN_M, dIxM_fz, dIxM_own, dFnN_M, dFnM_fz, dFnM_own, dOp, dUn, dArgs, dLst, dTup, dFn, dIsi, dMs, dPart, dSl, dIfE, Slot.known, tVal, tTru, tAnd, tOr, tNot, dAnd, dOr, dNot, dChain, iLst, iTup, iStr, iRng1, iRng2, iEnum, iZip, gN, gNs, gT, Tgt.g, tYes, wipeE, backE, dAVs, dCall, avSlot, AV.ok, Slot.isOwn, bA_nil, bA_v, bA_m, D.isRef, List.all_cons, List.all_nil, List.map_cons, List.map_nil, Bool.and_true, Bool.true_and, List.tail_cons, List.tail_nil, List.head?_cons, sNx, sSeq, sRet, sRetN, sExp, sAsg, sAsgO, sIf, sAug, sFor, sWh, sBrk, sCnt, sRaise, sApp, Slot.ownL, sPut, sPar, sParL, sFld, dFld, dMake, mkC, dMakeV, dCm, dObj, D.isObj, dCallV, dCallS, dEqO, dIsO, dDct0, isBD_bl, notBD_bl, revD_lst, sPar3, sTrys, catchD, DEnds.unname, repF, D.eqTo, at_0, at_s, at_nil, set_0, set_s, fzd, frd, if_true, if_false, Bool.not_true, Bool.not_false, true_and, and_true, Bool.false_eq_true, ↓reduceIte, lenF, lenD, allF, anyF, sumF, absF, intF, tupleF, swM, ewM, eqv_int, eqv_str, eqv_bl, D.isTy, Int.cast_ofNat_Int, addD_int, addD_str, addD_lst, iaddD_int, iaddD_str, subD_int, mulD_int, mulD_str, mulD_lst, fdivD_int, modD_int, powD_int, negD_int, eqD, neD_str, neD_int, ltD_int, leD_int, gtD_int, geD_int, isD, isnD, D.isNon, inDv, ninDv, ixD_lst, ixD_tup, ixD_str, slD_lst, slD_frl, slD_str, dLc, dLook, Slot.calm]
  refine ⟨a, rfl, fun r outs hr => ?_⟩
  simp only [hr]
  unfold Eff.parts
  try simp -implicitDefEqProofs only [runD, startE, outsE, outs_0, outs_s, List.length_cons, List.length_nil, List.cons_append, List.nil_append, List.replicate, Nat.sub_zero, Nat.add_one_sub_one, Nat.reduceSub, Nat.reduceAdd, dC, dVar_M, dVarM_fz, dVarM_own, dIxN_M, dIxM_fz, dIxM_own, dFnN_M, dFnM_fz, dFnM_own, dOp, dUn, dArgs, dLst, dTup, dFn, dIsi, dMs, dPart, dSl, dIfE, Slot.known, tVal, tTru, tAnd, tOr, tNot, dAnd, dOr, dNot, dChain, iLst, iTup, iStr, iRng1, iRng2, iEnum, iZip, gN, gNs, gT, Tgt.g, tYes, wipeE, backE, dAVs, dCall, avSlot, AV.ok, Slot.isOwn, bA_nil, bA_v, bA_m, D.isRef, List.all_cons, List.all_nil, List.map_cons, List.map_nil, Bool.and_true, Bool.true_and, List.tail_cons, List.tail_nil, List.head?_cons, sNx, sSeq, sRet, sRetN, sExp, sAsg, sAsgO, sIf, sAug, sFor, sWh, sBrk, sCnt, sRaise, sApp, Slot.ownL, sPut, sPar, sParL, sFld, dFld, dMake, mkC, dMakeV, dCm, dObj, D.isObj, dCallV, dCallS, dEqO, dIsO, dDct0, isBD_bl, notBD_bl, revD_lst, sPar3, sTrys, catchD, DEnds.unname, repF, D.eqTo, at_0, at_s, at_nil, set_0, set_s, fzd, frd, if_true, if_false, Bool.not_true, Bool.not_false, true_and, and_true, Bool.false_eq_true, ↓reduceIte, lenF, lenD, allF, anyF, sumF, absF, intF, tupleF, swM, ewM, eqv_int, eqv_str, eqv_bl, D.isTy, Int.cast_ofNat_Int, addD_int, addD_str, addD_lst, iaddD_int, iaddD_str, subD_int, mulD_int, mulD_str, mulD_lst, fdivD_int, modD_int, powD_int, negD_int, eqD, neD_str, neD_int, ltD_int, leD_int, gtD_int, geD_int, isD, isnD, D.isNon, inDv, ninDv, ixD_lst, ixD_tup, ixD_str, slD_lst, slD_frl, slD_str, dLc, dLook, Slot.calm]
  refine ⟨b, rfl, fun r outs hr => ?_⟩
  simp only [hr]
  unfold Eff.parts
  try simp -implicitDefEqProofs only [runD, startE, outsE, outs_0, outs_s, List.length_cons, List.length_nil, List.cons_append, List.nil_append, List.replicate, Nat.sub_zero, Nat.add_one_sub_one, Nat.reduceSub, Nat.reduceAdd, dC, dVar_M, dVarM_fz, dVarM_own, dIxN_M, dIxM_fz, dIxM_own, dFnN_M, dFnM_fz, dFnM_own, dOp, dUn, dArgs, dLst, dTup, dFn, dIsi, dMs, dPart, dSl, dIfE, Slot.known, tVal, tTru, tAnd, tOr, tNot, dAnd, dOr, dNot, dChain, iLst, iTup, iStr, iRng1, iRng2, iEnum, iZip, gN, gNs, gT, Tgt.g, tYes, wipeE, backE, dAVs, dCall, avSlot, AV.ok, Slot.isOwn, bA_nil, bA_v, bA_m, D.isRef, List.all_cons, List.all_nil, List.map_cons, List.map_nil, Bool.and_true, Bool.true_and, List.tail_cons, List.tail_nil, List.head?_cons, sNx, sSeq, sRet, sRetN, sExp, sAsg, sAsgO, sIf, sAug, sFor, sWh, sBrk, sCnt, sRaise, sApp, Slot.ownL, sPut, sPar, sParL, sFld, dFld, dMake, mkC, dMakeV, dCm, dObj, D.isObj, dCallV, dCallS, dEqO, dIsO, dDct0, isBD_bl, notBD_bl, revD_lst, sPar3, sTrys, catchD, DEnds.unname, repF, D.eqTo, at_0, at_s, at_nil, set_0, set_s, fzd, frd, if_true, if_false, Bool.not_true, Bool.not_false, true_and, and_true, Bool.false_eq_true, ↓reduceIte, lenF, lenD, allF, anyF, sumF, absF, intF, tupleF, swM, ewM, eqv_int, eqv_str, eqv_bl, D.isTy, Int.cast_ofNat_Int, addD_int, addD_str, addD_lst, iaddD_int, iaddD_str, subD_int, mulD_int, mulD_str, mulD_lst, fdivD_int, modD_int, powD_int, negD_int, eqD, neD_str, neD_int, ltD_int, leD_int, gtD_int, geD_int, isD, isnD, D.isNon, inDv, ninDv, ixD_lst, ixD_tup, ixD_str, slD_lst, slD_frl, slD_str, dLc, dLook, Slot.calm]
  refine ⟨2, _, rfl, rfl, ?_⟩
  try simp -implicitDefEqProofs only [runD, startE, outsE, outs_0, outs_s, List.length_cons, List.length_nil, List.cons_append, List.nil_append, List.replicate, Nat.sub_zero, Nat.add_one_sub_one, Nat.reduceSub, Nat.reduceAdd, dC, dVar_M, dVarM_fz, dVarM_own, dIxN_M, dIxM_fz, dIxM_own, dFnN_M, dFnM_fz, dFnM_own, dOp, dUn, dArgs, dLst, dTup, dFn, dIsi, dMs, dPart, dSl, dIfE, Slot.known, tVal, tTru, tAnd, tOr, tNot, dAnd, dOr, dNot, dChain, iLst, iTup, iStr, iRng1, iRng2, iEnum, iZip, gN, gNs, gT, Tgt.g, tYes, wipeE, backE, dAVs, dCall, avSlot, AV.ok, Slot.isOwn, bA_nil, bA_v, bA_m, D.isRef, List.all_cons, List.all_nil, List.map_cons, List.map_nil, Bool.and_true, Bool.true_and, List.tail_cons, List.tail_nil, List.head?_cons, sNx, sSeq, sRet, sRetN, sExp, sAsg, sAsgO, sIf, sAug, sFor, sWh, sBrk, sCnt, sRaise, sApp, Slot.ownL, sPut, sPar, sParL, sFld, dFld, dMake, mkC, dMakeV, dCm, dObj, D.isObj, dCallV, dCallS, dEqO, dIsO, dDct0, isBD_bl, notBD_bl, revD_lst, sPar3, sTrys, catchD, DEnds.unname, repF, D.eqTo, at_0, at_s, at_nil, set_0, set_s, fzd, frd, if_true, if_false, Bool.not_true, Bool.not_false, true_and, and_true, Bool.false_eq_true, ↓reduceIte, lenF, lenD, allF, anyF, sumF, absF, intF, tupleF, swM, ewM, eqv_int, eqv_str, eqv_bl, D.isTy, Int.cast_ofNat_Int, addD_int, addD_str, addD_lst, iaddD_int, iaddD_str, subD_int, mulD_int, mulD_str, mulD_lst, fdivD_int, modD_int, powD_int, negD_int, eqD, neD_str, neD_int, ltD_int, leD_int, gtD_int, geD_int, isD, isnD, D.isNon, inDv, ninDv, ixD_lst, ixD_tup, ixD_str, slD_lst, slD_frl, slD_str, dLc, dLook, Slot.calm]
  rw [maxF2]
  refine ⟨0, _, rfl, rfl, ?_⟩
  try simp -implicitDefEqProofs only [runD, startE, outsE, outs_0, outs_s, List.length_cons, List.length_nil, List.cons_append, List.nil_append, List.replicate, Nat.sub_zero, Nat.add_one_sub_one, Nat.reduceSub, Nat.reduceAdd, dC, dVar_M, dVarM_fz, dVarM_own, dIxN_M, dIxM_fz, dIxM_own, dFnN_M, dFnM_fz, dFnM_own, dOp, dUn, dArgs, dLst, dTup, dFn, dIsi, dMs, dPart, dSl, dIfE, Slot.known, tVal, tTru, tAnd, tOr, tNot, dAnd, dOr, dNot, dChain, iLst, iTup, iStr, iRng1, iRng2, iEnum, iZip, gN, gNs, gT, Tgt.g, tYes, wipeE, backE, dAVs, dCall, avSlot, AV.ok, Slot.isOwn, bA_nil, bA_v, bA_m, D.isRef, List.all_cons, List.all_nil, List.map_cons, List.map_nil, Bool.and_true, Bool.true_and, List.tail_cons, List.tail_nil, List.head?_cons, sNx, sSeq, sRet, sRetN, sExp, sAsg, sAsgO, sIf, sAug, sFor, sWh, sBrk, sCnt, sRaise, sApp, Slot.ownL, sPut, sPar, sParL, sFld, dFld, dMake, mkC, dMakeV, dCm, dObj, D.isObj, dCallV, dCallS, dEqO, dIsO, dDct0, isBD_bl, notBD_bl, revD_lst, sPar3, sTrys, catchD, DEnds.unname, repF, D.eqTo, at_0, at_s, at_nil, set_0, set_s, fzd, frd, if_true, if_false, Bool.not_true, Bool.not_false, true_and, and_true, Bool.false_eq_true, ↓reduceIte, lenF, lenD, allF, anyF, sumF, absF, intF, tupleF, swM, ewM, eqv_int, eqv_str, eqv_bl, D.isTy, Int.cast_ofNat_Int, addD_int, addD_str, addD_lst, iaddD_int, iaddD_str, subD_int, mulD_int, mulD_str, mulD_lst, fdivD_int, modD_int, powD_int, negD_int, eqD, neD_str, neD_int, ltD_int, leD_int, gtD_int, geD_int, isD, isnD, D.isNon, inDv, ninDv, ixD_lst, ixD_tup, ixD_str, slD_lst, slD_frl, slD_str, dLc, dLook, Slot.calm]
  refine ⟨by show _ ≤ 16777216; omega, 1, _, rfl, rfl, ?_⟩
  try simp -implicitDefEqProofs only [runD, startE, outsE, outs_0, outs_s, List.length_cons, List.length_nil, List.cons_append, List.nil_append, List.replicate, Nat.sub_zero, Nat.add_one_sub_one, Nat.reduceSub, Nat.reduceAdd, dC, dVar_M, dVarM_fz, dVarM_own, dIxN_M, dIxM_fz, dIxM_own, dFnN_M, dFnM_fz, dFnM_own, dOp, dUn, dArgs, dLst, dTup, dFn, dIsi, dMs, dPart, dSl, dIfE, Slot.known, tVal, tTru, tAnd, tOr, tNot, dAnd, dOr, dNot, dChain, iLst, iTup, iStr, iRng1, iRng2, iEnum, iZip, gN, gNs, gT, Tgt.g, tYes, wipeE, backE, dAVs, dCall, avSlot, AV.ok, Slot.isOwn, bA_nil, bA_v, bA_m, D.isRef, List.all_cons, List.all_nil, List.map_cons, List.map_nil, Bool.and_true, Bool.true_and, List.tail_cons, List.tail_nil, List.head?_cons, sNx, sSeq, sRet, sRetN, sExp, sAsg, sAsgO, sIf, sAug, sFor, sWh, sBrk, sCnt, sRaise, sApp, Slot.ownL, sPut, sPar, sParL, sFld, dFld, dMake, mkC, dMakeV, dCm, dObj, D.isObj, dCallV, dCallS, dEqO, dIsO, dDct0, isBD_bl, notBD_bl, revD_lst, sPar3, sTrys, catchD, DEnds.unname, repF, D.eqTo, at_0, at_s, at_nil, set_0, set_s, fzd, frd, if_true, if_false, Bool.not_true, Bool.not_false, true_and, and_true, Bool.false_eq_true, ↓reduceIte, lenF, lenD, allF, anyF, sumF, absF, intF, tupleF, swM, ewM, eqv_int, eqv_str, eqv_bl, D.isTy, Int.cast_ofNat_Int, addD_int, addD_str, addD_lst, iaddD_int, iaddD_str, subD_int, mulD_int, mulD_str, mulD_lst, fdivD_int, modD_int, powD_int, negD_int, eqD, neD_str, neD_int, ltD_int, leD_int, gtD_int, geD_int, isD, isnD, D.isNon, inDv, ninDv, ixD_lst, ixD_tup, ixD_str, slD_lst, slD_frl, slD_str, dLc, dLook, Slot.calm]
  refine ⟨by show _ ≤ 16777216; omega, ?_⟩
  refine ⟨a.t ++ b.t, a.p ++ b.p, max a.c (b.c + a.t.length - a.p.length), ?_, fun outs => ⟨by decide, hq _ _ rfl⟩⟩
  show [_, _, Slot.fz (.int (max (a.c : Int) (b.c + a.t.length - a.p.length)))] = [_, _, Slot.fz (.int ((max a.c (b.c + a.t.length - a.p.length) : Nat) : Int))]
  congr 3
  congr 1
  congr 1
  omega
def over (e : Eff) : Bool := decide (2000 < e.t.length) || decide (2000 < e.p.length)
theorem over_iff {e : Eff} : over e = false ↔ e.t.length ≤ 2000 ∧ e.p.length ≤ 2000 := by
  unfold over
  rw [Bool.or_eq_false_iff, decide_eq_false_iff_not, decide_eq_false_iff_not]
  omega
theorem comp_fit {a b : Eff} (ha : a.Fit) (hb : b.Fit) (h : over (comp a b) = false) : (comp a b).Fit := by
  obtain ⟨h1, h2⟩ := over_iff.mp h
  refine ⟨comp_ok a b ha.ok hb.ok, h1, ?_, h2, ?_⟩
  · show (a.t ++ b.t).all isItem = true
    rw [List.all_append, ha.t2, hb.t2]; rfl
  · show (a.p ++ b.p).all isItem = true
    rw [List.all_append, ha.p2, hb.p2]; rfl
/-- compose_two: 0 one, 1 other, 2 takes, 3 puts, 4 core -/
def b_compose_two : DS := sSeq (sAsg (gT [2, 3, 4]) (dCall C_composed [.v (dVar 0), .v (dVar 1)])) (sSeq (sIf (tOr (tVal (dOp gtD (dFn lenF [dVar 2]) (dC (.int 2000)))) (tVal (dOp gtD (dFn lenF [dVar 3]) (dC (.int 2000))))) (sRaise 10 (dC (.int 2000))) (sNx)) (sRet (dMake 0 C_Effect___init__ [dVar 2, dVar 3, dVar 4])))
def C_compose_two : Con := fun args Q E => ∃ a b : Eff, args = [.fz a.D, .fz b.D] ∧ a.Fit ∧ b.Fit ∧ (over (comp a b) = false → ∀ r outs, r.d = (comp a b).D → Q r outs) ∧ (over (comp a b) = true → ∀ outs, E ⟨10, .int 2000⟩ outs)
theorem p_compose_two : ∀ args Q E, args.length = 2 → C_compose_two args Q E → runD 5 b_compose_two args Q E := by
  intro args Q E _ h
  obtain ⟨a, b, rfl, ha, hb, h1, h2⟩ := h
  unfold b_compose_two
  try simp -implicitDefEqProofs only [runD, startE, outsE, outs_0, outs_s, List.length_cons, List.length_nil, List.cons_append, List.nil_append, List.replicate, Nat.sub_zero, Nat.add_one_sub_one, Nat.reduceSub, Nat.reduceAdd, dC, dVar_M, dVarM_fz, dVarM_own, dIxN_M, dIxM_fz, dIxM_own, dFnN_M, dFnM_fz, dFnM_own, dOp, dUn, dArgs, dLst, dTup, dFn, dIsi, dMs, dPart, dSl, dIfE, Slot.known, tVal, tTru, tAnd, tOr, tNot, dAnd, dOr, dNot, dChain, iLst, iTup, iStr, iRng1, iRng2, iEnum, iZip, gN, gNs, gT, Tgt.g, tYes, wipeE, backE, dAVs, dCall, avSlot, AV.ok, Slot.isOwn, bA_nil, bA_v, bA_m, D.isRef, List.all_cons, List.all_nil, List.map_cons, List.map_nil, Bool.and_true, Bool.true_and, List.tail_cons, List.tail_nil, List.head?_cons, sNx, sSeq, sRet, sRetN, sExp, sAsg, sAsgO, sIf, sAug, sFor, sWh, sBrk, sCnt, sRaise, sApp, Slot.ownL, sPut, sPar, sParL, sFld, dFld, dMake, mkC, dMakeV, dCm, dObj, D.isObj, dCallV, dCallS, dEqO, dIsO, dDct0, isBD_bl, notBD_bl, revD_lst, sPar3, sTrys, catchD, DEnds.unname, repF, D.eqTo, at_0, at_s, at_nil, set_0, set_s, fzd, frd, if_true, if_false, Bool.not_true, Bool.not_false, true_and, and_true, Bool.false_eq_true, ↓reduceIte, lenF, lenD, allF, anyF, sumF, absF, intF, tupleF, swM, ewM, eqv_int, eqv_str, eqv_bl, D.isTy, Int.cast_ofNat_Int, addD_int, addD_str, addD_lst, iaddD_int, iaddD_str, subD_int, mulD_int, mulD_str, mulD_lst, fdivD_int, modD_int, powD_int, negD_int, eqD, neD_str, neD_int, ltD_int, leD_int, gtD_int, geD_int, isD, isnD, D.isNon, inDv, ninDv, ixD_lst, ixD_tup, ixD_str, slD_lst, slD_frl, slD_str, dLc, dLook, Slot.calm]
  refine ⟨a, b, rfl, by have := ha.t1; have := hb.t1; omega, by have := ha.p1; have := hb.p1; omega, fun r outs hr => ?_⟩
  simp only [hr]
  unfold Eff.parts
  try simp -implicitDefEqProofs only [runD, startE, outsE, outs_0, outs_s, List.length_cons, List.length_nil, List.cons_append, List.nil_append, List.replicate, Nat.sub_zero, Nat.add_one_sub_one, Nat.reduceSub, Nat.reduceAdd, dC, dVar_M, dVarM_fz, dVarM_own, dIxN_M, dIxM_fz, dIxM_own, dFnN_M, dFnM_fz, dFnM_own, dOp, dUn, dArgs, dLst, dTup, dFn, dIsi, dMs, dPart, dSl, dIfE, Slot.known, tVal, tTru, tAnd, tOr, tNot, dAnd, dOr, dNot, dChain, iLst, iTup, iStr, iRng1, iRng2, iEnum, iZip, gN, gNs, gT, Tgt.g, tYes, wipeE, backE, dAVs, dCall, avSlot, AV.ok, Slot.isOwn, bA_nil, bA_v, bA_m, D.isRef, List.all_cons, List.all_nil, List.map_cons, List.map_nil, Bool.and_true, Bool.true_and, List.tail_cons, List.tail_nil, List.head?_cons, sNx, sSeq, sRet, sRetN, sExp, sAsg, sAsgO, sIf, sAug, sFor, sWh, sBrk, sCnt, sRaise, sApp, Slot.ownL, sPut, sPar, sParL, sFld, dFld, dMake, mkC, dMakeV, dCm, dObj, D.isObj, dCallV, dCallS, dEqO, dIsO, dDct0, isBD_bl, notBD_bl, revD_lst, sPar3, sTrys, catchD, DEnds.unname, repF, D.eqTo, at_0, at_s, at_nil, set_0, set_s, fzd, frd, if_true, if_false, Bool.not_true, Bool.not_false, true_and, and_true, Bool.false_eq_true, ↓reduceIte, lenF, lenD, allF, anyF, sumF, absF, intF, tupleF, swM, ewM, eqv_int, eqv_str, eqv_bl, D.isTy, Int.cast_ofNat_Int, addD_int, addD_str, addD_lst, iaddD_int, iaddD_str, subD_int, mulD_int, mulD_str, mulD_lst, fdivD_int, modD_int, powD_int, negD_int, eqD, neD_str, neD_int, ltD_int, leD_int, gtD_int, geD_int, isD, isnD, D.isNon, inDv, ninDv, ixD_lst, ixD_tup, ixD_str, slD_lst, slD_frl, slD_str, dLc, dLook, Slot.calm]
  have e1 : decide ((2000 : Int) < ((comp a b).t.length : Int)) = decide (2000 < (comp a b).t.length) := by rw [decide_eq_decide]; omega
  have e2 : decide ((2000 : Int) < ((comp a b).p.length : Int)) = decide (2000 < (comp a b).p.length) := by rw [decide_eq_decide]; omega
  rw [e1, e2]
  cases ho : over (comp a b) with
  | false =>
    have hq := h1 ho
    have fit := comp_fit ha hb ho
    unfold over at ho
    rw [Bool.or_eq_false_iff] at ho
    rw [ho.1, ho.2]
    try simp -implicitDefEqProofs only [runD, startE, outsE, outs_0, outs_s, List.length_cons, List.length_nil, List.cons_append, List.nil_append, List.replicate, Nat.sub_zero, Nat.add_one_sub_one, Nat.reduceSub, Nat.reduceAdd, dC, dVar_M, dVarM_fz, dVarM_own, dIxN_M, dIxM_fz, dIxM_own, dFnN_M, dFnM_fz, dFnM_own, dOp, dUn, dArgs, dLst, dTup, dFn, dIsi, dMs, dPart, dSl, dIfE, Slot.known, tVal, tTru, tAnd, tOr, tNot, dAnd, dOr, dNot, dChain, iLst, iTup, iStr, iRng1, iRng2, iEnum, iZip, gN, gNs, gT, Tgt.g, tYes, wipeE, backE, dAVs, dCall, avSlot, AV.ok, Slot.isOwn, bA_nil, bA_v, bA_m, D.isRef, List.all_cons, List.all_nil, List.map_cons, List.map_nil, Bool.and_true, Bool.true_and, List.tail_cons, List.tail_nil, List.head?_cons, sNx, sSeq, sRet, sRetN, sExp, sAsg, sAsgO, sIf, sAug, sFor, sWh, sBrk, sCnt, sRaise, sApp, Slot.ownL, sPut, sPar, sParL, sFld, dFld, dMake, mkC, dMakeV, dCm, dObj, D.isObj, dCallV, dCallS, dEqO, dIsO, dDct0, isBD_bl, notBD_bl, revD_lst, sPar3, sTrys, catchD, DEnds.unname, repF, D.eqTo, at_0, at_s, at_nil, set_0, set_s, fzd, frd, if_true, if_false, Bool.not_true, Bool.not_false, true_and, and_true, Bool.false_eq_true, ↓reduceIte, lenF, lenD, allF, anyF, sumF, absF, intF, tupleF, swM, ewM, eqv_int, eqv_str, eqv_bl, D.isTy, Int.cast_ofNat_Int, addD_int, addD_str, addD_lst, iaddD_int, iaddD_str, subD_int, mulD_int, mulD_str, mulD_lst, fdivD_int, modD_int, powD_int, negD_int, eqD, neD_str, neD_int, ltD_int, leD_int, gtD_int, geD_int, isD, isnD, D.isNon, inDv, ninDv, ixD_lst, ixD_tup, ixD_str, slD_lst, slD_frl, slD_str, dLc, dLook, Slot.calm]
    exact init_use fit fun r o1 o2 o3 hr => ⟨hr, _, rfl, hq _ _ rfl⟩
  | true =>
    have hq := h2 ho
    unfold over at ho
    cases h3 : decide (2000 < (comp a b).t.length) with
    | true => try simp -implicitDefEqProofs only [runD, startE, outsE, outs_0, outs_s, List.length_cons, List.length_nil, List.cons_append, List.nil_append, List.replicate, Nat.sub_zero, Nat.add_one_sub_one, Nat.reduceSub, Nat.reduceAdd, dC, dVar_M, dVarM_fz, dVarM_own, dIxN_M, dIxM_fz, dIxM_own, dFnN_M, dFnM_fz, dFnM_own, dOp, dUn, dArgs, dLst, dTup, dFn, dIsi, dMs, dPart, dSl, dIfE, Slot.known, tVal, tTru, tAnd, tOr, tNot, dAnd, dOr, dNot, dChain, iLst, iTup, iStr, iRng1, iRng2, iEnum, iZip, gN, gNs, gT, Tgt.g, tYes, wipeE, backE, dAVs, dCall, avSlot, AV.ok, Slot.isOwn, bA_nil, bA_v, bA_m, D.isRef, List.all_cons, List.all_nil, List.map_cons, List.map_nil, Bool.and_true, Bool.true_and, List.tail_cons, List.tail_nil, List.head?_cons, sNx, sSeq, sRet, sRetN, sExp, sAsg, sAsgO, sIf, sAug, sFor, sWh, sBrk, sCnt, sRaise, sApp, Slot.ownL, sPut, sPar, sParL, sFld, dFld, dMake, mkC, dMakeV, dCm, dObj, D.isObj, dCallV, dCallS, dEqO, dIsO, dDct0, isBD_bl, notBD_bl, revD_lst, sPar3, sTrys, catchD, DEnds.unname, repF, D.eqTo, at_0, at_s, at_nil, set_0, set_s, fzd, frd, if_true, if_false, Bool.not_true, Bool.not_false, true_and, and_true, Bool.false_eq_true, ↓reduceIte, lenF, lenD, allF, anyF, sumF, absF, intF, tupleF, swM, ewM, eqv_int, eqv_str, eqv_bl, D.isTy, Int.cast_ofNat_Int, addD_int, addD_str, addD_lst, iaddD_int, iaddD_str, subD_int, mulD_int, mulD_str, mulD_lst, fdivD_int, modD_int, powD_int, negD_int, eqD, neD_str, neD_int, ltD_int, leD_int, gtD_int, geD_int, isD, isnD, D.isNon, inDv, ninDv, ixD_lst, ixD_tup, ixD_str, slD_lst, slD_frl, slD_str, dLc, dLook, Slot.calm]; exact hq _
    | false =>
      rw [h3] at ho
      have ho : decide (2000 < (comp a b).p.length) = true := ho
      rw [ho]
      try simp -implicitDefEqProofs only [runD, startE, outsE, outs_0, outs_s, List.length_cons, List.length_nil, List.cons_append, List.nil_append, List.replicate, Nat.sub_zero, Nat.add_one_sub_one, Nat.reduceSub, Nat.reduceAdd, dC, dVar_M, dVarM_fz, dVarM_own, dIxN_M, dIxM_fz, dIxM_own, dFnN_M, dFnM_fz, dFnM_own, dOp, dUn, dArgs, dLst, dTup, dFn, dIsi, dMs, dPart, dSl, dIfE, Slot.known, tVal, tTru, tAnd, tOr, tNot, dAnd, dOr, dNot, dChain, iLst, iTup, iStr, iRng1, iRng2, iEnum, iZip, gN, gNs, gT, Tgt.g, tYes, wipeE, backE, dAVs, dCall, avSlot, AV.ok, Slot.isOwn, bA_nil, bA_v, bA_m, D.isRef, List.all_cons, List.all_nil, List.map_cons, List.map_nil, Bool.and_true, Bool.true_and, List.tail_cons, List.tail_nil, List.head?_cons, sNx, sSeq, sRet, sRetN, sExp, sAsg, sAsgO, sIf, sAug, sFor, sWh, sBrk, sCnt, sRaise, sApp, Slot.ownL, sPut, sPar, sParL, sFld, dFld, dMake, mkC, dMakeV, dCm, dObj, D.isObj, dCallV, dCallS, dEqO, dIsO, dDct0, isBD_bl, notBD_bl, revD_lst, sPar3, sTrys, catchD, DEnds.unname, repF, D.eqTo, at_0, at_s, at_nil, set_0, set_s, fzd, frd, if_true, if_false, Bool.not_true, Bool.not_false, true_and, and_true, Bool.false_eq_true, ↓reduceIte, lenF, lenD, allF, anyF, sumF, absF, intF, tupleF, swM, ewM, eqv_int, eqv_str, eqv_bl, D.isTy, Int.cast_ofNat_Int, addD_int, addD_str, addD_lst, iaddD_int, iaddD_str, subD_int, mulD_int, mulD_str, mulD_lst, fdivD_int, modD_int, powD_int, negD_int, eqD, neD_str, neD_int, ltD_int, leD_int, gtD_int, geD_int, isD, isnD, D.isNon, inDv, ninDv, ixD_lst, ixD_tup, ixD_str, slD_lst, slD_frl, slD_str, dLc, dLook, Slot.calm]
      exact hq _
/-- one behind the other, where no limit is passed -/
def compL : Eff → List Eff → Option Eff
  | a, [] => some a
  | a, b :: bs => if over (comp a b) = true then none else compL (comp a b) bs
def firstNo : List D → Bool
  | [] => false
  | d :: ds => d.isCls 0 == some false || firstNo ds
def composeCon (ds : List D) (Q : R → List Slot → Prop) (E : Exc → List Slot → Prop) : Prop := (∀ d ∈ ds, d.isCls 0 ≠ none) ∧ (firstNo ds = true → ∀ outs, E ⟨3, .str effectT⟩ outs) ∧
  (firstNo ds = false → ∃ es : List Eff, ds = es.map Eff.D ∧ (∀ e ∈ es, e.Fit) ∧ (compL idE es = none → ∀ outs, E ⟨10, .int 2000⟩ outs) ∧ ∀ e, compL idE es = some e → ∀ r outs, r.d = e.D → Q r outs)
theorem composeCon_of {es : List Eff} {e : Eff} {Q : R → List Slot → Prop} {E : Exc → List Slot → Prop} (h : ∀ e ∈ es, e.Fit) (hc : compL idE es = some e) (hq : ∀ r outs, r.d = e.D → Q r outs) : composeCon (es.map Eff.D) Q E := by
  refine ⟨fun d hd => ?_, fun z => ?_, fun _ => ⟨es, rfl, h, fun z => (by rw [hc] at z; cases z), fun e' z => by rw [hc] at z; cases z; exact hq⟩⟩
  · obtain ⟨e, _, rfl⟩ := List.mem_map.mp hd
    exact fun z => nomatch z
  · have : ∀ es : List Eff, firstNo (es.map Eff.D) = false := fun es => by
      induction es with
      | nil => rfl
      | cons e es ih => rw [List.map_cons, firstNo, ih]; rfl
    rw [this] at z
    cases z
theorem composeCon.imp {ds : List D} {Q Q' : R → List Slot → Prop} {E E' : Exc → List Slot → Prop} (h : composeCon ds Q E) (hq : ∀ r outs', (∀ outs, Q r outs) → Q' r outs') (he : ∀ x outs', (∀ outs, E x outs) → E' x outs' := by exact fun _ _ h => h _) : composeCon ds Q' E' :=
  ⟨h.1, fun z outs => he _ _ (h.2.1 z), fun z => let ⟨es, h1, h2, h3, h4⟩ := h.2.2 z; ⟨es, h1, h2, fun z outs => he _ _ (h3 z), fun e z r outs hr => hq _ _ (h4 e z r · hr)⟩⟩
/-- compose: 0 effects, 1 effect, 2 found -/
def b_compose : DS := sSeq (sFor (iTup (dVar 0)) (gN 1) (sExp (dCall C_check_effect [.v (dVar 1)]))) (sSeq (sAsg (gN 2) (dCm 0 C_Effect_identity [])) (sSeq (sFor (iTup (dVar 0)) (gN 1) (sAsg (gN 2) (dCall C_compose_two [.v (dVar 2), .v (dVar 1)]))) (sRet (dVar 2))))
def C_compose : Con := fun args Q E => ∃ ds, args = [.fz (.tup ds)] ∧ composeCon ds Q E
theorem p_compose : ∀ args Q E, args.length = 1 → C_compose args Q E → runD 3 b_compose args Q E := by
  intro args Q E _ h
  obtain ⟨ds, rfl, hn, hno, hyes⟩ := h
  unfold b_compose
  try simp -implicitDefEqProofs only [runD, startE, outsE, outs_0, outs_s, List.length_cons, List.length_nil, List.cons_append, List.nil_append, List.replicate, Nat.sub_zero, Nat.add_one_sub_one, Nat.reduceSub, Nat.reduceAdd, dC, dVar_M, dVarM_fz, dVarM_own, dIxN_M, dIxM_fz, dIxM_own, dFnN_M, dFnM_fz, dFnM_own, dOp, dUn, dArgs, dLst, dTup, dFn, dIsi, dMs, dPart, dSl, dIfE, Slot.known, tVal, tTru, tAnd, tOr, tNot, dAnd, dOr, dNot, dChain, iLst, iTup, iStr, iRng1, iRng2, iEnum, iZip, gN, gNs, gT, Tgt.g, tYes, wipeE, backE, dAVs, dCall, avSlot, AV.ok, Slot.isOwn, bA_nil, bA_v, bA_m, D.isRef, List.all_cons, List.all_nil, List.map_cons, List.map_nil, Bool.and_true, Bool.true_and, List.tail_cons, List.tail_nil, List.head?_cons, sNx, sSeq, sRet, sRetN, sExp, sAsg, sAsgO, sIf, sAug, sFor, sWh, sBrk, sCnt, sRaise, sApp, Slot.ownL, sPut, sPar, sParL, sFld, dFld, dMake, mkC, dMakeV, dCm, dObj, D.isObj, dCallV, dCallS, dEqO, dIsO, dDct0, isBD_bl, notBD_bl, revD_lst, sPar3, sTrys, catchD, DEnds.unname, repF, D.eqTo, at_0, at_s, at_nil, set_0, set_s, fzd, frd, if_true, if_false, Bool.not_true, Bool.not_false, true_and, and_true, Bool.false_eq_true, ↓reduceIte, lenF, lenD, allF, anyF, sumF, absF, intF, tupleF, swM, ewM, eqv_int, eqv_str, eqv_bl, D.isTy, Int.cast_ofNat_Int, addD_int, addD_str, addD_lst, iaddD_int, iaddD_str, subD_int, mulD_int, mulD_str, mulD_lst, fdivD_int, modD_int, powD_int, negD_int, eqD, neD_str, neD_int, ltD_int, leD_int, gtD_int, geD_int, isD, isnD, D.isNon, inDv, ninDv, ixD_lst, ixD_tup, ixD_str, slD_lst, slD_frl, slD_str, dLc, dLook, Slot.calm]
  refine forL_inv (I := fun es ρ => ∃ s1, ρ = [.fz (.tup ds), s1, .no] ∧ (∀ d ∈ es, d.isCls 0 ≠ none) ∧ firstNo es = firstNo ds) (fun ρ h => ?_) (fun x es ρ h k hk => ?_) _ _ ⟨.no, rfl, hn, rfl⟩
  · obtain ⟨s1, rfl, _, h2⟩ := h
    obtain ⟨es, rfl, fit, hlim, hq⟩ := hyes h2.symm
    try simp -implicitDefEqProofs only [runD, startE, outsE, outs_0, outs_s, List.length_cons, List.length_nil, List.cons_append, List.nil_append, List.replicate, Nat.sub_zero, Nat.add_one_sub_one, Nat.reduceSub, Nat.reduceAdd, dC, dVar_M, dVarM_fz, dVarM_own, dIxN_M, dIxM_fz, dIxM_own, dFnN_M, dFnM_fz, dFnM_own, dOp, dUn, dArgs, dLst, dTup, dFn, dIsi, dMs, dPart, dSl, dIfE, Slot.known, tVal, tTru, tAnd, tOr, tNot, dAnd, dOr, dNot, dChain, iLst, iTup, iStr, iRng1, iRng2, iEnum, iZip, gN, gNs, gT, Tgt.g, tYes, wipeE, backE, dAVs, dCall, avSlot, AV.ok, Slot.isOwn, bA_nil, bA_v, bA_m, D.isRef, List.all_cons, List.all_nil, List.map_cons, List.map_nil, Bool.and_true, Bool.true_and, List.tail_cons, List.tail_nil, List.head?_cons, sNx, sSeq, sRet, sRetN, sExp, sAsg, sAsgO, sIf, sAug, sFor, sWh, sBrk, sCnt, sRaise, sApp, Slot.ownL, sPut, sPar, sParL, sFld, dFld, dMake, mkC, dMakeV, dCm, dObj, D.isObj, dCallV, dCallS, dEqO, dIsO, dDct0, isBD_bl, notBD_bl, revD_lst, sPar3, sTrys, catchD, DEnds.unname, repF, D.eqTo, at_0, at_s, at_nil, set_0, set_s, fzd, frd, if_true, if_false, Bool.not_true, Bool.not_false, true_and, and_true, Bool.false_eq_true, ↓reduceIte, lenF, lenD, allF, anyF, sumF, absF, intF, tupleF, swM, ewM, eqv_int, eqv_str, eqv_bl, D.isTy, Int.cast_ofNat_Int, addD_int, addD_str, addD_lst, iaddD_int, iaddD_str, subD_int, mulD_int, mulD_str, mulD_lst, fdivD_int, modD_int, powD_int, negD_int, eqD, neD_str, neD_int, ltD_int, leD_int, gtD_int, geD_int, isD, isnD, D.isNon, inDv, ninDv, ixD_lst, ixD_tup, ixD_str, slD_lst, slD_frl, slD_str, dLc, dLook, Slot.calm]
    refine ⟨rfl, fun r outs hr => ?_⟩
    simp only [hr]
    try simp -implicitDefEqProofs only [runD, startE, outsE, outs_0, outs_s, List.length_cons, List.length_nil, List.cons_append, List.nil_append, List.replicate, Nat.sub_zero, Nat.add_one_sub_one, Nat.reduceSub, Nat.reduceAdd, dC, dVar_M, dVarM_fz, dVarM_own, dIxN_M, dIxM_fz, dIxM_own, dFnN_M, dFnM_fz, dFnM_own, dOp, dUn, dArgs, dLst, dTup, dFn, dIsi, dMs, dPart, dSl, dIfE, Slot.known, tVal, tTru, tAnd, tOr, tNot, dAnd, dOr, dNot, dChain, iLst, iTup, iStr, iRng1, iRng2, iEnum, iZip, gN, gNs, gT, Tgt.g, tYes, wipeE, backE, dAVs, dCall, avSlot, AV.ok, Slot.isOwn, bA_nil, bA_v, bA_m, D.isRef, List.all_cons, List.all_nil, List.map_cons, List.map_nil, Bool.and_true, Bool.true_and, List.tail_cons, List.tail_nil, List.head?_cons, sNx, sSeq, sRet, sRetN, sExp, sAsg, sAsgO, sIf, sAug, sFor, sWh, sBrk, sCnt, sRaise, sApp, Slot.ownL, sPut, sPar, sParL, sFld, dFld, dMake, mkC, dMakeV, dCm, dObj, D.isObj, dCallV, dCallS, dEqO, dIsO, dDct0, isBD_bl, notBD_bl, revD_lst, sPar3, sTrys, catchD, DEnds.unname, repF, D.eqTo, at_0, at_s, at_nil, set_0, set_s, fzd, frd, if_true, if_false, Bool.not_true, Bool.not_false, true_and, and_true, Bool.false_eq_true, ↓reduceIte, lenF, lenD, allF, anyF, sumF, absF, intF, tupleF, swM, ewM, eqv_int, eqv_str, eqv_bl, D.isTy, Int.cast_ofNat_Int, addD_int, addD_str, addD_lst, iaddD_int, iaddD_str, subD_int, mulD_int, mulD_str, mulD_lst, fdivD_int, modD_int, powD_int, negD_int, eqD, neD_str, neD_int, ltD_int, leD_int, gtD_int, geD_int, isD, isnD, D.isNon, inDv, ninDv, ixD_lst, ixD_tup, ixD_str, slD_lst, slD_frl, slD_str, dLc, dLook, Slot.calm]
    refine forL_inv (I := fun xs ρ => ∃ s1 a bs, xs = bs.map Eff.D ∧ (∀ e ∈ bs, e.Fit) ∧ a.Fit ∧ compL a bs = compL idE es ∧ ρ = [.fz (.tup (es.map Eff.D)), s1, .fz a.D]) (fun ρ h => ?_) (fun x xs ρ h k hk => ?_) _ _ ⟨s1, idE, es, rfl, fit, idE_fit, rfl, rfl⟩
    · obtain ⟨s1, a, bs, h3, h4, h5, h6, rfl⟩ := h
      cases bs with
      | nil =>
        try simp -implicitDefEqProofs only [runD, startE, outsE, outs_0, outs_s, List.length_cons, List.length_nil, List.cons_append, List.nil_append, List.replicate, Nat.sub_zero, Nat.add_one_sub_one, Nat.reduceSub, Nat.reduceAdd, dC, dVar_M, dVarM_fz, dVarM_own, dIxN_M, dIxM_fz, dIxM_own, dFnN_M, dFnM_fz, dFnM_own, dOp, dUn, dArgs, dLst, dTup, dFn, dIsi, dMs, dPart, dSl, dIfE, Slot.known, tVal, tTru, tAnd, tOr, tNot, dAnd, dOr, dNot, dChain, iLst, iTup, iStr, iRng1, iRng2, iEnum, iZip, gN, gNs, gT, Tgt.g, tYes, wipeE, backE, dAVs, dCall, avSlot, AV.ok, Slot.isOwn, bA_nil, bA_v, bA_m, D.isRef, List.all_cons, List.all_nil, List.map_cons, List.map_nil, Bool.and_true, Bool.true_and, List.tail_cons, List.tail_nil, List.head?_cons, sNx, sSeq, sRet, sRetN, sExp, sAsg, sAsgO, sIf, sAug, sFor, sWh, sBrk, sCnt, sRaise, sApp, Slot.ownL, sPut, sPar, sParL, sFld, dFld, dMake, mkC, dMakeV, dCm, dObj, D.isObj, dCallV, dCallS, dEqO, dIsO, dDct0, isBD_bl, notBD_bl, revD_lst, sPar3, sTrys, catchD, DEnds.unname, repF, D.eqTo, at_0, at_s, at_nil, set_0, set_s, fzd, frd, if_true, if_false, Bool.not_true, Bool.not_false, true_and, and_true, Bool.false_eq_true, ↓reduceIte, lenF, lenD, allF, anyF, sumF, absF, intF, tupleF, swM, ewM, eqv_int, eqv_str, eqv_bl, D.isTy, Int.cast_ofNat_Int, addD_int, addD_str, addD_lst, iaddD_int, iaddD_str, subD_int, mulD_int, mulD_str, mulD_lst, fdivD_int, modD_int, powD_int, negD_int, eqD, neD_str, neD_int, ltD_int, leD_int, gtD_int, geD_int, isD, isnD, D.isNon, inDv, ninDv, ixD_lst, ixD_tup, ixD_str, slD_lst, slD_frl, slD_str, dLc, dLook, Slot.calm]
        exact hq a h6.symm _ _ rfl
      | cons b bs => cases h3
    · obtain ⟨s1, a, bs, h3, h4, h5, h6, rfl⟩ := h
      cases bs with
      | nil => cases h3
      | cons b bs =>
        cases h3
        try simp -implicitDefEqProofs only [runD, startE, outsE, outs_0, outs_s, List.length_cons, List.length_nil, List.cons_append, List.nil_append, List.replicate, Nat.sub_zero, Nat.add_one_sub_one, Nat.reduceSub, Nat.reduceAdd, dC, dVar_M, dVarM_fz, dVarM_own, dIxN_M, dIxM_fz, dIxM_own, dFnN_M, dFnM_fz, dFnM_own, dOp, dUn, dArgs, dLst, dTup, dFn, dIsi, dMs, dPart, dSl, dIfE, Slot.known, tVal, tTru, tAnd, tOr, tNot, dAnd, dOr, dNot, dChain, iLst, iTup, iStr, iRng1, iRng2, iEnum, iZip, gN, gNs, gT, Tgt.g, tYes, wipeE, backE, dAVs, dCall, avSlot, AV.ok, Slot.isOwn, bA_nil, bA_v, bA_m, D.isRef, List.all_cons, List.all_nil, List.map_cons, List.map_nil, Bool.and_true, Bool.true_and, List.tail_cons, List.tail_nil, List.head?_cons, sNx, sSeq, sRet, sRetN, sExp, sAsg, sAsgO, sIf, sAug, sFor, sWh, sBrk, sCnt, sRaise, sApp, Slot.ownL, sPut, sPar, sParL, sFld, dFld, dMake, mkC, dMakeV, dCm, dObj, D.isObj, dCallV, dCallS, dEqO, dIsO, dDct0, isBD_bl, notBD_bl, revD_lst, sPar3, sTrys, catchD, DEnds.unname, repF, D.eqTo, at_0, at_s, at_nil, set_0, set_s, fzd, frd, if_true, if_false, Bool.not_true, Bool.not_false, true_and, and_true, Bool.false_eq_true, ↓reduceIte, lenF, lenD, allF, anyF, sumF, absF, intF, tupleF, swM, ewM, eqv_int, eqv_str, eqv_bl, D.isTy, Int.cast_ofNat_Int, addD_int, addD_str, addD_lst, iaddD_int, iaddD_str, subD_int, mulD_int, mulD_str, mulD_lst, fdivD_int, modD_int, powD_int, negD_int, eqD, neD_str, neD_int, ltD_int, leD_int, gtD_int, geD_int, isD, isnD, D.isNon, inDv, ninDv, ixD_lst, ixD_tup, ixD_str, slD_lst, slD_frl, slD_str, dLc, dLook, Slot.calm]
        rw [compL] at h6
        refine ⟨a, b, rfl, h5, h4 b List.mem_cons_self, fun ho r outs hr => ?_, fun ho outs => ?_⟩
        · rw [if_neg (by rw [ho]; decide)] at h6
          simp only [hr]
          try simp -implicitDefEqProofs only [runD, startE, outsE, outs_0, outs_s, List.length_cons, List.length_nil, List.cons_append, List.nil_append, List.replicate, Nat.sub_zero, Nat.add_one_sub_one, Nat.reduceSub, Nat.reduceAdd, dC, dVar_M, dVarM_fz, dVarM_own, dIxN_M, dIxM_fz, dIxM_own, dFnN_M, dFnM_fz, dFnM_own, dOp, dUn, dArgs, dLst, dTup, dFn, dIsi, dMs, dPart, dSl, dIfE, Slot.known, tVal, tTru, tAnd, tOr, tNot, dAnd, dOr, dNot, dChain, iLst, iTup, iStr, iRng1, iRng2, iEnum, iZip, gN, gNs, gT, Tgt.g, tYes, wipeE, backE, dAVs, dCall, avSlot, AV.ok, Slot.isOwn, bA_nil, bA_v, bA_m, D.isRef, List.all_cons, List.all_nil, List.map_cons, List.map_nil, Bool.and_true, Bool.true_and, List.tail_cons, List.tail_nil, List.head?_cons, sNx, sSeq, sRet, sRetN, sExp, sAsg, sAsgO, sIf, sAug, sFor, sWh, sBrk, sCnt, sRaise, sApp, Slot.ownL, sPut, sPar, sParL, sFld, dFld, dMake, mkC, dMakeV, dCm, dObj, D.isObj, dCallV, dCallS, dEqO, dIsO, dDct0, isBD_bl, notBD_bl, revD_lst, sPar3, sTrys, catchD, DEnds.unname, repF, D.eqTo, at_0, at_s, at_nil, set_0, set_s, fzd, frd, if_true, if_false, Bool.not_true, Bool.not_false, true_and, and_true, Bool.false_eq_true, ↓reduceIte, lenF, lenD, allF, anyF, sumF, absF, intF, tupleF, swM, ewM, eqv_int, eqv_str, eqv_bl, D.isTy, Int.cast_ofNat_Int, addD_int, addD_str, addD_lst, iaddD_int, iaddD_str, subD_int, mulD_int, mulD_str, mulD_lst, fdivD_int, modD_int, powD_int, negD_int, eqD, neD_str, neD_int, ltD_int, leD_int, gtD_int, geD_int, isD, isnD, D.isNon, inDv, ninDv, ixD_lst, ixD_tup, ixD_str, slD_lst, slD_frl, slD_str, dLc, dLook, Slot.calm]
          exact hk _ ⟨_, comp a b, bs, rfl, fun e he => h4 e (List.mem_cons_of_mem _ he), comp_fit h5 (h4 b List.mem_cons_self) ho, h6, rfl⟩
        · rw [if_pos ho] at h6
          exact hlim h6.symm _
  · obtain ⟨s1, rfl, h1, h2⟩ := h
    try simp -implicitDefEqProofs only [runD, startE, outsE, outs_0, outs_s, List.length_cons, List.length_nil, List.cons_append, List.nil_append, List.replicate, Nat.sub_zero, Nat.add_one_sub_one, Nat.reduceSub, Nat.reduceAdd, dC, dVar_M, dVarM_fz, dVarM_own, dIxN_M, dIxM_fz, dIxM_own, dFnN_M, dFnM_fz, dFnM_own, dOp, dUn, dArgs, dLst, dTup, dFn, dIsi, dMs, dPart, dSl, dIfE, Slot.known, tVal, tTru, tAnd, tOr, tNot, dAnd, dOr, dNot, dChain, iLst, iTup, iStr, iRng1, iRng2, iEnum, iZip, gN, gNs, gT, Tgt.g, tYes, wipeE, backE, dAVs, dCall, avSlot, AV.ok, Slot.isOwn, bA_nil, bA_v, bA_m, D.isRef, List.all_cons, List.all_nil, List.map_cons, List.map_nil, Bool.and_true, Bool.true_and, List.tail_cons, List.tail_nil, List.head?_cons, sNx, sSeq, sRet, sRetN, sExp, sAsg, sAsgO, sIf, sAug, sFor, sWh, sBrk, sCnt, sRaise, sApp, Slot.ownL, sPut, sPar, sParL, sFld, dFld, dMake, mkC, dMakeV, dCm, dObj, D.isObj, dCallV, dCallS, dEqO, dIsO, dDct0, isBD_bl, notBD_bl, revD_lst, sPar3, sTrys, catchD, DEnds.unname, repF, D.eqTo, at_0, at_s, at_nil, set_0, set_s, fzd, frd, if_true, if_false, Bool.not_true, Bool.not_false, true_and, and_true, Bool.false_eq_true, ↓reduceIte, lenF, lenD, allF, anyF, sumF, absF, intF, tupleF, swM, ewM, eqv_int, eqv_str, eqv_bl, D.isTy, Int.cast_ofNat_Int, addD_int, addD_str, addD_lst, iaddD_int, iaddD_str, subD_int, mulD_int, mulD_str, mulD_lst, fdivD_int, modD_int, powD_int, negD_int, eqD, neD_str, neD_int, ltD_int, leD_int, gtD_int, geD_int, isD, isnD, D.isNon, inDv, ninDv, ixD_lst, ixD_tup, ixD_str, slD_lst, slD_frl, slD_str, dLc, dLook, Slot.calm]
    cases hb : x.isCls 0 with
    | none => exact absurd hb (h1 x List.mem_cons_self)
    | some b =>
      rw [firstNo, hb] at h2
      refine ⟨x, b, rfl, hb, fun e r outs hr => ?_, fun e outs => ?_⟩
      · subst e
        exact hk _ ⟨_, rfl, fun d hd => h1 d (List.mem_cons_of_mem _ hd), by simpa using h2⟩
      · subst e
        exact hno (by rw [← h2]; rfl) _
abbrev listT : Tx := [108, 105, 115, 116]
/-- compose_all: 0 effects -/
def b_compose_all : DS := sSeq (sIf (tOr (tNot (tVal (dIsi .list (dVar 0)))) (tVal (dOp gtD (dFn lenF [dVar 0]) (dC (.int 50))))) (sRaise 3 (dC (.str [108, 105, 115, 116]))) (sNx)) (sRet (dCallS C_compose (dVar 0)))
def C_compose_all : Con := fun args Q E => ∃ d, args = [.fz d] ∧ d.plain ∧ (∀ xs, d ≠ .frl xs) ∧ ((∀ ds, d = .lst ds → 50 < ds.length) → ∀ outs, E ⟨3, .str listT⟩ outs) ∧ ∀ ds, d = .lst ds → ds.length ≤ 50 → composeCon ds Q E
theorem p_compose_all : ∀ args Q E, args.length = 1 → C_compose_all args Q E → runD 1 b_compose_all args Q E := by
  intro args Q E _ h
  obtain ⟨d, rfl, hp, hnf, hno, hyes⟩ := h
  unfold b_compose_all
  cases d with
  | lst ds =>
    try simp -implicitDefEqProofs only [runD, startE, outsE, outs_0, outs_s, List.length_cons, List.length_nil, List.cons_append, List.nil_append, List.replicate, Nat.sub_zero, Nat.add_one_sub_one, Nat.reduceSub, Nat.reduceAdd, dC, dVar_M, dVarM_fz, dVarM_own, dIxN_M, dIxM_fz, dIxM_own, dFnN_M, dFnM_fz, dFnM_own, dOp, dUn, dArgs, dLst, dTup, dFn, dIsi, dMs, dPart, dSl, dIfE, Slot.known, tVal, tTru, tAnd, tOr, tNot, dAnd, dOr, dNot, dChain, iLst, iTup, iStr, iRng1, iRng2, iEnum, iZip, gN, gNs, gT, Tgt.g, tYes, wipeE, backE, dAVs, dCall, avSlot, AV.ok, Slot.isOwn, bA_nil, bA_v, bA_m, D.isRef, List.all_cons, List.all_nil, List.map_cons, List.map_nil, Bool.and_true, Bool.true_and, List.tail_cons, List.tail_nil, List.head?_cons, sNx, sSeq, sRet, sRetN, sExp, sAsg, sAsgO, sIf, sAug, sFor, sWh, sBrk, sCnt, sRaise, sApp, Slot.ownL, sPut, sPar, sParL, sFld, dFld, dMake, mkC, dMakeV, dCm, dObj, D.isObj, dCallV, dCallS, dEqO, dIsO, dDct0, isBD_bl, notBD_bl, revD_lst, sPar3, sTrys, catchD, DEnds.unname, repF, D.eqTo, at_0, at_s, at_nil, set_0, set_s, fzd, frd, if_true, if_false, Bool.not_true, Bool.not_false, true_and, and_true, Bool.false_eq_true, ↓reduceIte, lenF, lenD, allF, anyF, sumF, absF, intF, tupleF, swM, ewM, eqv_int, eqv_str, eqv_bl, D.isTy, Int.cast_ofNat_Int, addD_int, addD_str, addD_lst, iaddD_int, iaddD_str, subD_int, mulD_int, mulD_str, mulD_lst, fdivD_int, modD_int, powD_int, negD_int, eqD, neD_str, neD_int, ltD_int, leD_int, gtD_int, geD_int, isD, isnD, D.isNon, inDv, ninDv, ixD_lst, ixD_tup, ixD_str, slD_lst, slD_frl, slD_str, dLc, dLook, Slot.calm]
    refine ⟨true, rfl, ?_⟩
    try simp -implicitDefEqProofs only [runD, startE, outsE, outs_0, outs_s, List.length_cons, List.length_nil, List.cons_append, List.nil_append, List.replicate, Nat.sub_zero, Nat.add_one_sub_one, Nat.reduceSub, Nat.reduceAdd, dC, dVar_M, dVarM_fz, dVarM_own, dIxN_M, dIxM_fz, dIxM_own, dFnN_M, dFnM_fz, dFnM_own, dOp, dUn, dArgs, dLst, dTup, dFn, dIsi, dMs, dPart, dSl, dIfE, Slot.known, tVal, tTru, tAnd, tOr, tNot, dAnd, dOr, dNot, dChain, iLst, iTup, iStr, iRng1, iRng2, iEnum, iZip, gN, gNs, gT, Tgt.g, tYes, wipeE, backE, dAVs, dCall, avSlot, AV.ok, Slot.isOwn, bA_nil, bA_v, bA_m, D.isRef, List.all_cons, List.all_nil, List.map_cons, List.map_nil, Bool.and_true, Bool.true_and, List.tail_cons, List.tail_nil, List.head?_cons, sNx, sSeq, sRet, sRetN, sExp, sAsg, sAsgO, sIf, sAug, sFor, sWh, sBrk, sCnt, sRaise, sApp, Slot.ownL, sPut, sPar, sParL, sFld, dFld, dMake, mkC, dMakeV, dCm, dObj, D.isObj, dCallV, dCallS, dEqO, dIsO, dDct0, isBD_bl, notBD_bl, revD_lst, sPar3, sTrys, catchD, DEnds.unname, repF, D.eqTo, at_0, at_s, at_nil, set_0, set_s, fzd, frd, if_true, if_false, Bool.not_true, Bool.not_false, true_and, and_true, Bool.false_eq_true, ↓reduceIte, lenF, lenD, allF, anyF, sumF, absF, intF, tupleF, swM, ewM, eqv_int, eqv_str, eqv_bl, D.isTy, Int.cast_ofNat_Int, addD_int, addD_str, addD_lst, iaddD_int, iaddD_str, subD_int, mulD_int, mulD_str, mulD_lst, fdivD_int, modD_int, powD_int, negD_int, eqD, neD_str, neD_int, ltD_int, leD_int, gtD_int, geD_int, isD, isnD, D.isNon, inDv, ninDv, ixD_lst, ixD_tup, ixD_str, slD_lst, slD_frl, slD_str, dLc, dLook, Slot.calm]
    by_cases hl : ds.length ≤ 50
    · rw [decide_eq_false (by omega)]
      try simp -implicitDefEqProofs only [runD, startE, outsE, outs_0, outs_s, List.length_cons, List.length_nil, List.cons_append, List.nil_append, List.replicate, Nat.sub_zero, Nat.add_one_sub_one, Nat.reduceSub, Nat.reduceAdd, dC, dVar_M, dVarM_fz, dVarM_own, dIxN_M, dIxM_fz, dIxM_own, dFnN_M, dFnM_fz, dFnM_own, dOp, dUn, dArgs, dLst, dTup, dFn, dIsi, dMs, dPart, dSl, dIfE, Slot.known, tVal, tTru, tAnd, tOr, tNot, dAnd, dOr, dNot, dChain, iLst, iTup, iStr, iRng1, iRng2, iEnum, iZip, gN, gNs, gT, Tgt.g, tYes, wipeE, backE, dAVs, dCall, avSlot, AV.ok, Slot.isOwn, bA_nil, bA_v, bA_m, D.isRef, List.all_cons, List.all_nil, List.map_cons, List.map_nil, Bool.and_true, Bool.true_and, List.tail_cons, List.tail_nil, List.head?_cons, sNx, sSeq, sRet, sRetN, sExp, sAsg, sAsgO, sIf, sAug, sFor, sWh, sBrk, sCnt, sRaise, sApp, Slot.ownL, sPut, sPar, sParL, sFld, dFld, dMake, mkC, dMakeV, dCm, dObj, D.isObj, dCallV, dCallS, dEqO, dIsO, dDct0, isBD_bl, notBD_bl, revD_lst, sPar3, sTrys, catchD, DEnds.unname, repF, D.eqTo, at_0, at_s, at_nil, set_0, set_s, fzd, frd, if_true, if_false, Bool.not_true, Bool.not_false, true_and, and_true, Bool.false_eq_true, ↓reduceIte, lenF, lenD, allF, anyF, sumF, absF, intF, tupleF, swM, ewM, eqv_int, eqv_str, eqv_bl, D.isTy, Int.cast_ofNat_Int, addD_int, addD_str, addD_lst, iaddD_int, iaddD_str, subD_int, mulD_int, mulD_str, mulD_lst, fdivD_int, modD_int, powD_int, negD_int, eqD, neD_str, neD_int, ltD_int, leD_int, gtD_int, geD_int, isD, isnD, D.isNon, inDv, ninDv, ixD_lst, ixD_tup, ixD_str, slD_lst, slD_frl, slD_str, dLc, dLook, Slot.calm]
      exact ⟨by show _ ≤ 16777216; omega, ds, rfl, (hyes ds rfl hl).imp fun r outs h => h _⟩
    · rw [decide_eq_true (by omega)]
      try simp -implicitDefEqProofs only [runD, startE, outsE, outs_0, outs_s, List.length_cons, List.length_nil, List.cons_append, List.nil_append, List.replicate, Nat.sub_zero, Nat.add_one_sub_one, Nat.reduceSub, Nat.reduceAdd, dC, dVar_M, dVarM_fz, dVarM_own, dIxN_M, dIxM_fz, dIxM_own, dFnN_M, dFnM_fz, dFnM_own, dOp, dUn, dArgs, dLst, dTup, dFn, dIsi, dMs, dPart, dSl, dIfE, Slot.known, tVal, tTru, tAnd, tOr, tNot, dAnd, dOr, dNot, dChain, iLst, iTup, iStr, iRng1, iRng2, iEnum, iZip, gN, gNs, gT, Tgt.g, tYes, wipeE, backE, dAVs, dCall, avSlot, AV.ok, Slot.isOwn, bA_nil, bA_v, bA_m, D.isRef, List.all_cons, List.all_nil, List.map_cons, List.map_nil, Bool.and_true, Bool.true_and, List.tail_cons, List.tail_nil, List.head?_cons, sNx, sSeq, sRet, sRetN, sExp, sAsg, sAsgO, sIf, sAug, sFor, sWh, sBrk, sCnt, sRaise, sApp, Slot.ownL, sPut, sPar, sParL, sFld, dFld, dMake, mkC, dMakeV, dCm, dObj, D.isObj, dCallV, dCallS, dEqO, dIsO, dDct0, isBD_bl, notBD_bl, revD_lst, sPar3, sTrys, catchD, DEnds.unname, repF, D.eqTo, at_0, at_s, at_nil, set_0, set_s, fzd, frd, if_true, if_false, Bool.not_true, Bool.not_false, true_and, and_true, Bool.false_eq_true, ↓reduceIte, lenF, lenD, allF, anyF, sumF, absF, intF, tupleF, swM, ewM, eqv_int, eqv_str, eqv_bl, D.isTy, Int.cast_ofNat_Int, addD_int, addD_str, addD_lst, iaddD_int, iaddD_str, subD_int, mulD_int, mulD_str, mulD_lst, fdivD_int, modD_int, powD_int, negD_int, eqD, neD_str, neD_int, ltD_int, leD_int, gtD_int, geD_int, isD, isnD, D.isNon, inDv, ninDv, ixD_lst, ixD_tup, ixD_str, slD_lst, slD_frl, slD_str, dLc, dLook, Slot.calm]
      exact hno (fun ds' e => by cases e; omega) _
  | obj c x => exact absurd rfl hp
  | cls c => exact absurd rfl hp
  | frl x => exact absurd rfl (hnf x)
  | _ => try simp -implicitDefEqProofs only [runD, startE, outsE, outs_0, outs_s, List.length_cons, List.length_nil, List.cons_append, List.nil_append, List.replicate, Nat.sub_zero, Nat.add_one_sub_one, Nat.reduceSub, Nat.reduceAdd, dC, dVar_M, dVarM_fz, dVarM_own, dIxN_M, dIxM_fz, dIxM_own, dFnN_M, dFnM_fz, dFnM_own, dOp, dUn, dArgs, dLst, dTup, dFn, dIsi, dMs, dPart, dSl, dIfE, Slot.known, tVal, tTru, tAnd, tOr, tNot, dAnd, dOr, dNot, dChain, iLst, iTup, iStr, iRng1, iRng2, iEnum, iZip, gN, gNs, gT, Tgt.g, tYes, wipeE, backE, dAVs, dCall, avSlot, AV.ok, Slot.isOwn, bA_nil, bA_v, bA_m, D.isRef, List.all_cons, List.all_nil, List.map_cons, List.map_nil, Bool.and_true, Bool.true_and, List.tail_cons, List.tail_nil, List.head?_cons, sNx, sSeq, sRet, sRetN, sExp, sAsg, sAsgO, sIf, sAug, sFor, sWh, sBrk, sCnt, sRaise, sApp, Slot.ownL, sPut, sPar, sParL, sFld, dFld, dMake, mkC, dMakeV, dCm, dObj, D.isObj, dCallV, dCallS, dEqO, dIsO, dDct0, isBD_bl, notBD_bl, revD_lst, sPar3, sTrys, catchD, DEnds.unname, repF, D.eqTo, at_0, at_s, at_nil, set_0, set_s, fzd, frd, if_true, if_false, Bool.not_true, Bool.not_false, true_and, and_true, Bool.false_eq_true, ↓reduceIte, lenF, lenD, allF, anyF, sumF, absF, intF, tupleF, swM, ewM, eqv_int, eqv_str, eqv_bl, D.isTy, Int.cast_ofNat_Int, addD_int, addD_str, addD_lst, iaddD_int, iaddD_str, subD_int, mulD_int, mulD_str, mulD_lst, fdivD_int, modD_int, powD_int, negD_int, eqD, neD_str, neD_int, ltD_int, leD_int, gtD_int, geD_int, isD, isnD, D.isNon, inDv, ninDv, ixD_lst, ixD_tup, ixD_str, slD_lst, slD_frl, slD_str, dLc, dLook, Slot.calm]; exact ⟨false, rfl, hno (fun ds' e => by cases e) _⟩
/-- single: 0 step -/
def b_single : DS := sSeq (sIf (tNot (tVal (dCall C_is_step [.v (dVar 0)]))) (sRaise 2 (dVar 0)) (sNx)) (sRet (dCall C_effect_of [.v (dLst [dVar 0])]))
def C_single : Con := fun args Q E => ∃ d, args = [.fz d] ∧ d.plain ∧ (isStep d = false → ∀ outs, E ⟨2, d⟩ outs) ∧ (isStep d = true → ∃ s, d = stepD s ∧ ∀ r outs, r.d = (effOf [s]).D → Q r outs)
theorem p_single : ∀ args Q E, args.length = 1 → C_single args Q E → runD 1 b_single args Q E := by
  intro args Q E _ h
  obtain ⟨d, rfl, hp, h1, h2⟩ := h
  unfold b_single
  try simp -implicitDefEqProofs only [runD, startE, outsE, outs_0, outs_s, List.length_cons, List.length_nil, List.cons_append, List.nil_append, List.replicate, Nat.sub_zero, Nat.add_one_sub_one, Nat.reduceSub, Nat.reduceAdd, dC, dVar_M, dVarM_fz, dVarM_own, dIxN_M, dIxM_fz, dIxM_own, dFnN_M, dFnM_fz, dFnM_own, dOp, dUn, dArgs, dLst, dTup, dFn, dIsi, dMs, dPart, dSl, dIfE, Slot.known, tVal, tTru, tAnd, tOr, tNot, dAnd, dOr, dNot, dChain, iLst, iTup, iStr, iRng1, iRng2, iEnum, iZip, gN, gNs, gT, Tgt.g, tYes, wipeE, backE, dAVs, dCall, avSlot, AV.ok, Slot.isOwn, bA_nil, bA_v, bA_m, D.isRef, List.all_cons, List.all_nil, List.map_cons, List.map_nil, Bool.and_true, Bool.true_and, List.tail_cons, List.tail_nil, List.head?_cons, sNx, sSeq, sRet, sRetN, sExp, sAsg, sAsgO, sIf, sAug, sFor, sWh, sBrk, sCnt, sRaise, sApp, Slot.ownL, sPut, sPar, sParL, sFld, dFld, dMake, mkC, dMakeV, dCm, dObj, D.isObj, dCallV, dCallS, dEqO, dIsO, dDct0, isBD_bl, notBD_bl, revD_lst, sPar3, sTrys, catchD, DEnds.unname, repF, D.eqTo, at_0, at_s, at_nil, set_0, set_s, fzd, frd, if_true, if_false, Bool.not_true, Bool.not_false, true_and, and_true, Bool.false_eq_true, ↓reduceIte, lenF, lenD, allF, anyF, sumF, absF, intF, tupleF, swM, ewM, eqv_int, eqv_str, eqv_bl, D.isTy, Int.cast_ofNat_Int, addD_int, addD_str, addD_lst, iaddD_int, iaddD_str, subD_int, mulD_int, mulD_str, mulD_lst, fdivD_int, modD_int, powD_int, negD_int, eqD, neD_str, neD_int, ltD_int, leD_int, gtD_int, geD_int, isD, isnD, D.isNon, inDv, ninDv, ixD_lst, ixD_tup, ixD_str, slD_lst, slD_frl, slD_str, dLc, dLook, Slot.calm]
  refine ⟨d, rfl, hp, fun outs => ?_⟩
  try simp -implicitDefEqProofs only [runD, startE, outsE, outs_0, outs_s, List.length_cons, List.length_nil, List.cons_append, List.nil_append, List.replicate, Nat.sub_zero, Nat.add_one_sub_one, Nat.reduceSub, Nat.reduceAdd, dC, dVar_M, dVarM_fz, dVarM_own, dIxN_M, dIxM_fz, dIxM_own, dFnN_M, dFnM_fz, dFnM_own, dOp, dUn, dArgs, dLst, dTup, dFn, dIsi, dMs, dPart, dSl, dIfE, Slot.known, tVal, tTru, tAnd, tOr, tNot, dAnd, dOr, dNot, dChain, iLst, iTup, iStr, iRng1, iRng2, iEnum, iZip, gN, gNs, gT, Tgt.g, tYes, wipeE, backE, dAVs, dCall, avSlot, AV.ok, Slot.isOwn, bA_nil, bA_v, bA_m, D.isRef, List.all_cons, List.all_nil, List.map_cons, List.map_nil, Bool.and_true, Bool.true_and, List.tail_cons, List.tail_nil, List.head?_cons, sNx, sSeq, sRet, sRetN, sExp, sAsg, sAsgO, sIf, sAug, sFor, sWh, sBrk, sCnt, sRaise, sApp, Slot.ownL, sPut, sPar, sParL, sFld, dFld, dMake, mkC, dMakeV, dCm, dObj, D.isObj, dCallV, dCallS, dEqO, dIsO, dDct0, isBD_bl, notBD_bl, revD_lst, sPar3, sTrys, catchD, DEnds.unname, repF, D.eqTo, at_0, at_s, at_nil, set_0, set_s, fzd, frd, if_true, if_false, Bool.not_true, Bool.not_false, true_and, and_true, Bool.false_eq_true, ↓reduceIte, lenF, lenD, allF, anyF, sumF, absF, intF, tupleF, swM, ewM, eqv_int, eqv_str, eqv_bl, D.isTy, Int.cast_ofNat_Int, addD_int, addD_str, addD_lst, iaddD_int, iaddD_str, subD_int, mulD_int, mulD_str, mulD_lst, fdivD_int, modD_int, powD_int, negD_int, eqD, neD_str, neD_int, ltD_int, leD_int, gtD_int, geD_int, isD, isnD, D.isNon, inDv, ninDv, ixD_lst, ixD_tup, ixD_str, slD_lst, slD_frl, slD_str, dLc, dLook, Slot.calm]
  cases hs : isStep d with
  | false => exact h1 hs _
  | true =>
    obtain ⟨s, rfl, hq⟩ := h2 hs
    try simp -implicitDefEqProofs only [runD, startE, outsE, outs_0, outs_s, List.length_cons, List.length_nil, List.cons_append, List.nil_append, List.replicate, Nat.sub_zero, Nat.add_one_sub_one, Nat.reduceSub, Nat.reduceAdd, dC, dVar_M, dVarM_fz, dVarM_own, dIxN_M, dIxM_fz, dIxM_own, dFnN_M, dFnM_fz, dFnM_own, dOp, dUn, dArgs, dLst, dTup, dFn, dIsi, dMs, dPart, dSl, dIfE, Slot.known, tVal, tTru, tAnd, tOr, tNot, dAnd, dOr, dNot, dChain, iLst, iTup, iStr, iRng1, iRng2, iEnum, iZip, gN, gNs, gT, Tgt.g, tYes, wipeE, backE, dAVs, dCall, avSlot, AV.ok, Slot.isOwn, bA_nil, bA_v, bA_m, D.isRef, List.all_cons, List.all_nil, List.map_cons, List.map_nil, Bool.and_true, Bool.true_and, List.tail_cons, List.tail_nil, List.head?_cons, sNx, sSeq, sRet, sRetN, sExp, sAsg, sAsgO, sIf, sAug, sFor, sWh, sBrk, sCnt, sRaise, sApp, Slot.ownL, sPut, sPar, sParL, sFld, dFld, dMake, mkC, dMakeV, dCm, dObj, D.isObj, dCallV, dCallS, dEqO, dIsO, dDct0, isBD_bl, notBD_bl, revD_lst, sPar3, sTrys, catchD, DEnds.unname, repF, D.eqTo, at_0, at_s, at_nil, set_0, set_s, fzd, frd, if_true, if_false, Bool.not_true, Bool.not_false, true_and, and_true, Bool.false_eq_true, ↓reduceIte, lenF, lenD, allF, anyF, sumF, absF, intF, tupleF, swM, ewM, eqv_int, eqv_str, eqv_bl, D.isTy, Int.cast_ofNat_Int, addD_int, addD_str, addD_lst, iaddD_int, iaddD_str, subD_int, mulD_int, mulD_str, mulD_lst, fdivD_int, modD_int, powD_int, negD_int, eqD, neD_str, neD_int, ltD_int, leD_int, gtD_int, geD_int, isD, isnD, D.isNon, inDv, ninDv, ixD_lst, ixD_tup, ixD_str, slD_lst, slD_frl, slD_str, dLc, dLook, Slot.calm]
    have ok : okSeq [s] := ⟨by show 1 ≤ 400; decide, fun x hx => by
      rw [List.mem_singleton] at hx
      subst hx
      exact hs⟩
    have hq2 : ∀ r outs, r.d = effD [s] → Q r outs := hq
    refine ⟨by decide, seqD [s], rfl, plainL_seq [s], fun _ => ⟨[s], rfl, ok, fun r outs hr => hq _ _ hr⟩, fun v e => by rw [firstInv_seq ok] at e; cases e⟩
theorem parts_eqv (a b : Eff) : D.eqv a.parts b.parts = (a.t == b.t && (a.p == b.p && (a.c : Int) == (b.c : Int))) := by
  unfold Eff.parts
  simp only [D.eqv, D.eqvL, Bool.and_true]
theorem eqv_same {a b : Eff} : (a.t == b.t && (a.p == b.p && (a.c : Int) == (b.c : Int))) = true ↔ a = b := by
  obtain ⟨t, p, c⟩ := a
  obtain ⟨t', p', c'⟩ := b
  simp only [Bool.and_eq_true, beq_iff_eq, Eff.mk.injEq]
  constructor <;> rintro ⟨h1, h2, h3⟩ <;> exact ⟨h1, h2, by omega⟩
/-- Effect.__eq__: 0 self, 1 other -/
def b_Effect___eq__ : DS := sSeq (sIf (tNot (tVal (dIsO 0 (dVar 1)))) (sRet (dC (.bl false))) (sNx)) (sRet (dOp eqD (dCall C_parts_of [.v (dVar 0)]) (dCall C_parts_of [.v (dVar 1)])))
def C_Effect___eq__ : Con := fun args Q _ => ∃ (a : Eff) (d : D) (b : Bool), args = [.fz a.D, .fz d] ∧ d.isCls 0 = some b ∧ (b = false → ∀ outs, Q (.fz (.bl false)) outs) ∧ (b = true → ∃ e : Eff, d = e.D ∧ ∀ k outs, (k = true ↔ a = e) → Q (.fz (.bl k)) outs)
theorem p_Effect___eq__ : ∀ args Q E, args.length = 2 → C_Effect___eq__ args Q E → runD 2 b_Effect___eq__ args Q E := by
  intro args Q E _ h
  obtain ⟨a, d, b, rfl, hb, h1, h2⟩ := h
  unfold b_Effect___eq__
  try simp -implicitDefEqProofs only [runD, startE, outsE, outs_0, outs_s, List.length_cons, List.length_nil, List.cons_append, List.nil_append, List.replicate, Nat.sub_zero, Nat.add_one_sub_one, Nat.reduceSub, Nat.reduceAdd, dC, dVar_M, dVarM_fz, dVarM_own, dIxN_M, dIxM_fz, dIxM_own, dFnN_M, dFnM_fz, dFnM_own, dOp, dUn, dArgs, dLst, dTup, dFn, dIsi, dMs, dPart, dSl, dIfE, Slot.known, tVal, tTru, tAnd, tOr, tNot, dAnd, dOr, dNot, dChain, iLst, iTup, iStr, iRng1, iRng2, iEnum, iZip, gN, gNs, gT, Tgt.g, tYes, wipeE, backE, dAVs, dCall, avSlot, AV.ok, Slot.isOwn, bA_nil, bA_v, bA_m, D.isRef, List.all_cons, List.all_nil, List.map_cons, List.map_nil, Bool.and_true, Bool.true_and, List.tail_cons, List.tail_nil, List.head?_cons, sNx, sSeq, sRet, sRetN, sExp, sAsg, sAsgO, sIf, sAug, sFor, sWh, sBrk, sCnt, sRaise, sApp, Slot.ownL, sPut, sPar, sParL, sFld, dFld, dMake, mkC, dMakeV, dCm, dObj, D.isObj, dCallV, dCallS, dEqO, dIsO, dDct0, isBD_bl, notBD_bl, revD_lst, sPar3, sTrys, catchD, DEnds.unname, repF, D.eqTo, at_0, at_s, at_nil, set_0, set_s, fzd, frd, if_true, if_false, Bool.not_true, Bool.not_false, true_and, and_true, Bool.false_eq_true, ↓reduceIte, lenF, lenD, allF, anyF, sumF, absF, intF, tupleF, swM, ewM, eqv_int, eqv_str, eqv_bl, D.isTy, Int.cast_ofNat_Int, addD_int, addD_str, addD_lst, iaddD_int, iaddD_str, subD_int, mulD_int, mulD_str, mulD_lst, fdivD_int, modD_int, powD_int, negD_int, eqD, neD_str, neD_int, ltD_int, leD_int, gtD_int, geD_int, isD, isnD, D.isNon, inDv, ninDv, ixD_lst, ixD_tup, ixD_str, slD_lst, slD_frl, slD_str, dLc, dLook, Slot.calm]
  refine ⟨b, hb, ?_⟩
  try simp -implicitDefEqProofs only [runD, startE, outsE, outs_0, outs_s, List.length_cons, List.length_nil, List.cons_append, List.nil_append, List.replicate, Nat.sub_zero, Nat.add_one_sub_one, Nat.reduceSub, Nat.reduceAdd, dC, dVar_M, dVarM_fz, dVarM_own, dIxN_M, dIxM_fz, dIxM_own, dFnN_M, dFnM_fz, dFnM_own, dOp, dUn, dArgs, dLst, dTup, dFn, dIsi, dMs, dPart, dSl, dIfE, Slot.known, tVal, tTru, tAnd, tOr, tNot, dAnd, dOr, dNot, dChain, iLst, iTup, iStr, iRng1, iRng2, iEnum, iZip, gN, gNs, gT, Tgt.g, tYes, wipeE, backE, dAVs, dCall, avSlot, AV.ok, Slot.isOwn, bA_nil, bA_v, bA_m, D.isRef, List.all_cons, List.all_nil, List.map_cons, List.map_nil, Bool.and_true, Bool.true_and, List.tail_cons, List.tail_nil, List.head?_cons, sNx, sSeq, sRet, sRetN, sExp, sAsg, sAsgO, sIf, sAug, sFor, sWh, sBrk, sCnt, sRaise, sApp, Slot.ownL, sPut, sPar, sParL, sFld, dFld, dMake, mkC, dMakeV, dCm, dObj, D.isObj, dCallV, dCallS, dEqO, dIsO, dDct0, isBD_bl, notBD_bl, revD_lst, sPar3, sTrys, catchD, DEnds.unname, repF, D.eqTo, at_0, at_s, at_nil, set_0, set_s, fzd, frd, if_true, if_false, Bool.not_true, Bool.not_false, true_and, and_true, Bool.false_eq_true, ↓reduceIte, lenF, lenD, allF, anyF, sumF, absF, intF, tupleF, swM, ewM, eqv_int, eqv_str, eqv_bl, D.isTy, Int.cast_ofNat_Int, addD_int, addD_str, addD_lst, iaddD_int, iaddD_str, subD_int, mulD_int, mulD_str, mulD_lst, fdivD_int, modD_int, powD_int, negD_int, eqD, neD_str, neD_int, ltD_int, leD_int, gtD_int, geD_int, isD, isnD, D.isNon, inDv, ninDv, ixD_lst, ixD_tup, ixD_str, slD_lst, slD_frl, slD_str, dLc, dLook, Slot.calm]
  cases b with
  | false => exact h1 rfl _
  | true =>
    obtain ⟨e, rfl, hq⟩ := h2 rfl
    try simp -implicitDefEqProofs only [runD, startE, outsE, outs_0, outs_s, List.length_cons, List.length_nil, List.cons_append, List.nil_append, List.replicate, Nat.sub_zero, Nat.add_one_sub_one, Nat.reduceSub, Nat.reduceAdd, dC, dVar_M, dVarM_fz, dVarM_own, dIxN_M, dIxM_fz, dIxM_own, dFnN_M, dFnM_fz, dFnM_own, dOp, dUn, dArgs, dLst, dTup, dFn, dIsi, dMs, dPart, dSl, dIfE, Slot.known, tVal, tTru, tAnd, tOr, tNot, dAnd, dOr, dNot, dChain, iLst, iTup, iStr, iRng1, iRng2, iEnum, iZip, gN, gNs, gT, Tgt.g, tYes, wipeE, backE, dAVs, dCall, avSlot, AV.ok, Slot.isOwn, bA_nil, bA_v, bA_m, D.isRef, List.all_cons, List.all_nil, List.map_cons, List.map_nil, Bool.and_true, Bool.true_and, List.tail_cons, List.tail_nil, List.head?_cons, sNx, sSeq, sRet, sRetN, sExp, sAsg, sAsgO, sIf, sAug, sFor, sWh, sBrk, sCnt, sRaise, sApp, Slot.ownL, sPut, sPar, sParL, sFld, dFld, dMake, mkC, dMakeV, dCm, dObj, D.isObj, dCallV, dCallS, dEqO, dIsO, dDct0, isBD_bl, notBD_bl, revD_lst, sPar3, sTrys, catchD, DEnds.unname, repF, D.eqTo, at_0, at_s, at_nil, set_0, set_s, fzd, frd, if_true, if_false, Bool.not_true, Bool.not_false, true_and, and_true, Bool.false_eq_true, ↓reduceIte, lenF, lenD, allF, anyF, sumF, absF, intF, tupleF, swM, ewM, eqv_int, eqv_str, eqv_bl, D.isTy, Int.cast_ofNat_Int, addD_int, addD_str, addD_lst, iaddD_int, iaddD_str, subD_int, mulD_int, mulD_str, mulD_lst, fdivD_int, modD_int, powD_int, negD_int, eqD, neD_str, neD_int, ltD_int, leD_int, gtD_int, geD_int, isD, isnD, D.isNon, inDv, ninDv, ixD_lst, ixD_tup, ixD_str, slD_lst, slD_frl, slD_str, dLc, dLook, Slot.calm]
    refine ⟨a, rfl, fun r outs hr => ?_⟩
    simp only [hr]
    try simp -implicitDefEqProofs only [runD, startE, outsE, outs_0, outs_s, List.length_cons, List.length_nil, List.cons_append, List.nil_append, List.replicate, Nat.sub_zero, Nat.add_one_sub_one, Nat.reduceSub, Nat.reduceAdd, dC, dVar_M, dVarM_fz, dVarM_own, dIxN_M, dIxM_fz, dIxM_own, dFnN_M, dFnM_fz, dFnM_own, dOp, dUn, dArgs, dLst, dTup, dFn, dIsi, dMs, dPart, dSl, dIfE, Slot.known, tVal, tTru, tAnd, tOr, tNot, dAnd, dOr, dNot, dChain, iLst, iTup, iStr, iRng1, iRng2, iEnum, iZip, gN, gNs, gT, Tgt.g, tYes, wipeE, backE, dAVs, dCall, avSlot, AV.ok, Slot.isOwn, bA_nil, bA_v, bA_m, D.isRef, List.all_cons, List.all_nil, List.map_cons, List.map_nil, Bool.and_true, Bool.true_and, List.tail_cons, List.tail_nil, List.head?_cons, sNx, sSeq, sRet, sRetN, sExp, sAsg, sAsgO, sIf, sAug, sFor, sWh, sBrk, sCnt, sRaise, sApp, Slot.ownL, sPut, sPar, sParL, sFld, dFld, dMake, mkC, dMakeV, dCm, dObj, D.isObj, dCallV, dCallS, dEqO, dIsO, dDct0, isBD_bl, notBD_bl, revD_lst, sPar3, sTrys, catchD, DEnds.unname, repF, D.eqTo, at_0, at_s, at_nil, set_0, set_s, fzd, frd, if_true, if_false, Bool.not_true, Bool.not_false, true_and, and_true, Bool.false_eq_true, ↓reduceIte, lenF, lenD, allF, anyF, sumF, absF, intF, tupleF, swM, ewM, eqv_int, eqv_str, eqv_bl, D.isTy, Int.cast_ofNat_Int, addD_int, addD_str, addD_lst, iaddD_int, iaddD_str, subD_int, mulD_int, mulD_str, mulD_lst, fdivD_int, modD_int, powD_int, negD_int, eqD, neD_str, neD_int, ltD_int, leD_int, gtD_int, geD_int, isD, isnD, D.isNon, inDv, ninDv, ixD_lst, ixD_tup, ixD_str, slD_lst, slD_frl, slD_str, dLc, dLook, Slot.calm]
    refine ⟨e, rfl, fun r outs hr => ?_⟩
    simp only [hr]
    try simp -implicitDefEqProofs only [runD, startE, outsE, outs_0, outs_s, List.length_cons, List.length_nil, List.cons_append, List.nil_append, List.replicate, Nat.sub_zero, Nat.add_one_sub_one, Nat.reduceSub, Nat.reduceAdd, dC, dVar_M, dVarM_fz, dVarM_own, dIxN_M, dIxM_fz, dIxM_own, dFnN_M, dFnM_fz, dFnM_own, dOp, dUn, dArgs, dLst, dTup, dFn, dIsi, dMs, dPart, dSl, dIfE, Slot.known, tVal, tTru, tAnd, tOr, tNot, dAnd, dOr, dNot, dChain, iLst, iTup, iStr, iRng1, iRng2, iEnum, iZip, gN, gNs, gT, Tgt.g, tYes, wipeE, backE, dAVs, dCall, avSlot, AV.ok, Slot.isOwn, bA_nil, bA_v, bA_m, D.isRef, List.all_cons, List.all_nil, List.map_cons, List.map_nil, Bool.and_true, Bool.true_and, List.tail_cons, List.tail_nil, List.head?_cons, sNx, sSeq, sRet, sRetN, sExp, sAsg, sAsgO, sIf, sAug, sFor, sWh, sBrk, sCnt, sRaise, sApp, Slot.ownL, sPut, sPar, sParL, sFld, dFld, dMake, mkC, dMakeV, dCm, dObj, D.isObj, dCallV, dCallS, dEqO, dIsO, dDct0, isBD_bl, notBD_bl, revD_lst, sPar3, sTrys, catchD, DEnds.unname, repF, D.eqTo, at_0, at_s, at_nil, set_0, set_s, fzd, frd, if_true, if_false, Bool.not_true, Bool.not_false, true_and, and_true, Bool.false_eq_true, ↓reduceIte, lenF, lenD, allF, anyF, sumF, absF, intF, tupleF, swM, ewM, eqv_int, eqv_str, eqv_bl, D.isTy, Int.cast_ofNat_Int, addD_int, addD_str, addD_lst, iaddD_int, iaddD_str, subD_int, mulD_int, mulD_str, mulD_lst, fdivD_int, modD_int, powD_int, negD_int, eqD, neD_str, neD_int, ltD_int, leD_int, gtD_int, geD_int, isD, isnD, D.isNon, inDv, ninDv, ixD_lst, ixD_tup, ixD_str, slD_lst, slD_frl, slD_str, dLc, dLook, Slot.calm]
    refine ⟨.inr ⟨rfl, rfl⟩, ?_⟩
    refine hq _ _ ?_
    rw [parts_eqv]
    exact eqv_same
/-- ==, != of effects -/
theorem eq_use {a b : Eff} {G : Bool → Prop} {E : Exc → List Slot → Prop} (h : ∀ k, (k = true ↔ a = b) → G k) : C_Effect___eq__ [.fz a.D, .fz b.D] (fun t _ => ∃ k, t.d = .bl k ∧ G k) E :=
  ⟨a, b.D, true, rfl, rfl, fun z => (nomatch z), fun _ => ⟨b, rfl, fun k _ hk => ⟨k, rfl, h _ hk⟩⟩⟩
theorem eqT_use {a b : Eff} {G : Bool → Prop} {E : Exc → List Slot → Prop} (e : a = b) (h : G true) : C_Effect___eq__ [.fz a.D, .fz b.D] (fun t _ => ∃ k, t.d = .bl k ∧ G k) E := eq_use fun k hk => by rw [hk.mpr e]; exact h
end DL

set_option linter.all false
set_option autoImplicit false
set_option maxRecDepth 100000
namespace DL
/-! short ways to use the contracts at sequences and effects of sequences -/
def lawConP : Con := fun args Q _ => ∃ ns : List Int, ns.length ≤ 63 ∧ args = [.fz (.frl (ns.map .int))] ∧ ∀ outs, Q (.fz (.bl true)) outs
section
variable {Q : R → List Slot → Prop} {E : Exc → List Slot → Prop} {k : R → Prop} {a b c ss : List St2} {q : Tx} {e : Eff}
theorem parts_ok (e : Eff) : e.parts.eqOk 60 = true := rfl
theorem ne_parts {a b : Eff} (h : a = b) (hk : k (.fz (.bl false))) : neD a.parts b.parts k := by
  subst h
  exact ne_same (parts_ok a) hk
theorem parts_eq (ss : List St2) : D.tup [.str (itemsOf 45 ss), .str (itemsOf 43 ss), .int (coreOf ss)] = (effOf ss).parts := rfl
theorem okSeq_append {ss tt : List St2} (h1 : okSeq ss) (h2 : okSeq tt) (h : ss.length + tt.length ≤ 400) : okSeq (ss ++ tt) :=
  ⟨by rw [List.length_append]; exact h, fun s hs => (List.mem_append.mp hs).elim (h1.2 s) (h2.2 s)⟩
/-- composing the effects of sequences -/
theorem compL_seqs : ∀ (a : List St2) (l : List (List St2)), (∀ x ∈ a :: l, okSeq x) → (a ++ l.flatten).length ≤ 400 → compL (effOf a) (l.map effOf) = some (effOf (a ++ l.flatten))
  | a, [], _, _ => by simp [compL]
  | a, b :: l, h, hl => by
    have ha := h a List.mem_cons_self
    have hb := h b (List.mem_cons_of_mem _ List.mem_cons_self)
    rw [List.flatten_cons, ← List.append_assoc] at hl ⊢
    have hab : okSeq (a ++ b) := okSeq_append ha hb (by rw [List.length_append, List.length_append] at hl; omega)
    have e : comp (effOf a) (effOf b) = effOf (a ++ b) := (effOf_append (okSeq_signs ha) (okSeq_signs hb)).symm
    have ho : over (comp (effOf a) (effOf b)) = false := by rw [e]; exact over_iff.mpr ⟨(effOf_fit hab).t1, (effOf_fit hab).p1⟩
    rw [List.map_cons, compL, if_neg (by rw [ho]; decide), e]
    refine compL_seqs (a ++ b) l (fun x hx => ?_) hl
    rcases List.mem_cons.mp hx with rfl | hx
    · exact hab
    · exact h x (List.mem_cons_of_mem _ (List.mem_cons_of_mem _ hx))
theorem okSeq_nil : okSeq [] := ⟨by decide, fun s h => nomatch h⟩
theorem compL_all (l : List (List St2)) (h : ∀ x ∈ l, okSeq x) (hl : l.flatten.length ≤ 400) : compL idE (l.map effOf) = some (effOf l.flatten) := by
  have := compL_seqs [] l (fun x hx => (List.mem_cons.mp hx).elim (fun e => e ▸ okSeq_nil) (h x)) hl
  rwa [idE_of] at this
/-- compose(..) of effects of sequences -/
theorem compose_seqs {l : List (List St2)} (h : ∀ x ∈ l, okSeq x) (hl : l.flatten.length ≤ 400) (hq : ∀ r outs, r.d = (effOf l.flatten).D → Q r outs) : C_compose [.fz (.tup (l.map fun ss => (effOf ss).D))] Q E := by
  refine ⟨_, rfl, ?_⟩
  have e : (l.map fun ss => (effOf ss).D) = (l.map effOf).map Eff.D := by rw [List.map_map]; rfl
  rw [e]
  refine composeCon_of (fun e he => ?_) (compL_all l h hl) hq
  obtain ⟨ss, hs, rfl⟩ := List.mem_map.mp he
  exact effOf_fit (h ss hs)
theorem eff_use (ok : okSeq ss) (h : ∀ r outs, r.d = (effOf ss).D → Q r outs) : C_effect_of [.fz (seqD ss)] Q E :=
  ⟨seqD ss, rfl, plainL_seq ss, fun _ => ⟨ss, rfl, ok, h⟩, fun v e => by rw [firstInv_seq ok] at e; cases e⟩
theorem compose1_use (ha : okSeq a) (hq : ∀ r outs, r.d = (effOf a).D → Q r outs) : C_compose [.fz (.tup [(effOf a).D])] Q E :=
  compose_seqs (l := [a]) (fun x hx => by simp at hx; subst hx; exact ha) (by simp; exact ha.1) (by simpa using hq)
theorem compose2_use (ha : okSeq a) (hb : okSeq b) (hl : a.length + b.length ≤ 400) (hq : ∀ r outs, r.d = (effOf (a ++ b)).D → Q r outs) : C_compose [.fz (.tup [(effOf a).D, (effOf b).D])] Q E :=
  compose_seqs (l := [a, b]) (fun x hx => by simp at hx; rcases hx with rfl | rfl <;> assumption) (by simpa using hl) (by simpa using hq)
theorem compose3_use (ha : okSeq a) (hb : okSeq b) (hc : okSeq c) (hl : a.length + b.length + c.length ≤ 400) (hq : ∀ r outs, r.d = (effOf (a ++ b ++ c)).D → Q r outs) : C_compose [.fz (.tup [(effOf a).D, (effOf b).D, (effOf c).D])] Q E :=
  compose_seqs (l := [a, b, c]) (fun x hx => by simp at hx; rcases hx with rfl | rfl | rfl <;> assumption) (by simp; omega) (by simpa [List.append_assoc] using hq)
theorem compose0_use (hq : ∀ r outs, r.d = idE.D → Q r outs) : C_compose [.fz (.tup [])] Q E :=
  compose_seqs (l := []) (fun x hx => nomatch hx) (by decide) hq
theorem id_use (hq : ∀ r outs, r.d = idE.D → Q r outs) : C_Effect_identity [.fz (.cls 0)] Q E := ⟨rfl, hq⟩
theorem partsE_use (hq : ∀ r outs, r.d = e.parts → Q r outs) : C_parts_of [.fz e.D] Q E := ⟨e, rfl, hq⟩
theorem parts_use (hl : ss.length ≤ 1000000) (hq : ∀ r outs, r.d = (effOf ss).parts → Q r outs) : C__law_parts [.fz (seqD ss)] Q E := ⟨ss, rfl, hl, hq⟩
theorem composeI_right (ha : okSeq a) (hq : ∀ r outs, r.d = (effOf a).D → Q r outs) : C_compose [.fz (.tup [(effOf a).D, idE.D])] Q E :=
  compose2_use (b := []) ha okSeq_nil ha.1 (by simpa using hq)
theorem composeI_left (ha : okSeq a) (hq : ∀ r outs, r.d = (effOf a).D → Q r outs) : C_compose [.fz (.tup [idE.D, (effOf a).D])] Q E :=
  compose2_use (a := []) okSeq_nil ha (by simpa using ha.1) (by simpa using hq)
theorem add_seq (h : a.length + b.length ≤ 1000000) (hk : k (.fr (seqD (a ++ b)))) : addD (seqD a) (seqD b) k := by
  unfold seqD at hk ⊢
  rw [List.map_append] at hk
  exact ⟨by rw [List.length_map, List.length_map]; show _ ≤ 16777216; omega, hk⟩
theorem run_use (hq : isWord (.str q) 2100 = true) (ok : okSeq ss) (h : (effOf ss).Acc q) (hk : ∀ r outs, r.d = .str ((effOf ss).app q) → Q r outs) : C_run [.fz (.str q), .fz (seqD ss)] Q E := by
  have hr := (runs_iff (okSeq_signs ok) q 0).mpr h
  refine ⟨_, _, rfl, runCon_of hq ok ⟨fun i z => ?_, fun _ r outs e => ?_⟩⟩
  · rw [hr] at z; cases z
  · rw [runs_app (okSeq_signs ok) hr] at e; exact hk r outs e
theorem fail_use (hq : isWord (.str q) 2100 = true) (ok : okSeq ss) (h : ∀ r outs, (r.d.isNon = (effOf ss).acc q) → Q r outs) : C_failure [.fz (.str q), .fz (seqD ss)] Q E := by
  refine ⟨_, _, rfl, runCon_of hq ok fun r outs e => h r outs ?_⟩
  rw [e]
  have := runs_iff (okSeq_signs ok) q 0
  cases hx : (exec q ss 0).2 with
  | none => rw [hx] at this; exact (acc_iff.mpr (this.mp rfl)).symm
  | some i => rw [hx] at this; exact (acc_no fun z => nomatch this.mpr z).symm
theorem accepts_use (hq : isWord (.str q) 2100 = true) (h : ∀ outs, Q (.fz (.bl (e.acc q))) outs) : C_Effect_accepts [.fz e.D, .fz (.str q)] Q E :=
  ⟨e, .str q, rfl, (fun z => nomatch z), fun z => (by rw [hq] at z; cases z), fun _ => ⟨q, rfl, h⟩⟩
theorem apply_use (hq : isWord (.str q) 2100 = true) (hp : e.p.length ≤ 1000000) (ha : e.Acc q) (h : ∀ outs, Q (.fz (.str (e.app q))) outs) : C_Effect_apply [.fz e.D, .fz (.str q)] Q E :=
  ⟨e, .str q, rfl, (fun z => nomatch z), hp, fun z => (by rw [hq] at z; cases z), fun _ => ⟨q, rfl, fun _ => h, fun z => by rw [acc_iff.mpr ha] at z; cases z⟩⟩
theorem ne_str_same {t : Tx} (hk : k (.fz (.bl false))) : neD (.str t) (.str t) k := ne_same rfl hk
theorem ne_bl_same {t : Bool} (hk : k (.fz (.bl false))) : neD (.bl t) (.bl t) k := ne_same rfl hk
end
end DL

set_option linter.all false
set_option autoImplicit false
set_option maxRecDepth 100000
namespace DL
/-! all short queues over some letters -/
theorem addS_k {a b : Tx} {k : R → Prop} (hl : a.length + b.length ≤ 16777216) (h : k (.fz (.str (a ++ b)))) : addD (.str a) (.str b) k := by
  simp -implicitDefEqProofs only [runD, startE, outsE, outs_0, outs_s, List.length_cons, List.length_nil, List.cons_append, List.nil_append, List.replicate, Nat.sub_zero, Nat.add_one_sub_one, Nat.reduceSub, Nat.reduceAdd, dC, dVar_M, dVarM_fz, dVarM_own, dIxN_M, dIxM_fz, dIxM_own, dFnN_M, dFnM_fz, dFnM_own, dOp, dUn, dArgs, dLst, dTup, dFn, dIsi, dMs, dPart, dSl, dIfE, Slot.known, tVal, tTru, tAnd, tOr, tNot, dAnd, dOr, dNot, dChain, iLst, iTup, iStr, iRng1, iRng2, iEnum, iZip, gN, gNs, gT, Tgt.g, tYes, wipeE, backE, dAVs, dCall, avSlot, AV.ok, Slot.isOwn, bA_nil, bA_v, bA_m, D.isRef, List.all_cons, List.all_nil, List.map_cons, List.map_nil, Bool.and_true, Bool.true_and, List.tail_cons, List.tail_nil, List.head?_cons, sNx, sSeq, sRet, sRetN, sExp, sAsg, sAsgO, sIf, sAug, sFor, sWh, sBrk, sCnt, sRaise, sApp, Slot.ownL, sPut, sPar, sParL, sFld, dFld, dMake, mkC, dMakeV, dCm, dObj, D.isObj, dCallV, dCallS, dEqO, dIsO, dDct0, isBD_bl, notBD_bl, revD_lst, sPar3, sTrys, catchD, DEnds.unname, repF, D.eqTo, at_0, at_s, at_nil, set_0, set_s, fzd, frd, if_true, if_false, Bool.not_true, Bool.not_false, true_and, and_true, Bool.false_eq_true, ↓reduceIte, lenF, lenD, allF, anyF, sumF, absF, intF, tupleF, swM, ewM, eqv_int, eqv_str, eqv_bl, D.isTy, Int.cast_ofNat_Int, addD_int, addD_str, addD_lst, iaddD_int, iaddD_str, subD_int, mulD_int, mulD_str, mulD_lst, fdivD_int, modD_int, powD_int, negD_int, eqD, neD_str, neD_int, ltD_int, leD_int, gtD_int, geD_int, isD, isnD, D.isNon, inDv, ninDv, ixD_lst, ixD_tup, ixD_str, slD_lst, slD_frl, slD_str, dLc, dLook, Slot.calm]
  exact ⟨hl, h⟩
theorem isWord_of {x : Tx} {n : Nat} (h1 : x.length ≤ n) (h2 : x.all isItem = true) : isWord (.str x) n = true := by
  show (decide (x.length ≤ n) && x.all isItem) = true
  rw [h2, decide_eq_true h1]; rfl
def wordsD (qs : List Tx) : D := .lst (qs.map .str)
theorem add_words {a b : List Tx} {k : R → Prop} (h : a.length + b.length ≤ 16777216) (hk : k (.fr (wordsD (a ++ b)))) : addD (wordsD a) (wordsD b) k := by
  unfold wordsD at hk ⊢
  rw [List.map_append] at hk
  exact ⟨by rw [List.length_map, List.length_map]; exact h, hk⟩
/-- an entry of a list, whichever it is -/
theorem ix_in {xs : List D} {r : Int} {k : R → Prop} (h0 : 0 ≤ r) (h1 : r < xs.length) (h : ∀ d ∈ xs, k (.fz d)) : ixD (.lst xs) (.int r) k := by
  have hi : r.toNat < xs.length := by omega
  refine ⟨r.toNat, xs[r.toNat], ix_nat h0 h1, List.getElem?_eq_getElem hi, h _ (List.getElem_mem hi)⟩
/-- _law_queues: 0 _law_letters, 1 _law_most, 2 _law_found, 3 _law_last, 4 _law_size, 5 _law_longer, 6 _law_queue, 7 _law_item -/
def b__law_queues : DS := sSeq (sPar 2 3 (dLst [dC (.str [])]) (dLst [dC (.str [])])) (sSeq (sFor (iRng1 (dVar 1)) (gN 4) (sSeq (sAsg (gN 5) (dLst [])) (sSeq (sFor (iLst (dVar 3)) (gN 6) (sAsg (gN 5) (dOp addD (dVar 5) (dLc [7] (iStr (dVar 0)) (Tgt.g (.one 7)) (tYes) (dOp addD (dVar 6) (dVar 7)))))) (sSeq (sAsg (gN 2) (dOp addD (dVar 2) (dVar 5))) (sAsg (gN 3) (dVar 5)))))) (sRet (dVar 2)))
def C__law_queues : Con := fun args Q _ => ∃ (ls : Tx) (n : Nat), args = [.fz (.str ls), .fz (.int n)] ∧ ls.length ≤ 2 ∧ ls.all isItem = true ∧ n ≤ 7 ∧
  ∀ (qs : List Tx) r outs, (∀ q ∈ qs, q.length ≤ n ∧ q.all isItem = true) → qs.length ≤ 255 → r.d = wordsD qs → Q r outs
theorem p__law_queues : ∀ args Q E, args.length = 2 → C__law_queues args Q E → runD 8 b__law_queues args Q E := by
  intro args Q E _ h
  obtain ⟨ls, n, rfl, hl, hi, hn, hq⟩ := h
  unfold b__law_queues
  try simp -implicitDefEqProofs only [runD, startE, outsE, outs_0, outs_s, List.length_cons, List.length_nil, List.cons_append, List.nil_append, List.replicate, Nat.sub_zero, Nat.add_one_sub_one, Nat.reduceSub, Nat.reduceAdd, dC, dVar_M, dVarM_fz, dVarM_own, dIxN_M, dIxM_fz, dIxM_own, dFnN_M, dFnM_fz, dFnM_own, dOp, dUn, dArgs, dLst, dTup, dFn, dIsi, dMs, dPart, dSl, dIfE, Slot.known, tVal, tTru, tAnd, tOr, tNot, dAnd, dOr, dNot, dChain, iLst, iTup, iStr, iRng1, iRng2, iEnum, iZip, gN, gNs, gT, Tgt.g, tYes, wipeE, backE, dAVs, dCall, avSlot, AV.ok, Slot.isOwn, bA_nil, bA_v, bA_m, D.isRef, List.all_cons, List.all_nil, List.map_cons, List.map_nil, Bool.and_true, Bool.true_and, List.tail_cons, List.tail_nil, List.head?_cons, sNx, sSeq, sRet, sRetN, sExp, sAsg, sAsgO, sIf, sAug, sFor, sWh, sBrk, sCnt, sRaise, sApp, Slot.ownL, sPut, sPar, sParL, sFld, dFld, dMake, mkC, dMakeV, dCm, dObj, D.isObj, dCallV, dCallS, dEqO, dIsO, dDct0, isBD_bl, notBD_bl, revD_lst, sPar3, sTrys, catchD, DEnds.unname, repF, D.eqTo, at_0, at_s, at_nil, set_0, set_s, fzd, frd, if_true, if_false, Bool.not_true, Bool.not_false, true_and, and_true, Bool.false_eq_true, ↓reduceIte, lenF, lenD, allF, anyF, sumF, absF, intF, tupleF, swM, ewM, eqv_int, eqv_str, eqv_bl, D.isTy, Int.cast_ofNat_Int, addD_int, addD_str, addD_lst, iaddD_int, iaddD_str, subD_int, mulD_int, mulD_str, mulD_lst, fdivD_int, modD_int, powD_int, negD_int, eqD, neD_str, neD_int, ltD_int, leD_int, gtD_int, geD_int, isD, isnD, D.isNon, inDv, ninDv, ixD_lst, ixD_tup, ixD_str, slD_lst, slD_frl, slD_str, dLc, dLook, Slot.calm]
  refine ⟨by decide, by decide, ⟨by omega, by omega⟩, ?_⟩
  refine forL_inv (I := fun es ρ => ∃ (i m : Nat) (found last : List Tx) (s4 s5 s6 : Slot), es = rng (i : Int) m ∧ i + m = n ∧ ρ = [.fz (.str ls), .fz (.int n), .fz (wordsD found), .fz (wordsD last), s4, s5, s6, .no] ∧
      (∀ q ∈ found, q.length ≤ i ∧ q.all isItem = true) ∧ (∀ q ∈ last, q.length ≤ i ∧ q.all isItem = true) ∧ last.length ≤ 2 ^ i ∧ found.length + 1 ≤ 2 * 2 ^ i)
    (fun ρ h => ?_) (fun e es ρ h k hk => ?_) _ _ ⟨0, n, [[]], [[]], .no, .no, .no, rfl, by omega, rfl, ?_, ?_, by decide, by decide⟩
  · obtain ⟨i, m, found, last, s4, s5, s6, h1, h2, rfl, h3, h4, h5, h6⟩ := h
    cases m with
    | succ m => rw [rng_succ] at h1; cases h1
    | zero =>
      have hin : i = n := h2
      subst hin
      have hp : 2 ^ i ≤ 2 ^ 7 := Nat.pow_le_pow_right (by decide) hn
      try simp -implicitDefEqProofs only [runD, startE, outsE, outs_0, outs_s, List.length_cons, List.length_nil, List.cons_append, List.nil_append, List.replicate, Nat.sub_zero, Nat.add_one_sub_one, Nat.reduceSub, Nat.reduceAdd, dC, dVar_M, dVarM_fz, dVarM_own, dIxN_M, dIxM_fz, dIxM_own, dFnN_M, dFnM_fz, dFnM_own, dOp, dUn, dArgs, dLst, dTup, dFn, dIsi, dMs, dPart, dSl, dIfE, Slot.known, tVal, tTru, tAnd, tOr, tNot, dAnd, dOr, dNot, dChain, iLst, iTup, iStr, iRng1, iRng2, iEnum, iZip, gN, gNs, gT, Tgt.g, tYes, wipeE, backE, dAVs, dCall, avSlot, AV.ok, Slot.isOwn, bA_nil, bA_v, bA_m, D.isRef, List.all_cons, List.all_nil, List.map_cons, List.map_nil, Bool.and_true, Bool.true_and, List.tail_cons, List.tail_nil, List.head?_cons, sNx, sSeq, sRet, sRetN, sExp, sAsg, sAsgO, sIf, sAug, sFor, sWh, sBrk, sCnt, sRaise, sApp, Slot.ownL, sPut, sPar, sParL, sFld, dFld, dMake, mkC, dMakeV, dCm, dObj, D.isObj, dCallV, dCallS, dEqO, dIsO, dDct0, isBD_bl, notBD_bl, revD_lst, sPar3, sTrys, catchD, DEnds.unname, repF, D.eqTo, at_0, at_s, at_nil, set_0, set_s, fzd, frd, if_true, if_false, Bool.not_true, Bool.not_false, true_and, and_true, Bool.false_eq_true, ↓reduceIte, lenF, lenD, allF, anyF, sumF, absF, intF, tupleF, swM, ewM, eqv_int, eqv_str, eqv_bl, D.isTy, Int.cast_ofNat_Int, addD_int, addD_str, addD_lst, iaddD_int, iaddD_str, subD_int, mulD_int, mulD_str, mulD_lst, fdivD_int, modD_int, powD_int, negD_int, eqD, neD_str, neD_int, ltD_int, leD_int, gtD_int, geD_int, isD, isnD, D.isNon, inDv, ninDv, ixD_lst, ixD_tup, ixD_str, slD_lst, slD_frl, slD_str, dLc, dLook, Slot.calm]
      exact hq found _ _ h3 (by omega) rfl
  · obtain ⟨i, m, found, last, s4, s5, s6, h1, h2, rfl, h3, h4, h5, h6⟩ := h
    cases m with
    | zero => cases h1
    | succ m =>
      rw [rng_succ] at h1
      cases h1
      try simp -implicitDefEqProofs only [runD, startE, outsE, outs_0, outs_s, List.length_cons, List.length_nil, List.cons_append, List.nil_append, List.replicate, Nat.sub_zero, Nat.add_one_sub_one, Nat.reduceSub, Nat.reduceAdd, dC, dVar_M, dVarM_fz, dVarM_own, dIxN_M, dIxM_fz, dIxM_own, dFnN_M, dFnM_fz, dFnM_own, dOp, dUn, dArgs, dLst, dTup, dFn, dIsi, dMs, dPart, dSl, dIfE, Slot.known, tVal, tTru, tAnd, tOr, tNot, dAnd, dOr, dNot, dChain, iLst, iTup, iStr, iRng1, iRng2, iEnum, iZip, gN, gNs, gT, Tgt.g, tYes, wipeE, backE, dAVs, dCall, avSlot, AV.ok, Slot.isOwn, bA_nil, bA_v, bA_m, D.isRef, List.all_cons, List.all_nil, List.map_cons, List.map_nil, Bool.and_true, Bool.true_and, List.tail_cons, List.tail_nil, List.head?_cons, sNx, sSeq, sRet, sRetN, sExp, sAsg, sAsgO, sIf, sAug, sFor, sWh, sBrk, sCnt, sRaise, sApp, Slot.ownL, sPut, sPar, sParL, sFld, dFld, dMake, mkC, dMakeV, dCm, dObj, D.isObj, dCallV, dCallS, dEqO, dIsO, dDct0, isBD_bl, notBD_bl, revD_lst, sPar3, sTrys, catchD, DEnds.unname, repF, D.eqTo, at_0, at_s, at_nil, set_0, set_s, fzd, frd, if_true, if_false, Bool.not_true, Bool.not_false, true_and, and_true, Bool.false_eq_true, ↓reduceIte, lenF, lenD, allF, anyF, sumF, absF, intF, tupleF, swM, ewM, eqv_int, eqv_str, eqv_bl, D.isTy, Int.cast_ofNat_Int, addD_int, addD_str, addD_lst, iaddD_int, iaddD_str, subD_int, mulD_int, mulD_str, mulD_lst, fdivD_int, modD_int, powD_int, negD_int, eqD, neD_str, neD_int, ltD_int, leD_int, gtD_int, geD_int, isD, isnD, D.isNon, inDv, ninDv, ixD_lst, ixD_tup, ixD_str, slD_lst, slD_frl, slD_str, dLc, dLook, Slot.calm]
      refine ⟨by decide, ?_⟩
      show forL _ _ _ _ (last.map D.str) _
      refine forL_inv (I := fun es ρ => ∃ (rest longer : List Tx) (s6 : Slot), es = rest.map D.str ∧ ρ = [.fz (.str ls), .fz (.int n), .fz (wordsD found), .fz (wordsD last), .fz (.int i), .fz (wordsD longer), s6, .no] ∧
          (∀ q ∈ rest, q.length ≤ i ∧ q.all isItem = true) ∧ (∀ q ∈ longer, q.length ≤ i + 1 ∧ q.all isItem = true) ∧ longer.length + 2 * rest.length ≤ 2 * last.length)
        (fun ρ h => ?_) (fun e es ρ h k2 hk2 => ?_) _ _ ⟨last, [], s6, rfl, rfl, h4, fun q hq => (nomatch hq), by simp⟩
      · obtain ⟨rest, longer, s6, he, rfl, h7, h8, h9⟩ := h
        have hpw : 2 ^ (i + 1) = 2 * 2 ^ i := by rw [Nat.pow_succ]; omega
        have hp : 2 ^ i ≤ 2 ^ 7 := Nat.pow_le_pow_right (by decide) (by omega)
        have hlen : longer.length ≤ 2 * last.length := by omega
        try simp -implicitDefEqProofs only [runD, startE, outsE, outs_0, outs_s, List.length_cons, List.length_nil, List.cons_append, List.nil_append, List.replicate, Nat.sub_zero, Nat.add_one_sub_one, Nat.reduceSub, Nat.reduceAdd, dC, dVar_M, dVarM_fz, dVarM_own, dIxN_M, dIxM_fz, dIxM_own, dFnN_M, dFnM_fz, dFnM_own, dOp, dUn, dArgs, dLst, dTup, dFn, dIsi, dMs, dPart, dSl, dIfE, Slot.known, tVal, tTru, tAnd, tOr, tNot, dAnd, dOr, dNot, dChain, iLst, iTup, iStr, iRng1, iRng2, iEnum, iZip, gN, gNs, gT, Tgt.g, tYes, wipeE, backE, dAVs, dCall, avSlot, AV.ok, Slot.isOwn, bA_nil, bA_v, bA_m, D.isRef, List.all_cons, List.all_nil, List.map_cons, List.map_nil, Bool.and_true, Bool.true_and, List.tail_cons, List.tail_nil, List.head?_cons, sNx, sSeq, sRet, sRetN, sExp, sAsg, sAsgO, sIf, sAug, sFor, sWh, sBrk, sCnt, sRaise, sApp, Slot.ownL, sPut, sPar, sParL, sFld, dFld, dMake, mkC, dMakeV, dCm, dObj, D.isObj, dCallV, dCallS, dEqO, dIsO, dDct0, isBD_bl, notBD_bl, revD_lst, sPar3, sTrys, catchD, DEnds.unname, repF, D.eqTo, at_0, at_s, at_nil, set_0, set_s, fzd, frd, if_true, if_false, Bool.not_true, Bool.not_false, true_and, and_true, Bool.false_eq_true, ↓reduceIte, lenF, lenD, allF, anyF, sumF, absF, intF, tupleF, swM, ewM, eqv_int, eqv_str, eqv_bl, D.isTy, Int.cast_ofNat_Int, addD_int, addD_str, addD_lst, iaddD_int, iaddD_str, subD_int, mulD_int, mulD_str, mulD_lst, fdivD_int, modD_int, powD_int, negD_int, eqD, neD_str, neD_int, ltD_int, leD_int, gtD_int, geD_int, isD, isnD, D.isNon, inDv, ninDv, ixD_lst, ixD_tup, ixD_str, slD_lst, slD_frl, slD_str, dLc, dLook, Slot.calm]
        refine add_words (by omega) ?_
        refine hk _ ⟨i + 1, m, found ++ longer, longer, _, _, _, rfl, by omega, rfl, fun q hq => ?_, h8, by omega, by rw [List.length_append]; omega⟩
        rcases List.mem_append.mp hq with hq | hq
        · have := h3 q hq
          exact ⟨by omega, this.2⟩
        · exact h8 q hq
      · obtain ⟨rest, longer, s6, he, rfl, h7, h8, h9⟩ := h
        cases rest with
        | nil => cases he
        | cons q rest =>
          cases he
          have hq1 := h7 q List.mem_cons_self
          simp only [List.length_cons] at h9
          try simp -implicitDefEqProofs only [runD, startE, outsE, outs_0, outs_s, List.length_cons, List.length_nil, List.cons_append, List.nil_append, List.replicate, Nat.sub_zero, Nat.add_one_sub_one, Nat.reduceSub, Nat.reduceAdd, dC, dVar_M, dVarM_fz, dVarM_own, dIxN_M, dIxM_fz, dIxM_own, dFnN_M, dFnM_fz, dFnM_own, dOp, dUn, dArgs, dLst, dTup, dFn, dIsi, dMs, dPart, dSl, dIfE, Slot.known, tVal, tTru, tAnd, tOr, tNot, dAnd, dOr, dNot, dChain, iLst, iTup, iStr, iRng1, iRng2, iEnum, iZip, gN, gNs, gT, Tgt.g, tYes, wipeE, backE, dAVs, dCall, avSlot, AV.ok, Slot.isOwn, bA_nil, bA_v, bA_m, D.isRef, List.all_cons, List.all_nil, List.map_cons, List.map_nil, Bool.and_true, Bool.true_and, List.tail_cons, List.tail_nil, List.head?_cons, sNx, sSeq, sRet, sRetN, sExp, sAsg, sAsgO, sIf, sAug, sFor, sWh, sBrk, sCnt, sRaise, sApp, Slot.ownL, sPut, sPar, sParL, sFld, dFld, dMake, mkC, dMakeV, dCm, dObj, D.isObj, dCallV, dCallS, dEqO, dIsO, dDct0, isBD_bl, notBD_bl, revD_lst, sPar3, sTrys, catchD, DEnds.unname, repF, D.eqTo, at_0, at_s, at_nil, set_0, set_s, fzd, frd, if_true, if_false, Bool.not_true, Bool.not_false, true_and, and_true, Bool.false_eq_true, ↓reduceIte, lenF, lenD, allF, anyF, sumF, absF, intF, tupleF, swM, ewM, eqv_int, eqv_str, eqv_bl, D.isTy, Int.cast_ofNat_Int, addD_int, addD_str, addD_lst, iaddD_int, iaddD_str, subD_int, mulD_int, mulD_str, mulD_lst, fdivD_int, modD_int, powD_int, negD_int, eqD, neD_str, neD_int, ltD_int, leD_int, gtD_int, geD_int, isD, isnD, D.isNon, inDv, ninDv, ixD_lst, ixD_tup, ixD_str, slD_lst, slD_frl, slD_str, dLc, dLook, Slot.calm]
          refine ⟨own1 (fun d hd => nomatch hd), ?_⟩
          refine lcL_pure (p := fun _ => true) (f := fun d => match d with | .str c => .str (q ++ c) | _ => .non) _ _ (fun x hx k1 k2 h1 h2 => ?_) [] ?_ ?_
          · obtain ⟨c, hc, rfl⟩ := List.mem_map.mp hx
            try simp -implicitDefEqProofs only [runD, startE, outsE, outs_0, outs_s, List.length_cons, List.length_nil, List.cons_append, List.nil_append, List.replicate, Nat.sub_zero, Nat.add_one_sub_one, Nat.reduceSub, Nat.reduceAdd, dC, dVar_M, dVarM_fz, dVarM_own, dIxN_M, dIxM_fz, dIxM_own, dFnN_M, dFnM_fz, dFnM_own, dOp, dUn, dArgs, dLst, dTup, dFn, dIsi, dMs, dPart, dSl, dIfE, Slot.known, tVal, tTru, tAnd, tOr, tNot, dAnd, dOr, dNot, dChain, iLst, iTup, iStr, iRng1, iRng2, iEnum, iZip, gN, gNs, gT, Tgt.g, tYes, wipeE, backE, dAVs, dCall, avSlot, AV.ok, Slot.isOwn, bA_nil, bA_v, bA_m, D.isRef, List.all_cons, List.all_nil, List.map_cons, List.map_nil, Bool.and_true, Bool.true_and, List.tail_cons, List.tail_nil, List.head?_cons, sNx, sSeq, sRet, sRetN, sExp, sAsg, sAsgO, sIf, sAug, sFor, sWh, sBrk, sCnt, sRaise, sApp, Slot.ownL, sPut, sPar, sParL, sFld, dFld, dMake, mkC, dMakeV, dCm, dObj, D.isObj, dCallV, dCallS, dEqO, dIsO, dDct0, isBD_bl, notBD_bl, revD_lst, sPar3, sTrys, catchD, DEnds.unname, repF, D.eqTo, at_0, at_s, at_nil, set_0, set_s, fzd, frd, if_true, if_false, Bool.not_true, Bool.not_false, true_and, and_true, Bool.false_eq_true, ↓reduceIte, lenF, lenD, allF, anyF, sumF, absF, intF, tupleF, swM, ewM, eqv_int, eqv_str, eqv_bl, D.isTy, Int.cast_ofNat_Int, addD_int, addD_str, addD_lst, iaddD_int, iaddD_str, subD_int, mulD_int, mulD_str, mulD_lst, fdivD_int, modD_int, powD_int, negD_int, eqD, neD_str, neD_int, ltD_int, leD_int, gtD_int, geD_int, isD, isnD, D.isNon, inDv, ninDv, ixD_lst, ixD_tup, ixD_str, slD_lst, slD_frl, slD_str, dLc, dLook, Slot.calm]
            exact ⟨by show q.length + 1 ≤ 16777216; omega, h1 rfl _ _ rfl rfl⟩
          · rw [List.length_map]; show 0 + ls.length ≤ 16777216; omega
          · rw [List.nil_append, map_filter_true, List.map_map]
            have e : ls.map ((fun d : D => match d with | .str c => .str (q ++ c) | _ => .non) ∘ fun c => .str [c]) = (ls.map fun c => q ++ [c]).map D.str := by
              rw [List.map_map]; rfl
            rw [e]
            have hpw : 2 ^ i ≤ 2 ^ 7 := Nat.pow_le_pow_right (by decide) (by omega)
            refine add_words (b := ls.map fun c => q ++ [c]) (by rw [List.length_map]; omega) ?_
            refine hk2 _ ⟨rest, longer ++ ls.map fun c => q ++ [c], _, rfl, rfl, fun w hw => h7 w (List.mem_cons_of_mem _ hw), fun w hw => ?_, ?_⟩
            · rcases List.mem_append.mp hw with hw | hw
              · exact h8 w hw
              · obtain ⟨c, hc, rfl⟩ := List.mem_map.mp hw
                refine ⟨by rw [List.length_append]; show q.length + 1 ≤ _; omega, ?_⟩
                rw [List.all_append, hq1.2]
                have := List.all_eq_true.mp hi c hc
                simp [this]
            · rw [List.length_append, List.length_map]; omega
  · intro q hq
    simp at hq
    subst hq
    exact ⟨Nat.le_refl _, rfl⟩
  · intro q hq
    simp at hq
    subst hq
    exact ⟨Nat.le_refl _, rfl⟩
end DL

set_option linter.all false
set_option autoImplicit false
set_option maxRecDepth 100000
namespace DL
/-! values of any form -/
def isNonB : D → Bool
  | .non => true
  | _ => false
def seqB (d : D) : Bool := isNonB (firstInv d)
def repC (d : D) : Prop := d.repOk 40 = true ∧ d.wt ≤ maxTx ∨ d.noD = true
/-- what the law tries -/
structure Thing (d : D) : Prop where
  plain : d.plain
  plainL : d.plainL
  rep : repC d
  word : ∀ x, d = .str x → x.length ≤ 2100
  lst : ∀ xs, d = .lst xs → xs.length ≤ 400 ∧ ∀ x ∈ xs, x.plain ∧ x.eqOk 59 = true
  frl : ∀ xs, d ≠ .frl xs
structure El (d : D) : Prop where
  plain : d.plain
  eq : d.eqOk 59 = true
  rep : d.repOk 39 = true
  wt : d.wt ≤ 200
theorem el_str {x : Tx} (h : x.all okC = true) (hl : x.length ≤ 100) : El (.str x) := by
  refine ⟨(fun z => nomatch z), by rw [D.eqOk], by rw [D.repOk]; exact h, ?_⟩
  rw [D.wt]; omega
theorem item_okC {b : Nat} (h : isItem b = true) : okC b = true := by
  have h2 : decide (97 ≤ b ∧ b ≤ 104) = true := h
  rw [decide_eq_true_eq] at h2
  have : ∀ n : Fin 8, okC (97 + n.val) = true := by decide
  have := this ⟨b - 97, by omega⟩
  rwa [show 97 + (b - 97) = b from by omega] at this
theorem el_step {s : St2} (h : okSt s = true) : El (stepD s) := by
  refine el_str ?_ (by show 2 ≤ 100; omega)
  obtain ⟨a, b⟩ := s
  unfold okSt at h
  rw [Bool.and_eq_true, Bool.or_eq_true, beq_iff_eq, beq_iff_eq] at h
  obtain ⟨h1, h2⟩ := h
  have h1 : a = 43 ∨ a = 45 := h1
  have hb : okC b = true := by
    have h2 : decide (97 ≤ b ∧ b ≤ 104) = true := h2
    rw [decide_eq_true_eq] at h2
    have : ∀ n : Fin 8, okC (97 + n.val) = true := by decide
    have := this ⟨b - 97, by omega⟩
    rwa [show 97 + (b - 97) = b from by omega] at this
  show (okC a && (okC b && true)) = true
  rw [hb]
  rcases h1 with rfl | rfl <;> rfl
theorem el_non : El .non := ⟨(fun z => nomatch z), rfl, rfl, by decide⟩
theorem wtL_el : ∀ xs : List D, (∀ x ∈ xs, El x) → D.wtL xs ≤ 202 * xs.length
  | [], _ => by rw [D.wtL]; exact Nat.zero_le _
  | x :: xs, h => by
    have h1 := (h x List.mem_cons_self).wt
    have h2 := wtL_el xs fun y hy => h y (List.mem_cons_of_mem _ hy)
    rw [D.wtL, List.length_cons]; omega
theorem repL_el : ∀ xs : List D, (∀ x ∈ xs, El x) → D.repOkL 39 xs = true
  | [], _ => by rw [D.repOkL]
  | x :: xs, h => by
    rw [D.repOkL, (h x List.mem_cons_self).rep, repL_el xs fun y hy => h y (List.mem_cons_of_mem _ hy)]; rfl
theorem thing_lst {xs : List D} (h : ∀ x ∈ xs, El x) (hl : xs.length ≤ 400) : Thing (.lst xs) := by
  refine ⟨(fun z => nomatch z), fun d hd => (h d hd).plain, .inl ⟨?_, ?_⟩, (fun x e => nomatch e), fun ys e => ?_, (fun ys e => nomatch e)⟩
  · rw [D.repOk]; exact repL_el _ h
  · have := wtL_el _ h
    rw [D.wt]; show _ ≤ 16777216; omega
  · cases e
    exact ⟨hl, fun x hx => ⟨(h x hx).plain, (h x hx).eq⟩⟩
theorem thing_tup {xs : List D} (h : ∀ x ∈ xs, El x) (hl : xs.length ≤ 400) : Thing (.tup xs) := by
  refine ⟨(fun z => nomatch z), (fun z => nomatch z), .inl ⟨?_, ?_⟩, (fun x e => nomatch e), (fun ys e => nomatch e), (fun ys e => nomatch e)⟩
  · rw [D.repOk]; exact repL_el _ h
  · have := wtL_el _ h
    rw [D.wt]; show _ ≤ 16777216; omega
theorem thing_str {x : Tx} (h : x.all okC = true) (hl : x.length ≤ 100) : Thing (.str x) := by
  refine ⟨(fun z => nomatch z), (fun z => nomatch z), .inl ⟨by rw [D.repOk]; exact h, by rw [D.wt]; show _ ≤ 16777216; omega⟩, fun y e => by cases e; omega, (fun ys e => nomatch e), (fun ys e => nomatch e)⟩
theorem thing_int {i : Int} (h : i.natAbs < 10 ^ 120) : Thing (.int i) :=
  ⟨(fun z => nomatch z), (fun z => nomatch z), .inl ⟨by rw [D.repOk]; exact decide_eq_true h, by rw [D.wt]; decide⟩, (fun y e => nomatch e), (fun ys e => nomatch e), (fun ys e => nomatch e)⟩
theorem thing_bl {b : Bool} : Thing (.bl b) := by
 cases b <;> exact
  ⟨(fun z => nomatch z), (fun z => nomatch z), .inl ⟨rfl, by decide⟩, (fun y e => nomatch e), (fun ys e => nomatch e), (fun ys e => nomatch e)⟩
theorem thing_non : Thing .non :=
  ⟨(fun z => nomatch z), (fun z => nomatch z), .inl ⟨rfl, by decide⟩, (fun y e => nomatch e), (fun ys e => nomatch e), (fun ys e => nomatch e)⟩
theorem thing_dct : Thing (.dct []) :=
  ⟨(fun z => nomatch z), (fun z => nomatch z), .inr rfl, (fun y e => nomatch e), (fun ys e => nomatch e), (fun ys e => nomatch e)⟩
/-- is_sequence: 0 value -/
def b_is_sequence : DS := sRet (dUn isD (dCall C_first_invalid [.v (dVar 0)]))
def C_is_sequence : Con := fun args Q _ => ∃ d, args = [.fz d] ∧ d.plainL ∧ ∀ outs, Q (.fz (.bl (seqB d))) outs
theorem p_is_sequence : ∀ args Q E, args.length = 1 → C_is_sequence args Q E → runD 1 b_is_sequence args Q E := by
  intro args Q E _ h
  obtain ⟨d, rfl, hp, hq⟩ := h
  unfold b_is_sequence
  try simp -implicitDefEqProofs only [runD, startE, outsE, outs_0, outs_s, List.length_cons, List.length_nil, List.cons_append, List.nil_append, List.replicate, Nat.sub_zero, Nat.add_one_sub_one, Nat.reduceSub, Nat.reduceAdd, dC, dVar_M, dVarM_fz, dVarM_own, dIxN_M, dIxM_fz, dIxM_own, dFnN_M, dFnM_fz, dFnM_own, dOp, dUn, dArgs, dLst, dTup, dFn, dIsi, dMs, dPart, dSl, dIfE, Slot.known, tVal, tTru, tAnd, tOr, tNot, dAnd, dOr, dNot, dChain, iLst, iTup, iStr, iRng1, iRng2, iEnum, iZip, gN, gNs, gT, Tgt.g, tYes, wipeE, backE, dAVs, dCall, avSlot, AV.ok, Slot.isOwn, bA_nil, bA_v, bA_m, D.isRef, List.all_cons, List.all_nil, List.map_cons, List.map_nil, Bool.and_true, Bool.true_and, List.tail_cons, List.tail_nil, List.head?_cons, sNx, sSeq, sRet, sRetN, sExp, sAsg, sAsgO, sIf, sAug, sFor, sWh, sBrk, sCnt, sRaise, sApp, Slot.ownL, sPut, sPar, sParL, sFld, dFld, dMake, mkC, dMakeV, dCm, dObj, D.isObj, dCallV, dCallS, dEqO, dIsO, dDct0, isBD_bl, notBD_bl, revD_lst, sPar3, sTrys, catchD, DEnds.unname, repF, D.eqTo, at_0, at_s, at_nil, set_0, set_s, fzd, frd, if_true, if_false, Bool.not_true, Bool.not_false, true_and, and_true, Bool.false_eq_true, ↓reduceIte, lenF, lenD, allF, anyF, sumF, absF, intF, tupleF, swM, ewM, eqv_int, eqv_str, eqv_bl, D.isTy, Int.cast_ofNat_Int, addD_int, addD_str, addD_lst, iaddD_int, iaddD_str, subD_int, mulD_int, mulD_str, mulD_lst, fdivD_int, modD_int, powD_int, negD_int, eqD, neD_str, neD_int, ltD_int, leD_int, gtD_int, geD_int, isD, isnD, D.isNon, inDv, ninDv, ixD_lst, ixD_tup, ixD_str, slD_lst, slD_frl, slD_str, dLc, dLook, Slot.calm]
  refine ⟨d, rfl, hp, fun r outs hr => ?_⟩
  simp only [hr]
  exact hq _
/-- _law_is_step: 0 _law_thing -/
def b__law_is_step : DS := sRet (dAnd (dIsi .str (dVar 0)) (dAnd (dOp eqD (dFn lenF [dVar 0]) (dC (.int 2))) (dAnd (dOp inDv (dOp ixD (dVar 0) (dC (.int 0))) (dC (.str [43, 45]))) (dOp inDv (dOp ixD (dVar 0) (dC (.int 1))) (dC (.str [97, 98, 99, 100, 101, 102, 103, 104]))))))
def C__law_is_step : Con := fun args Q _ => ∃ d, args = [.fz d] ∧ d.plain ∧ ∀ outs, Q (.fz (.bl (isStep d))) outs
theorem p__law_is_step : ∀ args Q E, args.length = 1 → C__law_is_step args Q E → runD 1 b__law_is_step args Q E := by
  intro args Q E h0 h
  exact p_is_step args Q E h0 h
/-- _law_odd: 0 _law_pool, 1 _law_steps_here, 2 _law_some -/
def b__law_odd : DS := sSeq (sAsg (gN 2) (dLst [dC .non, dC (.int 5), dC (.bl true), dC (.str []), dC (.str [97]), dC (.str [43]), dC (.str [45, 97]), dC (.str [43, 105]), dC (.str [43, 65]), dC (.str [97, 43]), dC (.str [43, 43]), dC (.str [43, 97, 98]), dC (.str [32, 43, 97]), dC (.str [43, 49]), dC (.str [97, 98]), dTup [], dTup [dC (.str [43, 97])], dDct0])) (sSeq (sAsg (gN 2) (dOp addD (dVar 2) (dLst [dLst [dC (.str [43, 97])], dLst [dLst [dC (.str [43, 97])]], dOp addD (dVar 1) (dLst [dC .non]), dOp addD (dVar 1) (dLst [dC (.str [43, 120])]), dOp addD (dLst [dC (.str [45])]) (dVar 1), dFn tupleF [dVar 1], dOp addD (dVar 1) (dLst [dLst [dC (.str [43, 97])]])]))) (sRet (dOp ixD (dOp addD (dVar 2) (dLst [dC (.str [97, 98, 99, 100, 101, 102, 103, 104]), dC (.str [97, 98, 99, 105]), dC (.str [97, 66]), dC (.str [97, 32, 98]), dC (.str [43, 97, 45, 98]), dLst [dC (.str [97])], dC (.int 1)])) (dCall C__law_draw [.m 0, .v (dC (.int 32))]))))
def C__law_odd : Con := fun args Q _ => ∃ (p : Slot) (ss : List St2), args = [p, .fz (seqD ss)] ∧ poolOk p ∧ okSeq ss ∧ ss.length ≤ 10 ∧ ∀ r p' o, Thing r.d → poolOk p' → Q r [p', o]
theorem p__law_odd : ∀ args Q E, args.length = 2 → C__law_odd args Q E → runD 3 b__law_odd args Q E := by
  intro args Q E _ h
  obtain ⟨p, ss, rfl, ⟨a, b, rfl, h0, h1⟩, ok, hl, hq⟩ := h
  unfold b__law_odd seqD
  try simp -implicitDefEqProofs only [runD, startE, outsE, outs_0, outs_s, List.length_cons, List.length_nil, List.cons_append, List.nil_append, List.replicate, Nat.sub_zero, Nat.add_one_sub_one, Nat.reduceSub, Nat.reduceAdd, dC, dVar_M, dVarM_fz, dVarM_own, dIxN_M, dIxM_fz, dIxM_own, dFnN_M, dFnM_fz, dFnM_own, dOp, dUn, dArgs, dLst, dTup, dFn, dIsi, dMs, dPart, dSl, dIfE, Slot.known, tVal, tTru, tAnd, tOr, tNot, dAnd, dOr, dNot, dChain, iLst, iTup, iStr, iRng1, iRng2, iEnum, iZip, gN, gNs, gT, Tgt.g, tYes, wipeE, backE, dAVs, dCall, avSlot, AV.ok, Slot.isOwn, bA_nil, bA_v, bA_m, D.isRef, List.all_cons, List.all_nil, List.map_cons, List.map_nil, Bool.and_true, Bool.true_and, List.tail_cons, List.tail_nil, List.head?_cons, sNx, sSeq, sRet, sRetN, sExp, sAsg, sAsgO, sIf, sAug, sFor, sWh, sBrk, sCnt, sRaise, sApp, Slot.ownL, sPut, sPar, sParL, sFld, dFld, dMake, mkC, dMakeV, dCm, dObj, D.isObj, dCallV, dCallS, dEqO, dIsO, dDct0, isBD_bl, notBD_bl, revD_lst, sPar3, sTrys, catchD, DEnds.unname, repF, D.eqTo, at_0, at_s, at_nil, set_0, set_s, fzd, frd, if_true, if_false, Bool.not_true, Bool.not_false, true_and, and_true, Bool.false_eq_true, ↓reduceIte, lenF, lenD, allF, anyF, sumF, absF, intF, tupleF, swM, ewM, eqv_int, eqv_str, eqv_bl, D.isTy, Int.cast_ofNat_Int, addD_int, addD_str, addD_lst, iaddD_int, iaddD_str, subD_int, mulD_int, mulD_str, mulD_lst, fdivD_int, modD_int, powD_int, negD_int, eqD, neD_str, neD_int, ltD_int, leD_int, gtD_int, geD_int, isD, isnD, D.isNon, inDv, ninDv, ixD_lst, ixD_tup, ixD_str, slD_lst, slD_frl, slD_str, dLc, dLook, Slot.calm]
  have hsl : (ss.map stepD).length ≤ 10 := by rw [List.length_map]; exact hl
  have hse : ∀ x ∈ ss.map stepD, El x := fun x hx => by
    obtain ⟨s, hs, rfl⟩ := List.mem_map.mp hx
    exact el_step (ok.2 s hs)
  generalize ss.map stepD = xs at hsl hse
  refine ⟨by decide, by decide, by decide, by decide, by decide, by decide, by decide, by show _ ≤ 16777216; omega, by decide, by show _ ≤ 16777216; omega, by decide, by show _ ≤ 16777216; omega, by decide, by decide, by show _ ≤ 16777216; omega, by decide, by decide, by decide, by decide, by decide, ?_⟩
  refine ⟨_, _, rfl, ⟨a, b, rfl, h0, h1⟩, by decide, by decide, fun r p1 o1 hr0 hr1 hp1 => ?_⟩
  refine ix_in hr0 hr1 fun d hdm => ?_
  try simp -implicitDefEqProofs only [runD, startE, outsE, outs_0, outs_s, List.length_cons, List.length_nil, List.cons_append, List.nil_append, List.replicate, Nat.sub_zero, Nat.add_one_sub_one, Nat.reduceSub, Nat.reduceAdd, dC, dVar_M, dVarM_fz, dVarM_own, dIxN_M, dIxM_fz, dIxM_own, dFnN_M, dFnM_fz, dFnM_own, dOp, dUn, dArgs, dLst, dTup, dFn, dIsi, dMs, dPart, dSl, dIfE, Slot.known, tVal, tTru, tAnd, tOr, tNot, dAnd, dOr, dNot, dChain, iLst, iTup, iStr, iRng1, iRng2, iEnum, iZip, gN, gNs, gT, Tgt.g, tYes, wipeE, backE, dAVs, dCall, avSlot, AV.ok, Slot.isOwn, bA_nil, bA_v, bA_m, D.isRef, List.all_cons, List.all_nil, List.map_cons, List.map_nil, Bool.and_true, Bool.true_and, List.tail_cons, List.tail_nil, List.head?_cons, sNx, sSeq, sRet, sRetN, sExp, sAsg, sAsgO, sIf, sAug, sFor, sWh, sBrk, sCnt, sRaise, sApp, Slot.ownL, sPut, sPar, sParL, sFld, dFld, dMake, mkC, dMakeV, dCm, dObj, D.isObj, dCallV, dCallS, dEqO, dIsO, dDct0, isBD_bl, notBD_bl, revD_lst, sPar3, sTrys, catchD, DEnds.unname, repF, D.eqTo, at_0, at_s, at_nil, set_0, set_s, fzd, frd, if_true, if_false, Bool.not_true, Bool.not_false, true_and, and_true, Bool.false_eq_true, ↓reduceIte, lenF, lenD, allF, anyF, sumF, absF, intF, tupleF, swM, ewM, eqv_int, eqv_str, eqv_bl, D.isTy, Int.cast_ofNat_Int, addD_int, addD_str, addD_lst, iaddD_int, iaddD_str, subD_int, mulD_int, mulD_str, mulD_lst, fdivD_int, modD_int, powD_int, negD_int, eqD, neD_str, neD_int, ltD_int, leD_int, gtD_int, geD_int, isD, isnD, D.isNon, inDv, ninDv, ixD_lst, ixD_tup, ixD_str, slD_lst, slD_frl, slD_str, dLc, dLook, Slot.calm]
  refine hq _ _ _ ?_ hp1
  show Thing d
  have hs1 : ∀ {y : D}, El y → ∀ x ∈ xs ++ [y], El x := fun hy x hx => by
    rcases List.mem_append.mp hx with h | h
    · exact hse x h
    · rw [List.mem_singleton] at h; subst h; exact hy
  have hs2 : ∀ {y : D}, El y → ∀ x ∈ y :: xs, El x := fun hy x hx => by
    rcases List.mem_cons.mp hx with h | h
    · subst h; exact hy
    · exact hse x h
  have hs3 : ∀ {y : D}, El y → ∀ x ∈ [y], El x := fun hy x hx => by
    rw [List.mem_singleton] at hx; subst hx; exact hy
  have hl1 : ∀ {y : D}, (xs ++ [y]).length ≤ 400 := fun {y} => by rw [List.length_append]; show _ + 1 ≤ _; omega
  have el1 : El (.lst [.str [43, 97]]) := ⟨(fun z => nomatch z), rfl, rfl, by decide⟩
  simp only [List.mem_cons, List.not_mem_nil, or_false] at hdm
  rcases hdm with rfl | rfl | rfl | rfl | rfl | rfl | rfl | rfl | rfl | rfl | rfl | rfl | rfl | rfl | rfl | rfl | rfl | rfl | rfl | rfl | rfl | rfl | rfl | rfl | rfl | rfl | rfl | rfl | rfl | rfl | rfl | rfl
  all_goals first
    | exact thing_non
    | exact thing_int (by decide)
    | exact thing_bl
    | exact thing_str rfl (by decide)
    | exact thing_dct
    | exact thing_tup (xs := []) (fun x hx => nomatch hx) (by decide)
    | exact thing_tup (hs3 (el_str rfl (by decide))) (by decide)
    | exact thing_lst (hs3 (el_str rfl (by decide))) (by decide)
    | exact thing_lst (hs3 el1) (by decide)
    | exact thing_tup hse (by omega)
    | exact thing_lst (hs1 el_non) hl1
    | exact thing_lst (hs1 (el_str rfl (by decide))) hl1
    | exact thing_lst (hs1 el1) hl1
    | exact thing_lst (hs2 (el_str rfl (by decide))) (by rw [List.length_cons]; omega)
theorem badAt_iff : ∀ (xs : List D) (i : Nat), (badAt xs i).isNone = xs.all isStep
  | [], i => rfl
  | x :: xs, i => by
    rw [badAt, List.all_cons]
    cases h : isStep x with
    | true => rw [if_pos rfl, Bool.true_and]; exact badAt_iff xs (i + 1)
    | false => rfl
theorem seqB_lst {xs : List D} : seqB (.lst xs) = (decide (xs.length ≤ 400) && xs.all isStep) := by
  rw [← badAt_iff xs 0]
  show isNonB (if xs.length ≤ 400 then (match badAt xs 0 with | none => .non | some i => .tup [.int i]) else .tup [.non]) = _
  by_cases h : xs.length ≤ 400
  · rw [if_pos h, decide_eq_true h]
    cases badAt xs 0 <;> rfl
  · rw [if_neg h, decide_eq_false h]; rfl
theorem flat_len {α : Type} (l : List α) : ∀ n : Nat, ((List.replicate n l).flatten).length = n * l.length
  | 0 => by simp
  | n + 1 => by rw [List.replicate_succ, List.flatten_cons, List.length_append, flat_len l n, Nat.succ_mul, Nat.add_comm]
theorem flat_mem {α : Type} {l : List α} {x : α} {n : Nat} (h : x ∈ (List.replicate n l).flatten) : x ∈ l := by
  obtain ⟨m, h1, h2⟩ := List.mem_flatten.mp h
  rw [List.eq_of_mem_replicate h1] at h2
  exact h2
theorem isWord_no {x : Tx} {n : Nat} (h : n < x.length) : isWord (.str x) n = false := by
  show (decide (x.length ≤ n) && x.all isItem) = false
  rw [decide_eq_false (by omega)]; rfl
theorem isq_use {d : D} {b : Bool} {Q : R → List Slot → Prop} {E : Exc → List Slot → Prop} (hp : d.plain) (hb : isWord d 2100 = b) (h : ∀ outs, Q (.fz (.bl b)) outs) : C_is_queue [.fz d] Q E :=
  ⟨d, rfl, hp, fun outs => by rw [hb]; exact h outs⟩
theorem iss_use {d : D} {b : Bool} {Q : R → List Slot → Prop} {E : Exc → List Slot → Prop} (hp : d.plainL) (hb : seqB d = b) (h : ∀ outs, Q (.fz (.bl b)) outs) : C_is_sequence [.fz d] Q E :=
  ⟨d, rfl, hp, fun outs => by rw [hb]; exact h outs⟩
theorem rep_bl (b : Bool) : D.repOk 40 (.bl b) = true ∧ (D.bl b).wt ≤ maxTx ∨ (D.bl b).noD = true := by
  cases b <;> exact .inl ⟨rfl, by decide⟩
theorem eqOkL_all (n : Nat) : ∀ xs : List D, (∀ x ∈ xs, x.eqOk n = true) → D.eqOkL n xs = true
  | [], _ => by rw [D.eqOkL]
  | x :: xs, h => by rw [D.eqOkL, h x List.mem_cons_self, eqOkL_all n xs fun y hy => h y (List.mem_cons_of_mem _ hy)]; rfl
theorem eqv_nil (xs : List D) : D.eqv (.lst xs) (.lst []) = xs.isEmpty := by
  cases xs <;> rfl
def notIt : D → Bool := fun d => match d with | .str [c] => !isItem c | _ => false
theorem notIt_all (x : Tx) : ((x.map fun c => D.str [c]).filter notIt).isEmpty = x.all isItem := by
  induction x with
  | nil => rfl
  | cons c x ih =>
    rw [List.map_cons, List.filter_cons, List.all_cons]
    have e : notIt (.str [c]) = !isItem c := rfl
    rw [e]
    cases h : isItem c with
    | true => rw [Bool.not_true, if_neg (by decide), Bool.true_and]; exact ih
    | false => rfl
theorem notSt_all (xs : List D) : (xs.filter fun d => !isStep d).isEmpty = xs.all isStep := by
  induction xs with
  | nil => rfl
  | cons c x ih =>
    rw [List.filter_cons, List.all_cons]
    cases h : isStep c with
    | true => rw [Bool.not_true, if_neg (by decide), Bool.true_and]; exact ih
    | false => rfl
/-- law: 0 _law_script, 1 _law_long, 2 _law_k, 3 _law_pool, 4 _law_word_here, 5 _law_steps_here, 6 _law_thing, 7 _law_kept, 8 _law_due, 9 _law_turn, 10 _law_item, 11 _law_step -/
def b_law : DS := sSeq (sIf (tVal (dOp neD (dLst [dC (.str [97, 98, 99, 100, 101, 102, 103, 104]), dC (.int 2100), dC (.int 400)]) (dLst [dC (.str [97, 98, 99, 100, 101, 102, 103, 104]), dC (.int 2100), dC (.int 400)]))) (sRet (dC (.bl false))) (sNx)) (sSeq (sIf (tVal (dOp neD (dLst [dCall C_is_queue [.v (dOp mulD (dC (.str [97, 98])) (dC (.int 1050)))], dCall C_is_queue [.v (dOp addD (dOp mulD (dC (.str [97, 98])) (dC (.int 1050))) (dC (.str [99])))], dCall C_is_queue [.v (dC (.str []))]]) (dLst [dC (.bl true), dC (.bl false), dC (.bl true)]))) (sRet (dC (.bl false))) (sNx)) (sSeq (sAsg (gN 1) (dOp mulD (dLst [dC (.str [43, 97]), dC (.str [45, 98])]) (dC (.int 200)))) (sSeq (sIf (tVal (dOp neD (dLst [dCall C_is_sequence [.v (dVar 1)], dCall C_is_sequence [.v (dOp addD (dVar 1) (dLst [dC (.str [43, 97])]))], dCall C_is_sequence [.v (dLst [])]]) (dLst [dC (.bl true), dC (.bl false), dC (.bl true)]))) (sRet (dC (.bl false))) (sNx)) (sSeq (sFor (iRng1 (dFn maxF [dC (.int 2), dFn minF [dFn lenF [dVar 0], dC (.int 16)]])) (gN 2) (sSeq (sAsgO 3 (dCall C__law_hand [.v (dVar 0), .v (dVar 2)])) (sSeq (sAsg (gN 4) (dCall C__law_word [.m 3, .v (dC (.str [97, 98, 99, 100, 101, 102, 103, 104])), .v (dC (.int 9))])) (sSeq (sAsg (gN 5) (dCall C__law_steps [.m 3, .v (dC (.str [97, 98, 99, 100, 101, 102, 103, 104])), .v (dC (.int 6))])) (sFor (iLst (dOp addD (dLst [dVar 4, dVar 5]) (dLc [9] (iRng1 (dC (.int 8))) (Tgt.g (.one 9)) (tYes) (dCall C__law_odd [.m 3, .v (dVar 5)])))) (gN 6) (sSeq (sAsg (gN 7) (dFn repF [dVar 6])) (sSeq (sAsg (gN 8) (dAnd (dIsi .str (dVar 6)) (dOp eqD (dLc [10] (iStr (dVar 6)) (Tgt.g (.one 10)) (tVal (dOp ninDv (dVar 10) (dC (.str [97, 98, 99, 100, 101, 102, 103, 104])))) (dVar 10)) (dLst [])))) (sSeq (sIf (tOr (tVal (dOp neD (dFn repF [dCall C_is_queue [.v (dVar 6)]]) (dFn repF [dVar 8]))) (tVal (dOp neD (dFn repF [dCall C_is_step [.v (dVar 6)]]) (dFn repF [dCall C__law_is_step [.v (dVar 6)]])))) (sRet (dC (.bl false))) (sNx)) (sSeq (sAsg (gN 8) (dAnd (dIsi .list (dVar 6)) (dOp eqD (dLc [11] (iLst (dVar 6)) (Tgt.g (.one 11)) (tNot (tVal (dCall C__law_is_step [.v (dVar 11)]))) (dVar 11)) (dLst [])))) (sIf (tOr (tVal (dOp neD (dFn repF [dCall C_is_sequence [.v (dVar 6)]]) (dFn repF [dVar 8]))) (tVal (dOp neD (dFn repF [dVar 6]) (dVar 7)))) (sRet (dC (.bl false))) (sNx))))))))))) (sRet (dC (.bl true)))))))
theorem p_law : ∀ args Q E, args.length = 1 → lawConP args Q E → runD 12 b_law args Q E := by
  intro args Q E _ h
  obtain ⟨ns, hl, rfl, hq⟩ := h
  unfold b_law
  try simp -implicitDefEqProofs only [runD, startE, outsE, outs_0, outs_s, List.length_cons, List.length_nil, List.cons_append, List.nil_append, List.replicate, Nat.sub_zero, Nat.add_one_sub_one, Nat.reduceSub, Nat.reduceAdd, dC, dVar_M, dVarM_fz, dVarM_own, dIxN_M, dIxM_fz, dIxM_own, dFnN_M, dFnM_fz, dFnM_own, dOp, dUn, dArgs, dLst, dTup, dFn, dIsi, dMs, dPart, dSl, dIfE, Slot.known, tVal, tTru, tAnd, tOr, tNot, dAnd, dOr, dNot, dChain, iLst, iTup, iStr, iRng1, iRng2, iEnum, iZip, gN, gNs, gT, Tgt.g, tYes, wipeE, backE, dAVs, dCall, avSlot, AV.ok, Slot.isOwn, bA_nil, bA_v, bA_m, D.isRef, List.all_cons, List.all_nil, List.map_cons, List.map_nil, Bool.and_true, Bool.true_and, List.tail_cons, List.tail_nil, List.head?_cons, sNx, sSeq, sRet, sRetN, sExp, sAsg, sAsgO, sIf, sAug, sFor, sWh, sBrk, sCnt, sRaise, sApp, Slot.ownL, sPut, sPar, sParL, sFld, dFld, dMake, mkC, dMakeV, dCm, dObj, D.isObj, dCallV, dCallS, dEqO, dIsO, dDct0, isBD_bl, notBD_bl, revD_lst, sPar3, sTrys, catchD, DEnds.unname, repF, D.eqTo, at_0, at_s, at_nil, set_0, set_s, fzd, frd, if_true, if_false, Bool.not_true, Bool.not_false, true_and, and_true, Bool.false_eq_true, ↓reduceIte, lenF, lenD, allF, anyF, sumF, absF, intF, tupleF, swM, ewM, eqv_int, eqv_str, eqv_bl, D.isTy, Int.cast_ofNat_Int, addD_int, addD_str, addD_lst, iaddD_int, iaddD_str, subD_int, mulD_int, mulD_str, mulD_lst, fdivD_int, modD_int, powD_int, negD_int, eqD, neD_str, neD_int, ltD_int, leD_int, gtD_int, geD_int, isD, isnD, D.isNon, inDv, ninDv, ixD_lst, ixD_tup, ixD_str, slD_lst, slD_frl, slD_str, dLc, dLook, Slot.calm]
  refine ⟨by decide, by decide, ne_same rfl ?_⟩
  try simp -implicitDefEqProofs only [runD, startE, outsE, outs_0, outs_s, List.length_cons, List.length_nil, List.cons_append, List.nil_append, List.replicate, Nat.sub_zero, Nat.add_one_sub_one, Nat.reduceSub, Nat.reduceAdd, dC, dVar_M, dVarM_fz, dVarM_own, dIxN_M, dIxM_fz, dIxM_own, dFnN_M, dFnM_fz, dFnM_own, dOp, dUn, dArgs, dLst, dTup, dFn, dIsi, dMs, dPart, dSl, dIfE, Slot.known, tVal, tTru, tAnd, tOr, tNot, dAnd, dOr, dNot, dChain, iLst, iTup, iStr, iRng1, iRng2, iEnum, iZip, gN, gNs, gT, Tgt.g, tYes, wipeE, backE, dAVs, dCall, avSlot, AV.ok, Slot.isOwn, bA_nil, bA_v, bA_m, D.isRef, List.all_cons, List.all_nil, List.map_cons, List.map_nil, Bool.and_true, Bool.true_and, List.tail_cons, List.tail_nil, List.head?_cons, sNx, sSeq, sRet, sRetN, sExp, sAsg, sAsgO, sIf, sAug, sFor, sWh, sBrk, sCnt, sRaise, sApp, Slot.ownL, sPut, sPar, sParL, sFld, dFld, dMake, mkC, dMakeV, dCm, dObj, D.isObj, dCallV, dCallS, dEqO, dIsO, dDct0, isBD_bl, notBD_bl, revD_lst, sPar3, sTrys, catchD, DEnds.unname, repF, D.eqTo, at_0, at_s, at_nil, set_0, set_s, fzd, frd, if_true, if_false, Bool.not_true, Bool.not_false, true_and, and_true, Bool.false_eq_true, ↓reduceIte, lenF, lenD, allF, anyF, sumF, absF, intF, tupleF, swM, ewM, eqv_int, eqv_str, eqv_bl, D.isTy, Int.cast_ofNat_Int, addD_int, addD_str, addD_lst, iaddD_int, iaddD_str, subD_int, mulD_int, mulD_str, mulD_lst, fdivD_int, modD_int, powD_int, negD_int, eqD, neD_str, neD_int, ltD_int, leD_int, gtD_int, geD_int, isD, isnD, D.isNon, inDv, ninDv, ixD_lst, ixD_tup, ixD_str, slD_lst, slD_frl, slD_str, dLc, dLook, Slot.calm]
  have hA : (List.replicate (Int.toNat 1050) [97, 98]).flatten.length = 2100 := by rw [flat_len]; rfl
  have hAi : (List.replicate (Int.toNat 1050) [97, 98]).flatten.all isItem = true := List.all_eq_true.mpr fun c hc => by
    have := flat_mem hc
    simp only [List.mem_cons, List.not_mem_nil, or_false] at this
    rcases this with rfl | rfl <;> rfl
  have hL : (List.replicate (Int.toNat 200) [D.str [43, 97], D.str [45, 98]]).flatten.length = 400 := by rw [flat_len]; rfl
  have hLe : ∀ x ∈ (List.replicate (Int.toNat 200) [D.str [43, 97], D.str [45, 98]]).flatten, isStep x = true ∧ x.plain := fun x hx => by
    have := flat_mem hx
    simp only [List.mem_cons, List.not_mem_nil, or_false] at this
    rcases this with rfl | rfl <;> exact ⟨rfl, fun z => nomatch z⟩
  generalize (List.replicate (Int.toNat 1050) [97, 98]).flatten = A at hA hAi
  generalize (List.replicate (Int.toNat 200) [D.str [43, 97], D.str [45, 98]]).flatten = L at hL hLe
  refine ⟨⟨by omega, by omega, by decide⟩, isq_use (fun z => nomatch z) (isWord_of (by omega) hAi) fun o => ?_⟩
  refine ⟨⟨by omega, by omega, by decide⟩, by show _ ≤ 16777216; omega, isq_use (b := false) (fun z => nomatch z) (isWord_no (by rw [List.length_append, hA]; decide)) fun o => ?_⟩
  refine isq_use (b := true) (fun z => nomatch z) rfl fun o => ⟨by decide, by decide, ne_same rfl ?_⟩
  try simp -implicitDefEqProofs only [runD, startE, outsE, outs_0, outs_s, List.length_cons, List.length_nil, List.cons_append, List.nil_append, List.replicate, Nat.sub_zero, Nat.add_one_sub_one, Nat.reduceSub, Nat.reduceAdd, dC, dVar_M, dVarM_fz, dVarM_own, dIxN_M, dIxM_fz, dIxM_own, dFnN_M, dFnM_fz, dFnM_own, dOp, dUn, dArgs, dLst, dTup, dFn, dIsi, dMs, dPart, dSl, dIfE, Slot.known, tVal, tTru, tAnd, tOr, tNot, dAnd, dOr, dNot, dChain, iLst, iTup, iStr, iRng1, iRng2, iEnum, iZip, gN, gNs, gT, Tgt.g, tYes, wipeE, backE, dAVs, dCall, avSlot, AV.ok, Slot.isOwn, bA_nil, bA_v, bA_m, D.isRef, List.all_cons, List.all_nil, List.map_cons, List.map_nil, Bool.and_true, Bool.true_and, List.tail_cons, List.tail_nil, List.head?_cons, sNx, sSeq, sRet, sRetN, sExp, sAsg, sAsgO, sIf, sAug, sFor, sWh, sBrk, sCnt, sRaise, sApp, Slot.ownL, sPut, sPar, sParL, sFld, dFld, dMake, mkC, dMakeV, dCm, dObj, D.isObj, dCallV, dCallS, dEqO, dIsO, dDct0, isBD_bl, notBD_bl, revD_lst, sPar3, sTrys, catchD, DEnds.unname, repF, D.eqTo, at_0, at_s, at_nil, set_0, set_s, fzd, frd, if_true, if_false, Bool.not_true, Bool.not_false, true_and, and_true, Bool.false_eq_true, ↓reduceIte, lenF, lenD, allF, anyF, sumF, absF, intF, tupleF, swM, ewM, eqv_int, eqv_str, eqv_bl, D.isTy, Int.cast_ofNat_Int, addD_int, addD_str, addD_lst, iaddD_int, iaddD_str, subD_int, mulD_int, mulD_str, mulD_lst, fdivD_int, modD_int, powD_int, negD_int, eqD, neD_str, neD_int, ltD_int, leD_int, gtD_int, geD_int, isD, isnD, D.isNon, inDv, ninDv, ixD_lst, ixD_tup, ixD_str, slD_lst, slD_frl, slD_str, dLc, dLook, Slot.calm]
  refine ⟨by decide, ⟨by omega, by omega, by decide⟩, iss_use (b := true) (fun x hx => (hLe x hx).2) ?_ fun o => ?_⟩
  · rw [seqB_lst, hL, List.all_eq_true.mpr fun x hx => (hLe x hx).1]; rfl
  refine ⟨by decide, by show _ ≤ 16777216; omega, iss_use (b := false) (fun x hx => ?_) ?_ fun o => ?_⟩
  · rcases List.mem_append.mp hx with h | h
    · exact (hLe x h).2
    · rw [List.mem_singleton] at h; subst h; exact fun z => nomatch z
  · rw [seqB_lst, List.length_append, hL]; rfl
  refine ⟨by decide, iss_use (b := true) (fun x hx => nomatch hx) rfl fun o => ⟨by decide, by decide, ne_same rfl ?_⟩⟩
  try simp -implicitDefEqProofs only [runD, startE, outsE, outs_0, outs_s, List.length_cons, List.length_nil, List.cons_append, List.nil_append, List.replicate, Nat.sub_zero, Nat.add_one_sub_one, Nat.reduceSub, Nat.reduceAdd, dC, dVar_M, dVarM_fz, dVarM_own, dIxN_M, dIxM_fz, dIxM_own, dFnN_M, dFnM_fz, dFnM_own, dOp, dUn, dArgs, dLst, dTup, dFn, dIsi, dMs, dPart, dSl, dIfE, Slot.known, tVal, tTru, tAnd, tOr, tNot, dAnd, dOr, dNot, dChain, iLst, iTup, iStr, iRng1, iRng2, iEnum, iZip, gN, gNs, gT, Tgt.g, tYes, wipeE, backE, dAVs, dCall, avSlot, AV.ok, Slot.isOwn, bA_nil, bA_v, bA_m, D.isRef, List.all_cons, List.all_nil, List.map_cons, List.map_nil, Bool.and_true, Bool.true_and, List.tail_cons, List.tail_nil, List.head?_cons, sNx, sSeq, sRet, sRetN, sExp, sAsg, sAsgO, sIf, sAug, sFor, sWh, sBrk, sCnt, sRaise, sApp, Slot.ownL, sPut, sPar, sParL, sFld, dFld, dMake, mkC, dMakeV, dCm, dObj, D.isObj, dCallV, dCallS, dEqO, dIsO, dDct0, isBD_bl, notBD_bl, revD_lst, sPar3, sTrys, catchD, DEnds.unname, repF, D.eqTo, at_0, at_s, at_nil, set_0, set_s, fzd, frd, if_true, if_false, Bool.not_true, Bool.not_false, true_and, and_true, Bool.false_eq_true, ↓reduceIte, lenF, lenD, allF, anyF, sumF, absF, intF, tupleF, swM, ewM, eqv_int, eqv_str, eqv_bl, D.isTy, Int.cast_ofNat_Int, addD_int, addD_str, addD_lst, iaddD_int, iaddD_str, subD_int, mulD_int, mulD_str, mulD_lst, fdivD_int, modD_int, powD_int, negD_int, eqD, neD_str, neD_int, ltD_int, leD_int, gtD_int, geD_int, isD, isnD, D.isNon, inDv, ninDv, ixD_lst, ixD_tup, ixD_str, slD_lst, slD_frl, slD_str, dLc, dLook, Slot.calm]
  rw [minF2]
  try simp -implicitDefEqProofs only [runD, startE, outsE, outs_0, outs_s, List.length_cons, List.length_nil, List.cons_append, List.nil_append, List.replicate, Nat.sub_zero, Nat.add_one_sub_one, Nat.reduceSub, Nat.reduceAdd, dC, dVar_M, dVarM_fz, dVarM_own, dIxN_M, dIxM_fz, dIxM_own, dFnN_M, dFnM_fz, dFnM_own, dOp, dUn, dArgs, dLst, dTup, dFn, dIsi, dMs, dPart, dSl, dIfE, Slot.known, tVal, tTru, tAnd, tOr, tNot, dAnd, dOr, dNot, dChain, iLst, iTup, iStr, iRng1, iRng2, iEnum, iZip, gN, gNs, gT, Tgt.g, tYes, wipeE, backE, dAVs, dCall, avSlot, AV.ok, Slot.isOwn, bA_nil, bA_v, bA_m, D.isRef, List.all_cons, List.all_nil, List.map_cons, List.map_nil, Bool.and_true, Bool.true_and, List.tail_cons, List.tail_nil, List.head?_cons, sNx, sSeq, sRet, sRetN, sExp, sAsg, sAsgO, sIf, sAug, sFor, sWh, sBrk, sCnt, sRaise, sApp, Slot.ownL, sPut, sPar, sParL, sFld, dFld, dMake, mkC, dMakeV, dCm, dObj, D.isObj, dCallV, dCallS, dEqO, dIsO, dDct0, isBD_bl, notBD_bl, revD_lst, sPar3, sTrys, catchD, DEnds.unname, repF, D.eqTo, at_0, at_s, at_nil, set_0, set_s, fzd, frd, if_true, if_false, Bool.not_true, Bool.not_false, true_and, and_true, Bool.false_eq_true, ↓reduceIte, lenF, lenD, allF, anyF, sumF, absF, intF, tupleF, swM, ewM, eqv_int, eqv_str, eqv_bl, D.isTy, Int.cast_ofNat_Int, addD_int, addD_str, addD_lst, iaddD_int, iaddD_str, subD_int, mulD_int, mulD_str, mulD_lst, fdivD_int, modD_int, powD_int, negD_int, eqD, neD_str, neD_int, ltD_int, leD_int, gtD_int, geD_int, isD, isnD, D.isNon, inDv, ninDv, ixD_lst, ixD_tup, ixD_str, slD_lst, slD_frl, slD_str, dLc, dLook, Slot.calm]
  rw [maxF2]
  simp only [List.length_map]
  refine ⟨⟨by omega, by omega⟩, ?_⟩
  have hn : (max (2 : Int) (min (ns.length : Int) 16)).toNat ≤ 63 := by omega
  generalize (max (2 : Int) (min (ns.length : Int) 16)).toNat = N at hn
  refine forL_inv (I := fun es ρ => ∃ (j m : Nat) (s2 s3 s4 s5 s6 s7 s8 : Slot), es = rng (j : Int) m ∧ j + m ≤ 63 ∧ ρ = [.fz (.frl (ns.map .int)), .fz (.lst L), s2, s3, s4, s5, s6, s7, s8, .no, .no, .no])
    (fun ρ h => ?_) (fun e es ρ h k hk => ?_) _ _ ⟨0, N, .no, .no, .no, .no, .no, .no, .no, rfl, by omega, rfl⟩
  · obtain ⟨j, m, s2, s3, s4, s5, s6, s7, s8, h1, h2, rfl⟩ := h
    exact hq _
  · obtain ⟨j, m, s2, s3, s4, s5, s6, s7, s8, h1, h2, rfl⟩ := h
    cases m with
    | zero => cases h1
    | succ m =>
      rw [rng_succ] at h1
      cases h1
      try simp -implicitDefEqProofs only [runD, startE, outsE, outs_0, outs_s, List.length_cons, List.length_nil, List.cons_append, List.nil_append, List.replicate, Nat.sub_zero, Nat.add_one_sub_one, Nat.reduceSub, Nat.reduceAdd, dC, dVar_M, dVarM_fz, dVarM_own, dIxN_M, dIxM_fz, dIxM_own, dFnN_M, dFnM_fz, dFnM_own, dOp, dUn, dArgs, dLst, dTup, dFn, dIsi, dMs, dPart, dSl, dIfE, Slot.known, tVal, tTru, tAnd, tOr, tNot, dAnd, dOr, dNot, dChain, iLst, iTup, iStr, iRng1, iRng2, iEnum, iZip, gN, gNs, gT, Tgt.g, tYes, wipeE, backE, dAVs, dCall, avSlot, AV.ok, Slot.isOwn, bA_nil, bA_v, bA_m, D.isRef, List.all_cons, List.all_nil, List.map_cons, List.map_nil, Bool.and_true, Bool.true_and, List.tail_cons, List.tail_nil, List.head?_cons, sNx, sSeq, sRet, sRetN, sExp, sAsg, sAsgO, sIf, sAug, sFor, sWh, sBrk, sCnt, sRaise, sApp, Slot.ownL, sPut, sPar, sParL, sFld, dFld, dMake, mkC, dMakeV, dCm, dObj, D.isObj, dCallV, dCallS, dEqO, dIsO, dDct0, isBD_bl, notBD_bl, revD_lst, sPar3, sTrys, catchD, DEnds.unname, repF, D.eqTo, at_0, at_s, at_nil, set_0, set_s, fzd, frd, if_true, if_false, Bool.not_true, Bool.not_false, true_and, and_true, Bool.false_eq_true, ↓reduceIte, lenF, lenD, allF, anyF, sumF, absF, intF, tupleF, swM, ewM, eqv_int, eqv_str, eqv_bl, D.isTy, Int.cast_ofNat_Int, addD_int, addD_str, addD_lst, iaddD_int, iaddD_str, subD_int, mulD_int, mulD_str, mulD_lst, fdivD_int, modD_int, powD_int, negD_int, eqD, neD_str, neD_int, ltD_int, leD_int, gtD_int, geD_int, isD, isnD, D.isNon, inDv, ninDv, ixD_lst, ixD_tup, ixD_str, slD_lst, slD_frl, slD_str, dLc, dLook, Slot.calm]
      refine ⟨ns, j, rfl, hl, by omega, fun a b hb0 hb1 outs => ?_⟩
      try simp -implicitDefEqProofs only [runD, startE, outsE, outs_0, outs_s, List.length_cons, List.length_nil, List.cons_append, List.nil_append, List.replicate, Nat.sub_zero, Nat.add_one_sub_one, Nat.reduceSub, Nat.reduceAdd, dC, dVar_M, dVarM_fz, dVarM_own, dIxN_M, dIxM_fz, dIxM_own, dFnN_M, dFnM_fz, dFnM_own, dOp, dUn, dArgs, dLst, dTup, dFn, dIsi, dMs, dPart, dSl, dIfE, Slot.known, tVal, tTru, tAnd, tOr, tNot, dAnd, dOr, dNot, dChain, iLst, iTup, iStr, iRng1, iRng2, iEnum, iZip, gN, gNs, gT, Tgt.g, tYes, wipeE, backE, dAVs, dCall, avSlot, AV.ok, Slot.isOwn, bA_nil, bA_v, bA_m, D.isRef, List.all_cons, List.all_nil, List.map_cons, List.map_nil, Bool.and_true, Bool.true_and, List.tail_cons, List.tail_nil, List.head?_cons, sNx, sSeq, sRet, sRetN, sExp, sAsg, sAsgO, sIf, sAug, sFor, sWh, sBrk, sCnt, sRaise, sApp, Slot.ownL, sPut, sPar, sParL, sFld, dFld, dMake, mkC, dMakeV, dCm, dObj, D.isObj, dCallV, dCallS, dEqO, dIsO, dDct0, isBD_bl, notBD_bl, revD_lst, sPar3, sTrys, catchD, DEnds.unname, repF, D.eqTo, at_0, at_s, at_nil, set_0, set_s, fzd, frd, if_true, if_false, Bool.not_true, Bool.not_false, true_and, and_true, Bool.false_eq_true, ↓reduceIte, lenF, lenD, allF, anyF, sumF, absF, intF, tupleF, swM, ewM, eqv_int, eqv_str, eqv_bl, D.isTy, Int.cast_ofNat_Int, addD_int, addD_str, addD_lst, iaddD_int, iaddD_str, subD_int, mulD_int, mulD_str, mulD_lst, fdivD_int, modD_int, powD_int, negD_int, eqD, neD_str, neD_int, ltD_int, leD_int, gtD_int, geD_int, isD, isnD, D.isNon, inDv, ninDv, ixD_lst, ixD_tup, ixD_str, slD_lst, slD_frl, slD_str, dLc, dLook, Slot.calm]
      have hls : okLs [97, 98, 99, 100, 101, 102, 103, 104] := ⟨by decide, by decide, by decide⟩
      refine ⟨_, _, 9, rfl, ⟨a, b, rfl, hb0, hb1⟩, hls, by decide, fun w p1 o1 o2 hw1 hw2 hp1 => ?_⟩
      obtain ⟨a1, b1, rfl, h10, h11⟩ := hp1
      try simp -implicitDefEqProofs only [runD, startE, outsE, outs_0, outs_s, List.length_cons, List.length_nil, List.cons_append, List.nil_append, List.replicate, Nat.sub_zero, Nat.add_one_sub_one, Nat.reduceSub, Nat.reduceAdd, dC, dVar_M, dVarM_fz, dVarM_own, dIxN_M, dIxM_fz, dIxM_own, dFnN_M, dFnM_fz, dFnM_own, dOp, dUn, dArgs, dLst, dTup, dFn, dIsi, dMs, dPart, dSl, dIfE, Slot.known, tVal, tTru, tAnd, tOr, tNot, dAnd, dOr, dNot, dChain, iLst, iTup, iStr, iRng1, iRng2, iEnum, iZip, gN, gNs, gT, Tgt.g, tYes, wipeE, backE, dAVs, dCall, avSlot, AV.ok, Slot.isOwn, bA_nil, bA_v, bA_m, D.isRef, List.all_cons, List.all_nil, List.map_cons, List.map_nil, Bool.and_true, Bool.true_and, List.tail_cons, List.tail_nil, List.head?_cons, sNx, sSeq, sRet, sRetN, sExp, sAsg, sAsgO, sIf, sAug, sFor, sWh, sBrk, sCnt, sRaise, sApp, Slot.ownL, sPut, sPar, sParL, sFld, dFld, dMake, mkC, dMakeV, dCm, dObj, D.isObj, dCallV, dCallS, dEqO, dIsO, dDct0, isBD_bl, notBD_bl, revD_lst, sPar3, sTrys, catchD, DEnds.unname, repF, D.eqTo, at_0, at_s, at_nil, set_0, set_s, fzd, frd, if_true, if_false, Bool.not_true, Bool.not_false, true_and, and_true, Bool.false_eq_true, ↓reduceIte, lenF, lenD, allF, anyF, sumF, absF, intF, tupleF, swM, ewM, eqv_int, eqv_str, eqv_bl, D.isTy, Int.cast_ofNat_Int, addD_int, addD_str, addD_lst, iaddD_int, iaddD_str, subD_int, mulD_int, mulD_str, mulD_lst, fdivD_int, modD_int, powD_int, negD_int, eqD, neD_str, neD_int, ltD_int, leD_int, gtD_int, geD_int, isD, isnD, D.isNon, inDv, ninDv, ixD_lst, ixD_tup, ixD_str, slD_lst, slD_frl, slD_str, dLc, dLook, Slot.calm]
      refine ⟨_, _, 6, rfl, ⟨a1, b1, rfl, h10, h11⟩, hls, by decide, fun ss r1 p2 o1 o2 hs1 hk1 hp2 hr1 => ?_⟩
      simp only [hr1]
      clear hr1
      try simp -implicitDefEqProofs only [runD, startE, outsE, outs_0, outs_s, List.length_cons, List.length_nil, List.cons_append, List.nil_append, List.replicate, Nat.sub_zero, Nat.add_one_sub_one, Nat.reduceSub, Nat.reduceAdd, dC, dVar_M, dVarM_fz, dVarM_own, dIxN_M, dIxM_fz, dIxM_own, dFnN_M, dFnM_fz, dFnM_own, dOp, dUn, dArgs, dLst, dTup, dFn, dIsi, dMs, dPart, dSl, dIfE, Slot.known, tVal, tTru, tAnd, tOr, tNot, dAnd, dOr, dNot, dChain, iLst, iTup, iStr, iRng1, iRng2, iEnum, iZip, gN, gNs, gT, Tgt.g, tYes, wipeE, backE, dAVs, dCall, avSlot, AV.ok, Slot.isOwn, bA_nil, bA_v, bA_m, D.isRef, List.all_cons, List.all_nil, List.map_cons, List.map_nil, Bool.and_true, Bool.true_and, List.tail_cons, List.tail_nil, List.head?_cons, sNx, sSeq, sRet, sRetN, sExp, sAsg, sAsgO, sIf, sAug, sFor, sWh, sBrk, sCnt, sRaise, sApp, Slot.ownL, sPut, sPar, sParL, sFld, dFld, dMake, mkC, dMakeV, dCm, dObj, D.isObj, dCallV, dCallS, dEqO, dIsO, dDct0, isBD_bl, notBD_bl, revD_lst, sPar3, sTrys, catchD, DEnds.unname, repF, D.eqTo, at_0, at_s, at_nil, set_0, set_s, fzd, frd, if_true, if_false, Bool.not_true, Bool.not_false, true_and, and_true, Bool.false_eq_true, ↓reduceIte, lenF, lenD, allF, anyF, sumF, absF, intF, tupleF, swM, ewM, eqv_int, eqv_str, eqv_bl, D.isTy, Int.cast_ofNat_Int, addD_int, addD_str, addD_lst, iaddD_int, iaddD_str, subD_int, mulD_int, mulD_str, mulD_lst, fdivD_int, modD_int, powD_int, negD_int, eqD, neD_str, neD_int, ltD_int, leD_int, gtD_int, geD_int, isD, isnD, D.isNon, inDv, ninDv, ixD_lst, ixD_tup, ixD_str, slD_lst, slD_frl, slD_str, dLc, dLook, Slot.calm]
      refine ⟨by decide, ⟨by omega, by omega⟩, own1 (fun d hd => nomatch hd), ?_⟩
      have tw : Thing (.str w) := thing_str (List.all_eq_true.mpr fun c hc => item_okC (List.all_eq_true.mp hw2 c hc)) (by omega)
      have tss : Thing (seqD ss) := thing_lst (fun x hx => by
        obtain ⟨s, hs, rfl⟩ := List.mem_map.mp hx
        exact el_step (hk1 s hs)) (by rw [List.length_map]; omega)
      refine lcL_inv (I := fun xs acc ρ => ∃ p' : Slot, ρ = [.fz (.frl (ns.map .int)), .fz (.lst L), .fz (.int j), p', .fz (.str w), .fz (seqD ss), s6, s7, s8, .no, .no, .no] ∧ poolOk p' ∧ (∀ x ∈ acc, Thing x) ∧ acc.length + xs.length ≤ 8)
        (fun acc ρ h => ?_) (fun x xs acc ρ h k3 k4 hk3 hk4 => ?_) _ _ _ ⟨p2, rfl, hp2, (fun x hx => nomatch hx), by rw [rng_len]; decide⟩
      · obtain ⟨p4, rfl, hp4, ht, hlen⟩ := h
        simp only [List.length_nil] at hlen
        try simp -implicitDefEqProofs only [runD, startE, outsE, outs_0, outs_s, List.length_cons, List.length_nil, List.cons_append, List.nil_append, List.replicate, Nat.sub_zero, Nat.add_one_sub_one, Nat.reduceSub, Nat.reduceAdd, dC, dVar_M, dVarM_fz, dVarM_own, dIxN_M, dIxM_fz, dIxM_own, dFnN_M, dFnM_fz, dFnM_own, dOp, dUn, dArgs, dLst, dTup, dFn, dIsi, dMs, dPart, dSl, dIfE, Slot.known, tVal, tTru, tAnd, tOr, tNot, dAnd, dOr, dNot, dChain, iLst, iTup, iStr, iRng1, iRng2, iEnum, iZip, gN, gNs, gT, Tgt.g, tYes, wipeE, backE, dAVs, dCall, avSlot, AV.ok, Slot.isOwn, bA_nil, bA_v, bA_m, D.isRef, List.all_cons, List.all_nil, List.map_cons, List.map_nil, Bool.and_true, Bool.true_and, List.tail_cons, List.tail_nil, List.head?_cons, sNx, sSeq, sRet, sRetN, sExp, sAsg, sAsgO, sIf, sAug, sFor, sWh, sBrk, sCnt, sRaise, sApp, Slot.ownL, sPut, sPar, sParL, sFld, dFld, dMake, mkC, dMakeV, dCm, dObj, D.isObj, dCallV, dCallS, dEqO, dIsO, dDct0, isBD_bl, notBD_bl, revD_lst, sPar3, sTrys, catchD, DEnds.unname, repF, D.eqTo, at_0, at_s, at_nil, set_0, set_s, fzd, frd, if_true, if_false, Bool.not_true, Bool.not_false, true_and, and_true, Bool.false_eq_true, ↓reduceIte, lenF, lenD, allF, anyF, sumF, absF, intF, tupleF, swM, ewM, eqv_int, eqv_str, eqv_bl, D.isTy, Int.cast_ofNat_Int, addD_int, addD_str, addD_lst, iaddD_int, iaddD_str, subD_int, mulD_int, mulD_str, mulD_lst, fdivD_int, modD_int, powD_int, negD_int, eqD, neD_str, neD_int, ltD_int, leD_int, gtD_int, geD_int, isD, isnD, D.isNon, inDv, ninDv, ixD_lst, ixD_tup, ixD_str, slD_lst, slD_frl, slD_str, dLc, dLook, Slot.calm]
        refine ⟨by show _ ≤ 16777216; omega, ?_⟩
        refine forL_inv (I := fun es ρ => ∃ (s6 s7 s8 : Slot), (∀ d ∈ es, Thing d) ∧ ρ = [.fz (.frl (ns.map .int)), .fz (.lst L), .fz (.int j), p4, .fz (.str w), .fz (seqD ss), s6, s7, s8, .no, .no, .no])
          (fun ρ h => ?_) (fun d es ρ h k5 hk5 => ?_) _ _ ⟨s6, s7, s8, fun d hd => ?_, rfl⟩
        · obtain ⟨s6, s7, s8, _, rfl⟩ := h
          exact hk _ ⟨j + 1, m, _, _, _, _, _, _, _, rfl, by omega, rfl⟩
        · obtain ⟨s6, s7, s8, ht, rfl⟩ := h
          have td := ht d List.mem_cons_self
          have nx : ∀ s7 s8, k5 [.fz (.frl (ns.map .int)), .fz (.lst L), .fz (.int j), p4, .fz (.str w), .fz (seqD ss), .fz d, s7, s8, .no, .no, .no] := fun s7 s8 => hk5 _ ⟨_, s7, s8, fun w hw => ht w (List.mem_cons_of_mem _ hw), rfl⟩
          clear hk5
          simp -implicitDefEqProofs only [runD, startE, outsE, outs_0, outs_s, List.length_cons, List.length_nil, List.cons_append, List.nil_append, List.replicate, Nat.sub_zero, Nat.add_one_sub_one, Nat.reduceSub, Nat.reduceAdd, dC, dVar_M, dVarM_fz, dVarM_own, dIxN_M, dIxM_fz, dIxM_own, dFnN_M, dFnM_fz, dFnM_own, dOp, dUn, dArgs, dLst, dTup, dFn, dIsi, dMs, dPart, dSl, dIfE, Slot.known, tVal, tTru, tAnd, tOr, tNot, dAnd, dOr, dNot, dChain, iLst, iTup, iStr, iRng1, iRng2, iEnum, iZip, gN, gNs, gT, Tgt.g, tYes, wipeE, backE, dAVs, dCall, avSlot, AV.ok, Slot.isOwn, bA_nil, bA_v, bA_m, D.isRef, List.all_cons, List.all_nil, List.map_cons, List.map_nil, Bool.and_true, Bool.true_and, List.tail_cons, List.tail_nil, List.head?_cons, sNx, sSeq, sRet, sRetN, sExp, sAsg, sAsgO, sIf, sAug, sFor, sWh, sBrk, sCnt, sRaise, sApp, Slot.ownL, sPut, sPar, sParL, sFld, dFld, dMake, mkC, dMakeV, dCm, dObj, D.isObj, dCallV, dCallS, dEqO, dIsO, dDct0, isBD_bl, notBD_bl, revD_lst, sPar3, sTrys, catchD, DEnds.unname, repF, D.eqTo, at_0, at_s, at_nil, set_0, set_s, fzd, frd, if_true, if_false, Bool.not_true, Bool.not_false, true_and, and_true, Bool.false_eq_true, ↓reduceIte, lenF, lenD, allF, anyF, sumF, absF, intF, tupleF, swM, ewM, eqv_int, eqv_str, eqv_bl, D.isTy, Int.cast_ofNat_Int, addD_int, addD_str, addD_lst, iaddD_int, iaddD_str, subD_int, mulD_int, mulD_str, mulD_lst, fdivD_int, modD_int, powD_int, negD_int, eqD, neD_str, neD_int, ltD_int, leD_int, gtD_int, geD_int, isD, isnD, D.isNon, inDv, ninDv, ixD_lst, ixD_tup, ixD_str, slD_lst, slD_frl, slD_str, dLc, dLook, Slot.calm]
          refine ⟨td.rep, ?_⟩
          have same : ∀ (b : Bool) (k : R → Prop), k (.fz (.bl false)) → k (.fz (.bl false)) := fun _ _ h => h
          cases d with
          | str x =>
            try simp -implicitDefEqProofs only [runD, startE, outsE, outs_0, outs_s, List.length_cons, List.length_nil, List.cons_append, List.nil_append, List.replicate, Nat.sub_zero, Nat.add_one_sub_one, Nat.reduceSub, Nat.reduceAdd, dC, dVar_M, dVarM_fz, dVarM_own, dIxN_M, dIxM_fz, dIxM_own, dFnN_M, dFnM_fz, dFnM_own, dOp, dUn, dArgs, dLst, dTup, dFn, dIsi, dMs, dPart, dSl, dIfE, Slot.known, tVal, tTru, tAnd, tOr, tNot, dAnd, dOr, dNot, dChain, iLst, iTup, iStr, iRng1, iRng2, iEnum, iZip, gN, gNs, gT, Tgt.g, tYes, wipeE, backE, dAVs, dCall, avSlot, AV.ok, Slot.isOwn, bA_nil, bA_v, bA_m, D.isRef, List.all_cons, List.all_nil, List.map_cons, List.map_nil, Bool.and_true, Bool.true_and, List.tail_cons, List.tail_nil, List.head?_cons, sNx, sSeq, sRet, sRetN, sExp, sAsg, sAsgO, sIf, sAug, sFor, sWh, sBrk, sCnt, sRaise, sApp, Slot.ownL, sPut, sPar, sParL, sFld, dFld, dMake, mkC, dMakeV, dCm, dObj, D.isObj, dCallV, dCallS, dEqO, dIsO, dDct0, isBD_bl, notBD_bl, revD_lst, sPar3, sTrys, catchD, DEnds.unname, repF, D.eqTo, at_0, at_s, at_nil, set_0, set_s, fzd, frd, if_true, if_false, Bool.not_true, Bool.not_false, true_and, and_true, Bool.false_eq_true, ↓reduceIte, lenF, lenD, allF, anyF, sumF, absF, intF, tupleF, swM, ewM, eqv_int, eqv_str, eqv_bl, D.isTy, Int.cast_ofNat_Int, addD_int, addD_str, addD_lst, iaddD_int, iaddD_str, subD_int, mulD_int, mulD_str, mulD_lst, fdivD_int, modD_int, powD_int, negD_int, eqD, neD_str, neD_int, ltD_int, leD_int, gtD_int, geD_int, isD, isnD, D.isNon, inDv, ninDv, ixD_lst, ixD_tup, ixD_str, slD_lst, slD_frl, slD_str, dLc, dLook, Slot.calm]
            refine ⟨true, rfl, (if_pos rfl).mpr ⟨own1 (fun d hd => nomatch hd), ?_⟩⟩
            refine lcL_pure (p := notIt) (f := id) _ _ (fun y hy k1 k2 h1 h2 => ?_) [] ?_ ?_
            · obtain ⟨c, hc, rfl⟩ := List.mem_map.mp hy
              try simp -implicitDefEqProofs only [runD, startE, outsE, outs_0, outs_s, List.length_cons, List.length_nil, List.cons_append, List.nil_append, List.replicate, Nat.sub_zero, Nat.add_one_sub_one, Nat.reduceSub, Nat.reduceAdd, dC, dVar_M, dVarM_fz, dVarM_own, dIxN_M, dIxM_fz, dIxM_own, dFnN_M, dFnM_fz, dFnM_own, dOp, dUn, dArgs, dLst, dTup, dFn, dIsi, dMs, dPart, dSl, dIfE, Slot.known, tVal, tTru, tAnd, tOr, tNot, dAnd, dOr, dNot, dChain, iLst, iTup, iStr, iRng1, iRng2, iEnum, iZip, gN, gNs, gT, Tgt.g, tYes, wipeE, backE, dAVs, dCall, avSlot, AV.ok, Slot.isOwn, bA_nil, bA_v, bA_m, D.isRef, List.all_cons, List.all_nil, List.map_cons, List.map_nil, Bool.and_true, Bool.true_and, List.tail_cons, List.tail_nil, List.head?_cons, sNx, sSeq, sRet, sRetN, sExp, sAsg, sAsgO, sIf, sAug, sFor, sWh, sBrk, sCnt, sRaise, sApp, Slot.ownL, sPut, sPar, sParL, sFld, dFld, dMake, mkC, dMakeV, dCm, dObj, D.isObj, dCallV, dCallS, dEqO, dIsO, dDct0, isBD_bl, notBD_bl, revD_lst, sPar3, sTrys, catchD, DEnds.unname, repF, D.eqTo, at_0, at_s, at_nil, set_0, set_s, fzd, frd, if_true, if_false, Bool.not_true, Bool.not_false, true_and, and_true, Bool.false_eq_true, ↓reduceIte, lenF, lenD, allF, anyF, sumF, absF, intF, tupleF, swM, ewM, eqv_int, eqv_str, eqv_bl, D.isTy, Int.cast_ofNat_Int, addD_int, addD_str, addD_lst, iaddD_int, iaddD_str, subD_int, mulD_int, mulD_str, mulD_lst, fdivD_int, modD_int, powD_int, negD_int, eqD, neD_str, neD_int, ltD_int, leD_int, gtD_int, geD_int, isD, isnD, D.isNon, inDv, ninDv, ixD_lst, ixD_tup, ixD_str, slD_lst, slD_frl, slD_str, dLc, dLook, Slot.calm]
              show (fun b => if (!b) = true then _ else _) (decide (c ∈ ([97, 98, 99, 100, 101, 102, 103, 104] : List Nat)))
              rw [mem_items]
              have e : notIt (.str [c]) = !isItem c := rfl
              rw [e] at h1 h2
              cases hs : isItem c with
              | true =>
                rw [hs] at h2
                exact (if_neg (by decide)).mpr (h2 rfl _ rfl)
              | false =>
                rw [hs] at h1
                exact (if_pos rfl).mpr (h1 rfl _ _ rfl rfl)
            · have := td.word x rfl
              rw [List.length_map]; show 0 + x.length ≤ 16777216; omega
            rw [List.nil_append, List.map_id]
            have hok : D.eqOk 60 (.lst ((x.map fun c => D.str [c]).filter notIt)) = true := by
              rw [D.eqOk]
              refine eqOkL_all _ _ fun y hy => ?_
              obtain ⟨c, hc, rfl⟩ := List.mem_map.mp (List.mem_filter.mp hy).1
              rfl
            refine ⟨by decide, .inr ⟨hok, rfl⟩, ?_⟩
            rw [eqv_nil, notIt_all]
            try simp -implicitDefEqProofs only [runD, startE, outsE, outs_0, outs_s, List.length_cons, List.length_nil, List.cons_append, List.nil_append, List.replicate, Nat.sub_zero, Nat.add_one_sub_one, Nat.reduceSub, Nat.reduceAdd, dC, dVar_M, dVarM_fz, dVarM_own, dIxN_M, dIxM_fz, dIxM_own, dFnN_M, dFnM_fz, dFnM_own, dOp, dUn, dArgs, dLst, dTup, dFn, dIsi, dMs, dPart, dSl, dIfE, Slot.known, tVal, tTru, tAnd, tOr, tNot, dAnd, dOr, dNot, dChain, iLst, iTup, iStr, iRng1, iRng2, iEnum, iZip, gN, gNs, gT, Tgt.g, tYes, wipeE, backE, dAVs, dCall, avSlot, AV.ok, Slot.isOwn, bA_nil, bA_v, bA_m, D.isRef, List.all_cons, List.all_nil, List.map_cons, List.map_nil, Bool.and_true, Bool.true_and, List.tail_cons, List.tail_nil, List.head?_cons, sNx, sSeq, sRet, sRetN, sExp, sAsg, sAsgO, sIf, sAug, sFor, sWh, sBrk, sCnt, sRaise, sApp, Slot.ownL, sPut, sPar, sParL, sFld, dFld, dMake, mkC, dMakeV, dCm, dObj, D.isObj, dCallV, dCallS, dEqO, dIsO, dDct0, isBD_bl, notBD_bl, revD_lst, sPar3, sTrys, catchD, DEnds.unname, repF, D.eqTo, at_0, at_s, at_nil, set_0, set_s, fzd, frd, if_true, if_false, Bool.not_true, Bool.not_false, true_and, and_true, Bool.false_eq_true, ↓reduceIte, lenF, lenD, allF, anyF, sumF, absF, intF, tupleF, swM, ewM, eqv_int, eqv_str, eqv_bl, D.isTy, Int.cast_ofNat_Int, addD_int, addD_str, addD_lst, iaddD_int, iaddD_str, subD_int, mulD_int, mulD_str, mulD_lst, fdivD_int, modD_int, powD_int, negD_int, eqD, neD_str, neD_int, ltD_int, leD_int, gtD_int, geD_int, isD, isnD, D.isNon, inDv, ninDv, ixD_lst, ixD_tup, ixD_str, slD_lst, slD_frl, slD_str, dLc, dLook, Slot.calm]
            refine isq_use td.plain (b := x.all isItem) ?_ fun o => ?_
            · show (decide (x.length ≤ 2100) && x.all isItem) = _
              rw [decide_eq_true (td.word x rfl), Bool.true_and]
            refine ⟨rep_bl _, rep_bl _, .inl rfl, (if_neg (by simp [R.d])).mpr ?_⟩
            refine ⟨_, rfl, td.plain, fun o => ⟨rep_bl _, _, rfl, td.plain, fun o => ⟨rep_bl _, .inl rfl, (if_neg (by simp [R.d])).mpr ?_⟩⟩⟩
            refine ⟨false, rfl, (if_neg (by decide)).mpr ?_⟩
            refine iss_use (b := false) td.plainL rfl fun o => ?_
            refine ⟨rep_bl _, rep_bl _, .inl rfl, (if_neg (by simp [R.d])).mpr ⟨td.rep, .inl rfl, (if_neg (by simp [R.d])).mpr (nx _ _)⟩⟩
          | lst xs =>
            obtain ⟨hxl, hxe⟩ := td.lst xs rfl
            try simp -implicitDefEqProofs only [runD, startE, outsE, outs_0, outs_s, List.length_cons, List.length_nil, List.cons_append, List.nil_append, List.replicate, Nat.sub_zero, Nat.add_one_sub_one, Nat.reduceSub, Nat.reduceAdd, dC, dVar_M, dVarM_fz, dVarM_own, dIxN_M, dIxM_fz, dIxM_own, dFnN_M, dFnM_fz, dFnM_own, dOp, dUn, dArgs, dLst, dTup, dFn, dIsi, dMs, dPart, dSl, dIfE, Slot.known, tVal, tTru, tAnd, tOr, tNot, dAnd, dOr, dNot, dChain, iLst, iTup, iStr, iRng1, iRng2, iEnum, iZip, gN, gNs, gT, Tgt.g, tYes, wipeE, backE, dAVs, dCall, avSlot, AV.ok, Slot.isOwn, bA_nil, bA_v, bA_m, D.isRef, List.all_cons, List.all_nil, List.map_cons, List.map_nil, Bool.and_true, Bool.true_and, List.tail_cons, List.tail_nil, List.head?_cons, sNx, sSeq, sRet, sRetN, sExp, sAsg, sAsgO, sIf, sAug, sFor, sWh, sBrk, sCnt, sRaise, sApp, Slot.ownL, sPut, sPar, sParL, sFld, dFld, dMake, mkC, dMakeV, dCm, dObj, D.isObj, dCallV, dCallS, dEqO, dIsO, dDct0, isBD_bl, notBD_bl, revD_lst, sPar3, sTrys, catchD, DEnds.unname, repF, D.eqTo, at_0, at_s, at_nil, set_0, set_s, fzd, frd, if_true, if_false, Bool.not_true, Bool.not_false, true_and, and_true, Bool.false_eq_true, ↓reduceIte, lenF, lenD, allF, anyF, sumF, absF, intF, tupleF, swM, ewM, eqv_int, eqv_str, eqv_bl, D.isTy, Int.cast_ofNat_Int, addD_int, addD_str, addD_lst, iaddD_int, iaddD_str, subD_int, mulD_int, mulD_str, mulD_lst, fdivD_int, modD_int, powD_int, negD_int, eqD, neD_str, neD_int, ltD_int, leD_int, gtD_int, geD_int, isD, isnD, D.isNon, inDv, ninDv, ixD_lst, ixD_tup, ixD_str, slD_lst, slD_frl, slD_str, dLc, dLook, Slot.calm]
            refine ⟨false, rfl, (if_neg (by decide)).mpr ?_⟩
            refine isq_use td.plain (b := false) rfl fun o => ?_
            refine ⟨rep_bl _, rep_bl _, .inl rfl, (if_neg (by simp [R.d])).mpr ?_⟩
            refine ⟨_, rfl, td.plain, fun o => ⟨rep_bl _, _, rfl, td.plain, fun o => ⟨rep_bl _, .inl rfl, (if_neg (by simp [R.d])).mpr ?_⟩⟩⟩
            refine ⟨true, rfl, (if_pos rfl).mpr ⟨own1 (fun d hd => nomatch hd), ?_⟩⟩
            refine lcL_pure (p := fun d => !isStep d) (f := id) _ _ (fun y hy k1 k2 h1 h2 => ?_) [] ?_ ?_
            · try simp -implicitDefEqProofs only [runD, startE, outsE, outs_0, outs_s, List.length_cons, List.length_nil, List.cons_append, List.nil_append, List.replicate, Nat.sub_zero, Nat.add_one_sub_one, Nat.reduceSub, Nat.reduceAdd, dC, dVar_M, dVarM_fz, dVarM_own, dIxN_M, dIxM_fz, dIxM_own, dFnN_M, dFnM_fz, dFnM_own, dOp, dUn, dArgs, dLst, dTup, dFn, dIsi, dMs, dPart, dSl, dIfE, Slot.known, tVal, tTru, tAnd, tOr, tNot, dAnd, dOr, dNot, dChain, iLst, iTup, iStr, iRng1, iRng2, iEnum, iZip, gN, gNs, gT, Tgt.g, tYes, wipeE, backE, dAVs, dCall, avSlot, AV.ok, Slot.isOwn, bA_nil, bA_v, bA_m, D.isRef, List.all_cons, List.all_nil, List.map_cons, List.map_nil, Bool.and_true, Bool.true_and, List.tail_cons, List.tail_nil, List.head?_cons, sNx, sSeq, sRet, sRetN, sExp, sAsg, sAsgO, sIf, sAug, sFor, sWh, sBrk, sCnt, sRaise, sApp, Slot.ownL, sPut, sPar, sParL, sFld, dFld, dMake, mkC, dMakeV, dCm, dObj, D.isObj, dCallV, dCallS, dEqO, dIsO, dDct0, isBD_bl, notBD_bl, revD_lst, sPar3, sTrys, catchD, DEnds.unname, repF, D.eqTo, at_0, at_s, at_nil, set_0, set_s, fzd, frd, if_true, if_false, Bool.not_true, Bool.not_false, true_and, and_true, Bool.false_eq_true, ↓reduceIte, lenF, lenD, allF, anyF, sumF, absF, intF, tupleF, swM, ewM, eqv_int, eqv_str, eqv_bl, D.isTy, Int.cast_ofNat_Int, addD_int, addD_str, addD_lst, iaddD_int, iaddD_str, subD_int, mulD_int, mulD_str, mulD_lst, fdivD_int, modD_int, powD_int, negD_int, eqD, neD_str, neD_int, ltD_int, leD_int, gtD_int, geD_int, isD, isnD, D.isNon, inDv, ninDv, ixD_lst, ixD_tup, ixD_str, slD_lst, slD_frl, slD_str, dLc, dLook, Slot.calm]
              refine ⟨y, rfl, (hxe y hy).1, fun o => ?_⟩
              cases hs : isStep y with
              | true =>
                try simp -implicitDefEqProofs only [runD, startE, outsE, outs_0, outs_s, List.length_cons, List.length_nil, List.cons_append, List.nil_append, List.replicate, Nat.sub_zero, Nat.add_one_sub_one, Nat.reduceSub, Nat.reduceAdd, dC, dVar_M, dVarM_fz, dVarM_own, dIxN_M, dIxM_fz, dIxM_own, dFnN_M, dFnM_fz, dFnM_own, dOp, dUn, dArgs, dLst, dTup, dFn, dIsi, dMs, dPart, dSl, dIfE, Slot.known, tVal, tTru, tAnd, tOr, tNot, dAnd, dOr, dNot, dChain, iLst, iTup, iStr, iRng1, iRng2, iEnum, iZip, gN, gNs, gT, Tgt.g, tYes, wipeE, backE, dAVs, dCall, avSlot, AV.ok, Slot.isOwn, bA_nil, bA_v, bA_m, D.isRef, List.all_cons, List.all_nil, List.map_cons, List.map_nil, Bool.and_true, Bool.true_and, List.tail_cons, List.tail_nil, List.head?_cons, sNx, sSeq, sRet, sRetN, sExp, sAsg, sAsgO, sIf, sAug, sFor, sWh, sBrk, sCnt, sRaise, sApp, Slot.ownL, sPut, sPar, sParL, sFld, dFld, dMake, mkC, dMakeV, dCm, dObj, D.isObj, dCallV, dCallS, dEqO, dIsO, dDct0, isBD_bl, notBD_bl, revD_lst, sPar3, sTrys, catchD, DEnds.unname, repF, D.eqTo, at_0, at_s, at_nil, set_0, set_s, fzd, frd, if_true, if_false, Bool.not_true, Bool.not_false, true_and, and_true, Bool.false_eq_true, ↓reduceIte, lenF, lenD, allF, anyF, sumF, absF, intF, tupleF, swM, ewM, eqv_int, eqv_str, eqv_bl, D.isTy, Int.cast_ofNat_Int, addD_int, addD_str, addD_lst, iaddD_int, iaddD_str, subD_int, mulD_int, mulD_str, mulD_lst, fdivD_int, modD_int, powD_int, negD_int, eqD, neD_str, neD_int, ltD_int, leD_int, gtD_int, geD_int, isD, isnD, D.isNon, inDv, ninDv, ixD_lst, ixD_tup, ixD_str, slD_lst, slD_frl, slD_str, dLc, dLook, Slot.calm]
                exact h2 (by rw [hs]; rfl) _ rfl
              | false =>
                try simp -implicitDefEqProofs only [runD, startE, outsE, outs_0, outs_s, List.length_cons, List.length_nil, List.cons_append, List.nil_append, List.replicate, Nat.sub_zero, Nat.add_one_sub_one, Nat.reduceSub, Nat.reduceAdd, dC, dVar_M, dVarM_fz, dVarM_own, dIxN_M, dIxM_fz, dIxM_own, dFnN_M, dFnM_fz, dFnM_own, dOp, dUn, dArgs, dLst, dTup, dFn, dIsi, dMs, dPart, dSl, dIfE, Slot.known, tVal, tTru, tAnd, tOr, tNot, dAnd, dOr, dNot, dChain, iLst, iTup, iStr, iRng1, iRng2, iEnum, iZip, gN, gNs, gT, Tgt.g, tYes, wipeE, backE, dAVs, dCall, avSlot, AV.ok, Slot.isOwn, bA_nil, bA_v, bA_m, D.isRef, List.all_cons, List.all_nil, List.map_cons, List.map_nil, Bool.and_true, Bool.true_and, List.tail_cons, List.tail_nil, List.head?_cons, sNx, sSeq, sRet, sRetN, sExp, sAsg, sAsgO, sIf, sAug, sFor, sWh, sBrk, sCnt, sRaise, sApp, Slot.ownL, sPut, sPar, sParL, sFld, dFld, dMake, mkC, dMakeV, dCm, dObj, D.isObj, dCallV, dCallS, dEqO, dIsO, dDct0, isBD_bl, notBD_bl, revD_lst, sPar3, sTrys, catchD, DEnds.unname, repF, D.eqTo, at_0, at_s, at_nil, set_0, set_s, fzd, frd, if_true, if_false, Bool.not_true, Bool.not_false, true_and, and_true, Bool.false_eq_true, ↓reduceIte, lenF, lenD, allF, anyF, sumF, absF, intF, tupleF, swM, ewM, eqv_int, eqv_str, eqv_bl, D.isTy, Int.cast_ofNat_Int, addD_int, addD_str, addD_lst, iaddD_int, iaddD_str, subD_int, mulD_int, mulD_str, mulD_lst, fdivD_int, modD_int, powD_int, negD_int, eqD, neD_str, neD_int, ltD_int, leD_int, gtD_int, geD_int, isD, isnD, D.isNon, inDv, ninDv, ixD_lst, ixD_tup, ixD_str, slD_lst, slD_frl, slD_str, dLc, dLook, Slot.calm]
                exact h1 (by rw [hs]; rfl) _ _ rfl rfl
            · show 0 + xs.length ≤ 16777216; omega
            rw [List.nil_append, List.map_id]
            have hok : D.eqOk 60 (.lst (xs.filter fun d => !isStep d)) = true := by
              rw [D.eqOk]
              exact eqOkL_all _ _ fun y hy => (hxe y (List.mem_filter.mp hy).1).2
            refine ⟨by decide, .inr ⟨hok, rfl⟩, ?_⟩
            rw [eqv_nil, notSt_all]
            try simp -implicitDefEqProofs only [runD, startE, outsE, outs_0, outs_s, List.length_cons, List.length_nil, List.cons_append, List.nil_append, List.replicate, Nat.sub_zero, Nat.add_one_sub_one, Nat.reduceSub, Nat.reduceAdd, dC, dVar_M, dVarM_fz, dVarM_own, dIxN_M, dIxM_fz, dIxM_own, dFnN_M, dFnM_fz, dFnM_own, dOp, dUn, dArgs, dLst, dTup, dFn, dIsi, dMs, dPart, dSl, dIfE, Slot.known, tVal, tTru, tAnd, tOr, tNot, dAnd, dOr, dNot, dChain, iLst, iTup, iStr, iRng1, iRng2, iEnum, iZip, gN, gNs, gT, Tgt.g, tYes, wipeE, backE, dAVs, dCall, avSlot, AV.ok, Slot.isOwn, bA_nil, bA_v, bA_m, D.isRef, List.all_cons, List.all_nil, List.map_cons, List.map_nil, Bool.and_true, Bool.true_and, List.tail_cons, List.tail_nil, List.head?_cons, sNx, sSeq, sRet, sRetN, sExp, sAsg, sAsgO, sIf, sAug, sFor, sWh, sBrk, sCnt, sRaise, sApp, Slot.ownL, sPut, sPar, sParL, sFld, dFld, dMake, mkC, dMakeV, dCm, dObj, D.isObj, dCallV, dCallS, dEqO, dIsO, dDct0, isBD_bl, notBD_bl, revD_lst, sPar3, sTrys, catchD, DEnds.unname, repF, D.eqTo, at_0, at_s, at_nil, set_0, set_s, fzd, frd, if_true, if_false, Bool.not_true, Bool.not_false, true_and, and_true, Bool.false_eq_true, ↓reduceIte, lenF, lenD, allF, anyF, sumF, absF, intF, tupleF, swM, ewM, eqv_int, eqv_str, eqv_bl, D.isTy, Int.cast_ofNat_Int, addD_int, addD_str, addD_lst, iaddD_int, iaddD_str, subD_int, mulD_int, mulD_str, mulD_lst, fdivD_int, modD_int, powD_int, negD_int, eqD, neD_str, neD_int, ltD_int, leD_int, gtD_int, geD_int, isD, isnD, D.isNon, inDv, ninDv, ixD_lst, ixD_tup, ixD_str, slD_lst, slD_frl, slD_str, dLc, dLook, Slot.calm]
            refine iss_use (b := xs.all isStep) td.plainL ?_ fun o => ?_
            · rw [seqB_lst, decide_eq_true hxl, Bool.true_and]
            refine ⟨rep_bl _, rep_bl _, .inl rfl, (if_neg (by simp [R.d])).mpr ⟨td.rep, .inl rfl, (if_neg (by simp [R.d])).mpr (nx _ _)⟩⟩
          | frl xs => exact absurd rfl (td.frl xs)
          | obj c fs => exact absurd rfl td.plain
          | cls c => exact absurd rfl td.plain
          | _ =>
            try simp -implicitDefEqProofs only [runD, startE, outsE, outs_0, outs_s, List.length_cons, List.length_nil, List.cons_append, List.nil_append, List.replicate, Nat.sub_zero, Nat.add_one_sub_one, Nat.reduceSub, Nat.reduceAdd, dC, dVar_M, dVarM_fz, dVarM_own, dIxN_M, dIxM_fz, dIxM_own, dFnN_M, dFnM_fz, dFnM_own, dOp, dUn, dArgs, dLst, dTup, dFn, dIsi, dMs, dPart, dSl, dIfE, Slot.known, tVal, tTru, tAnd, tOr, tNot, dAnd, dOr, dNot, dChain, iLst, iTup, iStr, iRng1, iRng2, iEnum, iZip, gN, gNs, gT, Tgt.g, tYes, wipeE, backE, dAVs, dCall, avSlot, AV.ok, Slot.isOwn, bA_nil, bA_v, bA_m, D.isRef, List.all_cons, List.all_nil, List.map_cons, List.map_nil, Bool.and_true, Bool.true_and, List.tail_cons, List.tail_nil, List.head?_cons, sNx, sSeq, sRet, sRetN, sExp, sAsg, sAsgO, sIf, sAug, sFor, sWh, sBrk, sCnt, sRaise, sApp, Slot.ownL, sPut, sPar, sParL, sFld, dFld, dMake, mkC, dMakeV, dCm, dObj, D.isObj, dCallV, dCallS, dEqO, dIsO, dDct0, isBD_bl, notBD_bl, revD_lst, sPar3, sTrys, catchD, DEnds.unname, repF, D.eqTo, at_0, at_s, at_nil, set_0, set_s, fzd, frd, if_true, if_false, Bool.not_true, Bool.not_false, true_and, and_true, Bool.false_eq_true, ↓reduceIte, lenF, lenD, allF, anyF, sumF, absF, intF, tupleF, swM, ewM, eqv_int, eqv_str, eqv_bl, D.isTy, Int.cast_ofNat_Int, addD_int, addD_str, addD_lst, iaddD_int, iaddD_str, subD_int, mulD_int, mulD_str, mulD_lst, fdivD_int, modD_int, powD_int, negD_int, eqD, neD_str, neD_int, ltD_int, leD_int, gtD_int, geD_int, isD, isnD, D.isNon, inDv, ninDv, ixD_lst, ixD_tup, ixD_str, slD_lst, slD_frl, slD_str, dLc, dLook, Slot.calm]
            refine ⟨false, rfl, (if_neg (by decide)).mpr ?_⟩
            refine isq_use td.plain (b := false) rfl fun o => ?_
            refine ⟨rep_bl _, rep_bl _, .inl rfl, (if_neg (by simp [R.d])).mpr ?_⟩
            refine ⟨_, rfl, td.plain, fun o => ⟨rep_bl _, _, rfl, td.plain, fun o => ⟨rep_bl _, .inl rfl, (if_neg (by simp [R.d])).mpr ?_⟩⟩⟩
            refine ⟨false, rfl, (if_neg (by decide)).mpr ?_⟩
            refine iss_use (b := false) td.plainL rfl fun o => ?_
            refine ⟨rep_bl _, rep_bl _, .inl rfl, (if_neg (by simp [R.d])).mpr ⟨td.rep, .inl rfl, (if_neg (by simp [R.d])).mpr (nx _ _)⟩⟩
        · rcases List.mem_cons.mp hd with rfl | hd
          · exact tw
          · rcases List.mem_cons.mp hd with rfl | hd
            · exact tss
            · exact ht d hd
      · obtain ⟨p4, rfl, ⟨a4, b4, rfl, h40, h41⟩, ht, hlen⟩ := h
        simp only [List.length_cons] at hlen
        try simp -implicitDefEqProofs only [runD, startE, outsE, outs_0, outs_s, List.length_cons, List.length_nil, List.cons_append, List.nil_append, List.replicate, Nat.sub_zero, Nat.add_one_sub_one, Nat.reduceSub, Nat.reduceAdd, dC, dVar_M, dVarM_fz, dVarM_own, dIxN_M, dIxM_fz, dIxM_own, dFnN_M, dFnM_fz, dFnM_own, dOp, dUn, dArgs, dLst, dTup, dFn, dIsi, dMs, dPart, dSl, dIfE, Slot.known, tVal, tTru, tAnd, tOr, tNot, dAnd, dOr, dNot, dChain, iLst, iTup, iStr, iRng1, iRng2, iEnum, iZip, gN, gNs, gT, Tgt.g, tYes, wipeE, backE, dAVs, dCall, avSlot, AV.ok, Slot.isOwn, bA_nil, bA_v, bA_m, D.isRef, List.all_cons, List.all_nil, List.map_cons, List.map_nil, Bool.and_true, Bool.true_and, List.tail_cons, List.tail_nil, List.head?_cons, sNx, sSeq, sRet, sRetN, sExp, sAsg, sAsgO, sIf, sAug, sFor, sWh, sBrk, sCnt, sRaise, sApp, Slot.ownL, sPut, sPar, sParL, sFld, dFld, dMake, mkC, dMakeV, dCm, dObj, D.isObj, dCallV, dCallS, dEqO, dIsO, dDct0, isBD_bl, notBD_bl, revD_lst, sPar3, sTrys, catchD, DEnds.unname, repF, D.eqTo, at_0, at_s, at_nil, set_0, set_s, fzd, frd, if_true, if_false, Bool.not_true, Bool.not_false, true_and, and_true, Bool.false_eq_true, ↓reduceIte, lenF, lenD, allF, anyF, sumF, absF, intF, tupleF, swM, ewM, eqv_int, eqv_str, eqv_bl, D.isTy, Int.cast_ofNat_Int, addD_int, addD_str, addD_lst, iaddD_int, iaddD_str, subD_int, mulD_int, mulD_str, mulD_lst, fdivD_int, modD_int, powD_int, negD_int, eqD, neD_str, neD_int, ltD_int, leD_int, gtD_int, geD_int, isD, isnD, D.isNon, inDv, ninDv, ixD_lst, ixD_tup, ixD_str, slD_lst, slD_frl, slD_str, dLc, dLook, Slot.calm]
        refine ⟨_, ss, rfl, ⟨a4, b4, rfl, h40, h41⟩, ⟨by omega, hk1⟩, by omega, fun r p5 o tr hp5 => ?_⟩
        obtain ⟨a5, b5, rfl, h50, h51⟩ := hp5
        refine hk3 _ _ ⟨by show _ < 16777216; omega, _, rfl, ⟨a5, b5, rfl, h50, h51⟩, fun y hy => ?_, ?_⟩
        · rcases List.mem_append.mp hy with hy | hy
          · exact ht y hy
          · rw [List.mem_singleton] at hy; subst hy; exact tr
        · rw [List.length_append]; simp only [List.length_cons, List.length_nil]; omega
end DL

set_option Elab.async false
set_option linter.all false
set_option autoImplicit false
set_option maxRecDepth 100000
set_option maxHeartbeats 4000000
/-! the walk of law_k01_items_steps_sequences; printed by gen.py -/
namespace Wk01
open PySem PySem.Spec PyProof.Rows L2 DL
def sat (i : Nat) : Stmt := PySem.Challenge.pw_queueeffect_k01_items_steps_sequences.main.body.getD i (.Pass ⟨0, 0, 0, 0⟩)
abbrev s_is_word : Stmt := sat 4
abbrev s_is_queue : Stmt := sat 5
abbrev s_is_step : Stmt := sat 6
abbrev s_first_invalid : Stmt := sat 7
abbrev s_is_sequence : Stmt := sat 8
abbrev s__law_hand : Stmt := sat 10
abbrev s__law_draw : Stmt := sat 11
abbrev s__law_word : Stmt := sat 12
abbrev s__law_steps : Stmt := sat 13
abbrev s__law_odd : Stmt := sat 15
abbrev s__law_is_step : Stmt := sat 14
abbrev s_law : Stmt := sat 16
abbrev N_is_word : List Str := ["value", "most", "item"]
theorem sc_is_word : FnScope ["value", "most", "item"] ["value", "most"] (defScope s_is_word) := ⟨rfl, rfl, rfl, by decide +kernel, rfl, by decide +kernel, by decide +kernel⟩
abbrev N_is_queue : List Str := ["value"]
theorem sc_is_queue : FnScope ["value"] ["value"] (defScope s_is_queue) := ⟨rfl, rfl, rfl, by decide +kernel, rfl, by decide +kernel, by decide +kernel⟩
abbrev N_is_step : List Str := ["value"]
theorem sc_is_step : FnScope ["value"] ["value"] (defScope s_is_step) := ⟨rfl, rfl, rfl, by decide +kernel, rfl, by decide +kernel, by decide +kernel⟩
abbrev N_first_invalid : List Str := ["value", "position", "step"]
theorem sc_first_invalid : FnScope ["value", "position", "step"] ["value"] (defScope s_first_invalid) := ⟨rfl, rfl, rfl, by decide +kernel, rfl, by decide +kernel, by decide +kernel⟩
abbrev N_is_sequence : List Str := ["value"]
theorem sc_is_sequence : FnScope ["value"] ["value"] (defScope s_is_sequence) := ⟨rfl, rfl, rfl, by decide +kernel, rfl, by decide +kernel, by decide +kernel⟩
abbrev N__law_hand : List Str := ["_law_script", "_law_k", "_law_cell", "_law_seed"]
theorem sc__law_hand : FnScope ["_law_script", "_law_k", "_law_cell", "_law_seed"] ["_law_script", "_law_k"] (defScope s__law_hand) := ⟨rfl, rfl, rfl, by decide +kernel, rfl, by decide +kernel, by decide +kernel⟩
abbrev N__law_draw : List Str := ["_law_pool", "_law_size", "_law_found"]
theorem sc__law_draw : FnScope ["_law_pool", "_law_size", "_law_found"] ["_law_pool", "_law_size"] (defScope s__law_draw) := ⟨rfl, rfl, rfl, by decide +kernel, rfl, by decide +kernel, by decide +kernel⟩
abbrev N__law_word : List Str := ["_law_pool", "_law_letters", "_law_most", "_law_turn"]
theorem sc__law_word : FnScope ["_law_pool", "_law_letters", "_law_most", "_law_turn"] ["_law_pool", "_law_letters", "_law_most"] (defScope s__law_word) := ⟨rfl, rfl, rfl, by decide +kernel, rfl, by decide +kernel, by decide +kernel⟩
abbrev N__law_steps : List Str := ["_law_pool", "_law_letters", "_law_most", "_law_size", "_law_turn"]
theorem sc__law_steps : FnScope ["_law_pool", "_law_letters", "_law_most", "_law_size", "_law_turn"] ["_law_pool", "_law_letters", "_law_most"] (defScope s__law_steps) := ⟨rfl, rfl, rfl, by decide +kernel, rfl, by decide +kernel, by decide +kernel⟩
abbrev N__law_odd : List Str := ["_law_pool", "_law_steps_here", "_law_some"]
theorem sc__law_odd : FnScope ["_law_pool", "_law_steps_here", "_law_some"] ["_law_pool", "_law_steps_here"] (defScope s__law_odd) := ⟨rfl, rfl, rfl, by decide +kernel, rfl, by decide +kernel, by decide +kernel⟩
abbrev N__law_is_step : List Str := ["_law_thing"]
theorem sc__law_is_step : FnScope ["_law_thing"] ["_law_thing"] (defScope s__law_is_step) := ⟨rfl, rfl, rfl, by decide +kernel, rfl, by decide +kernel, by decide +kernel⟩
abbrev N_law : List Str := ["_law_script", "_law_long", "_law_k", "_law_pool", "_law_word_here", "_law_steps_here", "_law_thing", "_law_kept", "_law_due", "_law_turn", "_law_item", "_law_step"]
theorem sc_law : FnScope ["_law_script", "_law_long", "_law_k", "_law_pool", "_law_word_here", "_law_steps_here", "_law_thing", "_law_kept", "_law_due", "_law_turn", "_law_item", "_law_step"] ["_law_script"] (defScope s_law) := ⟨rfl, rfl, rfl, by decide +kernel, rfl, by decide +kernel, by decide +kernel⟩
structure Zs (K : PySem.W.Frag) (mg : Str → Option Value)  : Prop where
  one : True
  z_isinstance : mg "isinstance" = none
  z_str : mg "str" = none
  z_len : mg "len" = none
  z_all : mg "all" = none
  z_list : mg "list" = none
  z_enumerate : mg "enumerate" = none
  z_int : mg "int" = none
  z_range : mg "range" = none
  z_tuple : mg "tuple" = none
  z_max : mg "max" = none
  z_min : mg "min" = none
  z_repr : mg "repr" = none
  c_ITEMS : ∃ tk, mg "ITEMS" = some (.str (tx [97, 98, 99, 100, 101, 102, 103, 104]) tk)
  c_MAX_QUEUE : ∃ tk, mg "MAX_QUEUE" = some (.int 2100 tk)
  c_MAX_STEPS : ∃ tk, mg "MAX_STEPS" = some (.int 400 tk)
section
variable {P : Program} {w : World} {K : PySem.W.Frag} {mg : Str → Option Value} {base : Heap} {T : Tb} {fa : Addr} {fd : FuncData} 
theorem d_is_word (FF : Fun K "is_word" "is_word" s_is_word fa fd) (Z : Zs K mg ) : Def P w K mg base T 2 fa fd ["value", "most"] [] C_is_word :=
  fnD (k := 1) FF sc_is_word rfl (fun cdv A outer s H E B W hr tk po => pds_one (pds_ret (pd_and (pd_isi (t := .str) (by rfl) rfl Z.z_isinstance rfl Z.z_str (pd_var (i := 0) rfl (by first | exact Or.inl rfl | exact Or.inr (Or.inl rfl) | exact Or.inr (Or.inr rfl)))) (pd_and (pd_cmp op_le ok_le (pd_callB ok_len call_lenA rfl Z.z_len (by rfl) (pda_cons (pd_var (i := 0) rfl (by first | exact Or.inl rfl | exact Or.inr (Or.inl rfl) | exact Or.inr (Or.inr rfl))) (pda_nil))) (pd_var (i := 1) rfl (by first | exact Or.inl rfl | exact Or.inr (Or.inl rfl) | exact Or.inr (Or.inr rfl))) (nomark _)) (pd_one (pd_callB ok_all (cr_all rfl) rfl Z.z_all (by rfl) (pda_cons (pd_lc (t := .one 2) (own := [("item", 2)]) rfl sc_is_word.nd (pdi_str (pd_var (i := 0) rfl (by first | exact Or.inl rfl | exact Or.inr (Or.inl rfl) | exact Or.inr (Or.inr rfl)))) (blkOk_by (N := N_is_word) (sc := defScope s_is_word) (by decide +kernel)) rfl rfl (fun _ _ _ _ _ => pgh_one (i := 2) sc_is_word.nd rfl (by first | exact Or.inl rfl | exact Or.inr rfl)) (fun _ _ _ _ _ _ => pdts_nil) (fun _ _ _ _ _ _ => pd_cmp op_inA ok_in (pd_var (i := 2) rfl (by first | exact Or.inl rfl | exact Or.inr (Or.inl rfl) | exact Or.inr (Or.inr rfl))) (pd_strG rfl Z.c_ITEMS (by decide)) (by rfl))) (pda_nil)))))))) p_is_word
theorem d_is_queue (FF : Fun K "is_queue" "is_queue" s_is_queue fa fd) (Z : Zs K mg ) (g_is_word : Cal P w K mg base T "is_word" 2 ["value", "most"] [] C_is_word) : Def P w K mg base T 3 fa fd ["value"] [] C_is_queue :=
  fnD (k := 2) FF sc_is_queue rfl (fun cdv A outer s H E B W hr tk po => pds_one (pds_ret (pd_callC g_is_word (hr.mono (by decide)) tk rfl (pav_v (pd_var (i := 0) rfl (by first | exact Or.inl rfl | exact Or.inr (Or.inl rfl) | exact Or.inr (Or.inr rfl))) (pav_v (pd_intG rfl Z.c_MAX_QUEUE) (pav_nil)))))) p_is_queue
theorem d_is_step (FF : Fun K "is_step" "is_step" s_is_step fa fd) (Z : Zs K mg ) : Def P w K mg base T 2 fa fd ["value"] [] C_is_step :=
  fnD (k := 1) FF sc_is_step rfl (fun cdv A outer s H E B W hr tk po => pds_one (pds_ret (pd_and (pd_isi (t := .str) (by rfl) rfl Z.z_isinstance rfl Z.z_str (pd_var (i := 0) rfl (by first | exact Or.inl rfl | exact Or.inr (Or.inl rfl) | exact Or.inr (Or.inr rfl)))) (pd_and (pd_cmp (op_eqA hr.units) ok_eq (pd_callB ok_len call_lenA rfl Z.z_len (by rfl) (pda_cons (pd_var (i := 0) rfl (by first | exact Or.inl rfl | exact Or.inr (Or.inl rfl) | exact Or.inr (Or.inr rfl))) (pda_nil))) (pd_int) (nomark _)) (pd_and (pd_cmp op_inA ok_in (pd_ix (pd_var (i := 0) rfl (by first | exact Or.inl rfl | exact Or.inr (Or.inl rfl) | exact Or.inr (Or.inr rfl))) (pd_int)) (pd_str (l := [43, 45]) rfl (by decide)) (by rfl)) (pd_one (pd_cmp op_inA ok_in (pd_ix (pd_var (i := 0) rfl (by first | exact Or.inl rfl | exact Or.inr (Or.inl rfl) | exact Or.inr (Or.inr rfl))) (pd_int)) (pd_strG rfl Z.c_ITEMS (by decide)) (by rfl)))))))) p_is_step
theorem d_first_invalid (FF : Fun K "first_invalid" "first_invalid" s_first_invalid fa fd) (Z : Zs K mg ) (g_is_step : Cal P w K mg base T "is_step" 2 ["value"] [] C_is_step) : Def P w K mg base T 3 fa fd ["value"] [] C_first_invalid :=
  fnD (k := 2) FF sc_first_invalid rfl (fun cdv A outer s H E B W hr tk po => pds_cons (pds_if (pdt_w (pdw_or (pdt_not (pdt_val (pd_isi (t := .list) (by rfl) rfl Z.z_isinstance rfl Z.z_list (pd_var (i := 0) rfl (by first | exact Or.inl rfl | exact Or.inr (Or.inl rfl) | exact Or.inr (Or.inr rfl)))))) (pdw_or1 (pdt_cmp op_gt ok_gt (pd_callB ok_len call_lenA rfl Z.z_len (by rfl) (pda_cons (pd_var (i := 0) rfl (by first | exact Or.inl rfl | exact Or.inr (Or.inl rfl) | exact Or.inr (Or.inr rfl))) (pda_nil))) (pd_intG rfl Z.c_MAX_STEPS) (nomark _))))) (pds_one (pds_ret (pd_tup (pda_cons (pd_non) (pda_nil))))) (pds_nil)) (pds_cons (pds_for po rfl (pdi_enum rfl Z.z_enumerate (pd_var (i := 0) rfl (by first | exact Or.inl rfl | exact Or.inr (Or.inl rfl) | exact Or.inr (Or.inr rfl)))) (pdg_tup rfl (pdgs_cons (i := 1) sc_first_invalid.nd rfl (by first | exact Or.inl rfl | exact Or.inr rfl) (by decide) (pdgs_cons (i := 2) sc_first_invalid.nd rfl (by first | exact Or.inl rfl | exact Or.inr rfl) (by decide) (pdgs_nil)))) (pds_one (pds_if (pdt_not (pdt_val (pd_callC g_is_step (hr.mono (by decide)) tk rfl (pav_v (pd_var (i := 2) rfl (by first | exact Or.inl rfl | exact Or.inr (Or.inl rfl) | exact Or.inr (Or.inr rfl))) (pav_nil))))) (pds_one (pds_ret (pd_tup (pda_cons (pd_var (i := 1) rfl (by first | exact Or.inl rfl | exact Or.inr (Or.inl rfl) | exact Or.inr (Or.inr rfl))) (pda_nil))))) (pds_nil)))) (pds_one (pds_ret (pd_non))))) p_first_invalid
theorem d_is_sequence (FF : Fun K "is_sequence" "is_sequence" s_is_sequence fa fd) (Z : Zs K mg ) (g_first_invalid : Cal P w K mg base T "first_invalid" 3 ["value"] [] C_first_invalid) : Def P w K mg base T 4 fa fd ["value"] [] C_is_sequence :=
  fnD (k := 3) FF sc_is_sequence rfl (fun cdv A outer s H E B W hr tk po => pds_one (pds_ret (pd_isN (pd_callC g_first_invalid (hr.mono (by decide)) tk rfl (pav_v (pd_var (i := 0) rfl (by first | exact Or.inl rfl | exact Or.inr (Or.inl rfl) | exact Or.inr (Or.inr rfl))) (pav_nil)))))) p_is_sequence
theorem d__law_hand (FF : Fun K "_law_hand" "_law_hand" s__law_hand fa fd) (Z : Zs K mg ) : Def P w K mg base T 2 fa fd ["_law_script", "_law_k"] [] C__law_hand :=
  fnD (k := 1) FF sc__law_hand rfl (fun cdv A outer s H E B W hr tk po => pds_cons (pds_set (i := 2) sc__law_hand.nd rfl (by first | exact Or.inl rfl | exact Or.inr rfl) (by decide) (pd_ix (pd_op op_addA ok_add (pd_sl (pd_var (i := 0) rfl (by first | exact Or.inl rfl | exact Or.inr (Or.inl rfl) | exact Or.inr (Or.inr rfl))) (pdo_some (pd_var (i := 1) rfl (by first | exact Or.inl rfl | exact Or.inr (Or.inl rfl) | exact Or.inr (Or.inr rfl)))) (pdo_some (pd_op op_addA ok_add (pd_var (i := 1) rfl (by first | exact Or.inl rfl | exact Or.inr (Or.inl rfl) | exact Or.inr (Or.inr rfl))) (pd_int)))) (pd_lst (pda_cons (pd_int) (pda_nil)))) (pd_int))) (pds_cons (pds_set (i := 3) sc__law_hand.nd rfl (by first | exact Or.inl rfl | exact Or.inr rfl) (by decide) (pd_op op_mod ok_mod (pd_op op_mulA ok_mul (pd_op op_addA ok_add (pd_op op_addA ok_add (pd_op op_mod ok_mod (pd_var (i := 2) rfl (by first | exact Or.inl rfl | exact Or.inr (Or.inl rfl) | exact Or.inr (Or.inr rfl))) (pd_int)) (pd_op op_mulA ok_mul (pd_int) (pd_var (i := 1) rfl (by first | exact Or.inl rfl | exact Or.inr (Or.inl rfl) | exact Or.inr (Or.inr rfl))))) (pd_int)) (pd_int)) (pd_int))) (pds_one (pds_ret (pd_lst (pda_cons (pd_op op_mulA ok_mul (pd_callTy ok_int call_int1 rfl Z.z_int (by rfl) (pda_cons (pd_cmp op_ge ok_ge (pd_var (i := 2) rfl (by first | exact Or.inl rfl | exact Or.inr (Or.inl rfl) | exact Or.inr (Or.inr rfl))) (pd_op op_pow ok_pow (pd_int) (pd_int)) (nomark _)) (pda_nil))) (pd_var (i := 2) rfl (by first | exact Or.inl rfl | exact Or.inr (Or.inl rfl) | exact Or.inr (Or.inr rfl)))) (pda_cons (pd_var (i := 3) rfl (by first | exact Or.inl rfl | exact Or.inr (Or.inl rfl) | exact Or.inr (Or.inr rfl))) (pda_nil)))))))) p__law_hand
theorem d__law_draw (FF : Fun K "_law_draw" "_law_draw" s__law_draw fa fd) (Z : Zs K mg ) : Def P w K mg base T 2 fa fd ["_law_pool", "_law_size"] [0] C__law_draw :=
  fnD (k := 1) FF sc__law_draw rfl (fun cdv A outer s H E B W hr tk po => pds_cons (pds_if (pdt_cmp op_gt ok_gt (pd_ixN (i := 0) rfl (by first | exact Or.inl rfl | exact Or.inr (Or.inl rfl) | exact Or.inr (Or.inr rfl)) (pd_int)) (pd_int) (nomark _)) (pds_cons (pds_set (i := 2) sc__law_draw.nd rfl (by first | exact Or.inl rfl | exact Or.inr rfl) (by decide) (pd_op op_mod ok_mod (pd_ixN (i := 0) rfl (by first | exact Or.inl rfl | exact Or.inr (Or.inl rfl) | exact Or.inr (Or.inr rfl)) (pd_int)) (pd_var (i := 1) rfl (by first | exact Or.inl rfl | exact Or.inr (Or.inl rfl) | exact Or.inr (Or.inr rfl))))) (pds_cons (pds_put (i := 0) rfl (by first | exact Or.inl rfl | exact Or.inr (Or.inl rfl) | exact Or.inr (Or.inr rfl)) (pd_op op_fdiv ok_fdiv (pd_ixN (i := 0) rfl (by first | exact Or.inl rfl | exact Or.inr (Or.inl rfl) | exact Or.inr (Or.inr rfl)) (pd_int)) (pd_var (i := 1) rfl (by first | exact Or.inl rfl | exact Or.inr (Or.inl rfl) | exact Or.inr (Or.inr rfl)))) (pd_int)) (pds_one (pds_ret (pd_var (i := 2) rfl (by first | exact Or.inl rfl | exact Or.inr (Or.inl rfl) | exact Or.inr (Or.inr rfl))))))) (pds_nil)) (pds_cons (pds_put (i := 0) rfl (by first | exact Or.inl rfl | exact Or.inr (Or.inl rfl) | exact Or.inr (Or.inr rfl)) (pd_op op_mod ok_mod (pd_op op_addA ok_add (pd_op op_mulA ok_mul (pd_ixN (i := 0) rfl (by first | exact Or.inl rfl | exact Or.inr (Or.inl rfl) | exact Or.inr (Or.inr rfl)) (pd_int)) (pd_int)) (pd_int)) (pd_int)) (pd_int)) (pds_one (pds_ret (pd_op op_mod ok_mod (pd_op op_fdiv ok_fdiv (pd_op op_mod ok_mod (pd_op op_mulA ok_mul (pd_ixN (i := 0) rfl (by first | exact Or.inl rfl | exact Or.inr (Or.inl rfl) | exact Or.inr (Or.inr rfl)) (pd_int)) (pd_ixN (i := 0) rfl (by first | exact Or.inl rfl | exact Or.inr (Or.inl rfl) | exact Or.inr (Or.inr rfl)) (pd_int))) (pd_int)) (pd_int)) (pd_var (i := 1) rfl (by first | exact Or.inl rfl | exact Or.inr (Or.inl rfl) | exact Or.inr (Or.inr rfl)))))))) p__law_draw
theorem d__law_word (FF : Fun K "_law_word" "_law_word" s__law_word fa fd) (Z : Zs K mg ) (g__law_draw : Cal P w K mg base T "_law_draw" 2 ["_law_pool", "_law_size"] [0] C__law_draw) : Def P w K mg base T 3 fa fd ["_law_pool", "_law_letters", "_law_most"] [0] C__law_word :=
  fnD (k := 2) FF sc__law_word rfl (fun cdv A outer s H E B W hr tk po => pds_one (pds_ret (pd_ms ok_join F.slot_str_join F.type_str_join mt_join (pd_str (l := []) rfl (by decide)) (pda_cons (pd_lc (t := .one 3) (own := [("_law_turn", 3)]) rfl sc__law_word.nd (pdi_rng1 rfl Z.z_range (pd_callC g__law_draw (hr.mono (by decide)) tk rfl (pav_m (i := 0) rfl (by first | exact Or.inl rfl | exact Or.inr (Or.inl rfl) | exact Or.inr (Or.inr rfl)) (pav_v (pd_op op_addA ok_add (pd_var (i := 2) rfl (by first | exact Or.inl rfl | exact Or.inr (Or.inl rfl) | exact Or.inr (Or.inr rfl))) (pd_int)) (pav_nil))))) (blkOk_by (N := N__law_word) (sc := defScope s__law_word) (by decide +kernel)) rfl rfl (fun _ _ _ _ _ => pgh_one (i := 3) sc__law_word.nd rfl (by first | exact Or.inl rfl | exact Or.inr rfl)) (fun _ _ _ _ _ _ => pdts_nil) (fun _ _ _ _ _ _ => pd_ix (pd_var (i := 1) rfl (by first | exact Or.inl rfl | exact Or.inr (Or.inl rfl) | exact Or.inr (Or.inr rfl))) (pd_callC g__law_draw (hr.mono (by decide)) takes_no rfl (pav_m (i := 0) rfl (by first | exact Or.inl rfl | exact Or.inr (Or.inl rfl) | exact Or.inr (Or.inr rfl)) (pav_v (pd_callB ok_len call_lenA rfl Z.z_len (by rfl) (pda_cons (pd_var (i := 1) rfl (by first | exact Or.inl rfl | exact Or.inr (Or.inl rfl) | exact Or.inr (Or.inr rfl))) (pda_nil))) (pav_nil)))))) (pda_nil))))) p__law_word
theorem d__law_steps (FF : Fun K "_law_steps" "_law_steps" s__law_steps fa fd) (Z : Zs K mg ) (g__law_draw : Cal P w K mg base T "_law_draw" 2 ["_law_pool", "_law_size"] [0] C__law_draw) : Def P w K mg base T 3 fa fd ["_law_pool", "_law_letters", "_law_most"] [0] C__law_steps :=
  fnD (k := 2) FF sc__law_steps rfl (fun cdv A outer s H E B W hr tk po => pds_cons (pds_set (i := 3) sc__law_steps.nd rfl (by first | exact Or.inl rfl | exact Or.inr rfl) (by decide) (pd_callC g__law_draw (hr.mono (by decide)) tk rfl (pav_m (i := 0) rfl (by first | exact Or.inl rfl | exact Or.inr (Or.inl rfl) | exact Or.inr (Or.inr rfl)) (pav_v (pd_op op_addA ok_add (pd_var (i := 2) rfl (by first | exact Or.inl rfl | exact Or.inr (Or.inl rfl) | exact Or.inr (Or.inr rfl))) (pd_int)) (pav_nil))))) (pds_one (pds_ret (pd_lc (t := .one 4) (own := [("_law_turn", 4)]) rfl sc__law_steps.nd (pdi_rng1 rfl Z.z_range (pd_var (i := 3) rfl (by first | exact Or.inl rfl | exact Or.inr (Or.inl rfl) | exact Or.inr (Or.inr rfl)))) (blkOk_by (N := N__law_steps) (sc := defScope s__law_steps) (by decide +kernel)) rfl rfl (fun _ _ _ _ _ => pgh_one (i := 4) sc__law_steps.nd rfl (by first | exact Or.inl rfl | exact Or.inr rfl)) (fun _ _ _ _ _ _ => pdts_nil) (fun _ _ _ _ _ _ => pd_op op_addA ok_add (pd_ix (pd_str (l := [43, 45]) rfl (by decide)) (pd_callC g__law_draw (hr.mono (by decide)) takes_no rfl (pav_m (i := 0) rfl (by first | exact Or.inl rfl | exact Or.inr (Or.inl rfl) | exact Or.inr (Or.inr rfl)) (pav_v (pd_int) (pav_nil))))) (pd_ix (pd_var (i := 1) rfl (by first | exact Or.inl rfl | exact Or.inr (Or.inl rfl) | exact Or.inr (Or.inr rfl))) (pd_callC g__law_draw (hr.mono (by decide)) takes_no rfl (pav_m (i := 0) rfl (by first | exact Or.inl rfl | exact Or.inr (Or.inl rfl) | exact Or.inr (Or.inr rfl)) (pav_v (pd_callB ok_len call_lenA rfl Z.z_len (by rfl) (pda_cons (pd_var (i := 1) rfl (by first | exact Or.inl rfl | exact Or.inr (Or.inl rfl) | exact Or.inr (Or.inr rfl))) (pda_nil))) (pav_nil)))))))))) p__law_steps
theorem d__law_odd (FF : Fun K "_law_odd" "_law_odd" s__law_odd fa fd) (Z : Zs K mg ) (g__law_draw : Cal P w K mg base T "_law_draw" 2 ["_law_pool", "_law_size"] [0] C__law_draw) : Def P w K mg base T 3 fa fd ["_law_pool", "_law_steps_here"] [0] C__law_odd :=
  fnD (k := 2) FF sc__law_odd rfl (fun cdv A outer s H E B W hr tk po => pds_cons (pds_set (i := 2) sc__law_odd.nd rfl (by first | exact Or.inl rfl | exact Or.inr rfl) (by decide) (pd_lst (pda_cons (pd_non) (pda_cons (pd_int) (pda_cons (pd_bl) (pda_cons (pd_str (l := []) rfl (by decide)) (pda_cons (pd_str (l := [97]) rfl (by decide)) (pda_cons (pd_str (l := [43]) rfl (by decide)) (pda_cons (pd_str (l := [45, 97]) rfl (by decide)) (pda_cons (pd_str (l := [43, 105]) rfl (by decide)) (pda_cons (pd_str (l := [43, 65]) rfl (by decide)) (pda_cons (pd_str (l := [97, 43]) rfl (by decide)) (pda_cons (pd_str (l := [43, 43]) rfl (by decide)) (pda_cons (pd_str (l := [43, 97, 98]) rfl (by decide)) (pda_cons (pd_str (l := [32, 43, 97]) rfl (by decide)) (pda_cons (pd_str (l := [43, 49]) rfl (by decide)) (pda_cons (pd_str (l := [97, 98]) rfl (by decide)) (pda_cons (pd_tup (pda_nil)) (pda_cons (pd_tup (pda_cons (pd_str (l := [43, 97]) rfl (by decide)) (pda_nil))) (pda_cons (pd_dct0) (pda_nil))))))))))))))))))))) (pds_cons (pds_set (i := 2) sc__law_odd.nd rfl (by first | exact Or.inl rfl | exact Or.inr rfl) (by decide) (pd_op op_addA ok_add (pd_var (i := 2) rfl (by first | exact Or.inl rfl | exact Or.inr (Or.inl rfl) | exact Or.inr (Or.inr rfl))) (pd_lst (pda_cons (pd_lst (pda_cons (pd_str (l := [43, 97]) rfl (by decide)) (pda_nil))) (pda_cons (pd_lst (pda_cons (pd_lst (pda_cons (pd_str (l := [43, 97]) rfl (by decide)) (pda_nil))) (pda_nil))) (pda_cons (pd_op op_addA ok_add (pd_var (i := 1) rfl (by first | exact Or.inl rfl | exact Or.inr (Or.inl rfl) | exact Or.inr (Or.inr rfl))) (pd_lst (pda_cons (pd_non) (pda_nil)))) (pda_cons (pd_op op_addA ok_add (pd_var (i := 1) rfl (by first | exact Or.inl rfl | exact Or.inr (Or.inl rfl) | exact Or.inr (Or.inr rfl))) (pd_lst (pda_cons (pd_str (l := [43, 120]) rfl (by decide)) (pda_nil)))) (pda_cons (pd_op op_addA ok_add (pd_lst (pda_cons (pd_str (l := [45]) rfl (by decide)) (pda_nil))) (pd_var (i := 1) rfl (by first | exact Or.inl rfl | exact Or.inr (Or.inl rfl) | exact Or.inr (Or.inr rfl)))) (pda_cons (pd_callTy ok_tuple call_tuple_of rfl Z.z_tuple (by rfl) (pda_cons (pd_var (i := 1) rfl (by first | exact Or.inl rfl | exact Or.inr (Or.inl rfl) | exact Or.inr (Or.inr rfl))) (pda_nil))) (pda_cons (pd_op op_addA ok_add (pd_var (i := 1) rfl (by first | exact Or.inl rfl | exact Or.inr (Or.inl rfl) | exact Or.inr (Or.inr rfl))) (pd_lst (pda_cons (pd_lst (pda_cons (pd_str (l := [43, 97]) rfl (by decide)) (pda_nil))) (pda_nil)))) (pda_nil))))))))))) (pds_one (pds_ret (pd_ix (pd_op op_addA ok_add (pd_var (i := 2) rfl (by first | exact Or.inl rfl | exact Or.inr (Or.inl rfl) | exact Or.inr (Or.inr rfl))) (pd_lst (pda_cons (pd_str (l := [97, 98, 99, 100, 101, 102, 103, 104]) rfl (by decide)) (pda_cons (pd_str (l := [97, 98, 99, 105]) rfl (by decide)) (pda_cons (pd_str (l := [97, 66]) rfl (by decide)) (pda_cons (pd_str (l := [97, 32, 98]) rfl (by decide)) (pda_cons (pd_str (l := [43, 97, 45, 98]) rfl (by decide)) (pda_cons (pd_lst (pda_cons (pd_str (l := [97]) rfl (by decide)) (pda_nil))) (pda_cons (pd_int) (pda_nil)))))))))) (pd_callC g__law_draw (hr.mono (by decide)) tk rfl (pav_m (i := 0) rfl (by first | exact Or.inl rfl | exact Or.inr (Or.inl rfl) | exact Or.inr (Or.inr rfl)) (pav_v (pd_int) (pav_nil))))))))) p__law_odd
theorem d__law_is_step (FF : Fun K "_law_is_step" "_law_is_step" s__law_is_step fa fd) (Z : Zs K mg ) : Def P w K mg base T 2 fa fd ["_law_thing"] [] C__law_is_step :=
  fnD (k := 1) FF sc__law_is_step rfl (fun cdv A outer s H E B W hr tk po => pds_one (pds_ret (pd_and (pd_isi (t := .str) (by rfl) rfl Z.z_isinstance rfl Z.z_str (pd_var (i := 0) rfl (by first | exact Or.inl rfl | exact Or.inr (Or.inl rfl) | exact Or.inr (Or.inr rfl)))) (pd_and (pd_cmp (op_eqA hr.units) ok_eq (pd_callB ok_len call_lenA rfl Z.z_len (by rfl) (pda_cons (pd_var (i := 0) rfl (by first | exact Or.inl rfl | exact Or.inr (Or.inl rfl) | exact Or.inr (Or.inr rfl))) (pda_nil))) (pd_int) (nomark _)) (pd_and (pd_cmp op_inA ok_in (pd_ix (pd_var (i := 0) rfl (by first | exact Or.inl rfl | exact Or.inr (Or.inl rfl) | exact Or.inr (Or.inr rfl))) (pd_int)) (pd_str (l := [43, 45]) rfl (by decide)) (by rfl)) (pd_one (pd_cmp op_inA ok_in (pd_ix (pd_var (i := 0) rfl (by first | exact Or.inl rfl | exact Or.inr (Or.inl rfl) | exact Or.inr (Or.inr rfl))) (pd_int)) (pd_str (l := [97, 98, 99, 100, 101, 102, 103, 104]) rfl (by decide)) (by rfl)))))))) p__law_is_step
theorem d_law (FF : Fun K "law" "law" s_law fa fd) (Z : Zs K mg ) (g_is_queue : Cal P w K mg base T "is_queue" 3 ["value"] [] C_is_queue) (g_is_sequence : Cal P w K mg base T "is_sequence" 4 ["value"] [] C_is_sequence) (g__law_hand : Cal P w K mg base T "_law_hand" 2 ["_law_script", "_law_k"] [] C__law_hand) (g__law_word : Cal P w K mg base T "_law_word" 3 ["_law_pool", "_law_letters", "_law_most"] [0] C__law_word) (g__law_steps : Cal P w K mg base T "_law_steps" 3 ["_law_pool", "_law_letters", "_law_most"] [0] C__law_steps) (g__law_odd : Cal P w K mg base T "_law_odd" 3 ["_law_pool", "_law_steps_here"] [0] C__law_odd) (g_is_step : Cal P w K mg base T "is_step" 2 ["value"] [] C_is_step) (g__law_is_step : Cal P w K mg base T "_law_is_step" 2 ["_law_thing"] [] C__law_is_step) : Def P w K mg base T 5 fa fd ["_law_script"] [] lawCon :=
  fnD (k := 4) FF sc_law rfl (fun cdv A outer s H E B W hr tk po => pds_cons (pds_if (pdt_cmp (op_neA hr.units) ok_ne (pd_lst (pda_cons (pd_strG rfl Z.c_ITEMS (by decide)) (pda_cons (pd_intG rfl Z.c_MAX_QUEUE) (pda_cons (pd_intG rfl Z.c_MAX_STEPS) (pda_nil))))) (pd_lst (pda_cons (pd_str (l := [97, 98, 99, 100, 101, 102, 103, 104]) rfl (by decide)) (pda_cons (pd_int) (pda_cons (pd_int) (pda_nil))))) (nomark _)) (pds_one (pds_ret (pd_bl))) (pds_nil)) (pds_cons (pds_if (pdt_cmp (op_neA hr.units) ok_ne (pd_lst (pda_cons (pd_callC g_is_queue (hr.mono (by decide)) tk rfl (pav_v (pd_op op_mulA ok_mul (pd_str (l := [97, 98]) rfl (by decide)) (pd_int)) (pav_nil))) (pda_cons (pd_callC g_is_queue (hr.mono (by decide)) tk rfl (pav_v (pd_op op_addA ok_add (pd_op op_mulA ok_mul (pd_str (l := [97, 98]) rfl (by decide)) (pd_int)) (pd_str (l := [99]) rfl (by decide))) (pav_nil))) (pda_cons (pd_callC g_is_queue (hr.mono (by decide)) tk rfl (pav_v (pd_str (l := []) rfl (by decide)) (pav_nil))) (pda_nil))))) (pd_lst (pda_cons (pd_bl) (pda_cons (pd_bl) (pda_cons (pd_bl) (pda_nil))))) (nomark _)) (pds_one (pds_ret (pd_bl))) (pds_nil)) (pds_cons (pds_set (i := 1) sc_law.nd rfl (by first | exact Or.inl rfl | exact Or.inr rfl) (by decide) (pd_op op_mulA ok_mul (pd_lst (pda_cons (pd_str (l := [43, 97]) rfl (by decide)) (pda_cons (pd_str (l := [45, 98]) rfl (by decide)) (pda_nil)))) (pd_int))) (pds_cons (pds_if (pdt_cmp (op_neA hr.units) ok_ne (pd_lst (pda_cons (pd_callC g_is_sequence (hr.mono (by decide)) tk rfl (pav_v (pd_var (i := 1) rfl (by first | exact Or.inl rfl | exact Or.inr (Or.inl rfl) | exact Or.inr (Or.inr rfl))) (pav_nil))) (pda_cons (pd_callC g_is_sequence (hr.mono (by decide)) tk rfl (pav_v (pd_op op_addA ok_add (pd_var (i := 1) rfl (by first | exact Or.inl rfl | exact Or.inr (Or.inl rfl) | exact Or.inr (Or.inr rfl))) (pd_lst (pda_cons (pd_str (l := [43, 97]) rfl (by decide)) (pda_nil)))) (pav_nil))) (pda_cons (pd_callC g_is_sequence (hr.mono (by decide)) tk rfl (pav_v (pd_lst pda_nil) (pav_nil))) (pda_nil))))) (pd_lst (pda_cons (pd_bl) (pda_cons (pd_bl) (pda_cons (pd_bl) (pda_nil))))) (nomark _)) (pds_one (pds_ret (pd_bl))) (pds_nil)) (pds_cons (pds_for po rfl (pdi_rng1 rfl Z.z_range (pd_callB ok_max (call_maxA rfl) rfl Z.z_max (by rfl) (pda_cons (pd_int) (pda_cons (pd_callB ok_min (call_minA rfl) rfl Z.z_min (by rfl) (pda_cons (pd_callB ok_len call_lenA rfl Z.z_len (by rfl) (pda_cons (pd_var (i := 0) rfl (by first | exact Or.inl rfl | exact Or.inr (Or.inl rfl) | exact Or.inr (Or.inr rfl))) (pda_nil))) (pda_cons (pd_int) (pda_nil)))) (pda_nil))))) (pdg_name (i := 2) sc_law.nd rfl (by first | exact Or.inl rfl | exact Or.inr rfl) (by decide)) (pds_cons (pds_setO (i := 3) sc_law.nd rfl (by first | exact Or.inl rfl | exact Or.inr rfl) (by decide) (pd_callC g__law_hand (hr.mono (by decide)) tk rfl (pav_v (pd_var (i := 0) rfl (by first | exact Or.inl rfl | exact Or.inr (Or.inl rfl) | exact Or.inr (Or.inr rfl))) (pav_v (pd_var (i := 2) rfl (by first | exact Or.inl rfl | exact Or.inr (Or.inl rfl) | exact Or.inr (Or.inr rfl))) (pav_nil))))) (pds_cons (pds_set (i := 4) sc_law.nd rfl (by first | exact Or.inl rfl | exact Or.inr rfl) (by decide) (pd_callC g__law_word (hr.mono (by decide)) tk rfl (pav_m (i := 3) rfl (by first | exact Or.inl rfl | exact Or.inr (Or.inl rfl) | exact Or.inr (Or.inr rfl)) (pav_v (pd_str (l := [97, 98, 99, 100, 101, 102, 103, 104]) rfl (by decide)) (pav_v (pd_int) (pav_nil)))))) (pds_cons (pds_set (i := 5) sc_law.nd rfl (by first | exact Or.inl rfl | exact Or.inr rfl) (by decide) (pd_callC g__law_steps (hr.mono (by decide)) tk rfl (pav_m (i := 3) rfl (by first | exact Or.inl rfl | exact Or.inr (Or.inl rfl) | exact Or.inr (Or.inr rfl)) (pav_v (pd_str (l := [97, 98, 99, 100, 101, 102, 103, 104]) rfl (by decide)) (pav_v (pd_int) (pav_nil)))))) (pds_one (pds_for po rfl (pdi_lst (pd_op op_addA ok_add (pd_lst (pda_cons (pd_var (i := 4) rfl (by first | exact Or.inl rfl | exact Or.inr (Or.inl rfl) | exact Or.inr (Or.inr rfl))) (pda_cons (pd_var (i := 5) rfl (by first | exact Or.inl rfl | exact Or.inr (Or.inl rfl) | exact Or.inr (Or.inr rfl))) (pda_nil)))) (pd_lc (t := .one 9) (own := [("_law_turn", 9)]) rfl sc_law.nd (pdi_rng1 rfl Z.z_range (pd_int)) (blkOk_by (N := N_law) (sc := defScope s_law) (by decide +kernel)) rfl rfl (fun _ _ _ _ _ => pgh_one (i := 9) sc_law.nd rfl (by first | exact Or.inl rfl | exact Or.inr rfl)) (fun _ _ _ _ _ _ => pdts_nil) (fun _ _ _ _ _ _ => pd_callC g__law_odd (hr.mono (by decide)) takes_no rfl (pav_m (i := 3) rfl (by first | exact Or.inl rfl | exact Or.inr (Or.inl rfl) | exact Or.inr (Or.inr rfl)) (pav_v (pd_var (i := 5) rfl (by first | exact Or.inl rfl | exact Or.inr (Or.inl rfl) | exact Or.inr (Or.inr rfl))) (pav_nil))))))) (pdg_name (i := 6) sc_law.nd rfl (by first | exact Or.inl rfl | exact Or.inr rfl) (by decide)) (pds_cons (pds_set (i := 7) sc_law.nd rfl (by first | exact Or.inl rfl | exact Or.inr rfl) (by decide) (pd_callB ok_repr (call_reprA hr.un0 hr.gd) rfl Z.z_repr (by rfl) (pda_cons (pd_var (i := 6) rfl (by first | exact Or.inl rfl | exact Or.inr (Or.inl rfl) | exact Or.inr (Or.inr rfl))) (pda_nil)))) (pds_cons (pds_set (i := 8) sc_law.nd rfl (by first | exact Or.inl rfl | exact Or.inr rfl) (by decide) (pd_and (pd_isi (t := .str) (by rfl) rfl Z.z_isinstance rfl Z.z_str (pd_var (i := 6) rfl (by first | exact Or.inl rfl | exact Or.inr (Or.inl rfl) | exact Or.inr (Or.inr rfl)))) (pd_one (pd_cmp (op_eqA hr.units) ok_eq (pd_lc (t := .one 10) (own := [("_law_item", 10)]) rfl sc_law.nd (pdi_str (pd_var (i := 6) rfl (by first | exact Or.inl rfl | exact Or.inr (Or.inl rfl) | exact Or.inr (Or.inr rfl)))) (blkOk_by (N := N_law) (sc := defScope s_law) (by decide +kernel)) rfl rfl (fun _ _ _ _ _ => pgh_one (i := 10) sc_law.nd rfl (by first | exact Or.inl rfl | exact Or.inr rfl)) (fun _ _ _ _ _ _ => pdts_one (pdt_cmp op_ninA ok_nin (pd_var (i := 10) rfl (by first | exact Or.inl rfl | exact Or.inr (Or.inl rfl) | exact Or.inr (Or.inr rfl))) (pd_str (l := [97, 98, 99, 100, 101, 102, 103, 104]) rfl (by decide)) (by rfl))) (fun _ _ _ _ _ _ => pd_var (i := 10) rfl (by first | exact Or.inl rfl | exact Or.inr (Or.inl rfl) | exact Or.inr (Or.inr rfl)))) (pd_lst pda_nil) (nomark _))))) (pds_cons (pds_if (pdt_w (pdw_or (pdt_cmp (op_neA hr.units) ok_ne (pd_callB ok_repr (call_reprA hr.un0 hr.gd) rfl Z.z_repr (by rfl) (pda_cons (pd_callC g_is_queue (hr.mono (by decide)) tk rfl (pav_v (pd_var (i := 6) rfl (by first | exact Or.inl rfl | exact Or.inr (Or.inl rfl) | exact Or.inr (Or.inr rfl))) (pav_nil))) (pda_nil))) (pd_callB ok_repr (call_reprA hr.un0 hr.gd) rfl Z.z_repr (by rfl) (pda_cons (pd_var (i := 8) rfl (by first | exact Or.inl rfl | exact Or.inr (Or.inl rfl) | exact Or.inr (Or.inr rfl))) (pda_nil))) (nomark _)) (pdw_or1 (pdt_cmp (op_neA hr.units) ok_ne (pd_callB ok_repr (call_reprA hr.un0 hr.gd) rfl Z.z_repr (by rfl) (pda_cons (pd_callC g_is_step (hr.mono (by decide)) tk rfl (pav_v (pd_var (i := 6) rfl (by first | exact Or.inl rfl | exact Or.inr (Or.inl rfl) | exact Or.inr (Or.inr rfl))) (pav_nil))) (pda_nil))) (pd_callB ok_repr (call_reprA hr.un0 hr.gd) rfl Z.z_repr (by rfl) (pda_cons (pd_callC g__law_is_step (hr.mono (by decide)) tk rfl (pav_v (pd_var (i := 6) rfl (by first | exact Or.inl rfl | exact Or.inr (Or.inl rfl) | exact Or.inr (Or.inr rfl))) (pav_nil))) (pda_nil))) (nomark _))))) (pds_one (pds_ret (pd_bl))) (pds_nil)) (pds_cons (pds_set (i := 8) sc_law.nd rfl (by first | exact Or.inl rfl | exact Or.inr rfl) (by decide) (pd_and (pd_isi (t := .list) (by rfl) rfl Z.z_isinstance rfl Z.z_list (pd_var (i := 6) rfl (by first | exact Or.inl rfl | exact Or.inr (Or.inl rfl) | exact Or.inr (Or.inr rfl)))) (pd_one (pd_cmp (op_eqA hr.units) ok_eq (pd_lc (t := .one 11) (own := [("_law_step", 11)]) rfl sc_law.nd (pdi_lst (pd_var (i := 6) rfl (by first | exact Or.inl rfl | exact Or.inr (Or.inl rfl) | exact Or.inr (Or.inr rfl)))) (blkOk_by (N := N_law) (sc := defScope s_law) (by decide +kernel)) rfl rfl (fun _ _ _ _ _ => pgh_one (i := 11) sc_law.nd rfl (by first | exact Or.inl rfl | exact Or.inr rfl)) (fun _ _ _ _ _ _ => pdts_one (pdt_not (pdt_val (pd_callC g__law_is_step (hr.mono (by decide)) takes_no rfl (pav_v (pd_var (i := 11) rfl (by first | exact Or.inl rfl | exact Or.inr (Or.inl rfl) | exact Or.inr (Or.inr rfl))) (pav_nil)))))) (fun _ _ _ _ _ _ => pd_var (i := 11) rfl (by first | exact Or.inl rfl | exact Or.inr (Or.inl rfl) | exact Or.inr (Or.inr rfl)))) (pd_lst pda_nil) (nomark _))))) (pds_one (pds_if (pdt_w (pdw_or (pdt_cmp (op_neA hr.units) ok_ne (pd_callB ok_repr (call_reprA hr.un0 hr.gd) rfl Z.z_repr (by rfl) (pda_cons (pd_callC g_is_sequence (hr.mono (by decide)) tk rfl (pav_v (pd_var (i := 6) rfl (by first | exact Or.inl rfl | exact Or.inr (Or.inl rfl) | exact Or.inr (Or.inr rfl))) (pav_nil))) (pda_nil))) (pd_callB ok_repr (call_reprA hr.un0 hr.gd) rfl Z.z_repr (by rfl) (pda_cons (pd_var (i := 8) rfl (by first | exact Or.inl rfl | exact Or.inr (Or.inl rfl) | exact Or.inr (Or.inr rfl))) (pda_nil))) (nomark _)) (pdw_or1 (pdt_cmp (op_neA hr.units) ok_ne (pd_callB ok_repr (call_reprA hr.un0 hr.gd) rfl Z.z_repr (by rfl) (pda_cons (pd_var (i := 6) rfl (by first | exact Or.inl rfl | exact Or.inr (Or.inl rfl) | exact Or.inr (Or.inr rfl))) (pda_nil))) (pd_var (i := 7) rfl (by first | exact Or.inl rfl | exact Or.inr (Or.inl rfl) | exact Or.inr (Or.inr rfl))) (nomark _))))) (pds_one (pds_ret (pd_bl))) (pds_nil))))))))))))) (pds_one (pds_ret (pd_bl)))))))) p_law
end
def mkT  : Tb := ⟨fun n =>  none, fun n =>  none⟩
theorem all_mk {l : PySem.W.OpenLaw} {w : World} {K : PySem.W.Frag} {h : Heap} {mg : Str → Option Value} {fa : Addr} (X : K.In h) (G : h.Ns mainGlobals mg) (hfa : mg "law" = some (.ref fa))
    {f_is_word : Addr} {oc_is_word kV_is_word dc_is_word pm_is_word cd_is_word ct_is_word : Value} {od_is_word an_is_word : Option Addr} {sl_is_word : Array (Option Value)}
    {f_is_queue : Addr} {oc_is_queue kV_is_queue dc_is_queue pm_is_queue cd_is_queue ct_is_queue : Value} {od_is_queue an_is_queue : Option Addr} {sl_is_queue : Array (Option Value)}
    {f_is_step : Addr} {oc_is_step kV_is_step dc_is_step pm_is_step cd_is_step ct_is_step : Value} {od_is_step an_is_step : Option Addr} {sl_is_step : Array (Option Value)}
    {f_first_invalid : Addr} {oc_first_invalid kV_first_invalid dc_first_invalid pm_first_invalid cd_first_invalid ct_first_invalid : Value} {od_first_invalid an_first_invalid : Option Addr} {sl_first_invalid : Array (Option Value)}
    {f_is_sequence : Addr} {oc_is_sequence kV_is_sequence dc_is_sequence pm_is_sequence cd_is_sequence ct_is_sequence : Value} {od_is_sequence an_is_sequence : Option Addr} {sl_is_sequence : Array (Option Value)}
    {f__law_hand : Addr} {oc__law_hand kV__law_hand dc__law_hand pm__law_hand cd__law_hand ct__law_hand : Value} {od__law_hand an__law_hand : Option Addr} {sl__law_hand : Array (Option Value)}
    {f__law_draw : Addr} {oc__law_draw kV__law_draw dc__law_draw pm__law_draw cd__law_draw ct__law_draw : Value} {od__law_draw an__law_draw : Option Addr} {sl__law_draw : Array (Option Value)}
    {f__law_word : Addr} {oc__law_word kV__law_word dc__law_word pm__law_word cd__law_word ct__law_word : Value} {od__law_word an__law_word : Option Addr} {sl__law_word : Array (Option Value)}
    {f__law_steps : Addr} {oc__law_steps kV__law_steps dc__law_steps pm__law_steps cd__law_steps ct__law_steps : Value} {od__law_steps an__law_steps : Option Addr} {sl__law_steps : Array (Option Value)}
    {f__law_odd : Addr} {oc__law_odd kV__law_odd dc__law_odd pm__law_odd cd__law_odd ct__law_odd : Value} {od__law_odd an__law_odd : Option Addr} {sl__law_odd : Array (Option Value)}
    {f__law_is_step : Addr} {oc__law_is_step kV__law_is_step dc__law_is_step pm__law_is_step cd__law_is_step ct__law_is_step : Value} {od__law_is_step an__law_is_step : Option Addr} {sl__law_is_step : Array (Option Value)}
    {f_law : Addr} {oc_law kV_law dc_law pm_law cd_law ct_law : Value} {od_law an_law : Option Addr} {sl_law : Array (Option Value)}
    {tk_ITEMS : Tok}
    {tk_MAX_QUEUE : Tok}
    {tk_MAX_STEPS : Tok}
    (a_is_word : PySem.W.nsIn K mainGlobals "is_word" = some (some (.ref f_is_word)))
    (l_is_word : K.lookup f_is_word = some ⟨oc_is_word, od_is_word, .func (PySem.W.fnOf "is_word" "is_word" (defArgs s_is_word) (defBody s_is_word) (defScope s_is_word) .none kV_is_word dc_is_word pm_is_word an_is_word cd_is_word ct_is_word), sl_is_word⟩)
    (c_is_word : PySem.W.codeIn K cd_is_word "is_word" = true)
    (k_is_word : PySem.W.keepIn K (.ref f_is_word) = true)
    (a_is_queue : PySem.W.nsIn K mainGlobals "is_queue" = some (some (.ref f_is_queue)))
    (l_is_queue : K.lookup f_is_queue = some ⟨oc_is_queue, od_is_queue, .func (PySem.W.fnOf "is_queue" "is_queue" (defArgs s_is_queue) (defBody s_is_queue) (defScope s_is_queue) .none kV_is_queue dc_is_queue pm_is_queue an_is_queue cd_is_queue ct_is_queue), sl_is_queue⟩)
    (c_is_queue : PySem.W.codeIn K cd_is_queue "is_queue" = true)
    (k_is_queue : PySem.W.keepIn K (.ref f_is_queue) = true)
    (a_is_step : PySem.W.nsIn K mainGlobals "is_step" = some (some (.ref f_is_step)))
    (l_is_step : K.lookup f_is_step = some ⟨oc_is_step, od_is_step, .func (PySem.W.fnOf "is_step" "is_step" (defArgs s_is_step) (defBody s_is_step) (defScope s_is_step) .none kV_is_step dc_is_step pm_is_step an_is_step cd_is_step ct_is_step), sl_is_step⟩)
    (c_is_step : PySem.W.codeIn K cd_is_step "is_step" = true)
    (k_is_step : PySem.W.keepIn K (.ref f_is_step) = true)
    (a_first_invalid : PySem.W.nsIn K mainGlobals "first_invalid" = some (some (.ref f_first_invalid)))
    (l_first_invalid : K.lookup f_first_invalid = some ⟨oc_first_invalid, od_first_invalid, .func (PySem.W.fnOf "first_invalid" "first_invalid" (defArgs s_first_invalid) (defBody s_first_invalid) (defScope s_first_invalid) .none kV_first_invalid dc_first_invalid pm_first_invalid an_first_invalid cd_first_invalid ct_first_invalid), sl_first_invalid⟩)
    (c_first_invalid : PySem.W.codeIn K cd_first_invalid "first_invalid" = true)
    (k_first_invalid : PySem.W.keepIn K (.ref f_first_invalid) = true)
    (a_is_sequence : PySem.W.nsIn K mainGlobals "is_sequence" = some (some (.ref f_is_sequence)))
    (l_is_sequence : K.lookup f_is_sequence = some ⟨oc_is_sequence, od_is_sequence, .func (PySem.W.fnOf "is_sequence" "is_sequence" (defArgs s_is_sequence) (defBody s_is_sequence) (defScope s_is_sequence) .none kV_is_sequence dc_is_sequence pm_is_sequence an_is_sequence cd_is_sequence ct_is_sequence), sl_is_sequence⟩)
    (c_is_sequence : PySem.W.codeIn K cd_is_sequence "is_sequence" = true)
    (k_is_sequence : PySem.W.keepIn K (.ref f_is_sequence) = true)
    (a__law_hand : PySem.W.nsIn K mainGlobals "_law_hand" = some (some (.ref f__law_hand)))
    (l__law_hand : K.lookup f__law_hand = some ⟨oc__law_hand, od__law_hand, .func (PySem.W.fnOf "_law_hand" "_law_hand" (defArgs s__law_hand) (defBody s__law_hand) (defScope s__law_hand) .none kV__law_hand dc__law_hand pm__law_hand an__law_hand cd__law_hand ct__law_hand), sl__law_hand⟩)
    (c__law_hand : PySem.W.codeIn K cd__law_hand "_law_hand" = true)
    (k__law_hand : PySem.W.keepIn K (.ref f__law_hand) = true)
    (a__law_draw : PySem.W.nsIn K mainGlobals "_law_draw" = some (some (.ref f__law_draw)))
    (l__law_draw : K.lookup f__law_draw = some ⟨oc__law_draw, od__law_draw, .func (PySem.W.fnOf "_law_draw" "_law_draw" (defArgs s__law_draw) (defBody s__law_draw) (defScope s__law_draw) .none kV__law_draw dc__law_draw pm__law_draw an__law_draw cd__law_draw ct__law_draw), sl__law_draw⟩)
    (c__law_draw : PySem.W.codeIn K cd__law_draw "_law_draw" = true)
    (k__law_draw : PySem.W.keepIn K (.ref f__law_draw) = true)
    (a__law_word : PySem.W.nsIn K mainGlobals "_law_word" = some (some (.ref f__law_word)))
    (l__law_word : K.lookup f__law_word = some ⟨oc__law_word, od__law_word, .func (PySem.W.fnOf "_law_word" "_law_word" (defArgs s__law_word) (defBody s__law_word) (defScope s__law_word) .none kV__law_word dc__law_word pm__law_word an__law_word cd__law_word ct__law_word), sl__law_word⟩)
    (c__law_word : PySem.W.codeIn K cd__law_word "_law_word" = true)
    (k__law_word : PySem.W.keepIn K (.ref f__law_word) = true)
    (a__law_steps : PySem.W.nsIn K mainGlobals "_law_steps" = some (some (.ref f__law_steps)))
    (l__law_steps : K.lookup f__law_steps = some ⟨oc__law_steps, od__law_steps, .func (PySem.W.fnOf "_law_steps" "_law_steps" (defArgs s__law_steps) (defBody s__law_steps) (defScope s__law_steps) .none kV__law_steps dc__law_steps pm__law_steps an__law_steps cd__law_steps ct__law_steps), sl__law_steps⟩)
    (c__law_steps : PySem.W.codeIn K cd__law_steps "_law_steps" = true)
    (k__law_steps : PySem.W.keepIn K (.ref f__law_steps) = true)
    (a__law_odd : PySem.W.nsIn K mainGlobals "_law_odd" = some (some (.ref f__law_odd)))
    (l__law_odd : K.lookup f__law_odd = some ⟨oc__law_odd, od__law_odd, .func (PySem.W.fnOf "_law_odd" "_law_odd" (defArgs s__law_odd) (defBody s__law_odd) (defScope s__law_odd) .none kV__law_odd dc__law_odd pm__law_odd an__law_odd cd__law_odd ct__law_odd), sl__law_odd⟩)
    (c__law_odd : PySem.W.codeIn K cd__law_odd "_law_odd" = true)
    (k__law_odd : PySem.W.keepIn K (.ref f__law_odd) = true)
    (a__law_is_step : PySem.W.nsIn K mainGlobals "_law_is_step" = some (some (.ref f__law_is_step)))
    (l__law_is_step : K.lookup f__law_is_step = some ⟨oc__law_is_step, od__law_is_step, .func (PySem.W.fnOf "_law_is_step" "_law_is_step" (defArgs s__law_is_step) (defBody s__law_is_step) (defScope s__law_is_step) .none kV__law_is_step dc__law_is_step pm__law_is_step an__law_is_step cd__law_is_step ct__law_is_step), sl__law_is_step⟩)
    (c__law_is_step : PySem.W.codeIn K cd__law_is_step "_law_is_step" = true)
    (k__law_is_step : PySem.W.keepIn K (.ref f__law_is_step) = true)
    (a_law : PySem.W.nsIn K mainGlobals "law" = some (some (.ref f_law)))
    (l_law : K.lookup f_law = some ⟨oc_law, od_law, .func (PySem.W.fnOf "law" "law" (defArgs s_law) (defBody s_law) (defScope s_law) .none kV_law dc_law pm_law an_law cd_law ct_law), sl_law⟩)
    (c_law : PySem.W.codeIn K cd_law "law" = true)
    (k_law : PySem.W.keepIn K (.ref f_law) = true)
    (v_ITEMS : PySem.W.nsIn K mainGlobals "ITEMS" = some (some (.str "abcdefgh" tk_ITEMS)))
    (v_MAX_QUEUE : PySem.W.nsIn K mainGlobals "MAX_QUEUE" = some (some (.int 2100 tk_MAX_QUEUE)))
    (v_MAX_STEPS : PySem.W.nsIn K mainGlobals "MAX_STEPS" = some (some (.int 400 tk_MAX_STEPS)))
    (z_isinstance : PySem.W.nsIn K mainGlobals "isinstance" = some none)
    (z_str : PySem.W.nsIn K mainGlobals "str" = some none)
    (z_len : PySem.W.nsIn K mainGlobals "len" = some none)
    (z_all : PySem.W.nsIn K mainGlobals "all" = some none)
    (z_list : PySem.W.nsIn K mainGlobals "list" = some none)
    (z_enumerate : PySem.W.nsIn K mainGlobals "enumerate" = some none)
    (z_int : PySem.W.nsIn K mainGlobals "int" = some none)
    (z_range : PySem.W.nsIn K mainGlobals "range" = some none)
    (z_tuple : PySem.W.nsIn K mainGlobals "tuple" = some none)
    (z_max : PySem.W.nsIn K mainGlobals "max" = some none)
    (z_min : PySem.W.nsIn K mainGlobals "min" = some none)
    (z_repr : PySem.W.nsIn K mainGlobals "repr" = some none)
    : ∃ fd : FuncData, (∀ (s : Shared) (v : Value), BindsTo s fd ⟨[v], []⟩ [("_law_script", v)]) ∧ ∀ base : Heap, K.In base → base.Ns mainGlobals mg → FnG l.prog w K mg base (L2.CX l.prog w) 5 fa fd ["_law_script"] (spLaw K) := by
  have e := hfa.symm.trans (PySem.W.mg_of X G a_law)
  cases e
  let T : Tb := mkT 
  have Z : Zs K mg  := ⟨trivial, PySem.W.mg_none_of X G z_isinstance, PySem.W.mg_none_of X G z_str, PySem.W.mg_none_of X G z_len, PySem.W.mg_none_of X G z_all, PySem.W.mg_none_of X G z_list, PySem.W.mg_none_of X G z_enumerate, PySem.W.mg_none_of X G z_int, PySem.W.mg_none_of X G z_range, PySem.W.mg_none_of X G z_tuple, PySem.W.mg_none_of X G z_max, PySem.W.mg_none_of X G z_min, PySem.W.mg_none_of X G z_repr, ⟨_, PySem.W.mg_of X G v_ITEMS⟩, ⟨_, PySem.W.mg_of X G v_MAX_QUEUE⟩, ⟨_, PySem.W.mg_of X G v_MAX_STEPS⟩⟩
  have F_is_word := fun_mk (st := s_is_word) l_is_word c_is_word k_is_word
  have b_is_word := F_is_word.binds (ps := ["value", "most"]) fun _ _ _ _ _ _ us hl => match us, hl with | [_, _], _ => rfl
  have F_is_queue := fun_mk (st := s_is_queue) l_is_queue c_is_queue k_is_queue
  have b_is_queue := F_is_queue.binds (ps := ["value"]) fun _ _ _ _ _ _ us hl => match us, hl with | [_], _ => rfl
  have F_is_step := fun_mk (st := s_is_step) l_is_step c_is_step k_is_step
  have b_is_step := F_is_step.binds (ps := ["value"]) fun _ _ _ _ _ _ us hl => match us, hl with | [_], _ => rfl
  have F_first_invalid := fun_mk (st := s_first_invalid) l_first_invalid c_first_invalid k_first_invalid
  have b_first_invalid := F_first_invalid.binds (ps := ["value"]) fun _ _ _ _ _ _ us hl => match us, hl with | [_], _ => rfl
  have F_is_sequence := fun_mk (st := s_is_sequence) l_is_sequence c_is_sequence k_is_sequence
  have b_is_sequence := F_is_sequence.binds (ps := ["value"]) fun _ _ _ _ _ _ us hl => match us, hl with | [_], _ => rfl
  have F__law_hand := fun_mk (st := s__law_hand) l__law_hand c__law_hand k__law_hand
  have b__law_hand := F__law_hand.binds (ps := ["_law_script", "_law_k"]) fun _ _ _ _ _ _ us hl => match us, hl with | [_, _], _ => rfl
  have F__law_draw := fun_mk (st := s__law_draw) l__law_draw c__law_draw k__law_draw
  have b__law_draw := F__law_draw.binds (ps := ["_law_pool", "_law_size"]) fun _ _ _ _ _ _ us hl => match us, hl with | [_, _], _ => rfl
  have F__law_word := fun_mk (st := s__law_word) l__law_word c__law_word k__law_word
  have b__law_word := F__law_word.binds (ps := ["_law_pool", "_law_letters", "_law_most"]) fun _ _ _ _ _ _ us hl => match us, hl with | [_, _, _], _ => rfl
  have F__law_steps := fun_mk (st := s__law_steps) l__law_steps c__law_steps k__law_steps
  have b__law_steps := F__law_steps.binds (ps := ["_law_pool", "_law_letters", "_law_most"]) fun _ _ _ _ _ _ us hl => match us, hl with | [_, _, _], _ => rfl
  have F__law_odd := fun_mk (st := s__law_odd) l__law_odd c__law_odd k__law_odd
  have b__law_odd := F__law_odd.binds (ps := ["_law_pool", "_law_steps_here"]) fun _ _ _ _ _ _ us hl => match us, hl with | [_, _], _ => rfl
  have F__law_is_step := fun_mk (st := s__law_is_step) l__law_is_step c__law_is_step k__law_is_step
  have b__law_is_step := F__law_is_step.binds (ps := ["_law_thing"]) fun _ _ _ _ _ _ us hl => match us, hl with | [_], _ => rfl
  have F_law := fun_mk (st := s_law) l_law c_law k_law
  have b_law := F_law.binds (ps := ["_law_script"]) fun _ _ _ _ _ _ us hl => match us, hl with | [_], _ => rfl
  refine ⟨PySem.W.fnOf "law" "law" (defArgs s_law) (defBody s_law) (defScope s_law) .none kV_law dc_law pm_law an_law cd_law ct_law, fun s v => .of_eq rfl, fun base _ _ => ?_⟩
  let P := l.prog
  have g_is_word : Cal l.prog w K mg base T "is_word" 2 ["value", "most"] [] C_is_word := ⟨_, _, d_is_word F_is_word Z, b_is_word, PySem.W.mg_of X G a_is_word⟩
  have g_is_queue : Cal l.prog w K mg base T "is_queue" 3 ["value"] [] C_is_queue := ⟨_, _, d_is_queue F_is_queue Z g_is_word, b_is_queue, PySem.W.mg_of X G a_is_queue⟩
  have g_is_step : Cal l.prog w K mg base T "is_step" 2 ["value"] [] C_is_step := ⟨_, _, d_is_step F_is_step Z, b_is_step, PySem.W.mg_of X G a_is_step⟩
  have g_first_invalid : Cal l.prog w K mg base T "first_invalid" 3 ["value"] [] C_first_invalid := ⟨_, _, d_first_invalid F_first_invalid Z g_is_step, b_first_invalid, PySem.W.mg_of X G a_first_invalid⟩
  have g_is_sequence : Cal l.prog w K mg base T "is_sequence" 4 ["value"] [] C_is_sequence := ⟨_, _, d_is_sequence F_is_sequence Z g_first_invalid, b_is_sequence, PySem.W.mg_of X G a_is_sequence⟩
  have g__law_hand : Cal l.prog w K mg base T "_law_hand" 2 ["_law_script", "_law_k"] [] C__law_hand := ⟨_, _, d__law_hand F__law_hand Z, b__law_hand, PySem.W.mg_of X G a__law_hand⟩
  have g__law_draw : Cal l.prog w K mg base T "_law_draw" 2 ["_law_pool", "_law_size"] [0] C__law_draw := ⟨_, _, d__law_draw F__law_draw Z, b__law_draw, PySem.W.mg_of X G a__law_draw⟩
  have g__law_word : Cal l.prog w K mg base T "_law_word" 3 ["_law_pool", "_law_letters", "_law_most"] [0] C__law_word := ⟨_, _, d__law_word F__law_word Z g__law_draw, b__law_word, PySem.W.mg_of X G a__law_word⟩
  have g__law_steps : Cal l.prog w K mg base T "_law_steps" 3 ["_law_pool", "_law_letters", "_law_most"] [0] C__law_steps := ⟨_, _, d__law_steps F__law_steps Z g__law_draw, b__law_steps, PySem.W.mg_of X G a__law_steps⟩
  have g__law_odd : Cal l.prog w K mg base T "_law_odd" 3 ["_law_pool", "_law_steps_here"] [0] C__law_odd := ⟨_, _, d__law_odd F__law_odd Z g__law_draw, b__law_odd, PySem.W.mg_of X G a__law_odd⟩
  have g__law_is_step : Cal l.prog w K mg base T "_law_is_step" 2 ["_law_thing"] [] C__law_is_step := ⟨_, _, d__law_is_step F__law_is_step Z, b__law_is_step, PySem.W.mg_of X G a__law_is_step⟩
  exact lawFn (d_law F_law Z g_is_queue g_is_sequence g__law_hand g__law_word g__law_steps g__law_odd g_is_step g__law_is_step)
end Wk01
open PySem PySem.W PyProof.Rows
set_option maxRecDepth 100000 in
set_option maxHeartbeats 0 in
theorem PySem.Challenge.cw_queueeffect_k01_items_steps_sequences_holds : PySem.Challenge.rw_queueeffect_k01_items_steps_sequences.Holds := by
  w_on; o_law; k_head; (case hw => w_witness2)
  k_fill
  refine DL.walkD (l := PySem.Challenge.rw_queueeffect_k01_items_steps_sequences) (k := 5) (x := "_law_script") rfl rfl ⟨rfl, by decide, by decide⟩ (fun w h Y => PySem.W.kIn_of Y) ?F
  case F =>
    intro w mg fa h KX G hmg
    refine' Wk01.all_mk KX G hmg ?a_is_word ?l_is_word ?c_is_word ?k_is_word ?a_is_queue ?l_is_queue ?c_is_queue ?k_is_queue ?a_is_step ?l_is_step ?c_is_step ?k_is_step ?a_first_invalid ?l_first_invalid ?c_first_invalid ?k_first_invalid ?a_is_sequence ?l_is_sequence ?c_is_sequence ?k_is_sequence ?a__law_hand ?l__law_hand ?c__law_hand ?k__law_hand ?a__law_draw ?l__law_draw ?c__law_draw ?k__law_draw ?a__law_word ?l__law_word ?c__law_word ?k__law_word ?a__law_steps ?l__law_steps ?c__law_steps ?k__law_steps ?a__law_odd ?l__law_odd ?c__law_odd ?k__law_odd ?a__law_is_step ?l__law_is_step ?c__law_is_step ?k__law_is_step ?a_law ?l_law ?c_law ?k_law ?v_ITEMS ?v_MAX_QUEUE ?v_MAX_STEPS ?z_isinstance ?z_str ?z_len ?z_all ?z_list ?z_enumerate ?z_int ?z_range ?z_tuple ?z_max ?z_min ?z_repr
    (case a_is_word => k_is)
    (case l_is_word => k_is)
    (case c_is_word => k_is)
    (case k_is_word => k_is)
    (case a_is_queue => k_is)
    (case l_is_queue => k_is)
    (case c_is_queue => k_is)
    (case k_is_queue => k_is)
    (case a_is_step => k_is)
    (case l_is_step => k_is)
    (case c_is_step => k_is)
    (case k_is_step => k_is)
    (case a_first_invalid => k_is)
    (case l_first_invalid => k_is)
    (case c_first_invalid => k_is)
    (case k_first_invalid => k_is)
    (case a_is_sequence => k_is)
    (case l_is_sequence => k_is)
    (case c_is_sequence => k_is)
    (case k_is_sequence => k_is)
    (case a__law_hand => k_is)
    (case l__law_hand => k_is)
    (case c__law_hand => k_is)
    (case k__law_hand => k_is)
    (case a__law_draw => k_is)
    (case l__law_draw => k_is)
    (case c__law_draw => k_is)
    (case k__law_draw => k_is)
    (case a__law_word => k_is)
    (case l__law_word => k_is)
    (case c__law_word => k_is)
    (case k__law_word => k_is)
    (case a__law_steps => k_is)
    (case l__law_steps => k_is)
    (case c__law_steps => k_is)
    (case k__law_steps => k_is)
    (case a__law_odd => k_is)
    (case l__law_odd => k_is)
    (case c__law_odd => k_is)
    (case k__law_odd => k_is)
    (case a__law_is_step => k_is)
    (case l__law_is_step => k_is)
    (case c__law_is_step => k_is)
    (case k__law_is_step => k_is)
    (case a_law => k_is)
    (case l_law => k_is)
    (case c_law => k_is)
    (case k_law => k_is)
    (case v_ITEMS => k_is)
    (case v_MAX_QUEUE => k_is)
    (case v_MAX_STEPS => k_is)
    (case z_isinstance => k_is)
    (case z_str => k_is)
    (case z_len => k_is)
    (case z_all => k_is)
    (case z_list => k_is)
    (case z_enumerate => k_is)
    (case z_int => k_is)
    (case z_range => k_is)
    (case z_tuple => k_is)
    (case z_max => k_is)
    (case z_min => k_is)
    (case z_repr => k_is)
