import PyProof.Rows.All
import Wide.All
import OpenK.AllK
import Wide.FinOn
import HandS.Base
import HandS.Call
import HandS.List
import HandS.Comp
import HandS.Dict
import HandS.Iter
import HandS.Text
import HandS.Exc
import HandS.ExcOwn
import HandS.Ends
import HandS.Words
import HandS.Wide
import HandS.Lambda
import HandS.IsInst
import HandS.ExcInit
import HandS.ExcCtx
import HandS.CallSlots
import HandS.WordsExc
import HandS.RaiseFrom
import HandS.Star
import HandS.WordsDict
import HandS.TupLen
import HandS.Property
import HandS.ClsMeth
import HandS.ExcIs
import PyProof.ReprRoads
import PyProof.ReprNest
import PyProof.Rows.StrIntSpec
import HandS.Style
import PyProof.InstNe
import HandS.TryOnly
import PyProof.ZipIter
import PyProof.Draws
import PyProof.EnumMake
import HandS.Zip
import KE.GoesEnumKw
import KE.DatumOrd
import PyProof.InstSpecial
import PyProof.LongRange
import HandS.OwnEq
import PyProof.NeKinds
import HandS.FStr
import HandS.Conv
import HandS.Defaults
import HandS.EndBits
import HandS.StrMore
import PyProof.Rows.EqNone
import HandS.Set
import HandS.SetFor
import HandS.Strs
import HandS.SetKeys
import PyProof.Rows.SortShellAny
import HandS.More
import PyProof.AssignAttr
import PyProof.RulesAssignMore
import HandS.Deep
import HandS.Finally
import HandS.DictComp
import HandS.ListItems
import HandS.Sort
import HandS.MapSum
import HandS.DictEq
import PyProof.DictCopy
import PyProof.DictUpdate
import PyProof.MinMaxWalk
import PyProof.WalkInts
import HandS.SortKw
import PyProof.StrWalks
import KE.KDictDisplayH
import HandS.TupAny
import HandS.TupMul
import KE.SortData
import HandS.Replace
import HandS.SuiteRaise
import HandS.ReplaceList
import KE.KExcRaise
import KE.KDictCopyH
import HandS.DictTup
import KE.KEqDict
import HandS.Nested
import KE.KTupSum
import KE.KLam
import KE.SortKeyHeap
import KE.KNestM
import KE.KDictPairs
import HandS.GenList
import PySem.Challenge.RW_queueeffect_k15_exchanges
/-! DLP: data values, environments, and what expressions and statements do to them (no machine in sight). -/
set_option linter.all false
namespace DL
abbrev Tx := List Nat
inductive Ky where
  | int (i : Int)
  | str (x : Tx)
  deriving DecidableEq
/-- a value as plain data -/
inductive D where
  | non
  | bl (b : Bool)
  | int (i : Int)
  | str (x : Tx)
  | lst (xs : List D)
  | tup (xs : List D)
  | dct (kvs : List (Ky × D))
  | obj (c : Nat) (fs : List D)
  | frl (xs : List D)
  | cls (c : Nat)
  | prt (d : D)
  | dcT (kvs : List (List Ky × D))
/-- a part that its object alone holds, seen as settled -/
def D.unm : D → D
  | .prt d => d
  | d => d
/-- an object with parts of its own, seen as settled -/
def D.calm : D → D
  | .obj c xs => .obj c (xs.map D.unm)
  | .dct ks => .dct (ks.map fun p => (p.1, p.2.unm))
  | .lst xs => .lst (xs.map D.unm)
  | .tup xs => .tup (xs.map D.unm)
  | d => d
/-- a value that is settled, or a new object that nobody else holds -/
inductive R where
  | fz (d : D)
  | fr (d : D)
  | ft (d : D)
def R.d : R → D
  | .fz d => d
  | .fr d => d
  | .ft d => d.calm
/-- a name's slot: nothing known, a settled value, an object of one's own -/
inductive Slot where
  | no
  | fz (d : D)
  | own (d : D)
  | ownT (d : D)
abbrev Env := List Slot
/-- an exception: its class, its one field -/
structure Exc where
  cls : Nat
  val : D
abbrev EK := Exc → Env → Prop
abbrev DE := Env → (R → Env → Prop) → EK → Prop
abbrev DT := Env → (Bool → Env → Prop) → EK → Prop
abbrev DI := Env → (List D → Env → Prop) → EK → Prop
abbrev DG := D → Env → (Env → Prop) → Prop
structure DEnds where
  nx : Env → Prop
  rt : R → Env → Prop
  bk : Env → Prop := fun _ => False
  ct : Env → Prop := fun _ => False
abbrev DS := DEnds → Env → EK → Prop
/-- a def by its arguments: what it hands back, what it raises; with the arguments' slots behind -/
abbrev Con := List Slot → (R → List Slot → Prop) → (Exc → List Slot → Prop) → Prop

def Env.at (ρ : Env) (i : Nat) : Slot := (ρ[i]?).getD .no

/-! ### operations on data -/
abbrev maxTx : Nat := 16777216
def addD : D → D → (R → Prop) → Prop
  | .int i, .int j, k => k (.fz (.int (i + j)))
  | .str a, .str b, k => a.length + b.length ≤ maxTx ∧ k (.fz (.str (a ++ b)))
  | .lst a, .lst b, k => a.length + b.length ≤ maxTx ∧ k (.fr (.lst (a ++ b)))
  | _, _, _ => False
/-- += on what cannot change -/
def iaddD : D → D → (R → Prop) → Prop
  | .int i, .int j, k => k (.fz (.int (i + j)))
  | .str a, .str b, k => a.length + b.length ≤ maxTx ∧ k (.fz (.str (a ++ b)))
  | _, _, _ => False
def subD : D → D → (R → Prop) → Prop
  | .int i, .int j, k => k (.fz (.int (i - j)))
  | _, _, _ => False
def mulD : D → D → (R → Prop) → Prop
  | .int i, .int j, k => ((-(2 ^ 64) < i ∧ i < 2 ^ 64) ∨ (-(2 ^ 64) < j ∧ j < 2 ^ 64)) ∧ k (.fz (.int (i * j)))
  | .str a, .int n, k => (-(2 ^ 62) ≤ n ∧ n < 2 ^ 62 ∧ a.length * n.toNat ≤ maxTx) ∧ k (.fz (.str (List.replicate n.toNat a).flatten))
  | .lst a, .int n, k => (-(2 ^ 62) ≤ n ∧ n < 2 ^ 62 ∧ a.length * n.toNat ≤ maxTx) ∧ k (.fr (.lst (List.replicate n.toNat a).flatten))
  | _, _, _ => False
def fdivD : D → D → (R → Prop) → Prop
  | .int i, .int j, k => (0 < j ∧ j < 1180591620717411303424) ∧ k (.fz (.int (i / j)))
  | _, _, _ => False
def modD : D → D → (R → Prop) → Prop
  | .int i, .int j, k => 0 < j ∧ k (.fz (.int (i % j)))
  | _, _, _ => False
def powD : D → D → (R → Prop) → Prop
  | .int i, .int j, k => (0 ≤ j ∧ j ≤ 1000000 ∧ i.natAbs < 2 ^ 64) ∧ k (.fz (.int (i ^ j.toNat)))
  | _, _, _ => False
def negD : D → (R → Prop) → Prop
  | .int i, k => k (.fz (.int (-i)))
  | _, _ => False
mutual
def D.eqv : D → D → Bool
  | .non, .non => true
  | .bl a, .bl b => a == b
  | .bl a, .int j => (if a then 1 else 0) == j
  | .int i, .bl b => i == (if b then 1 else 0)
  | .int i, .int j => i == j
  | .str x, .str y => x == y
  | .lst xs, .lst ys => D.eqvL xs ys
  | .tup xs, .tup ys => D.eqvL xs ys
  | _, _ => false
def D.eqvL : List D → List D → Bool
  | [], [] => true
  | x :: xs, y :: ys => D.eqv x y && D.eqvL xs ys
  | _, _ => false
end
mutual
/-- data that may be compared at depth (at most n) -/
def D.eqOk : Nat → D → Bool
  | _, .non => true
  | _, .bl _ => true
  | _, .int _ => true
  | _, .str _ => true
  | n + 1, .lst xs => D.eqOkL n xs
  | n + 1, .tup xs => D.eqOkL n xs
  | _, _ => false
def D.eqOkL : Nat → List D → Bool
  | _, [] => true
  | n, x :: xs => D.eqOk n x && D.eqOkL n xs
end
def scalD : D → D → Bool
  | .non, .non => true | .non, .int _ => true | .int _, .non => true | .non, .bl _ => true | .bl _, .non => true | .non, .str _ => true | .str _, .non => true
  | .int _, .int _ => true | .bl _, .bl _ => true | .str _, .str _ => true
  | .int _, .str _ => true | .str _, .int _ => true | .bl _, .str _ => true | .str _, .bl _ => true
  | _, _ => false
def eqC (x y : D) : Prop := scalD x y = true ∨ (x.eqOk 60 = true ∧ y.eqOk 60 = true)
def eqD (x y : D) (k : R → Prop) : Prop := eqC x y ∧ k (.fz (.bl (D.eqv x y)))
def neD (x y : D) (k : R → Prop) : Prop := eqC x y ∧ k (.fz (.bl (!D.eqv x y)))
def ltD : D → D → (R → Prop) → Prop
  | .int i, .int j, k => k (.fz (.bl (decide (i < j))))
  | _, _, _ => False
def leD : D → D → (R → Prop) → Prop
  | .int i, .int j, k => k (.fz (.bl (decide (i ≤ j))))
  | _, _, _ => False
def gtD : D → D → (R → Prop) → Prop
  | .int i, .int j, k => k (.fz (.bl (decide (j < i))))
  | _, _, _ => False
def geD : D → D → (R → Prop) → Prop
  | .int i, .int j, k => k (.fz (.bl (decide (j ≤ i))))
  | _, _, _ => False
def D.isNon : D → Bool
  | .non => true
  | _ => false
def isD (x : D) (k : R → Prop) : Prop := k (.fz (.bl x.isNon))
def isnD (x : D) (k : R → Prop) : Prop := k (.fz (.bl (!x.isNon)))
/-- is, is not with True or False -/
def isBD : D → D → (R → Prop) → Prop
  | .bl a, .bl b, k => k (.fz (.bl (a == b)))
  | _, _, _ => False
def notBD : D → D → (R → Prop) → Prop
  | .bl a, .bl b, k => k (.fz (.bl (!(a == b))))
  | _, _, _ => False
def revD : D → (R → Prop) → Prop
  | .lst xs, k => k (.fr (.lst xs.reverse))
  | _, _ => False
def D.flat : D → Bool
  | .non => true | .bl _ => true | .int _ => true | .str _ => true
  | _ => false
/-- one sign in a text; a flat thing in a list or tuple of flat things -/
def inD : D → D → (Bool → Prop) → Prop
  | .str [c], .str t, k => k (decide (c ∈ t))
  | x, .lst ys, k => x.flat = true ∧ ys.all D.flat = true ∧ k (ys.any fun y => D.eqv y x)
  | x, .tup ys, k => x.flat = true ∧ ys.all D.flat = true ∧ k (ys.any fun y => D.eqv y x)
  | _, _, _ => False
def inDv (x y : D) (k : R → Prop) : Prop := inD x y fun b => k (.fz (.bl b))
def ninDv (x y : D) (k : R → Prop) : Prop := inD x y fun b => k (.fz (.bl (!b)))
/-- the place of an index -/
def ixN (n : Nat) (i : Int) : Option Nat := if 0 ≤ i then (if i < n then some i.toNat else none) else if -(n : Int) ≤ i then some (i + n).toNat else none
def ixD : D → D → (R → Prop) → Prop
  | .lst xs, .int i, k => ∃ j d, ixN xs.length i = some j ∧ xs[j]? = some d ∧ k (.fz d)
  | .tup xs, .int i, k => ∃ j d, ixN xs.length i = some j ∧ xs[j]? = some d ∧ k (.fz d)
  | .str x, .int i, k => ∃ j c, ixN x.length i = some j ∧ x[j]? = some c ∧ k (.fz (.str [c]))
  | _, _, _ => False
def sIx (n d : Nat) : Option Int → Nat
  | none => d
  | some i => if i < 0 then (i + (n : Int)).toNat else min i.toNat n
def cut {α : Type} (xs : List α) (lo hi : Option Int) : List α := (xs.drop (sIx xs.length 0 lo)).take (sIx xs.length xs.length hi - sIx xs.length 0 lo)
def slD : D → Option Int → Option Int → (R → Prop) → Prop
  | .lst xs, lo, hi, k => k (.fr (.lst (cut xs lo hi)))
  | .frl xs, lo, hi, k => k (.fr (.lst (cut xs lo hi)))
  | .str x, lo, hi, k => k (.fz (.str (cut x lo hi)))
  | _, _, _, _ => False
def lenD : D → (R → Prop) → Prop
  | .lst xs, k => k (.fz (.int xs.length))
  | .tup xs, k => k (.fz (.int xs.length))
  | .frl xs, k => k (.fz (.int xs.length))
  | .str x, k => k (.fz (.int x.length))
  | .dct kvs, k => k (.fz (.int kvs.length))
  | .dcT kvs, k => k (.fz (.int kvs.length))
  | _, _ => False
/-- truth -/
def D.tru : D → Option Bool
  | .non => some false
  | .bl b => some b
  | .int i => some (i != 0)
  | .str x => some (!x.isEmpty)
  | .lst xs => some (!xs.isEmpty)
  | .tup xs => some (!xs.isEmpty)
  | .dct kvs => some (!kvs.isEmpty)
  | _ => none

/-! ### built-in functions -/
def lenF : List D → (R → Prop) → Prop
  | [x], k => lenD x k
  | _, _ => False
def allF : List D → (R → Prop) → Prop
  | [.lst xs], k => ∃ bs : List Bool, xs = bs.map D.bl ∧ k (.fz (.bl (bs.all id)))
  | _, _ => False
def anyF : List D → (R → Prop) → Prop
  | [.lst xs], k => ∃ bs : List Bool, xs = bs.map D.bl ∧ k (.fz (.bl (bs.any id)))
  | _, _ => False
def maxF : List D → (R → Prop) → Prop
  | [.int i, .int j], k => k (.fz (.int (if j > i then j else i)))
  | [.lst xs], k => ∃ ns : List Int, xs = ns.map D.int ∧ 0 < ns.length ∧ ∀ m, m ∈ ns → (∀ y, y ∈ ns → y ≤ m) → k (.fz (.int m))
  | _, _ => False
def minF : List D → (R → Prop) → Prop
  | [.int i, .int j], k => k (.fz (.int (if j < i then j else i)))
  | [.lst xs], k => ∃ ns : List Int, xs = ns.map D.int ∧ 0 < ns.length ∧ ∀ m, m ∈ ns → (∀ y, y ∈ ns → m ≤ y) → k (.fz (.int m))
  | _, _ => False
def sumF : List D → (R → Prop) → Prop
  | [.lst xs], k => ∃ ns : List Int, xs = ns.map D.int ∧ k (.fz (.int ns.sum))
  | _, _ => False
def absF : List D → (R → Prop) → Prop
  | [.int i], k => k (.fz (.int (if i < 0 then -i else i)))
  | _, _ => False
def intF : List D → (R → Prop) → Prop
  | [.int i], k => k (.fz (.int i))
  | [.bl b], k => k (.fz (.int (if b then 1 else 0)))
  | _, _ => False
def listF : List D → (R → Prop) → Prop
  | [.lst xs], k => k (.fr (.lst xs))
  | [.tup xs], k => k (.fr (.lst xs))
  | [.frl xs], k => k (.fr (.lst xs))
  | _, _ => False
def tupleF : List D → (R → Prop) → Prop
  | [.lst xs], k => k (.fr (.tup xs))
  | [.tup xs], k => k (.fz (.tup xs))
  | _, _ => False
/-- isinstance with a built-in type -/
inductive Ty where | str | int | bool | list | tuple | dict
  deriving DecidableEq
def D.isTy : Ty → D → Option Bool
  | .str, .str _ => some true
  | .int, .int _ => some true
  | .int, .bl _ => some true
  | .bool, .bl _ => some true
  | .list, .lst _ => some true
  | .list, .frl _ => some true
  | .tuple, .tup _ => some true
  | .dict, .dct _ => some true
  | .dict, .dcT _ => some true
  | _, .obj _ _ => none
  | _, .cls _ => none
  | _, _ => some false
/-! ### methods of texts -/
def joinT (S : Tx) : List Tx → Tx
  | [] => []
  | [p] => p
  | p :: q :: r => p ++ (S ++ joinT S (q :: r))
def joinM (a : Tx) : List D → (R → Prop) → Prop
  | [.lst xs], k => ∃ ys : List Tx, xs = ys.map D.str ∧ (ys.map (·.length)).sum + ys.length * a.length ≤ maxTx ∧ k (.fz (.str (joinT a ys)))
  | _, _ => False
def swM (a : Tx) : List D → (R → Prop) → Prop
  | [.str b], k => k (.fz (.bl (a.take b.length == b)))
  | _, _ => False
def ewM (a : Tx) : List D → (R → Prop) → Prop
  | [.str b], k => k (.fz (.bl (decide (b.length ≤ a.length) && (a.drop (a.length - b.length) == b))))
  | _, _ => False
/-! ### what repr shows -/
/-- an int in decimal -/
def intT (i : Int) : Tx := (toString i).toList.map Char.toNat
/-- a sign that repr shows as it is -/
def okC (c : Nat) : Bool := decide (32 ≤ c) && decide (c < 127) && c != 39 && c != 92
/-- how a key shows -/
def kyRep : Ky → Tx
  | .int i => intT i
  | .str x => 39 :: (x ++ [39])
mutual
def D.rep : D → Tx
  | .non => [78, 111, 110, 101]
  | .bl b => if b then [84, 114, 117, 101] else [70, 97, 108, 115, 101]
  | .int i => intT i
  | .str x => 39 :: (x ++ [39])
  | .lst xs => 91 :: (joinT [44, 32] (D.repL xs) ++ [93])
  | .tup xs => 40 :: (joinT [44, 32] (D.repL xs) ++ (if xs.length == 1 then [44, 41] else [41]))
  | .dct ks => 123 :: (joinT [44, 32] (D.repK ks) ++ [125])
  | _ => []
def D.repL : List D → List Tx
  | [] => []
  | x :: xs => D.rep x :: D.repL xs
def D.repK : List (Ky × D) → List Tx
  | [] => []
  | (k, d) :: r => (kyRep k ++ (58 :: 32 :: D.rep d)) :: D.repK r
end
mutual
/-- data that repr shows so: of depth at most n -/
def D.repOk : Nat → D → Bool
  | _, .non => true
  | _, .bl _ => true
  | _, .int i => decide (i.natAbs < 10 ^ 120)
  | _, .str x => x.all okC
  | n + 1, .lst xs => D.repOkL n xs
  | n + 1, .tup xs => D.repOkL n xs
  | _, _ => false
def D.repOkL : Nat → List D → Bool
  | _, [] => true
  | n, x :: xs => D.repOk n x && D.repOkL n xs
end
def kyOk : Ky → Bool
  | .int i => decide (i.natAbs < 10 ^ 120)
  | .str x => x.all okC
mutual
/-- .. dicts among them -/
def D.shOk : Nat → D → Bool
  | _, .non => true
  | _, .bl _ => true
  | _, .int i => decide (i.natAbs < 10 ^ 120)
  | _, .str x => x.all okC
  | n + 1, .lst xs => D.shOkL n xs
  | n + 1, .tup xs => D.shOkL n xs
  | n + 1, .dct ks => D.shOkK n ks
  | _, _ => false
def D.shOkL : Nat → List D → Bool
  | _, [] => true
  | n, x :: xs => D.shOk n x && D.shOkL n xs
def D.shOkK : Nat → List (Ky × D) → Bool
  | _, [] => true
  | n, (k, d) :: r => kyOk k && (D.shOk n d && D.shOkK n r)
end
def kyWt : Ky → Nat
  | .int _ => 128
  | .str x => x.length + 2
mutual
/-- no shorter than what repr shows -/
def D.wt : D → Nat
  | .int _ => 128
  | .str x => x.length + 2
  | .lst xs => D.wtL xs + 2
  | .tup xs => D.wtL xs + 4
  | .dct ks => D.wtK ks + 5
  | _ => 5
def D.wtL : List D → Nat
  | [] => 0
  | x :: xs => D.wt x + 2 + D.wtL xs
def D.wtK : List (Ky × D) → Nat
  | [] => 0
  | (k, d) :: r => kyWt k + 2 + D.wt d + 2 + D.wtK r
end
def D.isE : D → Bool
  | .dct [] => true
  | _ => false
/-- data with dicts in it -/
def D.noD (d : D) : Bool := d.shOk 40 && decide (d.wt ≤ maxTx)
def repF : List D → (R → Prop) → Prop
  | [d], k => ((d.repOk 40 = true ∧ d.wt ≤ maxTx) ∨ d.noD = true) ∧ k (.fz (.str d.rep))
  | _, _ => False
/-! ### expressions -/
def dC (d : D) : DE := fun ρ Q _ => Q (.fz d) ρ
def zaC (i : Nat) : DE := fun ρ Q _ => match ρ.at i with
  | .fz d => Q (.fz d) ρ
  | .own d => Q (.fz d) (ρ.set i (.fz d))
  | .ownT d => Q (.fz d.calm) (ρ.set i (.fz d.calm))
  | .no => False
def dOp (op : D → D → (R → Prop) → Prop) (f g : DE) : DE := fun ρ Q E => f ρ (fun r ρ1 => g ρ1 (fun s ρ2 => op r.d s.d fun t => Q t ρ2) E) E
def dUn (op : D → (R → Prop) → Prop) (f : DE) : DE := fun ρ Q E => f ρ (fun r ρ1 => op r.d fun t => Q t ρ1) E
/-- arguments, from the left: settled values -/
def dArgs : List DE → Env → (List D → Env → Prop) → EK → Prop
  | [], ρ, Q, _ => Q [] ρ
  | f :: fs, ρ, Q, E => f ρ (fun r ρ1 => dArgs fs ρ1 (fun ds ρ2 => Q (r.d :: ds) ρ2) E) E
def dLst (fs : List DE) : DE := fun ρ Q E => dArgs fs ρ (fun ds ρ1 => ds.length ≤ maxTx ∧ Q (.fr (.lst ds)) ρ1) E
def dTup (fs : List DE) : DE := fun ρ Q E => dArgs fs ρ (fun ds ρ1 => ds.length ≤ maxTx ∧ Q (.fr (.tup ds)) ρ1) E
def dDct0 : DE := fun ρ Q _ => Q (.fr (.dct [])) ρ
/-- a built-in function of settled values -/
def dFn (op : List D → (R → Prop) → Prop) (fs : List DE) : DE := fun ρ Q E => dArgs fs ρ (fun ds ρ1 => op ds fun t => Q t ρ1) E
def dIsi (t : Ty) (f : DE) : DE := fun ρ Q E => f ρ (fun r ρ1 => ∃ b, r.d.isTy t = some b ∧ Q (.fz (.bl b)) ρ1) E
/-- a method of a text -/
def dMs (op : Tx → List D → (R → Prop) → Prop) (f : DE) (fs : List DE) : DE := fun ρ Q E => f ρ (fun r ρ1 => match r.d with
  | .str a => dArgs fs ρ1 (fun ds ρ2 => op a ds fun t => Q t ρ2) E
  | _ => False) E
/-- part of a slice -/
def dPart : Option DE → Env → (Option Int → Env → Prop) → EK → Prop
  | none, ρ, Q, _ => Q none ρ
  | some f, ρ, Q, E => f ρ (fun r ρ1 => match r.d with | .int i => Q (some i) ρ1 | _ => False) E
def dSl (f : DE) (lo hi : Option DE) : DE := fun ρ Q E => f ρ (fun r ρ1 => dPart lo ρ1 (fun l ρ2 => dPart hi ρ2 (fun h ρ3 => slD r.d l h fun t => Q t ρ3) E) E) E
def dIfE (c : DT) (f g : DE) : DE := fun ρ Q E => c ρ (fun b ρ1 => if b = true then f ρ1 Q E else g ρ1 Q E) E
/-- an item of the object that a name holds, which stays its own -/
def Slot.known : Slot → Bool
  | .no => false
  | _ => true
def dIxN (i : Nat) (g : DE) : DE := fun ρ Q E => (ρ.at i).known = true ∧ g ρ (fun s ρ1 => match ρ1.at i with
  | .own d => ixD d s.d fun t => Q t ρ1
  | .fz d => ixD d s.d fun t => Q t ρ1
  | _ => False) E
/-- read with one's own objects as they stand, for a flat answer -/
def Slot.calm : Slot → Slot
  | .own d => .fz d
  | .ownT d => .fz d.calm
  | s => s
/-- a built-in function of a name whose object stays its own; its answer is flat -/
def dFnN (op : List D → (R → Prop) → Prop) (i : Nat) : DE := fun ρ Q _ => match ρ.at i with
  | .own d => op [d] fun t => t.d.flat = true ∧ Q t ρ
  | .fz d => op [d] fun t => Q t ρ
  | _ => False
/-- an operation whose first operand is a name that keeps its object; its answer is flat -/
def dOpN (op : D → D → (R → Prop) → Prop) (i : Nat) (g : DE) : DE := fun ρ Q E => (ρ.at i).known = true ∧ g ρ (fun s ρ1 => match ρ1.at i with
  | .own d => op d s.d fun t => t.d.flat = true ∧ Q t ρ1
  | .fz d => op d s.d fun t => Q t ρ1
  | _ => False) E
def dLook (f : DE) : DE := fun ρ Q _ => f (ρ.map Slot.calm) (fun r _ => r.d.flat = true ∧ Q (.fz r.d) ρ) fun _ _ => False
/-- tests -/
def tVal (f : DE) : DT := fun ρ Q E => f ρ (fun r ρ1 => match r.d with | .bl b => Q b ρ1 | _ => False) E
def tTru (f : DE) : DT := fun ρ Q E => f ρ (fun r ρ1 => ∃ b, r.d.tru = some b ∧ Q b ρ1) E
def tAnd (c d : DT) : DT := fun ρ Q E => c ρ (fun b ρ1 => if b = true then d ρ1 Q E else Q false ρ1) E
def tOr (c d : DT) : DT := fun ρ Q E => c ρ (fun b ρ1 => if b = true then Q true ρ1 else d ρ1 Q E) E
def tNot (c : DT) : DT := fun ρ Q E => c ρ (fun b ρ1 => Q (!b) ρ1) E
/-- and, or, not as values: all truth values -/
def dAnd (c : DE) (d : DE) : DE := fun ρ Q E => c ρ (fun r ρ1 => match r.d with | .bl b => (if b = true then d ρ1 Q E else Q (.fz (.bl false)) ρ1) | _ => False) E
def dOr (c : DE) (d : DE) : DE := fun ρ Q E => c ρ (fun r ρ1 => match r.d with | .bl b => (if b = true then Q (.fz (.bl true)) ρ1 else d ρ1 Q E) | _ => False) E
def dNot (c : DE) : DE := fun ρ Q E => c ρ (fun r ρ1 => match r.d with | .bl b => Q (.fz (.bl (!b))) ρ1 | _ => False) E
/-- a chain x op y op z -/
def dChain (op op' : D → D → (R → Prop) → Prop) (f g h : DE) : DE := fun ρ Q E => f ρ (fun r ρ1 => g ρ1 (fun s ρ2 => op r.d s.d fun t => match t.d with
  | .bl b => (if b = true then h ρ2 (fun u ρ3 => op' s.d u.d fun t' => Q t' ρ3) E else Q (.fz (.bl false)) ρ2)
  | _ => False) E) E

/-! ### what is walked -/
def iLst (f : DE) : DI := fun ρ Q E => f ρ (fun r ρ1 => match r.d with | .lst xs => Q xs ρ1 | _ => False) E
def iTup (f : DE) : DI := fun ρ Q E => f ρ (fun r ρ1 => match r.d with | .tup xs => Q xs ρ1 | _ => False) E
def iStr (f : DE) : DI := fun ρ Q E => f ρ (fun r ρ1 => match r.d with | .str x => Q (x.map fun c => .str [c]) ρ1 | _ => False) E
def rng (lo : Int) (n : Nat) : List D := (List.range n).map fun (k : Nat) => .int (lo + (k : Int))
def iRng1 (f : DE) : DI := fun ρ Q E => f ρ (fun r ρ1 => match r.d with | .int n => (-(2 ^ 62) ≤ n ∧ n < 2 ^ 62) ∧ Q (rng 0 n.toNat) ρ1 | _ => False) E
def iRng2 (f g : DE) : DI := fun ρ Q E => f ρ (fun r ρ1 => g ρ1 (fun s ρ2 => match r.d, s.d with
  | .int a, .int b => (-(2 ^ 62) ≤ a ∧ a < 2 ^ 62 ∧ -(2 ^ 62) ≤ b ∧ b < 2 ^ 62) ∧ Q (rng a (b - a).toNat) ρ2
  | _, _ => False) E) E
def enumD (xs : List D) : List D := (List.range xs.length).zipWith (fun (i : Nat) x => .tup [.int (i : Int), x]) xs
def iEnum (f : DE) : DI := fun ρ Q E => f ρ (fun r ρ1 => match r.d with | .lst xs => Q (enumD xs) ρ1 | _ => False) E
def iZip (f g : DE) : DI := fun ρ Q E => f ρ (fun r ρ1 => g ρ1 (fun s ρ2 => match r.d, s.d with
  | .lst xs, .lst ys => Q (xs.zipWith (fun x y => .tup [x, y]) ys) ρ2
  | _, _ => False) E) E

/-! ### targets -/
def gN (i : Nat) : DG := fun d ρ k => k (ρ.set i (.fz d))
def gNs : List Nat → List D → Env → (Env → Prop) → Prop
  | [], [], ρ, k => k ρ
  | i :: is, d :: ds, ρ, k => gNs is ds (ρ.set i (.fz d)) k
  | _, _, _, _ => False
def gT (is : List Nat) : DG := fun d ρ k => match d with
  | .tup ds => gNs is ds ρ k
  | _ => False
/-- unpacking a list -/
def gL (is : List Nat) : DG := fun d ρ k => match d with
  | .lst ds => gNs is ds ρ k
  | _ => False
/-! ### comprehensions -/
def wipeE : List Nat → Env → Env
  | [], ρ => ρ
  | v :: vs, ρ => (wipeE vs ρ).set v .no
/-- behind the block: its own names stand as before -/
def Slot.noT : Slot → Slot
  | .ownT _ => .no
  | s => s
def backE : List Nat → Env → Env → Env
  | [], _, ρ => ρ
  | v :: vs, ρ0, ρ => (backE vs ρ0 ρ).set v (ρ0.at v).noT
def noE : EK := fun _ _ => False
def lcL (vs : List Nat) (g : DG) (t : DT) (e : DE) (Q : List D → Env → Prop) : List D → List D → Env → Prop
  | [], acc, ρ => Q acc ρ
  | x :: xs, acc, ρ => g x ρ fun ρ1 => t ρ1 (fun b ρ2 => if b = true then e ρ2 (fun r ρ3 => acc.length < maxTx ∧ lcL vs g t e Q xs (acc ++ [r.d]) (wipeE vs ρ3)) noE
    else lcL vs g t e Q xs acc (wipeE vs ρ2)) noE
def tYes : DT := fun ρ Q _ => Q true ρ
def dLc (vs : List Nat) (it : DI) (g : DG) (t : DT) (e : DE) : DE := fun ρ Q E => it ρ (fun xs ρ1 => (∀ i ∈ vs, ∀ d, ρ1.at i ≠ .own d) ∧
  lcL vs g t e (fun acc ρ2 => Q (.fr (.lst acc)) (backE vs ρ1 ρ2)) xs [] (wipeE vs ρ1)) E

/-! ### calls of defs -/
/-- a target that is a name, or a tuple of names -/
inductive Tgt where
  | one (i : Nat)
  | tup (is : List Nat)
def Tgt.g : Tgt → DG
  | .one i => gN i
  | .tup is => gT is
def Tgt.is : Tgt → List Nat
  | .one i => [i]
  | .tup is => is
def D.isRef : D → Bool
  | .lst _ => true
  | .tup _ => true
  | .dct _ => true
  | .obj _ _ => true
  | _ => false
/-- an argument: a value; a settled object where the def may change it (it does not); the object that a name holds, to be changed -/
inductive DA where
  | v (f : DE)
  | r (f : DE)
  | m (i : Nat)
inductive AV where
  | v (d : D)
  | m (i : Nat)
def Slot.isOwn : Slot → Bool
  | .own _ => true
  | .ownT _ => true
  | _ => false
def dAVs : List DA → Env → (List AV → Env → Prop) → EK → Prop
  | [], ρ, Q, _ => Q [] ρ
  | .v f :: as, ρ, Q, E => f ρ (fun r ρ1 => dAVs as ρ1 (fun vs ρ2 => Q (.v r.d :: vs) ρ2) E) E
  | .r f :: as, ρ, Q, E => f ρ (fun r ρ1 => r.d.isRef = true ∧ dAVs as ρ1 (fun vs ρ2 => Q (.v r.d :: vs) ρ2) E) E
  | .m i :: as, ρ, Q, E => (ρ.at i).known = true ∧ dAVs as ρ (fun vs ρ2 => Q (.m i :: vs) ρ2) E
def avSlot (ρ : Env) : AV → Slot
  | .v d => .fz d
  | .m i => ρ.at i
def AV.ok (ρ : Env) : AV → Bool
  | .v _ => true
  | .m i => (ρ.at i).isOwn
def backA : List AV → List Slot → Env → Env
  | .m i :: as, s :: ss, ρ => backA as ss (ρ.set i s)
  | .v _ :: as, _ :: ss, ρ => backA as ss ρ
  | _, _, ρ => ρ
def zaK (con : Con) (as : List DA) : DE := fun ρ Q E => dAVs as ρ (fun vs ρ1 => vs.all (AV.ok ρ1) = true ∧ con (vs.map (avSlot ρ1)) (fun r outs => Q r (backA vs outs ρ1)) fun x outs => E x (backA vs outs ρ1)) E
/-- the places of the arguments that the def may change -/
def DA.mut : DA → Bool
  | .v _ => false
  | _ => true
def DA.slot? : DA → Option Nat
  | .m i => some i
  | _ => none

/-! ### defs with *args -/
def dCallV (con : Con) (fs : List DE) : DE := fun ρ Q E => dArgs fs ρ (fun ds ρ1 => ds.length ≤ maxTx ∧ con [.fz (.tup ds)] (fun r _ => Q r ρ1) fun x _ => E x ρ1) E
/-- f(*e), e a list or a tuple -/
def dCallS (con : Con) (f : DE) : DE := fun ρ Q E => f ρ (fun r ρ1 => match r.d with
  | .lst ds => ds.length ≤ maxTx ∧ con [.fz (.tup ds)] (fun r _ => Q r ρ1) fun x _ => E x ρ1
  | .tup ds => ds.length ≤ maxTx ∧ con [.fz (.tup ds)] (fun r _ => Q r ρ1) fun x _ => E x ρ1
  | _ => False) E
/-! ### own classes: attributes, making, storing -/
def dFld (c j : Nat) (f : DE) : DE := fun ρ Q E => f ρ (fun r ρ1 => match r.d with
  | .obj c' fs => c' = c ∧ ∃ d, fs[j]? = some d ∧ Q (.fz d) ρ1
  | _ => False) E
def mkC (c : Nat) (con : Con) (ds : List D) (ρ : Env) (Q : R → Env → Prop) (E : EK) : Prop :=
  con (.own (.obj c []) :: ds.map .fz) (fun r outs => r.d = .non ∧ ∃ d, outs.head? = some (.own d) ∧ Q (.fr d) ρ) fun x _ => E x ρ
/-- .. a class whose objects hold parts of their own -/
def mkCT (c : Nat) (con : Con) (ds : List D) (ρ : Env) (Q : R → Env → Prop) (E : EK) : Prop :=
  con (.own (.obj c []) :: ds.map .fz) (fun r outs => r.d = .non ∧ ∃ d, outs.head? = some (.ownT d) ∧ Q (.ft d) ρ) fun x _ => E x ρ
def dMakeT (c : Nat) (con : Con) (fs : List DE) : DE := fun ρ Q E => dArgs fs ρ (fun ds ρ1 => ds.length = fs.length ∧ mkCT c con ds ρ1 Q E) E
def newR : Slot → Option R
  | .own d => some (.fr d)
  | .ownT d => some (.ft d)
  | _ => none
def dMake (c : Nat) (con : Con) (fs : List DE) : DE := fun ρ Q E => dArgs fs ρ (fun ds ρ1 => ds.length = fs.length ∧ mkC c con ds ρ1 Q E) E
/-- .. through a name that holds the class -/
def dMakeV (i c : Nat) (con : Con) (fs : List DE) : DE := fun ρ Q E => (match ρ.at i with | .fz (.cls c') => c' = c | _ => False) ∧ dArgs fs ρ (fun ds ρ1 => ds.length = fs.length ∧ mkC c con ds ρ1 Q E) E
/-- an object of that class -/
def D.isObj (c : Nat) : D → Bool
  | .obj c' _ => c' == c
  | _ => false
def dObj (c : Nat) (f : DE) : DE := fun ρ Q E => f ρ (fun r ρ1 => r.d.isObj c = true ∧ Q r ρ1) E
def Slot.isObj (c : Nat) : Slot → Bool
  | .own d => d.isObj c
  | .ownT d => d.isObj c
  | .fz d => d.isObj c
  | .no => false
/-- x.m(..), x the name's own object -/
def dMethM (i c : Nat) (con : Con) (as : List DA) : DE := fun ρ Q E => (ρ.at i).isObj c = true ∧ zaK con (.m i :: as) ρ Q E
/-- C.m(..), m a classmethod -/
def dCm (c : Nat) (con : Con) (fs : List DE) : DE := fun ρ Q E => dArgs fs ρ (fun ds ρ1 => ds.length = fs.length ∧ con ((D.cls c :: ds).map .fz) (fun r _ => Q r ρ1) fun x _ => E x ρ1) E

def D.isCls (c : Nat) : D → Option Bool
  | .obj c' _ => if c' = c then some true else if c' < 1000 then some false else none
  | .cls _ => none
  | _ => some false
def dIsO (c : Nat) (f : DE) : DE := fun ρ Q E => f ρ (fun r ρ1 => ∃ b, r.d.isCls c = some b ∧ Q (.fz (.bl b)) ρ1) E
/-- a == b, a != b by the own == of a's class -/
def D.eqTo (c : Nat) : D → Bool
  | .obj c' _ => c' == c
  | .cls _ => false
  | .frl _ => false
  | _ => true
def dEqO (c : Nat) (con : Con) (neg : Bool) (f g : DE) : DE := fun ρ Q E => f ρ (fun r ρ1 => g ρ1 (fun s ρ2 => r.d.isObj c = true ∧ (if neg = true then s.d.isObj c = true else s.d.eqTo c = true) ∧
  con [.fz r.d, .fz s.d] (fun t _ => ∃ b, t.d = .bl b ∧ Q (.fz (.bl (if neg = true then !b else b))) ρ2) fun _ _ => False) E) E
/-- (object, number) != (object, number), equal ones -/
def dNeT (c : Nat) (con : Con) (f g : DE) : DE := fun ρ Q E => f ρ (fun r ρ1 => g ρ1 (fun s ρ2 => ∃ o o' i, r.d = .tup [o, .int i] ∧ s.d = .tup [o', .int i] ∧ o.isObj c = true ∧ o'.isObj c = true ∧ Q (.fz (.bl false)) ρ2 ∧
  con [.fz o, .fz o'] (fun t _ => ∃ b, t.d = .bl b ∧ (R.fz (.bl b) = .fz (.bl true) ∧ Q (.fz (.bl false)) ρ2)) fun _ _ => False) E) E
/-! ### statements -/
/-- x.f = e, x the name's own object: a new attribute, or one that is there -/
def sFld (i c j : Nat) (f : DE) : DS := fun D ρ E => f ρ (fun r ρ1 => match ρ1.at i with
  | .own (.obj c' fs) => c' = c ∧ j ≤ fs.length ∧ D.nx (ρ1.set i (.own (.obj c (if j < fs.length then fs.set j r.d else fs ++ [r.d]))))
  | _ => False) E
def sNx : DS := fun D ρ _ => D.nx ρ
def sSeq (f g : DS) : DS := fun D ρ E => f { D with nx := fun ρ1 => g D ρ1 E } ρ E
def sRet (f : DE) : DS := fun D ρ E => f ρ D.rt E
def sRetN : DS := fun D ρ _ => D.rt (.fz .non) ρ
def sExp (f : DE) : DS := fun D ρ E => f ρ (fun _ ρ1 => D.nx ρ1) E
def sAsg (g : DG) (f : DE) : DS := fun D ρ E => f ρ (fun r ρ1 => g r.d ρ1 D.nx) E
/-- a new object becomes the name's own -/
def sAsgO (i : Nat) (f : DE) : DS := fun D ρ E => f ρ (fun r ρ1 => match r with | .fr (.tup _) => False | .ft (.tup _) => False | .fr d => D.nx (ρ1.set i (.own d)) | .ft d => D.nx (ρ1.set i (.ownT d)) | .fz _ => False) E
def sIf (c : DT) (f g : DS) : DS := fun D ρ E => c ρ (fun b ρ1 => if b = true then f D ρ1 E else g D ρ1 E) E
def sAug (i : Nat) (op : D → D → (R → Prop) → Prop) (f : DE) : DS := fun D ρ E => match ρ.at i with
  | .fz x => f ρ (fun r ρ1 => op x r.d fun t => D.nx (ρ1.set i (.fz t.d))) E
  | _ => False
def forL (g : DG) (body : DS) (J : DEnds) (E : EK) : List D → Env → Prop
  | [], ρ => J.nx ρ
  | x :: xs, ρ => g x ρ fun ρ1 => body { nx := forL g body J E xs, ct := forL g body J E xs, bk := J.nx, rt := J.rt } ρ1 E
def sFor (it : DI) (g : DG) (body : DS) : DS := fun D ρ E => it ρ (fun xs ρ1 => forL g body D E xs ρ1) E
def whL (c : DT) (body : DS) (J : DEnds) (E : EK) : Nat → Env → Prop
  | 0, _ => False
  | n + 1, ρ => c ρ (fun b ρ1 => if b = true then body { nx := whL c body J E n, ct := whL c body J E n, bk := J.nx, rt := J.rt } ρ1 E else J.nx ρ1) E
def sWh (c : DT) (body : DS) : DS := fun D ρ E => ∃ n, whL c body D E n ρ
def sBrk : DS := fun D ρ _ => D.bk ρ
def sCnt : DS := fun D ρ _ => D.ct ρ
def sRaise (c : Nat) (f : DE) : DS := fun D ρ E => f ρ (fun r ρ1 => E ⟨c, r.d⟩ ρ1) E
def Slot.ownL : Slot → Bool
  | .own (.lst _) => true
  | _ => false
/-- x.append(e), x the name's own list -/
def sApp (i : Nat) (f : DE) : DS := fun D ρ E => (ρ.at i).ownL = true ∧ f ρ (fun r ρ1 => match ρ1.at i with
  | .own (.lst xs) => xs.length < maxTx ∧ D.nx (ρ1.set i (.own (.lst (xs ++ [r.d]))))
  | _ => False) E
/-- x.extend(e), x the name's own list -/
def sExt (i : Nat) (f : DE) : DS := fun D ρ E => (ρ.at i).ownL = true ∧ f ρ (fun r ρ1 => match ρ1.at i, r.d with
  | .own (.lst xs), .lst ys => xs.length + ys.length ≤ maxTx ∧ D.nx (ρ1.set i (.own (.lst (xs ++ ys))))
  | _, _ => False) E
/-- x[k] = e, x the name's own list -/
def putAt (i : Nat) (k : DE) (d : D) (E : EK) (ρ : Env) (Q : Env → Prop) : Prop := (ρ.at i).ownL = true ∧ k ρ (fun s ρ2 => match ρ2.at i, s.d with
  | .own (.lst xs), .int z => ∃ j, ixN xs.length z = some j ∧ Q (ρ2.set i (.own (.lst (xs.set j d))))
  | _, _ => False) E
/-- x[a], x[b] = f, g -/
def sPut2 (i : Nat) (a b : DE) (f g : DE) : DS := fun D ρ E => dArgs [f, g] ρ (fun ds ρ1 => match ds with
  | [d1, d2] => putAt i a d1 E ρ1 fun ρ2 => putAt i b d2 E ρ2 D.nx
  | _ => False) E
def sPut (i : Nat) (k : DE) (f : DE) : DS := fun D ρ E => f ρ (fun r ρ1 => (ρ1.at i).ownL = true ∧ k ρ1 (fun s ρ2 => match ρ2.at i, s.d with
  | .own (.lst xs), .int z => ∃ j, ixN xs.length z = some j ∧ D.nx (ρ2.set i (.own (.lst (xs.set j r.d))))
  | _, _ => False) E) E
/-- a, b = f, g: two different names -/
def sPar (i j : Nat) (f g : DE) : DS := fun D ρ E => f ρ (fun r ρ1 => g ρ1 (fun s ρ2 => D.nx ((ρ2.set i (.fz r.d)).set j (.fz s.d))) E) E
/-- a, b = f, []: the second name's own -/
def sParL (i j : Nat) (f : DE) : DS := fun D ρ E => f ρ (fun r ρ1 => D.nx ((ρ1.set i (.fz r.d)).set j (.own (.lst [])))) E
/-- a, b, c = f, g, h: three different names -/
def sPar3 (i j l : Nat) (f g h : DE) : DS := fun D ρ E => f ρ (fun r ρ1 => g ρ1 (fun s ρ2 => h ρ2 (fun t ρ3 => D.nx (((ρ3.set i (.fz r.d)).set j (.fz s.d)).set l (.fz t.d))) E) E) E
/-- try: the clauses, each with its name's slot, its class, its suite by the exception -/
abbrev DClause := Nat × Nat × (Exc → DS)
def DEnds.unname (D : DEnds) (i : Nat) : DEnds := { nx := fun ρ => D.nx (ρ.set i .no), rt := D.rt, bk := fun ρ => D.bk (ρ.set i .no), ct := fun ρ => D.ct (ρ.set i .no) }
def catchD : List DClause → DEnds → EK → EK
  | [], _, E => E
  | (i, c, suite) :: r, D, E => fun x ρ => if x.cls = c then i < ρ.length ∧ suite x (D.unname i) (ρ.set i .no) noE else catchD r D E x ρ
def sTrys (cl : List DClause) (body : DS) : DS := fun D ρ E => body D ρ (catchD cl D E)
/-- a def's body -/
def startE (n : Nat) (args : List Slot) : Env := args ++ List.replicate (n - args.length) .no
/-- the first n slots -/
def outsE : Nat → Env → List Slot
  | 0, _ => []
  | n + 1, [] => .no :: outsE n []
  | n + 1, s :: ρ => s :: outsE n ρ
def runD (n : Nat) (body : DS) : Con := fun args Q E => body { nx := fun ρ => Q (.fz .non) (outsE args.length ρ), rt := fun r ρ => Q r (outsE args.length ρ) } (startE n args) fun x ρ => E x (outsE args.length ρ)
/-! ### more parts -/
def tLook (c : DT) : DT := fun ρ Q _ => c (ρ.map Slot.calm) (fun b _ => Q b ρ) noE
/-- n numbers from lo down -/
def rngD (lo : Int) (n : Nat) : List D := (List.range n).map fun (k : Nat) => .int (lo - (k : Int))
/-- the same, for ends of any size -/
def iRngB' (f g : DE) : DI := fun ρ Q E => f ρ (fun r ρ1 => g ρ1 (fun s ρ2 => match r.d, s.d with
  | .int a, .int b => Q (rngD a (a - b).toNat) ρ2
  | _, _ => False) E) E
def iRngD (f g : DE) : DI := fun ρ Q E => f ρ (fun r ρ1 => g ρ1 (fun s ρ2 => match r.d, s.d with
  | .int a, .int b => (-(2 ^ 62) ≤ a ∧ a < 2 ^ 62 ∧ -(2 ^ 62) ≤ b ∧ b < 2 ^ 62) ∧ Q (rngD a (a - b).toNat) ρ2
  | _, _ => False) E) E
def revT : D → (R → Prop) → Prop
  | .str x, k => k (.fz (.str x.reverse))
  | _, _ => False
def lookD (kvs : List (Ky × D)) (k : Ky) : Option D := (kvs.find? fun p => decide (p.1 = k)).map (·.2)
/-- keys that are tuples of numbers and texts -/
def kyOf1 : D → Option Ky
  | .int i => some (.int i)
  | .str x => some (.str x)
  | _ => none
def kysOf : List D → Option (List Ky)
  | [] => some []
  | x :: xs => (kyOf1 x).bind fun k => (kysOf xs).map (k :: ·)
def lookT (kvs : List (List Ky × D)) (k : List Ky) : Option D := (kvs.find? fun p => decide (p.1 = k)).map (·.2)
def dgetD : D → D → (R → Prop) → Prop
  | .dct kvs, .int i, k => ∃ d, lookD kvs (.int i) = some d ∧ k (.fz d)
  | .dct kvs, .str x, k => ∃ d, lookD kvs (.str x) = some d ∧ k (.fz d)
  | .dcT kvs, .tup xs, k => ∃ ks d, kysOf xs = some ks ∧ lookT kvs ks = some d ∧ k (.fz d)
  | _, _, _ => False
def dDisp (ks : List Ky) (fs : List DE) : DE := fun ρ Q _ => dArgs fs ρ (fun ds ρ1 => Q (.fr (.dct (ks.zip ds))) ρ1) noE
/-- pairs of signs -/
def signs2 (a b : Tx) : List D := a.zipWith (fun x y => .tup [.str [x], .str [y]]) b
def iZipS (f g : DE) : DI := fun ρ Q E => f ρ (fun r ρ1 => g ρ1 (fun s ρ2 => match r.d, s.d with
  | .str a, .str b => Q (signs2 a b) ρ2
  | _, _ => False) E) E
def seqOf : D → Option (Bool × List D)
  | .lst xs => some (true, xs)
  | .tup xs => some (false, xs)
  | _ => none
/-- zip(.., strict=True) of two lists, a tuple and a list, a list and a tuple -/
def zipKD (a b : D) (k : List D → Prop) : Prop := ∃ p q xs ys, seqOf a = some (p, xs) ∧ seqOf b = some (q, ys) ∧ (p || q) = true ∧ xs.length = ys.length ∧ k (xs.zipWith (fun x y => .tup [x, y]) ys)
def iZipK (f g : DE) : DI := fun ρ Q E => f ρ (fun r ρ1 => g ρ1 (fun s ρ2 => zipKD r.d s.d fun zs => Q zs ρ2) E) E
/-- min(pair), the pair a tuple of two ints -/
def minPF : List D → (R → Prop) → Prop
  | [.tup [.int i, .int j]], k => k (.fz (.int (if j < i then j else i)))
  | _, _ => False
/-- a, b = [], n: the first name's own -/
def sParF (i j : Nat) (n : Int) : DS := fun D ρ E => D.nx ((ρ.set i (.own (.lst []))).set j (.fz (.int n)))
/-- len(e), repr(e) by the class's own def -/
def dLenO (c : Nat) (con : Con) (f : DE) : DE := fun ρ Q E => f ρ (fun r ρ1 => r.d.isObj c = true ∧ con [.fz r.d] (fun t _ => ∃ n : Nat, t.d = .int n ∧ n < 2 ^ 62 ∧ Q (.fz (.int n)) ρ1) fun _ _ => False) E
def dRepO (c : Nat) (con : Con) (f : DE) : DE := fun ρ Q E => f ρ (fun r ρ1 => r.d.isObj c = true ∧ con [.fz r.d] (fun t _ => ∃ x, t.d = .str x ∧ Q (.fz (.str x)) ρ1) fun _ _ => False) E
/-- values as they come: settled, or new -/
def dVals : List DE → Env → (List R → Env → Prop) → EK → Prop
  | [], ρ, Q, _ => Q [] ρ
  | f :: fs, ρ, Q, E => f ρ (fun r ρ1 => dVals fs ρ1 (fun rs ρ2 => Q (r :: rs) ρ2) E) E
/-- stored: where own is wished for, a new object becomes the name's own -/
def putR : List (Nat × Bool) → List R → Env → (Env → Prop) → Prop
  | [], [], ρ, k => k ρ
  | (_, true) :: _, .fr (.tup _) :: _, _, _ => False
  | (_, true) :: _, .ft (.tup _) :: _, _, _ => False
  | (i, true) :: is, .fr d :: rs, ρ, k => putR is rs (ρ.set i (.own d)) k
  | (i, true) :: is, .ft d :: rs, ρ, k => putR is rs (ρ.set i (.ownT d)) k
  | (i, false) :: is, r :: rs, ρ, k => putR is rs (ρ.set i (.fz r.d)) k
  | _, _, _, _ => False
/-- a, b, .. = f, g, ..: different names, some of which keep their new objects -/
def sParR (is : List (Nat × Bool)) (fs : List DE) : DS := fun D ρ E => dVals fs ρ (fun rs ρ1 => putR is rs ρ1 D.nx) E
/-! ### f-strings, wide products, places of a sign -/
def dFmt (f : DE) : DE := fun ρ Q E => f ρ (fun r ρ1 => match r.d with
  | .str x => Q (.fz (.str x)) ρ1
  | .int i => i.natAbs < 10 ^ 120 ∧ Q (.fz (.str (intT i))) ρ1
  | _ => False) E
def dFmtR (f : DE) : DE := fun ρ Q E => f ρ (fun r ρ1 => match r.d with
  | .str x => (x.all okC = true ∧ x.length + 2 ≤ maxTx) ∧ Q (.fz (.str (39 :: (x ++ [39])))) ρ1
  | .int i => i.natAbs < 10 ^ 120 ∧ Q (.fz (.str (intT i))) ρ1
  | _ => False) E
def fstL : List DE → Tx → Env → (Tx → Env → Prop) → EK → Prop
  | [], acc, ρ, Q, _ => Q acc ρ
  | f :: fs, acc, ρ, Q, E => f ρ (fun r ρ1 => match r.d with
    | .str y => acc.length + y.length ≤ maxTx ∧ fstL fs (acc ++ y) ρ1 Q E
    | _ => False) E
def dFst (fs : List DE) : DE := fun ρ Q E => fstL fs [] ρ (fun x ρ1 => Q (.fz (.str x)) ρ1) E
def mulWD : D → D → (R → Prop) → Prop
  | .int i, .int j, k => (i.natAbs < 2 ^ 3000 ∧ j.natAbs < 2 ^ 3000) ∧ k (.fz (.int (i * j)))
  | _, _, _ => False
/-- the places of a sign -/
def placesOf (x : Tx) (c : Nat) : List Nat := (List.range x.length).filter fun i => x[i]? == some c
def countM (a : Tx) : List D → (R → Prop) → Prop
  | [.str [c]], k => k (.fz (.int (placesOf a c).length))
  | _, _ => False
def indexM (a : Tx) : List D → (R → Prop) → Prop
  | [.str [c]], k => ∃ i r, placesOf a c = i :: r ∧ k (.fz (.int (i : Int)))
  | _, _ => False
/-- list(range(a, b)) -/
def lstRg (a b : Int) (k : R → Prop) : Prop := (-(2 ^ 62) ≤ a ∧ a < 2 ^ 62 ∧ -(2 ^ 62) ≤ b ∧ b < 2 ^ 62 ∧ (b - a).toNat ≤ maxTx) ∧ k (.fr (.lst (rng a (b - a).toNat)))
def dLrg1 (f : DE) : DE := fun ρ Q E => f ρ (fun r ρ1 => match r.d with | .int b => lstRg 0 b fun t => Q t ρ1 | _ => False) E
def dLrg2 (f g : DE) : DE := fun ρ Q E => f ρ (fun r ρ1 => g ρ1 (fun s ρ2 => match r.d, s.d with
  | .int a, .int b => lstRg a b fun t => Q t ρ2
  | _, _ => False) E) E
def imulD : D → D → (R → Prop) → Prop
  | .int i, .int j, k => ((-(2 ^ 64) < i ∧ i < 2 ^ 64) ∨ (-(2 ^ 64) < j ∧ j < 2 ^ 64)) ∧ k (.fz (.int (i * j)))
  | _, _, _ => False
/-- return x, x the name's own object, which leaves with it (M: the names of what the caller may change) -/
def sRetO (i : Nat) (M : List Nat) : DS := fun D ρ _ => match ρ.at i with
  | .own d => (M.all fun k => (ρ.at k).isOwn) = true ∧ D.rt (.fr d) (ρ.set i .no)
  | .fz d => D.rt (.fz d) ρ
  | _ => False
end DL

set_option Elab.async false
set_option linter.all false
set_option autoImplicit false
set_option maxRecDepth 100000
/-! DLX: how data lies in the heap; expressions, statements, defs by what they do to data. -/
namespace DL
open PySem PySem.Spec PyProof.Rows L2

def tx (l : Tx) : Str := ⟨l.toArray⟩
theorem tx_len (l : Tx) : (tx l).length = l.length := by simp [tx, Str.length]
theorem tx_app (a b : Tx) : tx a ++ tx b = tx (a ++ b) := by
  show Str.append (tx a) (tx b) = _
  unfold Str.append tx
  simp
theorem tx_inj {a b : Tx} (h : tx a = tx b) : a = b := by
  have := congrArg (fun s => s.cps.toList) h
  simpa [tx] using this
theorem tx_list (l : Tx) : (tx l).cps.toList = l := by simp [tx]
def okTx (l : Tx) : Prop := (∀ c ∈ l, c < 0x110000) ∧ l.length ≤ sizeLine
def kyV : Ky → Key
  | .int i => .inl i
  | .str x => .inr (tx x)
def okKy : Ky → Prop
  | .int _ => True
  | .str x => okTx x
/-- the tuples: nobody's own -/
def tupB : HO → Bool
  | .tup _ => true
  | _ => false
/-- the dicts -/
def dicB : HO → Bool
  | .dK _ => true
  | .dT _ => true
  | _ => false
/-- what is settled lies in the heap; a dict that is walked over is locked there -/
structure SmW (F H : Hp) : Prop where
  w : ∀ a o, F a = some o → H a = some o ∨ ∃ od, dicB o = true ∧ H a = some (.frz od o)
theorem SmW.at_ {F H : Hp} (s : SmW F H) (a : Addr) (o : HO) (h : F a = some o) (hn : dicB o = false := by rfl) : H a = some o := (s.w a o h).elim id fun ⟨_, e, _⟩ => by rw [hn] at e; cases e
instance {F H : Hp} : CoeFun (SmW F H) (fun _ => ∀ (a : Addr) (o : HO), F a = some o → (hn : dicB o = false := by rfl) → H a = some o) := ⟨@SmW.at_ F H⟩
theorem SmW.of {F H : Hp} (h : Same F H) : SmW F H := ⟨fun a o e => .inl (h a o e)⟩
theorem SmW.up {F H : Hp} (s : SmW F H) {a : Addr} {o : HO} (h : F a = some o) (t : tupB o = true) : H a = some o := s.at_ a o h (by cases o <;> first | rfl | cases t)
theorem SmW.trans {F H H' : Hp} (s : SmW F H) (e : Same H H') : SmW F H' := ⟨fun a o h => (s.w a o h).elim (fun z => .inl (e _ _ z)) fun ⟨od, e1, e2⟩ => .inr ⟨od, e1, e _ _ e2⟩⟩
theorem SmW.pre {F F' H : Hp} (s : SmW F' H) (e : Same F F') : SmW F H := ⟨fun a o h => s.w a o (e _ _ h)⟩
theorem SmW.free {F H : Hp} (s : SmW F H) {a : Addr} (h : H a = none) : F a = none := by
  cases q : F a with
  | none => rfl
  | some o =>
    rcases s.w a o q with z | ⟨_, _, z⟩ <;> rw [h] at z <;> cases z
theorem SmW.rd {F H : Hp} (s : SmW F H) {a : Addr} {o : HO} (h : F a = some o) : Rd H a o := (s.w a o h).elim .inl fun ⟨od, _, z⟩ => .inr ⟨od, z⟩
theorem SmW.seq {K : PySem.W.Frag} {F H : Hp} {a : Addr} {xs : List V} (e : SmW F H) (h : SqL K F a xs) : SqL K H a xs := by
  rcases h with (h | ⟨o, h⟩) | h
  · exact .inl (.inl (e.at_ _ _ h))
  · exact .inl (.inr ⟨o, e.at_ _ _ h⟩)
  · exact .inr h

theorem ne_frz : ∀ (u : HO) (od : Obj), u ≠ .frz od u := fun u od z => by
  have := congrArg sizeOf z
  simp at this
/-- .. and was so when the def (the part) began -/
structure SmB (H0 : Hp) (O0 : Addr → Prop) (F H : Hp) : Prop extends SmW F H where
  lk : ∀ a od u, F a = some u → H a = some (.frz od u) → H0 a = some (.frz od u) ∧ ¬ O0 a
instance {H0 : Hp} {O0 : Addr → Prop} {F H : Hp} : CoeFun (SmB H0 O0 F H) (fun _ => ∀ (a : Addr) (o : HO), F a = some o → (hn : dicB o = false := by rfl) → H a = some o) := ⟨fun s => @SmW.at_ F H s.toSmW⟩
instance {H0 : Hp} {O0 : Addr → Prop} {F H : Hp} : CoeOut (SmB H0 O0 F H) (SmW F H) := ⟨fun s => s.toSmW⟩
theorem SmB.step {H0 : Hp} {O0 : Addr → Prop} {F H H' : Hp} (s : SmB H0 O0 F H) (h : ∀ a o, F a = some o → ∀ u, (u = o ∨ ∃ od, u = .frz od o) → H a = some u → H' a = some u) : SmB H0 O0 F H' where
  w := fun a o e => (s.w a o e).elim (fun z => .inl (h a o e _ (.inl rfl) z)) fun ⟨od, e1, e2⟩ => .inr ⟨od, e1, h a o e _ (.inr ⟨od, rfl⟩) e2⟩
  lk := fun a od kvs e z => by
    rcases s.w a _ e with q | ⟨od', e1, e2⟩
    · rw [h a _ e _ (.inl rfl) q] at z; exact absurd (Option.some.inj z) (ne_frz kvs od)
    · have := h a _ e _ (.inr ⟨od', rfl⟩) e2
      rw [z] at this
      cases this
      exact s.lk a od kvs e e2
theorem SmB.trans {H0 : Hp} {O0 : Addr → Prop} {F H H' : Hp} (s : SmB H0 O0 F H) (e : Same H H') : SmB H0 O0 F H' := s.step fun a _ _ u _ z => e a u z
theorem SmB.pre {H0 : Hp} {O0 : Addr → Prop} {F F' H : Hp} (s : SmB H0 O0 F' H) (e : Same F F') : SmB H0 O0 F H where
  w := (s.toSmW.pre e).w
  lk := fun a od kvs h z => s.lk a od kvs (e _ _ h) z
theorem SmW.start {O0 : Addr → Prop} {F H : Hp} (s : SmW F H) (h : ∀ a o, F a = some o → ¬ O0 a) : SmB H O0 F H where
  w := s.w
  lk := fun a od kvs e z => ⟨z, h a _ e⟩
theorem SmB.imp {H0 : Hp} {O0 O1 : Addr → Prop} {F H : Hp} (s : SmB H0 O0 F H) (h : ∀ a, O1 a → O0 a) : SmB H0 O1 F H where
  w := s.w
  lk := fun a od kvs e z => ⟨(s.lk a od kvs e z).1, fun q => (s.lk a od kvs e z).2 (h a q)⟩
theorem SmB.after {H0 : Hp} {O0 O1 : Addr → Prop} {F H F2 H2 : Hp} (s : SmB H0 O0 F H) (s2 : SmB H O1 F2 H2) (fn : ∀ b o, F2 b = some o → F b = some o ∨ H b = none ∨ O1 b ∨ tupB o = true) : SmB H0 O0 F2 H2 where
  w := s2.w
  lk := fun a od kvs e z => by
    obtain ⟨q1, q2⟩ := s2.lk a od kvs e z
    rcases fn a _ e with y | y | y | y
    · exact s.lk a od kvs y q1
    · rw [q1] at y; cases y
    · exact absurd y q2
    · have w := s2.up e y
      rw [z] at w
      exact absurd (Option.some.inj w).symm (ne_frz _ _)

/-- an own class: where it stands, its instances' attributes in the order of their storing -/
structure CI where
  addr : Addr
  names : List Str
/-- an own exception class: where it stands, its one attribute -/
structure EI where
  addr : Addr
  field : Str
structure Tb where
  cl : Nat → Option CI
  ex : Nat → Option EI
  tabs : List (Addr × Str) := []
section
variable (K : PySem.W.Frag) (T : Tb) (F : Hp)
mutual
inductive Rep : V → D → Prop
  | non : Rep .non .non
  | bl (b : Bool) : Rep (.bl b) (.bl b)
  | int (i : Int) : Rep (.int i) (.int i)
  | str {l : Tx} : okTx l → Rep (.str (tx l)) (.str l)
  | ref {a : Addr} {o : HO} {d : D} : F a = some o → RepO o d → Rep (.ref a) d
  | frl {a : Addr} {vs : List V} {xs : List D} : SqL K F a vs → RepL vs xs → Rep (.ref a) (.frl xs)
  | cls {c : Nat} {ci : CI} : T.cl c = some ci → Rep (.ref ci.addr) (.cls c)
inductive RepO : HO → D → Prop
  | lst {vs : List V} {xs : List D} : RepL vs xs → RepO (.lst vs) (.lst xs)
  | tup {vs : List V} {xs : List D} : RepL vs xs → RepO (.tup vs) (.tup xs)
  | dct {kvs : List (Key × V)} {ds : List (Ky × D)} : RepK kvs ds → RepO (.dK kvs) (.dct ds)
  | obj {c : Nat} {ci : CI} {dx : Addr} {vs : List V} {xs : List D} : T.cl c = some ci → vs.length ≤ ci.names.length → RepL vs xs → RepO (.ins ci.addr dx (ci.names.zip vs)) (.obj c xs)
  | dcT {kvs : List (List Key × V)} {ds : List (List Ky × D)} : RepKT kvs ds → RepO (.dT kvs) (.dcT ds)
inductive RepL : List V → List D → Prop
  | nil : RepL [] []
  | cons {v : V} {d : D} {vs : List V} {xs : List D} : Rep v d → RepL vs xs → RepL (v :: vs) (d :: xs)
inductive RepK : List (Key × V) → List (Ky × D) → Prop
  | nil : RepK [] []
  | cons {k : Ky} {v : V} {d : D} {r : List (Key × V)} {s : List (Ky × D)} : okKy k → Rep v d → RepK r s → RepK ((kyV k, v) :: r) ((k, d) :: s)
inductive RepKT : List (List Key × V) → List (List Ky × D) → Prop
  | nil : RepKT [] []
  | cons {k : List Ky} {v : V} {d : D} {r : List (List Key × V)} {s : List (List Ky × D)} : (∀ x ∈ k, okKy x) → Rep v d → RepKT r s → RepKT ((k.map kyV, v) :: r) ((k, d) :: s)
end
end
section
variable {K : PySem.W.Frag} {T : Tb} {F F' : Hp}
mutual
theorem Rep.mono (h : Same F F') : ∀ {v : V} {d : D}, Rep K T F v d → Rep K T F' v d
  | _, _, .non => .non
  | _, _, .bl b => .bl b
  | _, _, .int i => .int i
  | _, _, .str z => .str z
  | _, _, .ref e r => .ref (h _ _ e) (RepO.mono h r)
  | _, _, .frl e r => .frl (h.seq e) (RepL.mono h r)
  | _, _, .cls e => .cls e
theorem RepO.mono (h : Same F F') : ∀ {o : HO} {d : D}, RepO K T F o d → RepO K T F' o d
  | _, _, .lst r => .lst (RepL.mono h r)
  | _, _, .tup r => .tup (RepL.mono h r)
  | _, _, .dct r => .dct (RepK.mono h r)
  | _, _, .obj e l r => .obj e l (RepL.mono h r)
  | _, _, .dcT r => .dcT (RepKT.mono h r)
theorem RepL.mono (h : Same F F') : ∀ {vs : List V} {xs : List D}, RepL K T F vs xs → RepL K T F' vs xs
  | _, _, .nil => .nil
  | _, _, .cons a b => .cons (Rep.mono h a) (RepL.mono h b)
theorem RepK.mono (h : Same F F') : ∀ {vs : List (Key × V)} {xs : List (Ky × D)}, RepK K T F vs xs → RepK K T F' vs xs
  | _, _, .nil => .nil
  | _, _, .cons z a b => .cons z (Rep.mono h a) (RepK.mono h b)
theorem RepKT.mono (h : Same F F') : ∀ {vs : List (List Key × V)} {xs : List (List Ky × D)}, RepKT K T F vs xs → RepKT K T F' vs xs
  | _, _, .nil => .nil
  | _, _, .cons z a b => .cons z (Rep.mono h a) (RepKT.mono h b)
end
theorem RepL.length : ∀ {vs : List V} {xs : List D}, RepL K T F vs xs → vs.length = xs.length
  | _, _, .nil => rfl
  | _, _, .cons _ b => congrArg (· + 1) (RepL.length b)
theorem RepK.length : ∀ {vs : List (Key × V)} {xs : List (Ky × D)}, RepK K T F vs xs → vs.length = xs.length
  | _, _, .nil => rfl
  | _, _, .cons _ _ b => congrArg (· + 1) (RepK.length b)
theorem RepL.get : ∀ {vs : List V} {xs : List D} {i : Nat} {d : D}, RepL K T F vs xs → xs[i]? = some d → ∃ v, vs[i]? = some v ∧ Rep K T F v d
  | _, _, _, _, .nil, h => by simp at h
  | _, _, 0, _, .cons a _, h => by simp at h; subst h; exact ⟨_, rfl, a⟩
  | _, _, i + 1, d, .cons _ b, h => by
    obtain ⟨v, h1, h2⟩ := RepL.get (i := i) (d := d) b (by simpa using h)
    exact ⟨v, by simpa using h1, h2⟩
theorem RepL.getV : ∀ {vs : List V} {xs : List D} {i : Nat} {v : V}, RepL K T F vs xs → vs[i]? = some v → ∃ d, xs[i]? = some d ∧ Rep K T F v d
  | _, _, _, _, .nil, h => by simp at h
  | _, _, 0, _, .cons a _, h => by simp at h; subst h; exact ⟨_, rfl, a⟩
  | _, _, i + 1, d, .cons _ b, h => by
    obtain ⟨v, h1, h2⟩ := RepL.getV (i := i) (v := d) b (by simpa using h)
    exact ⟨v, by simpa using h1, h2⟩
theorem RepL.append : ∀ {vs ws : List V} {xs ys : List D}, RepL K T F vs xs → RepL K T F ws ys → RepL K T F (vs ++ ws) (xs ++ ys)
  | _, _, _, _, .nil, h => h
  | _, _, _, _, .cons a b, h => .cons a (RepL.append b h)
theorem RepL.take : ∀ {vs : List V} {xs : List D} (n : Nat), RepL K T F vs xs → RepL K T F (vs.take n) (xs.take n)
  | _, _, 0, _ => .nil
  | _, _, _ + 1, .nil => .nil
  | _, _, n + 1, .cons a b => .cons a (RepL.take n b)
theorem RepL.drop : ∀ {vs : List V} {xs : List D} (n : Nat), RepL K T F vs xs → RepL K T F (vs.drop n) (xs.drop n)
  | _, _, 0, h => h
  | _, _, _ + 1, .nil => .nil
  | _, _, n + 1, .cons a b => RepL.drop n b
theorem RepL.set : ∀ {vs : List V} {xs : List D} {v : V} {d : D} (n : Nat), Rep K T F v d → RepL K T F vs xs → RepL K T F (vs.set n v) (xs.set n d)
  | _, _, _, _, _, _, .nil => .nil
  | _, _, _, _, 0, h, .cons a b => .cons h b
  | _, _, _, _, n + 1, h, .cons a b => .cons a (RepL.set n h b)
/-- what a value is, by its data -/
theorem Rep.int_inv {v : V} {i : Int} (r : Rep K T F v (.int i)) : v = .int i := by
  cases r with
  | int => rfl
  | ref e r => cases r
theorem Rep.bl_inv {v : V} {b : Bool} (r : Rep K T F v (.bl b)) : v = .bl b := by
  cases r with
  | bl => rfl
  | ref e r => cases r
theorem Rep.non_inv {v : V} (r : Rep K T F v .non) : v = .non := by
  cases r with
  | non => rfl
  | ref e r => cases r
theorem Rep.str_inv {v : V} {l : Tx} (r : Rep K T F v (.str l)) : v = .str (tx l) ∧ okTx l := by
  cases r with
  | str z => exact ⟨rfl, z⟩
  | ref e r => cases r
theorem Rep.lst_inv {v : V} {xs : List D} (r : Rep K T F v (.lst xs)) : ∃ a vs, v = .ref a ∧ F a = some (.lst vs) ∧ RepL K T F vs xs := by
  cases r with
  | ref e r =>
    cases r with
    | lst r => exact ⟨_, _, rfl, e, r⟩
theorem Rep.tup_inv {v : V} {xs : List D} (r : Rep K T F v (.tup xs)) : ∃ a vs, v = .ref a ∧ F a = some (.tup vs) ∧ RepL K T F vs xs := by
  cases r with
  | ref e r =>
    cases r with
    | tup r => exact ⟨_, _, rfl, e, r⟩
theorem Rep.dct_inv {v : V} {xs : List (Ky × D)} (r : Rep K T F v (.dct xs)) : ∃ a vs, v = .ref a ∧ F a = some (.dK vs) ∧ RepK K T F vs xs := by
  cases r with
  | ref e r =>
    cases r with
    | dct r => exact ⟨_, _, rfl, e, r⟩
theorem Rep.dcT_inv {v : V} {xs : List (List Ky × D)} (r : Rep K T F v (.dcT xs)) : ∃ a vs, v = .ref a ∧ F a = some (.dT vs) ∧ RepKT K T F vs xs := by
  cases r with
  | ref e r =>
    cases r with
    | dcT r => exact ⟨_, _, rfl, e, r⟩
theorem Rep.obj_inv {v : V} {c : Nat} {xs : List D} (r : Rep K T F v (.obj c xs)) : ∃ a ci dx vs, v = .ref a ∧ T.cl c = some ci ∧ F a = some (.ins ci.addr dx (ci.names.zip vs)) ∧ vs.length ≤ ci.names.length ∧ RepL K T F vs xs := by
  cases r with
  | ref e r =>
    cases r with
    | obj h1 h2 h3 => exact ⟨_, _, _, _, rfl, h1, e, h2, h3⟩
theorem Rep.frl_inv {v : V} {xs : List D} (r : Rep K T F v (.frl xs)) : ∃ a vs, v = .ref a ∧ SqL K F a vs ∧ RepL K T F vs xs := by
  cases r with
  | ref e r => cases r
  | frl e r => exact ⟨_, _, rfl, e, r⟩
end

theorem Rep.cls_inv {K : PySem.W.Frag} {T : Tb} {F : Hp} {v : V} {c : Nat} (r : Rep K T F v (.cls c)) : ∃ ci, T.cl c = some ci ∧ v = .ref ci.addr := by
  cases r with
  | ref e r => cases r
  | cls e => exact ⟨_, e, rfl⟩
/-! ### objects with parts of their own -/
def kidA : V → D → List Addr
  | .ref q, .prt _ => [q]
  | _, _ => []
def kidsA : List V → List D → List Addr
  | v :: vs, d :: xs => kidA v d ++ kidsA vs xs
  | _, _ => []
def footO : HO → D → List Addr
  | .ins _ _ fs, .obj _ xs => kidsA (fs.map (·.2)) xs
  | .dK kvs, .dct ds => kidsA (kvs.map (·.2)) (ds.map (·.2))
  | .lst vs, .lst xs => kidsA vs xs
  | .tup vs, .tup xs => kidsA vs xs
  | _, _ => []
/-- where a slot's own objects lie -/
def foot (H : Hp) (s : Option (Option V)) (sl : Slot) : List Addr := match s, sl with
  | some (some (.ref p)), .own _ => [p]
  | some (some (.ref p)), .ownT d => p :: (match H p with
    | some o => footO o d
    | none => [])
  | _, _ => []
section
variable (K : PySem.W.Frag) (T : Tb) (F H : Hp)
inductive KidR : V → D → Prop
  | fz {v : V} {d : D} : Rep K T F v d → KidR v d
  | own {q : Addr} {o : HO} {d : D} : F q = none → H q = some o → RepO K T F o d → tupB o = false → KidR (.ref q) (.prt d)
inductive KidL : List V → List D → Prop
  | nil : KidL [] []
  | cons {v : V} {d : D} {vs : List V} {xs : List D} : KidR K T F H v d → KidL vs xs → KidL (v :: vs) (d :: xs)
inductive KidK : List (Key × V) → List (Ky × D) → Prop
  | nil : KidK [] []
  | cons {k : Ky} {v : V} {d : D} {r : List (Key × V)} {s : List (Ky × D)} : okKy k → KidR K T F H v d → KidK r s → KidK ((kyV k, v) :: r) ((k, d) :: s)
inductive TreeO : HO → D → Prop
  | obj {c : Nat} {ci : CI} {dx : Addr} {vs : List V} {xs : List D} : T.cl c = some ci → vs.length ≤ ci.names.length → KidL K T F H vs xs → TreeO (.ins ci.addr dx (ci.names.zip vs)) (.obj c xs)
  | dct {kvs : List (Key × V)} {ds : List (Ky × D)} : KidK K T F H kvs ds → TreeO (.dK kvs) (.dct ds)
  | lst {vs : List V} {xs : List D} : KidL K T F H vs xs → TreeO (.lst vs) (.lst xs)
  | tup {vs : List V} {xs : List D} : KidL K T F H vs xs → TreeO (.tup vs) (.tup xs)
end
section
variable {K : PySem.W.Frag} {T : Tb} {F F' H H' : Hp}
theorem repO_tbl' {o : HO} {d : D} (r : RepO K T F o d) : ∀ ps, o ≠ .tbl ps := fun ps z => by
  cases r <;> cases z
theorem repO_code' {o : HO} {d : D} (r : RepO K T F o d) : ∀ c q, o ≠ LamX.CodeO c q := fun c q z => by
  unfold LamX.CodeO at z
  cases r <;> cases z
theorem treeO_tbl {o : HO} {d : D} (r : TreeO K T F H o d) : ∀ ps, o ≠ .tbl ps := fun ps z => by
  cases r <;> cases z
theorem treeO_code {o : HO} {d : D} (r : TreeO K T F H o d) : ∀ c q, o ≠ LamX.CodeO c q := fun c q z => by
  unfold LamX.CodeO at z
  cases r <;> cases z
/-- what a footprint's places hold -/
def Priv (F H : Hp) (a : Addr) : Prop := F a = none ∧ ∃ o, H a = some o ∧ (∀ ps, o ≠ .tbl ps) ∧ ∀ c q, o ≠ LamX.CodeO c q
theorem kidsA_cons {v : V} {d : D} {vs : List V} {xs : List D} : kidsA (v :: vs) (d :: xs) = kidA v d ++ kidsA vs xs := rfl
theorem kidsA_sub {v : V} {d : D} {vs : List V} {xs : List D} {a : Addr} (h : a ∈ kidsA vs xs) : a ∈ kidsA (v :: vs) (d :: xs) := List.mem_append_right _ h
theorem not_rep_prt {v : V} {d : D} (r : Rep K T F v (.prt d)) : False := by
  cases r with
  | ref _ r => cases r
theorem kidA_fz {v : V} {d : D} (r : Rep K T F v d) : kidA v d = [] := by
  unfold kidA
  split
  · exact (not_rep_prt r).elim
  · rfl
theorem rep_unm {v : V} {d : D} (r : Rep K T F v d) : d.unm = d := by
  unfold D.unm
  split
  · exact (not_rep_prt r).elim
  · rfl
theorem KidL.priv : ∀ {vs : List V} {xs : List D}, KidL K T F H vs xs → ∀ a ∈ kidsA vs xs, Priv F H a
  | _, _, .nil, _, h => by simp [kidsA] at h
  | _, _, .cons (v := v) (d := d) k r, a, h => by
    rw [kidsA_cons] at h
    cases k with
    | fz z =>
      rw [kidA_fz z] at h
      exact r.priv a h
    | own f e ro _ =>
      rcases List.mem_cons.mp h with rfl | h
      · exact ⟨f, _, e, repO_tbl' ro, repO_code' ro⟩
      · exact r.priv a h
theorem KidR.mono {v : V} {d : D} (e : Same F F') (h : ∀ a ∈ kidA v d, F' a = none ∧ H' a = H a) : KidR K T F H v d → KidR K T F' H' v d
  | .fz z => .fz (z.mono e)
  | .own (q := q) f z ro nt => .own (h q (List.mem_singleton.mpr rfl)).1 ((h q (List.mem_singleton.mpr rfl)).2.trans z) (ro.mono e) nt
theorem KidL.mono (e : Same F F') : ∀ {vs : List V} {xs : List D}, (∀ a ∈ kidsA vs xs, F' a = none ∧ H' a = H a) → KidL K T F H vs xs → KidL K T F' H' vs xs
  | _, _, _, .nil => .nil
  | _, _, h, .cons k r => .cons (k.mono e fun a ha => h a (List.mem_append_left _ ha)) (KidL.mono e (fun a ha => h a (kidsA_sub ha)) r)
theorem KidK.list : ∀ {kvs : List (Key × V)} {ds : List (Ky × D)}, KidK K T F H kvs ds → KidL K T F H (kvs.map (·.2)) (ds.map (·.2))
  | _, _, .nil => .nil
  | _, _, .cons _ k r => .cons k r.list
theorem KidK.mono (e : Same F F') : ∀ {kvs : List (Key × V)} {ds : List (Ky × D)}, (∀ a ∈ kidsA (kvs.map (·.2)) (ds.map (·.2)), F' a = none ∧ H' a = H a) → KidK K T F H kvs ds → KidK K T F' H' kvs ds
  | _, _, _, .nil => .nil
  | _, _, h, .cons o k r => .cons o (k.mono e fun a ha => h a (List.mem_append_left _ ha)) (KidK.mono e (fun a ha => h a (kidsA_sub ha)) r)
theorem zip_snd {names : List Str} {vs : List V} (h : vs.length ≤ names.length) : (names.zip vs).map (·.2) = vs := List.map_snd_zip h
theorem TreeO.priv {o : HO} {d : D} (r : TreeO K T F H o d) : ∀ a ∈ footO o d, Priv F H a := fun a h => by
  cases r with
  | obj e l k =>
    rw [footO, zip_snd l] at h
    exact k.priv a h
  | dct k => exact k.list.priv a h
  | lst k => exact k.priv a h
  | tup k => exact k.priv a h
theorem TreeO.mono {o : HO} {d : D} (e : Same F F') (h : ∀ a ∈ footO o d, F' a = none ∧ H' a = H a) (r : TreeO K T F H o d) : TreeO K T F' H' o d := by
  cases r with
  | obj e1 l k => exact .obj e1 l (k.mono e fun a ha => h a (by rw [footO, zip_snd l]; exact ha))
  | dct k => exact .dct (k.mono e h)
  | lst k => exact .lst (k.mono e h)
  | tup k => exact .tup (k.mono e h)
theorem Priv.ne {a : Addr} {p : Addr} (h : Priv F H a) (hp : H p = none) : a ≠ p := fun z => by
  obtain ⟨_, o, e, _⟩ := h
  rw [z, hp] at e
  cases e
end
/-! ### states -/
/-- a def's entry: what was settled, the heap, the objects handed in to be changed, the names that hold them -/
structure Bs where
  F0 : Hp
  H0 : Hp
  O1 : Nat → Addr → Prop
  P : Nat → V
def Bs.O0 (B : Bs) (a : Addr) : Prop := ∃ i, B.O1 i a
/-- the tables of code objects, and what is settled is none -/
def TabsF (L : List (Addr × Str)) (F H : Hp) : Prop := LamX.Tabs L H ∧ ∀ b ps, F b ≠ some (.tbl ps)
section
variable (K : PySem.W.Frag) (T : Tb)
def SlotOk (F H : Hp) (s : Option (Option V)) : Slot → Prop
  | .no => True
  | .fz d => ∃ v, s = some (some v) ∧ Rep K T F v d
  | .own d => ∃ p o, s = some (some (.ref p)) ∧ F p = none ∧ H p = some o ∧ RepO K T F o d ∧ tupB o = false
  | .ownT d => ∃ p o, s = some (some (.ref p)) ∧ F p = none ∧ H p = some o ∧ TreeO K T F H o d ∧ (p :: footO o d).Nodup ∧ tupB o = false
structure SR (B : Bs) (M : List Nat) (F H : Hp) (ρ : Env) (σ : L2.St) : Prop where
  sub : SmB B.H0 B.O0 F H
  keep : ∀ b o, B.H0 b = some o → ¬ B.O0 b → (∀ ps, o ≠ .tbl ps) → H b = some o
  live : ∀ b o, B.H0 b = some o → ∃ o', H b = some o'
  f0 : Same B.F0 F
  fnew : ∀ b o, F b = some o → B.F0 b = some o ∨ B.H0 b = none ∨ B.O0 b ∨ tupB o = true
  len : ρ.length = σ.length
  slot : ∀ i, SlotOk K T F H (σ[i]?) (ρ.at i)
  newF : ∀ i a, a ∈ foot H (σ[i]?) (ρ.at i) → B.H0 a = none ∨ B.O1 i a
  injF : ∀ i j a, a ∈ foot H (σ[i]?) (ρ.at i) → a ∈ foot H (σ[j]?) (ρ.at j) → i = j
  pin : ∀ i ∈ M, σ[i]? = some (some (B.P i))
  tabs : TabsF T.tabs F H
/-- a result: settled, or a new object that is nobody's -/
def RetV (B : Bs) (F H : Hp) (ρ : Env) (σ : L2.St) (v : V) : R → Prop
  | .fz d => Rep K T F v d
  | .fr d => ∃ p o, v = .ref p ∧ F p = none ∧ H p = some o ∧ RepO K T F o d ∧ B.H0 p = none ∧ ∀ i, p ∉ foot H (σ[i]?) (ρ.at i)
  | .ft d => ∃ p o, v = .ref p ∧ F p = none ∧ H p = some o ∧ TreeO K T F H o d ∧ (p :: footO o d).Nodup ∧ ∀ a ∈ p :: footO o d, B.H0 a = none ∧ ∀ i, a ∉ foot H (σ[i]?) (ρ.at i)
/-- what an operation hands back at once -/
def NewR (F H : Hp) (v : V) (H' : Hp) (r : R) : Prop :=
  (∃ d, r = .fz d ∧ H' = H ∧ Rep K T F v d) ∨ ∃ p o d, r = .fr d ∧ v = .ref p ∧ H p = none ∧ H' = upd H p o ∧ RepO K T F o d
end
theorem Env.at_set_same {ρ : Env} {i : Nat} {s : Slot} (h : i < ρ.length) : Env.at (ρ.set i s) i = s := by
  unfold Env.at
  rw [List.getElem?_set_self h]
  rfl
theorem Env.at_set_ne {ρ : Env} {i j : Nat} {s : Slot} (h : i ≠ j) : Env.at (ρ.set i s) j = ρ.at j := by
  unfold Env.at
  rw [List.getElem?_set_ne h]
theorem Env.at_lt {ρ : Env} {i : Nat} (h : ρ.at i ≠ .no) : i < ρ.length := by
  unfold Env.at at h
  by_cases hi : i < ρ.length
  · exact hi
  · rw [List.getElem?_eq_none (by omega)] at h
    exact absurd rfl h
theorem same_upd {H : Hp} {p : Addr} {o : HO} (h : H p = none) : Same H (upd H p o) := fun b x e => by
  rw [upd_ne (ne_of_none e h)]
  exact e
section
variable {K : PySem.W.Frag} {T : Tb} {B : Bs} {M : List Nat} {F F' H H' : Hp} {ρ ρ' : Env} {σ : L2.St} {v : V} {r : R} {p : Addr} {o : HO} {d : D} {i : Nat}
theorem foot_no {H : Hp} {s : Option (Option V)} : foot H s .no = [] := by
  unfold foot
  split <;> first | rfl | (rename_i z; cases z)
theorem foot_fz {H : Hp} {s : Option (Option V)} {d : D} : foot H s (.fz d) = [] := by
  unfold foot
  split <;> first | rfl | (rename_i z; cases z)
theorem foot_own {H : Hp} {p : Addr} {d : D} : foot H (some (some (.ref p))) (.own d) = [p] := rfl
theorem foot_ownT {H : Hp} {p : Addr} {o : HO} {d : D} (h : H p = some o) : foot H (some (some (.ref p))) (.ownT d) = p :: footO o d := by
  show p :: (match H p with | some o => footO o d | none => []) = _
  rw [h]
/-- a footprint depends on the root alone -/
theorem foot_eq {H H' : Hp} {s : Option (Option V)} {sl : Slot} (h : ∀ a ∈ foot H s sl, H' a = H a) : foot H' s sl = foot H s sl := by
  unfold foot
  split
  · rfl
  · rename_i p d
    have := h p List.mem_cons_self
    rw [this]
  · rfl
theorem SlotOk.priv {s : Option (Option V)} {sl : Slot} (h : SlotOk K T F H s sl) : ∀ a ∈ foot H s sl, Priv F H a := fun a ha => by
  cases sl with
  | no => rw [foot_no] at ha; simp at ha
  | fz d => rw [foot_fz] at ha; simp at ha
  | own d =>
    obtain ⟨p, o, rfl, f, e, r, _⟩ := h
    rw [foot_own] at ha
    rw [List.mem_singleton.mp ha]
    exact ⟨f, o, e, repO_tbl' r, repO_code' r⟩
  | ownT d =>
    obtain ⟨p, o, rfl, f, e, r, _⟩ := h
    rw [foot_ownT e] at ha
    rcases List.mem_cons.mp ha with rfl | ha
    · exact ⟨f, o, e, treeO_tbl r, treeO_code r⟩
    · exact r.priv a ha
theorem SlotOk.mono {s : Option (Option V)} {sl : Slot} (h : Same F F') (hk : ∀ a ∈ foot H s sl, F' a = none ∧ H' a = H a) : SlotOk K T F H s sl → SlotOk K T F' H' s sl := by
  cases sl with
  | no => exact fun _ => trivial
  | fz d =>
    rintro ⟨v, e, r⟩
    exact ⟨v, e, r.mono h⟩
  | own d =>
    rintro ⟨p, o, rfl, n, hp, r, nt⟩
    have := hk p (by rw [foot_own]; exact List.mem_singleton.mpr rfl)
    exact ⟨p, o, rfl, this.1, this.2.trans hp, r.mono h, nt⟩
  | ownT d =>
    rintro ⟨p, o, rfl, n, hp, r, nd⟩
    rw [foot_ownT hp] at hk
    have := hk p List.mem_cons_self
    exact ⟨p, o, rfl, this.1, this.2.trans hp, r.mono h fun a ha => hk a (List.mem_cons_of_mem _ ha), nd⟩
/-- what data lies in is no table, no code object -/
theorem repO_tbl {K : PySem.W.Frag} {T : Tb} {F : Hp} {o : HO} {d : D} (r : RepO K T F o d) : ∀ ps, o ≠ .tbl ps := fun ps z => by
  cases r <;> cases z
theorem tabs_upd {L : List (Addr × Str)} {H : Hp} {p : Addr} {o o' : HO} (h : LamX.Tabs L H) (hp : H p = some o) (h1 : ∀ ps, o ≠ .tbl ps) (h2 : ∀ c q, o ≠ LamX.CodeO c q) : LamX.Tabs L (upd H p o') := fun x hx => by
  obtain ⟨ps, e1, e2, e3⟩ := h x hx
  have n1 : x.1 ≠ p := fun z => by rw [z, hp] at e1; exact h1 _ (Option.some.inj e1)
  refine ⟨ps, by rw [upd_ne n1]; exact e1, e2, fun pos cv hc => ?_⟩
  obtain ⟨c, a, b⟩ := e3 pos cv hc
  have n2 : c ≠ p := fun z => by rw [z, hp] at b; exact h2 _ _ (Option.some.inj b)
  exact ⟨c, a, by rw [upd_ne n2]; exact b⟩
theorem SR.priv (S : SR K T B M F H ρ σ) {i : Nat} {a : Addr} (h : a ∈ foot H (σ[i]?) (ρ.at i)) : Priv F H a := (S.slot i).priv a h
theorem SR.newO (S : SR K T B M F H ρ σ) {i : Nat} {a : Addr} (h : a ∈ foot H (σ[i]?) (ρ.at i)) : B.H0 a = none ∨ B.O0 a := (S.newF i a h).elim .inl fun z => .inr ⟨i, z⟩
theorem SR.sure (S : SR K T B M F H ρ σ) {a : Addr} {o : HO} (h : F a = some o) (hn : B.H0 a = none ∨ B.O0 a) : H a = some o := by
  rcases S.sub.w a o h with q | ⟨od, _, q⟩
  · exact q
  · obtain ⟨z1, z2⟩ := S.sub.lk a od o h q
    rcases hn with y | y
    · rw [z1] at y; cases y
    · exact absurd y z2
theorem SR.newown (S : SR K T B M F H ρ σ) : ∀ i d p, ρ.at i = .own d → σ[i]? = some (some (.ref p)) → B.H0 p = none ∨ B.O0 p := fun i d p e1 e2 => S.newO (i := i) (by rw [e1, e2, foot_own]; exact List.mem_singleton.mpr rfl)
theorem SR.inj (S : SR K T B M F H ρ σ) : ∀ i j d e p, ρ.at i = .own d → ρ.at j = .own e → σ[i]? = some (some (.ref p)) → σ[j]? = some (some (.ref p)) → i = j := fun i j d e p e1 e2 e3 e4 => S.injF i j p (by rw [e1, e3, foot_own]; exact List.mem_singleton.mpr rfl) (by rw [e2, e4, foot_own]; exact List.mem_singleton.mpr rfl)
/-- other heaps that leave the footprints as they are -/
theorem SR.footEq (S : SR K T B M F H ρ σ) {H' : Hp} (h : ∀ i, ∀ a ∈ foot H (σ[i]?) (ρ.at i), H' a = H a) (i : Nat) : foot H' (σ[i]?) (ρ.at i) = foot H (σ[i]?) (ρ.at i) := foot_eq (h i)
/-- a new object is laid -/
theorem SR.lay (S : SR K T B M F H ρ σ) (hp : H p = none) : SR K T B M F (upd H p o) ρ σ := by
  have su : Same H (upd H p o) := same_upd hp
  have ke : ∀ i, ∀ a ∈ foot H (σ[i]?) (ρ.at i), upd H p o a = H a := fun i a ha => upd_ne ((S.priv ha).ne hp)
  have fe := S.footEq ke
  refine ⟨S.sub.trans su, fun b u e n m => su _ _ (S.keep b u e n m), fun b u e => ?_, S.f0, S.fnew, S.len, fun i => (S.slot i).mono (Same.refl _) fun a ha => ⟨(S.priv ha).1, ke i a ha⟩, fun i a ha => S.newF i a (fe i ▸ ha), fun i j a h1 h2 => S.injF i j a (fe i ▸ h1) (fe j ▸ h2), S.pin, S.tabs.1.ext su, S.tabs.2⟩
  obtain ⟨u', e'⟩ := S.live b u e
  exact ⟨u', su _ _ e'⟩
theorem SR.lay_new (S : SR K T B M F H ρ σ) (hp : H p = none) (i : Nat) : p ∉ foot (upd H p o) (σ[i]?) (ρ.at i) := fun hi => by
  rw [S.footEq (fun i a ha => upd_ne ((S.priv ha).ne hp)) i] at hi
  exact (S.priv hi).ne hp rfl
theorem SR.fresh (S : SR K T B M F H ρ σ) (hp : H p = none) : B.H0 p = none := by
  cases q : B.H0 p with
  | none => rfl
  | some u =>
    obtain ⟨u', e⟩ := S.live p u q
    rw [hp] at e
    cases e
theorem SR.new (S : SR K T B M F H ρ σ) (n : NewR K T F H v H' r) : SR K T B M F H' ρ σ ∧ RetV K T B F H' ρ σ v r := by
  rcases n with ⟨d, rfl, rfl, h⟩ | ⟨p, o, d, rfl, rfl, hp, rfl, h⟩
  · exact ⟨S, h⟩
  · refine ⟨S.lay hp, p, o, rfl, S.sub.free hp, upd_same, h, S.fresh hp, fun i hi => ?_⟩
    rw [S.footEq (fun i a ha => upd_ne ((S.priv ha).ne hp)) i] at hi
    exact (S.priv hi).ne hp rfl
/-- a loose object is settled -/
theorem SR.settleG (S : SR K T B M F H ρ σ) (hF : F p = none) (hH : H p = some o) (hn : B.H0 p = none ∨ B.O0 p ∨ tupB o = true) (hno : ∀ i, p ∉ foot H (σ[i]?) (ρ.at i)) (hm : ∀ ps, o ≠ HO.tbl ps := by intro _ z; cases z) : SR K T B M (upd F p o) H ρ σ := by
  have su : Same F (upd F p o) := same_upd hF
  refine ⟨⟨⟨fun b u e => ?_⟩, fun b od kvs e z => ?_⟩, S.keep, S.live, S.f0.trans su, fun b u e => ?_, S.len, fun i => (S.slot i).mono su fun a ha => ⟨?_, rfl⟩, S.newF, S.injF, S.pin, S.tabs.1, fun b ps z => ?_⟩
  · by_cases hb : b = p
    · subst hb; rw [upd_same] at e; cases e; exact .inl hH
    · rw [upd_ne hb] at e; exact S.sub.w _ _ e
  · by_cases hb : b = p
    · subst hb; rw [upd_same] at e; cases e; rw [hH] at z; exact absurd (Option.some.inj z) (ne_frz _ _)
    · rw [upd_ne hb] at e; exact S.sub.lk _ _ _ e z
  · by_cases hb : b = p
    · subst hb; rw [upd_same] at e; cases e; exact .inr hn
    · rw [upd_ne hb] at e; exact S.fnew b u e
  · have ne : a ≠ p := fun z => hno i (by rw [← z]; exact ha)
    rw [upd_ne ne]
    exact (S.priv ha).1
  · by_cases hb : b = p
    · subst hb; rw [upd_same] at z; exact hm ps (Option.some.inj z)
    · rw [upd_ne hb] at z; exact S.tabs.2 b ps z
theorem SR.settle (S : SR K T B M F H ρ σ) (hF : F p = none) (hH : H p = some o) (hn : B.H0 p = none ∨ B.O0 p) (hno : ∀ i, p ∉ foot H (σ[i]?) (ρ.at i)) (hm : ∀ ps, o ≠ HO.tbl ps := by intro _ z; cases z) : SR K T B M (upd F p o) H ρ σ :=
  S.settleG hF hH (hn.elim .inl fun z => .inr (.inl z)) hno hm
theorem KidL.notup : ∀ {vs : List V} {xs : List D}, KidL K T F H vs xs → ∀ a ∈ kidsA vs xs, ∀ o, H a = some o → tupB o = false
  | _, _, .nil, _, h => by simp [kidsA] at h
  | _, _, .cons (v := v) (d := d) k r, a, h => by
    rw [kidsA_cons] at h
    cases k with
    | fz z =>
      rw [kidA_fz z] at h
      exact r.notup a h
    | own f e ro nt =>
      rcases List.mem_cons.mp h with rfl | h
      · intro o e2; rw [e] at e2; cases e2; exact nt
      · exact r.notup a h
theorem TreeO.notup {o : HO} {d : D} (r : TreeO K T F H o d) : ∀ a ∈ footO o d, ∀ o, H a = some o → tupB o = false := fun a h => by
  cases r with
  | obj e l k =>
    rw [footO, zip_snd l] at h
    exact k.notup a h
  | dct k => exact k.list.notup a h
  | lst k => exact k.notup a h
  | tup k => exact k.notup a h
theorem repO_nt {K : PySem.W.Frag} {T : Tb} {F : Hp} {o : HO} {d : D} (r : RepO K T F o d) (h : ∀ xs, d ≠ .tup xs) : tupB o = false := by
  cases r <;> first | rfl | exact absurd rfl (h _)
theorem treeO_nt {o : HO} {d : D} (r : TreeO K T F H o d) (h : ∀ xs, d ≠ .tup xs) : tupB o = false := by
  cases r <;> first | rfl | exact absurd rfl (h _)
/-- nobody's own objects are tuples -/
theorem SR.notup (S : SR K T B M F H ρ σ) {i : Nat} {a : Addr} {o : HO} (h : a ∈ foot H (σ[i]?) (ρ.at i)) (e : H a = some o) : tupB o = false := by
  have hs := S.slot i
  cases hr : ρ.at i with
  | no => rw [hr, foot_no] at h; simp at h
  | fz d => rw [hr, foot_fz] at h; simp at h
  | own d =>
    rw [hr] at hs h
    obtain ⟨p, o', e1, _, e2, _, nt⟩ := hs
    rw [e1, foot_own] at h
    rw [List.mem_singleton.mp h, e2] at e
    cases e
    exact nt
  | ownT d =>
    rw [hr] at hs h
    obtain ⟨p, o', e1, _, e2, r, _, nt⟩ := hs
    rw [e1, foot_ownT e2] at h
    rcases List.mem_cons.mp h with rfl | h
    · rw [e2] at e; cases e; exact nt
    · exact r.notup a h _ e
/-- parts of an object are settled -/
theorem SR.settleK : ∀ {vs : List V} {xs : List D} {F : Hp}, SR K T B M F H ρ σ → KidL K T F H vs xs → (kidsA vs xs).Nodup → (∀ a ∈ kidsA vs xs, (B.H0 a = none ∨ B.O0 a) ∧ ∀ i, a ∉ foot H (σ[i]?) (ρ.at i)) → ∃ F', Same F F' ∧ SR K T B M F' H ρ σ ∧ RepL K T F' vs (xs.map D.unm) ∧ (∀ b, b ∉ kidsA vs xs → F' b = F b) ∧ ∀ b ∈ kidsA vs xs, ∃ u, F' b = some u
  | _, _, F, S, .nil, _, _ => ⟨F, Same.refl _, S, .nil, fun _ _ => rfl, fun b hb => by simp [kidsA] at hb⟩
  | _, _, F, S, .cons (v := v) (d := d) (vs := vs) (xs := xs) k r, nd, h => by
    rw [kidsA_cons] at nd h
    cases k with
    | fz z =>
      rw [kidA_fz z] at nd h
      obtain ⟨F', e, S', r', o', i'⟩ := SR.settleK S r nd h
      refine ⟨F', e, S', .cons ?_ r', fun b hb => o' b fun z' => hb (kidsA_sub z'), fun b hb => i' b ?_⟩
      · rw [rep_unm z]
        exact z.mono e
      · rw [kidsA_cons, kidA_fz z] at hb
        exact hb
    | own f e ro _ =>
      rename_i q o d _
      have nd' := List.nodup_cons.mp nd
      have hq := h q List.mem_cons_self
      have su : Same F (upd F q o) := same_upd f
      have S1 := S.settle f e hq.1 hq.2 (repO_tbl' ro)
      have r1 : KidL K T (upd F q o) H vs xs := r.mono su fun a ha => by
        have ne : a ≠ q := fun z => nd'.1 (by rw [← z]; exact ha)
        exact ⟨by rw [upd_ne ne]; exact (r.priv a ha).1, rfl⟩
      obtain ⟨F', e', S', r', o', i'⟩ := SR.settleK S1 r1 nd'.2 fun a ha => h a (List.mem_cons_of_mem _ ha)
      refine ⟨F', su.trans e', S', .cons ?_ r', fun b hb => ?_, fun b hb => ?_⟩
      · exact .ref (e' _ _ upd_same) (ro.mono (su.trans e'))
      · have hb' : b ∉ q :: kidsA vs xs := hb
        have ne : b ≠ q := fun z => hb' (by rw [z]; exact List.mem_cons_self)
        rw [o' b fun z => hb' (List.mem_cons_of_mem _ z), upd_ne ne]
      · have hb' : b ∈ q :: kidsA vs xs := hb
        rcases List.mem_cons.mp hb' with rfl | hb'
        · exact ⟨_, e' _ _ upd_same⟩
        · exact i' b hb'
theorem RepL.keys : ∀ {kvs : List (Key × V)} {ds : List (Ky × D)}, KidK K T F H kvs ds → RepL K T F' (kvs.map (·.2)) ((ds.map (·.2)).map D.unm) → RepK K T F' kvs (ds.map fun p => (p.1, p.2.unm))
  | _, _, .nil, _ => .nil
  | _, _, .cons o _ r, .cons a b => .cons o a (RepL.keys r b)
/-- an object with parts is settled -/
theorem SR.settleT (S : SR K T B M F H ρ σ) (hF : F p = none) (hH : H p = some o) (r : TreeO K T F H o d) (nd : (p :: footO o d).Nodup) (h : ∀ a ∈ p :: footO o d, (B.H0 a = none ∨ B.O0 a) ∧ ∀ i, a ∉ foot H (σ[i]?) (ρ.at i)) : ∃ F', Same F F' ∧ SR K T B M F' H ρ σ ∧ Rep K T F' (.ref p) d.calm ∧ (∀ a ∈ p :: footO o d, ∃ u, F' a = some u) ∧ ∀ b, b ∉ p :: footO o d → F' b = F b := by
  have nd' := List.nodup_cons.mp nd
  have hp := h p List.mem_cons_self
  have ht := treeO_tbl r
  cases r with
  | obj e1 l k =>
    rename_i c ci dx vs xs
    rw [footO, zip_snd l] at nd' h
    obtain ⟨F', e, S', r', o', i'⟩ := SR.settleK S k nd'.2 fun a ha => h a (List.mem_cons_of_mem _ ha)
    have hF' : F' p = none := (o' p nd'.1).trans hF
    have su := same_upd (o := HO.ins ci.addr dx (ci.names.zip vs)) hF'
    refine ⟨_, e.trans su, S'.settle hF' hH hp.1 hp.2 ht, .ref upd_same (.obj e1 l (r'.mono su)), fun a ha => ?_, fun b hb => ?_⟩
    · rw [footO, zip_snd l] at ha
      rcases List.mem_cons.mp ha with rfl | ha
      · exact ⟨_, upd_same⟩
      · obtain ⟨u, hu⟩ := i' a ha
        exact ⟨u, su _ _ hu⟩
    · rw [footO, zip_snd l] at hb
      rw [upd_ne fun z => hb (by rw [z]; exact List.mem_cons_self)]
      exact o' b fun z => hb (List.mem_cons_of_mem _ z)
  | dct k =>
    rename_i kvs ds
    obtain ⟨F', e, S', r', o', i'⟩ := SR.settleK S k.list nd'.2 fun a ha => h a (List.mem_cons_of_mem _ ha)
    have hF' : F' p = none := (o' p nd'.1).trans hF
    have su := same_upd (o := HO.dK kvs) hF'
    refine ⟨_, e.trans su, S'.settle hF' hH hp.1 hp.2 ht, .ref upd_same (.dct ((RepL.keys k r').mono su)), fun a ha => ?_, fun b hb => ?_⟩
    · rcases List.mem_cons.mp ha with rfl | ha
      · exact ⟨_, upd_same⟩
      · obtain ⟨u, hu⟩ := i' a ha
        exact ⟨u, su _ _ hu⟩
    · rw [upd_ne fun z => hb (by rw [z]; exact List.mem_cons_self)]
      exact o' b fun z => hb (List.mem_cons_of_mem _ z)
  | lst k =>
    obtain ⟨F', e, S', r', o', i'⟩ := SR.settleK S k nd'.2 fun a ha => h a (List.mem_cons_of_mem _ ha)
    have hF' : F' p = none := (o' p nd'.1).trans hF
    rename_i vs xs
    have su := same_upd (o := HO.lst vs) hF'
    refine ⟨_, e.trans su, S'.settle hF' hH hp.1 hp.2 ht, .ref upd_same (.lst (r'.mono su)), fun a ha => ?_, fun b hb => ?_⟩
    · rcases List.mem_cons.mp ha with rfl | ha
      · exact ⟨_, upd_same⟩
      · obtain ⟨u, hu⟩ := i' a ha
        exact ⟨u, su _ _ hu⟩
    · rw [upd_ne fun z => hb (by rw [z]; exact List.mem_cons_self)]
      exact o' b fun z => hb (List.mem_cons_of_mem _ z)
  | tup k =>
    obtain ⟨F', e, S', r', o', i'⟩ := SR.settleK S k nd'.2 fun a ha => h a (List.mem_cons_of_mem _ ha)
    have hF' : F' p = none := (o' p nd'.1).trans hF
    rename_i vs xs
    have su := same_upd (o := HO.tup vs) hF'
    refine ⟨_, e.trans su, S'.settle hF' hH hp.1 hp.2 ht, .ref upd_same (.tup (r'.mono su)), fun a ha => ?_, fun b hb => ?_⟩
    · rcases List.mem_cons.mp ha with rfl | ha
      · exact ⟨_, upd_same⟩
      · obtain ⟨u, hu⟩ := i' a ha
        exact ⟨u, su _ _ hu⟩
    · rw [upd_ne fun z => hb (by rw [z]; exact List.mem_cons_self)]
      exact o' b fun z => hb (List.mem_cons_of_mem _ z)
theorem SR.fix (S : SR K T B M F H ρ σ) (h : RetV K T B F H ρ σ v r) : ∃ F', Same F F' ∧ SR K T B M F' H ρ σ ∧ Rep K T F' v r.d := by
  cases r with
  | fz d => exact ⟨F, Same.refl _, S, h⟩
  | fr d =>
    obtain ⟨p, o, rfl, hF, hH, ro, hn, hno⟩ := h
    have su : Same F (upd F p o) := same_upd hF
    exact ⟨upd F p o, su, S.settle hF hH (.inl hn) hno (repO_tbl ro), .ref upd_same (ro.mono su)⟩
  | ft d =>
    obtain ⟨p, o, rfl, hF, hH, ro, nd, hn⟩ := h
    obtain ⟨F', e, S', r, _⟩ := S.settleT hF hH ro nd fun a ha => ⟨.inl (hn a ha).1, (hn a ha).2⟩
    exact ⟨F', e, S', r⟩
/-- a slot's word is weakened -/
theorem SR.slots (S : SR K T B M F H ρ σ) (hl : ρ'.length = ρ.length) (h : ∀ i, ρ'.at i = ρ.at i ∨ (∃ d, ρ'.at i = .fz d ∧ ∃ v, σ[i]? = some (some v) ∧ Rep K T F v d) ∨ ρ'.at i = .no) : SR K T B M F H ρ' σ := by
  have own_of : ∀ i a, a ∈ foot H (σ[i]?) (ρ'.at i) → a ∈ foot H (σ[i]?) (ρ.at i) := fun i a ha => by
    rcases h i with q | ⟨_, q, _⟩ | q
    · rw [← q]; exact ha
    · rw [q, foot_fz] at ha; simp at ha
    · rw [q, foot_no] at ha; simp at ha
  refine ⟨S.sub, S.keep, S.live, S.f0, S.fnew, hl.trans S.len, fun i => ?_, fun i a ha => S.newF i a (own_of i a ha), fun i j a h1 h2 => S.injF i j a (own_of i a h1) (own_of j a h2), S.pin, S.tabs⟩
  rcases h i with q | ⟨d, q, hv⟩ | q
  · rw [q]; exact S.slot i
  · rw [q]; exact hv
  · rw [q]; trivial
/-- a name's slot is forgotten: its objects are no slot's -/
theorem SR.forget (S : SR K T B M F H ρ σ) (i : Nat) : SR K T B M F H (ρ.set i .no) σ ∧ ∀ a ∈ foot H (σ[i]?) (ρ.at i), ∀ j, a ∉ foot H (σ[j]?) (Env.at (ρ.set i .no) j) := by
  refine ⟨S.slots (by simp) fun j => ?_, fun a ha j hj => ?_⟩
  · by_cases hj : i = j
    · subst hj
      by_cases hi : i < ρ.length
      · exact .inr (.inr (Env.at_set_same hi))
      · rw [List.set_eq_of_length_le (by omega)]; exact .inl rfl
    · exact .inl (Env.at_set_ne hj)
  · by_cases hij : i = j
    · subst hij
      by_cases hi : i < ρ.length
      · rw [Env.at_set_same hi, foot_no] at hj; simp at hj
      · have : ρ.at i = .no := by
          unfold Env.at
          rw [List.getElem?_eq_none (by omega)]
          rfl
        rw [this, foot_no] at ha; simp at ha
    · rw [Env.at_set_ne hij] at hj
      exact hij (S.injF i j a ha hj)
/-- a name's own object is settled -/
theorem SR.calmAt (S : SR K T B M F H ρ σ) (h : ρ.at i = .own d) : ∃ F' v, Same F F' ∧ SR K T B M F' H (ρ.set i (.fz d)) σ ∧ σ[i]? = some (some v) ∧ Rep K T F' v d ∧ ∀ a ∈ foot H (σ[i]?) (ρ.at i), ∃ u, F' a = some u := by
  have hs := S.slot i
  rw [h] at hs
  obtain ⟨p, o, e, hF, hH, ro, _⟩ := hs
  have su : Same F (upd F p o) := same_upd hF
  have hi : i < ρ.length := Env.at_lt (by rw [h]; exact fun z => nomatch z)
  obtain ⟨S1, fr⟩ := S.forget i
  have hp : p ∈ foot H (σ[i]?) (ρ.at i) := by rw [h, e, foot_own]; exact List.mem_singleton.mpr rfl
  have S2 : SR K T B M (upd F p o) H (ρ.set i .no) σ := S1.settle hF hH (S.newown i d p h e) (fr p hp) (repO_tbl ro)
  have rr : Rep K T (upd F p o) (.ref p) d := .ref upd_same (ro.mono su)
  refine ⟨upd F p o, .ref p, su, ?_, e, rr, fun a ha => by rw [h, e, foot_own] at ha; rw [List.mem_singleton.mp ha]; exact ⟨_, upd_same⟩⟩
  have e3 : (ρ.set i .no).set i (.fz d) = ρ.set i (.fz d) := by simp
  have S3 : SR K T B M (upd F p o) H ((ρ.set i .no).set i (.fz d)) σ := S2.slots (by simp) fun j => by
    by_cases hj : i = j
    · subst hj; exact .inr (.inl ⟨d, Env.at_set_same (by simpa using hi), _, e, rr⟩)
    · exact .inl (Env.at_set_ne hj)
  rw [e3] at S3
  exact S3
theorem SR.calmAtT (S : SR K T B M F H ρ σ) (h : ρ.at i = .ownT d) : ∃ F' v, Same F F' ∧ SR K T B M F' H (ρ.set i (.fz d.calm)) σ ∧ σ[i]? = some (some v) ∧ Rep K T F' v d.calm ∧ ∀ a ∈ foot H (σ[i]?) (ρ.at i), ∃ u, F' a = some u := by
  have hs := S.slot i
  rw [h] at hs
  obtain ⟨p, o, e, hF, hH, ro, nd, _⟩ := hs
  have hi : i < ρ.length := Env.at_lt (by rw [h]; exact fun z => nomatch z)
  obtain ⟨S1, fr⟩ := S.forget i
  have fe : foot H (σ[i]?) (ρ.at i) = p :: footO o d := by rw [h, e, foot_ownT hH]
  obtain ⟨F', su, S2, rr, in', _⟩ := S1.settleT hF hH ro nd fun a ha => ⟨S.newO (fe ▸ ha), fr a (fe ▸ ha)⟩
  refine ⟨F', .ref p, su, ?_, e, rr, fun a ha => in' a (fe ▸ ha)⟩
  have e3 : (ρ.set i .no).set i (.fz d.calm) = ρ.set i (.fz d.calm) := by simp
  have S3 : SR K T B M F' H ((ρ.set i .no).set i (.fz d.calm)) σ := S2.slots (by simp) fun j => by
    by_cases hj : i = j
    · subst hj; exact .inr (.inl ⟨d.calm, Env.at_set_same (by simpa using hi), _, e, rr⟩)
    · exact .inl (Env.at_set_ne hj)
  rw [e3] at S3
  exact S3
end
end DL

set_option Elab.async false
set_option linter.all false
set_option autoImplicit false
set_option maxRecDepth 100000
/-! DLX2: readings by data; expressions. -/
namespace DL
open PySem PySem.Spec PyProof.Rows L2
/-- an exception as it lies -/
def ExR (K : PySem.W.Frag) (T : Tb) (F : Hp) (cls : Value) (d : Option Addr) (x : Exc) : Prop :=
  ∃ ei da v, T.ex x.cls = some ei ∧ cls = .ref ei.addr ∧ d = some da ∧ F da = some (.xd [(ei.field, v)]) ∧ Rep K T F v x.val
section
variable (K : PySem.W.Frag) (T : Tb) (B : Bs) (M : List Nat) (W : EK)
def lE (f : DE) : TE := fun σ H Q => ∃ F ρ Qd, SR K T B M F H ρ σ ∧ f ρ Qd W ∧ ∀ F' H' ρ' v r, Same F F' → SR K T B M F' H' ρ' σ → RetV K T B F' H' ρ' σ v r → Qd r ρ' → Q v H'
def lT (f : DT) : TT := fun σ H Q => ∃ F ρ Qd, SR K T B M F H ρ σ ∧ f ρ Qd W ∧ ∀ F' H' ρ' b, Same F F' → SR K T B M F' H' ρ' σ → Qd b ρ' → Q b H'
def lA (fs : List DE) : TA := fun σ H Q => ∃ F ρ Qd, SR K T B M F H ρ σ ∧ dArgs fs ρ Qd W ∧ ∀ F' H' ρ' vs ds, Same F F' → SR K T B M F' H' ρ' σ → RepL K T F' vs ds → Qd ds ρ' → Q vs H'
def lW : WX := fun cls d σ H => ∃ F ρ x, SR K T B M F H ρ σ ∧ ExR K T F cls d x ∧ W x ρ
/-- what a walked thing yields -/
def ItOk (K : PySem.W.Frag) (T : Tb) (F : Hp) (J : It) (xs : List D) : Prop :=
  ∀ i F1 H, Same F F1 → SmW F1 H → (i < xs.length → J.go i H ∧ ∀ x H', J.yld i H x H' → ∃ r, xs[i]? = some r.d ∧ NewR K T F1 H x H' r) ∧ (xs.length ≤ i → J.stop i H)
def lI (f : DI) : TI := fun σ H R => ∃ F ρ Qd, SR K T B M F H ρ σ ∧ f ρ Qd W ∧ ∀ F' H' ρ' xs J, Same F F' → SR K T B M F' H' ρ' σ → ItOk K T F' J xs → Qd xs ρ' → R J H'
end
section
variable (X : Cx) (T : Tb) (B : Bs) (M : List Nat) (W : EK)
abbrev PD (e : Expr) (f : DE) : Prop := PE X e (lE X.K T B M W f)
abbrev PDT (e : Expr) (f : DT) : Prop := PT X e (lT X.K T B M W f)
abbrev PDW (e : Expr) (f : DT) : Prop := PW X e (lT X.K T B M W f)
abbrev PDA (es : List Expr) (fs : List DE) : Prop := PA X es (lA X.K T B M W fs)
abbrev PDI (tg e : Expr) (f : DI) : Prop := PI X tg e (lI X.K T B M W f)
end
theorem pe_imp {X : Cx} {e : Expr} {t t' : TE} (h : PE X e t) (k : ∀ σ H Q, t' σ H Q → t σ H Q) : PE X e t' := ⟨fun pins s σ H Q I q => h.run pins s σ H Q I (k σ H Q q)⟩
theorem pt_imp {X : Cx} {e : Expr} {t t' : TT} (h : PT X e t) (k : ∀ σ H Q, t' σ H Q → t σ H Q) : PT X e t' := ⟨fun pins s σ H Q I q => h.run pins s σ H Q I (k σ H Q q)⟩
theorem pw_imp {X : Cx} {e : Expr} {t t' : TT} (h : PW X e t) (k : ∀ σ H Q, t' σ H Q → t σ H Q) : PW X e t' := ⟨fun w pins s σ H Q I q => h.run w pins s σ H Q I (k σ H Q q)⟩
theorem pa_imp {X : Cx} {es : List Expr} {t t' : TA} (h : PA X es t) (k : ∀ σ H Q, t' σ H Q → t σ H Q) : PA X es t' := ⟨fun pos pins s σ H Q I q => h.run pos pins s σ H Q I (k σ H Q q)⟩
theorem pi_imp {X : Cx} {tg e : Expr} {t t' : TI} (h : PI X tg e t) (k : ∀ σ H Q, t' σ H Q → t σ H Q) : PI X tg e t' := ⟨fun pins s σ H Q I q => h.run pins s σ H Q I (k σ H Q q)⟩
section
variable {X : Cx} {T : Tb} {B : Bs} {M : List Nat} {W : EK} {F H : Hp} {ρ : Env} {σ : L2.St}
/-- a part is read, its value settled -/
theorem lE_run {f : DE} {Qd : R → Env → Prop} {Q : VK} (S : SR X.K T B M F H ρ σ) (h : f ρ Qd W) (k : ∀ F' H' ρ' v r, Same F F' → SR X.K T B M F' H' ρ' σ → Rep X.K T F' v r.d → Qd r ρ' → Q v H') : lE X.K T B M W f σ H Q :=
  ⟨F, ρ, Qd, S, h, fun F' H' ρ' v r e S' R q => by
    obtain ⟨F2, e2, S2, R2⟩ := S'.fix R
    exact k F2 H' ρ' v r (e.trans e2) S2 R2 q⟩
theorem lT_run {f : DT} {Qd : Bool → Env → Prop} {Q : Bool → Hp → Prop} (S : SR X.K T B M F H ρ σ) (h : f ρ Qd W) (k : ∀ F' H' ρ' b, Same F F' → SR X.K T B M F' H' ρ' σ → Qd b ρ' → Q b H') : lT X.K T B M W f σ H Q := ⟨F, ρ, Qd, S, h, k⟩
theorem lA_run {fs : List DE} {Qd : List D → Env → Prop} {Q : List V → Hp → Prop} (S : SR X.K T B M F H ρ σ) (h : dArgs fs ρ Qd W) (k : ∀ F' H' ρ' vs ds, Same F F' → SR X.K T B M F' H' ρ' σ → RepL X.K T F' vs ds → Qd ds ρ' → Q vs H') : lA X.K T B M W fs σ H Q := ⟨F, ρ, Qd, S, h, k⟩
/-- the end of an operation -/
theorem lE_end {F0 : Hp} {Qd : R → Env → Prop} {Q : VK} {v : V} {H' : Hp} {r : R} (k : ∀ F' H' ρ' v r, Same F0 F' → SR X.K T B M F' H' ρ' σ → RetV X.K T B F' H' ρ' σ v r → Qd r ρ' → Q v H') (e : Same F0 F) (S : SR X.K T B M F H ρ σ) (n : NewR X.K T F H v H' r) (q : Qd r ρ) : Q v H' :=
  let ⟨S', R⟩ := S.new n
  k F H' ρ v r e S' R q
theorem NewR.fz {K : PySem.W.Frag} {v : V} {d : D} (h : Rep K T F v d) : NewR K T F H v H (.fz d) := .inl ⟨d, rfl, rfl, h⟩
theorem NewR.fr {K : PySem.W.Frag} {p : Addr} {o : HO} {d : D} (hp : H p = none) (h : RepO K T F o d) : NewR K T F H (.ref p) (upd H p o) (.fr d) := .inr ⟨p, o, d, rfl, rfl, hp, rfl, h⟩

/-! ### constants and names -/
theorem pd_const {e : Expr} {v : V} {d : D} (he : PE X e (tC v)) (r : ∀ F, Rep X.K T F v d) : PD X T B M W e (dC d) :=
  pe_imp he fun σ H Q ⟨F, ρ, Qd, S, h, k⟩ => k F H ρ v (.fz d) (Same.refl _) S (r F) h
theorem zaH {i : Int} {j pos} : PD X T B M W (.Constant (.int i) j pos) (dC (.int i)) := pd_const pe_int fun _ => .int i
theorem pd_bl {b : Bool} {j pos} : PD X T B M W (.Constant (.bool b) j pos) (dC (.bl b)) := pd_const pe_bl fun _ => .bl b
theorem pd_non {j pos} : PD X T B M W (.Constant .none j pos) (dC .non) := pd_const pe_non fun _ => .non
def okTxB (l : Tx) : Bool := l.all (· < 0x110000) && decide (l.length ≤ 1000000)
theorem okTx_of {l : Tx} (h : okTxB l = true) : okTx l := by
  unfold okTxB at h
  rw [Bool.and_eq_true, List.all_eq_true] at h
  refine ⟨fun c hc => of_decide_eq_true (h.1 c hc), Nat.le_trans (of_decide_eq_true h.2) (by rw [sizeLine_eq]; decide)⟩
theorem pd_str {x : Str} {l : Tx} {j pos} (e : x = tx l) (h : okTxB l = true) : PD X T B M W (.Constant (.str x) j pos) (dC (.str l)) := by
  subst e
  exact pd_const pe_str fun _ => .str (okTx_of h)
/-- a constant of the module -/
theorem pd_glob {x : Str} {v : V} {d : D} {u : Value} {pos : Pos} (hg : Gl X x) (hm : X.mg x = some u) (r : RelV v u) (rd : ∀ F, Rep X.K T F v d) (hd : (x == ("__debug__" : Str)) = false := by decide) : PD X T B M W (.Name x pos) (dC d) := pd_const (pe_glob hg hm r hd) rd
theorem zaA {i : Nat} {x : Str} {pos : Pos} (hN : X.N[i]? = some x) (hv : Vis X.env.scope x) (hd : (x == ("__debug__" : Str)) = false := by decide) (hcd : (x == ("__classdict__" : Str)) = false := by decide) : PD X T B M W (.Name x pos) (zaC i) := by
  refine pe_imp (pe_var hN hv hd hcd) fun σ H Q ⟨F, ρ, Qd, S, h, k⟩ => ?_
  unfold zaC at h
  have hs := S.slot i
  cases e : ρ.at i with
  | no => rw [e] at h; exact h.elim
  | fz d =>
    rw [e] at h hs
    obtain ⟨v, e1, r⟩ := hs
    exact ⟨v, e1, k F H ρ v (.fz d) (Same.refl _) S r h⟩
  | own d =>
    rw [e] at h
    obtain ⟨F', v, su, S', e1, r, _⟩ := S.calmAt e
    exact ⟨v, e1, k F' H _ v (.fz d) su S' r h⟩
  | ownT d =>
    rw [e] at h
    obtain ⟨F', v, su, S', e1, r, _⟩ := S.calmAtT e
    exact ⟨v, e1, k F' H _ v (.fz d.calm) su S' r h⟩

/-! ### operators -/
/-- the rule r of an operator does what op says of data -/
def OpOk (K : PySem.W.Frag) (T : Tb) (op : D → D → (R → Prop) → Prop) (r : R2) : Prop :=
  ∀ F H x y dx dy k Q, SmW F H → Rep K T F x dx → Rep K T F y dy → op dx dy k → (∀ v H' t, NewR K T F H v H' t → k t → Q v H') → r x y H Q
def UnOk (K : PySem.W.Frag) (T : Tb) (op : D → (R → Prop) → Prop) (r : V → Hp → VK → Prop) : Prop :=
  ∀ F H x dx k Q, SmW F H → Rep K T F x dx → op dx k → (∀ v H' t, NewR K T F H v H' t → k t → Q v H') → r x H Q
theorem tOp_of {op : D → D → (R → Prop) → Prop} {r : R2} {f g : DE} (ho : OpOk X.K T op r) {H : Hp} {Q : VK} (h : lE X.K T B M W (dOp op f g) σ H Q) : tOp r (lE X.K T B M W f) (lE X.K T B M W g) σ H Q := by
  obtain ⟨F, ρ, Qd, S, h, k⟩ := h
  refine lE_run S h fun F1 H1 ρ1 v1 r1 e1 S1 R1 h1 => lE_run S1 h1 fun F2 H2 ρ2 v2 r2 e2 S2 R2 h2 => ?_
  exact ho F2 H2 v1 v2 _ _ _ _ S2.sub.toSmW (R1.mono e2) R2 h2 fun v H' t n q => lE_end k (e1.trans e2) S2 n q
variable {a b c e : Expr} {f g h : DE} {pos : Pos}
theorem pd_op {o : Operator} {op : D → D → (R → Prop) → Prop} {r : R2} (hr : OpR X (binaryOp o) r) (ho : OpOk X.K T op r) (ha : PD X T B M W a f) (hb : PD X T B M W b g) : PD X T B M W (.BinOp a o b pos) (dOp op f g) :=
  pe_imp (pe_op hr ha hb) fun σ H Q z => tOp_of ho z
theorem pd_cmp {o : CmpOp} {op : D → D → (R → Prop) → Prop} {r : R2} (hr : OpR X (compareOp o) r) (ho : OpOk X.K T op r) (ha : PD X T B M W a f) (hb : PD X T B M W b g) (hm : behindInMarks o b = false) : PD X T B M W (.Compare a [o] [b] pos) (dOp op f g) :=
  pe_imp (pe_cmpR hr ha hb hm) fun σ H Q z => tOp_of ho z
theorem pd_un {o : UnaryOp} {op : D → (R → Prop) → Prop} {r : V → Hp → VK → Prop} (hr : UnR X (unaryOp o) r) (ho : UnOk X.K T op r) (ha : PD X T B M W a f) : PD X T B M W (.UnaryOp o a pos) (dUn op f) := by
  refine pe_imp (pe_un hr ha) fun σ H Q ⟨F, ρ, Qd, S, h, k⟩ => ?_
  refine lE_run S h fun F1 H1 ρ1 v1 r1 e1 S1 R1 h1 => ?_
  exact ho F1 H1 v1 _ _ _ S1.sub.toSmW R1 h1 fun v H' t n q => lE_end k e1 S1 n q
/-- ints -/
theorem OpOk.ints {op : D → D → (R → Prop) → Prop} {C : Int → Int → Prop} {gv : Int → Int → V} (h : ∀ dx dy k, op dx dy k → ∃ i j d, dx = .int i ∧ dy = .int j ∧ C i j ∧ k (.fz d) ∧ ∀ F, Rep X.K T F (gv i j) d) : OpOk X.K T op (rI C gv) := by
  intro F H x y dx dy k Q s rx ry ho kk
  obtain ⟨i, j, d, rfl, rfl, hc, hk, hd⟩ := h dx dy k ho
  exact ⟨i, j, rx.int_inv, ry.int_inv, hc, kk _ _ _ (.fz (hd F)) hk⟩
theorem OpOk.ints0 {op : D → D → (R → Prop) → Prop} {gv : Int → Int → V} (h : ∀ dx dy k, op dx dy k → ∃ i j d, dx = .int i ∧ dy = .int j ∧ k (.fz d) ∧ ∀ F, Rep X.K T F (gv i j) d) : OpOk X.K T op (rI0 gv) := by
  intro F H x y dx dy k Q s rx ry ho kk
  obtain ⟨i, j, d, rfl, rfl, hk, hd⟩ := h dx dy k ho
  exact ⟨i, j, rx.int_inv, ry.int_inv, kk _ _ _ (.fz (hd F)) hk⟩
theorem ok_sub : OpOk X.K T subD (rI0 fun i j => .int (i - j)) := OpOk.ints0 fun dx dy k h => by
  cases dx <;> cases dy <;> first | exact h.elim | exact ⟨_, _, _, rfl, rfl, h, fun _ => .int _⟩
theorem ok_fdiv : OpOk X.K T fdivD (rI CDivW fun i j => .int (i / j)) := OpOk.ints fun dx dy k h => by
  cases dx <;> cases dy <;> first | exact h.elim | exact ⟨_, _, _, rfl, rfl, wide_div (b := 70) h.1.1 (by have h0 := h.1.1; have h1 := h.1.2; omega) (by decide) (by decide), h.2, fun _ => .int _⟩
theorem ok_mod : OpOk X.K T modD (rI (fun _ j => 0 < j) fun i j => .int (i % j)) := OpOk.ints fun dx dy k h => by
  cases dx <;> cases dy <;> first | exact h.elim | exact ⟨_, _, _, rfl, rfl, h.1, h.2, fun _ => .int _⟩
theorem ok_pow : OpOk X.K T powD (rI CPow fun i j => .int (i ^ j.toNat)) := OpOk.ints fun dx dy k h => by
  cases dx <;> cases dy <;> first | exact h.elim | exact ⟨_, _, _, rfl, rfl, h.1, h.2, fun _ => .int _⟩
theorem ok_lt : OpOk X.K T ltD (rI0 fun i j => .bl (decide (i < j))) := OpOk.ints0 fun dx dy k h => by
  cases dx <;> cases dy <;> first | exact h.elim | exact ⟨_, _, _, rfl, rfl, h, fun _ => .bl _⟩
theorem ok_le : OpOk X.K T leD (rI0 fun i j => .bl (decide (i ≤ j))) := OpOk.ints0 fun dx dy k h => by
  cases dx <;> cases dy <;> first | exact h.elim | exact ⟨_, _, _, rfl, rfl, h, fun _ => .bl _⟩
theorem ok_gt : OpOk X.K T gtD (rI0 fun i j => .bl (decide (j < i))) := OpOk.ints0 fun dx dy k h => by
  cases dx <;> cases dy <;> first | exact h.elim | exact ⟨_, _, _, rfl, rfl, h, fun _ => .bl _⟩
theorem ok_ge : OpOk X.K T geD (rI0 fun i j => .bl (decide (j ≤ i))) := OpOk.ints0 fun dx dy k h => by
  cases dx <;> cases dy <;> first | exact h.elim | exact ⟨_, _, _, rfl, rfl, h, fun _ => .bl _⟩
theorem ok_neg : UnOk X.K T negD (rU fun i => .int (-i)) := by
  intro F H x dx k Q s rx ho kk
  cases dx with
  | int i => exact ⟨i, rx.int_inv, kk _ _ _ (.fz (.int _)) ho⟩
  | _ => exact ho.elim
theorem maxTx_eq : maxTx = sizeLine := by rw [sizeLine_eq]
theorem okTx.append {a b : Tx} (ha : okTx a) (hb : okTx b) (h : a.length + b.length ≤ maxTx) : okTx (a ++ b) :=
  ⟨fun c hc => (List.mem_append.mp hc).elim (ha.1 c) (hb.1 c), by rw [List.length_append, ← maxTx_eq]; exact h⟩
/-- a + b: ints, texts, lists -/
def rAddA (X : Cx) : R2 := fun x y H Q => (rI0 (fun i j => .int (i + j))) x y H Q ∨ (∃ i j, x = .str i ∧ y = .str j ∧ i.length + j.length ≤ sizeLine ∧ Q (.str (i ++ j)) H) ∨ rCat x y H Q
theorem op_addA : OpR X (binaryOp .Add) (rAddA X) := op_add.or (op_add_str.or op_cat)
theorem ok_add : OpOk X.K T addD (rAddA X) := by
  intro F H x y dx dy k Q s rx ry ho kk
  cases dx with
  | int i =>
    cases dy with
    | int j => exact .inl ⟨i, j, rx.int_inv, ry.int_inv, kk _ _ _ (.fz (.int _)) ho⟩
    | _ => exact ho.elim
  | str a =>
    cases dy with
    | str b =>
      obtain ⟨ex, ha⟩ := rx.str_inv
      obtain ⟨ey, hb⟩ := ry.str_inv
      have hl : (tx a).length + (tx b).length ≤ sizeLine := by rw [tx_len, tx_len, ← maxTx_eq]; exact ho.1
      refine .inr (.inl ⟨_, _, ex, ey, hl, ?_⟩)
      rw [tx_app]
      exact kk _ _ _ (.fz (.str (ha.append hb ho.1))) ho.2
    | _ => exact ho.elim
  | lst a =>
    cases dy with
    | lst b =>
      obtain ⟨p, vs, rfl, hp, ra⟩ := rx.lst_inv
      obtain ⟨q, ws, rfl, hq, rb⟩ := ry.lst_inv
      refine .inr (.inr ⟨p, q, vs, ws, rfl, rfl, s _ _ hp, s _ _ hq, by rw [ra.length, rb.length, ← maxTx_eq]; exact ho.1, fun z hz => ?_⟩)
      exact kk _ _ _ (.fr hz (.lst (ra.append rb))) ho.2
    | _ => exact ho.elim
  | _ => exact ho.elim
theorem CMul.of {i j : Int} (h : (-(2 ^ 64) < i ∧ i < 2 ^ 64) ∨ (-(2 ^ 64) < j ∧ j < 2 ^ 64)) : CMul i j := h
/-- what a text repeated is, comes later -/
def mulI : D → D → (R → Prop) → Prop
  | .int i, .int j, k => ((-(2 ^ 64) < i ∧ i < 2 ^ 64) ∨ (-(2 ^ 64) < j ∧ j < 2 ^ 64)) ∧ k (.fz (.int (i * j)))
  | _, _, _ => False
end
end DL

set_option Elab.async false
set_option linter.all false
set_option autoImplicit false
set_option maxRecDepth 100000
/-! DLX3: comparisons, subscripts, arguments, tests. -/
namespace DL
open PySem PySem.Spec PyProof.Rows L2
section
variable {X : Cx} {T : Tb} {B : Bs} {M : List Nat} {W : EK} {F H : Hp} {ρ : Env} {σ : L2.St}
variable {a b c e : Expr} {f g h : DE} {pos : Pos}
/-! ### equality -/
mutual
def D.toP : D → PyData
  | .non => .none
  | .bl b => .bool b
  | .int i => .int i
  | .str x => .str (tx x)
  | .lst xs => .list (D.toPL xs)
  | .tup xs => .tuple (D.toPL xs)
  | .dct _ => .none
  | .obj _ _ => .none
  | .frl _ => .none
  | .cls _ => .none
  | .prt _ => .none
  | .dcT _ => .none
def D.toPL : List D → List PyData
  | [] => []
  | x :: xs => D.toP x :: D.toPL xs
end
theorem tx_beq (x y : Tx) : (tx x == tx y) = (x == y) := by
  by_cases h : x = y
  · subst h; simp
  · have : tx x ≠ tx y := fun z => h (tx_inj z)
    rw [beq_eq_false_iff_ne.mpr h, beq_eq_false_iff_ne.mpr this]
mutual
theorem eqv_toP : ∀ (n m : Nat) (x y : D), D.eqOk n x = true → D.eqOk m y = true → PyData.eqv x.toP y.toP = D.eqv x y
  | n, m, .non, y, _, h2 => by cases y <;> first | rfl | (cases m <;> cases h2)
  | n, m, .bl a, y, _, h2 => by cases y <;> first | rfl | (cases m <;> cases h2)
  | n, m, .int a, y, _, h2 => by cases y <;> first | rfl | (cases m <;> cases h2)
  | n, m, .str a, y, _, h2 => by
    cases y with
    | str b => exact tx_beq a b
    | _ => first | rfl | (cases m <;> cases h2)
  | 0, _, .lst xs, y, h1, _ => by cases h1
  | n + 1, m, .lst xs, y, h1, h2 => by
    cases y with
    | lst ys =>
      cases m with
      | zero => cases h2
      | succ m => exact eqvL_toP n m xs ys h1 h2
    | _ => first | rfl | (cases m <;> cases h2)
  | 0, _, .tup xs, y, h1, _ => by cases h1
  | n + 1, m, .tup xs, y, h1, h2 => by
    cases y with
    | tup ys =>
      cases m with
      | zero => cases h2
      | succ m => exact eqvL_toP n m xs ys h1 h2
    | _ => first | rfl | (cases m <;> cases h2)
  | n, _, .dct _, _, h1, _ => by cases n <;> cases h1
  | n, _, .dcT _, _, h1, _ => by cases n <;> cases h1
  | n, _, .obj _ _, _, h1, _ => by cases n <;> cases h1
  | n, _, .frl _, _, h1, _ => by cases n <;> cases h1
theorem eqvL_toP : ∀ (n m : Nat) (xs ys : List D), D.eqOkL n xs = true → D.eqOkL m ys = true → PyData.eqvAll (D.toPL xs) (D.toPL ys) = D.eqvL xs ys
  | _, _, [], [], _, _ => rfl
  | _, _, [], _ :: _, _, _ => rfl
  | _, _, _ :: _, [], _, _ => rfl
  | n, m, x :: xs, y :: ys, h1, h2 => by
    unfold D.eqOkL at h1 h2
    rw [Bool.and_eq_true] at h1 h2
    show (PyData.eqv x.toP y.toP && PyData.eqvAll (D.toPL xs) (D.toPL ys)) = (D.eqv x y && D.eqvL xs ys)
    rw [eqv_toP n m x y h1.1 h2.1, eqvL_toP n m xs ys h1.2 h2.2]
end
mutual
theorem Rep.dp (s : SmW F H) : ∀ (n : Nat) (d : D) (v : V), D.eqOk n d = true → Rep X.K T F v d → Dp X.K H v d.toP ∧ d.toP.canLay0 = true ∧ d.toP.depth ≤ n
  | n, .non, v, _, r => by rw [r.non_inv]; exact ⟨.non, rfl, Nat.zero_le _⟩
  | n, .bl b, v, _, r => by rw [r.bl_inv]; exact ⟨.bl b, rfl, Nat.zero_le _⟩
  | n, .int b, v, _, r => by rw [r.int_inv]; exact ⟨.int b, rfl, Nat.zero_le _⟩
  | n, .str b, v, _, r => by
    obtain ⟨rfl, z⟩ := r.str_inv
    refine ⟨.str _, ?_, Nat.zero_le _⟩
    show PyData.strOk (tx b) = true
    unfold PyData.strOk tx
    simp only [List.all_toArray, List.all_eq_true, decide_eq_true_eq]
    exact z.1
  | 0, .lst _, _, h, _ => by cases h
  | n + 1, .lst xs, v, h, r => by
    obtain ⟨p, vs, rfl, hp, ra⟩ := r.lst_inv
    obtain ⟨h1, h2, h3⟩ := RepL.dp s n xs vs h ra
    exact ⟨.lst (.of (s _ _ hp)) h1, h2, Nat.succ_le_succ h3⟩
  | 0, .tup _, _, h, _ => by cases h
  | n + 1, .tup xs, v, h, r => by
    obtain ⟨p, vs, rfl, hp, ra⟩ := r.tup_inv
    obtain ⟨h1, h2, h3⟩ := RepL.dp s n xs vs h ra
    exact ⟨.tup (.of (s _ _ hp)) h1, h2, Nat.succ_le_succ h3⟩
  | n, .dct _, _, h, _ => by cases n <;> cases h
  | n, .dcT _, _, h, _ => by cases n <;> cases h
  | n, .obj _ _, _, h, _ => by cases n <;> cases h
  | n, .frl _, _, h, _ => by cases n <;> cases h
theorem RepL.dp (s : SmW F H) : ∀ (n : Nat) (xs : List D) (vs : List V), D.eqOkL n xs = true → RepL X.K T F vs xs → DpAll X.K H vs (D.toPL xs) ∧ PyData.canLayAll0 (D.toPL xs) = true ∧ PyData.depthAll (D.toPL xs) ≤ n
  | n, [], _, _, .nil => ⟨.nil, rfl, Nat.zero_le _⟩
  | n, x :: xs, _, h, .cons r rs => by
    unfold D.eqOkL at h
    rw [Bool.and_eq_true] at h
    obtain ⟨a1, a2, a3⟩ := Rep.dp s n x _ h.1 r
    obtain ⟨b1, b2, b3⟩ := RepL.dp s n xs _ h.2 rs
    refine ⟨.cons a1 b1, ?_, ?_⟩
    · show (x.toP.canLay0 && PyData.canLayAll0 (D.toPL xs)) = true
      rw [a2, b2]; rfl
    · show max x.toP.depth (PyData.depthAll (D.toPL xs)) ≤ n
      exact Nat.max_le.mpr ⟨a3, b3⟩
end
theorem Rep.shaped (s : SmW F H) {d : D} {v : V} (h : d.eqOk 60 = true) (r : Rep X.K T F v d) : Dp X.K H v d.toP ∧ SeqAt.shaped d.toP = true := by
  obtain ⟨h1, h2, h3⟩ := Rep.dp s 60 d v h r
  refine ⟨h1, ?_⟩
  unfold SeqAt.shaped
  rw [h2, decide_eq_true (by omega)]
  rfl
def rEqA (X : Cx) : R2 := fun x y H Q => rEq x y H Q ∨ rEqD X.K x y H Q
def rNeA (X : Cx) : R2 := fun x y H Q => rNe x y H Q ∨ rNeD X.K x y H Q
theorem op_eqA (hu : X.A.units + 64 < cLine) : OpR X (compareOp .Eq) (rEqA X) := op_eq.or (op_eqD hu)
theorem op_neA (hu : X.A.units + 64 < cLine) : OpR X (compareOp .NotEq) (rNeA X) := op_ne.or (op_neD hu)
theorem scal_of {x y : D} {v w : V} (h : scalD x y = true) (rx : Rep X.K T F v x) (ry : Rep X.K T F w y) : scal v w = true ∧ decide (v = w) = D.eqv x y := by
  cases x <;> cases y <;> first
    | (cases h; done)
    | (rw [rx.non_inv, ry.non_inv]; exact ⟨rfl, rfl⟩)
    | (rw [rx.non_inv, ry.int_inv]; exact ⟨rfl, rfl⟩)
    | (rw [rx.int_inv, ry.non_inv]; exact ⟨rfl, rfl⟩)
    | (rw [rx.non_inv, ry.bl_inv]; exact ⟨rfl, rfl⟩)
    | (rw [rx.bl_inv, ry.non_inv]; exact ⟨rfl, rfl⟩)
    | (rw [rx.non_inv, ry.str_inv.1]; exact ⟨rfl, rfl⟩)
    | (rw [rx.str_inv.1, ry.non_inv]; exact ⟨rfl, rfl⟩)
    | (rw [rx.int_inv, ry.int_inv]; exact ⟨rfl, dec_int⟩)
    | (rw [rx.bl_inv, ry.bl_inv]; exact ⟨rfl, dec_bl⟩)
    | (rw [rx.str_inv.1, ry.str_inv.1]; exact ⟨rfl, dec_str.trans (tx_beq _ _)⟩)
    | (rw [rx.int_inv, ry.str_inv.1]; exact ⟨rfl, rfl⟩)
    | (rw [rx.str_inv.1, ry.int_inv]; exact ⟨rfl, rfl⟩)
    | (rw [rx.bl_inv, ry.str_inv.1]; exact ⟨rfl, rfl⟩)
    | (rw [rx.str_inv.1, ry.bl_inv]; exact ⟨rfl, rfl⟩)
theorem ok_eq : OpOk X.K T eqD (rEqA X) := by
  intro F H x y dx dy k Q s rx ry ho kk
  obtain ⟨hc, hk⟩ := ho
  rcases hc with hc | ⟨h1, h2⟩
  · obtain ⟨e1, e2⟩ := scal_of hc rx ry
    exact .inl ⟨e1, by rw [e2]; exact kk _ _ _ (.fz (.bl _)) hk⟩
  · obtain ⟨d1, s1⟩ := rx.shaped s h1
    obtain ⟨d2, s2⟩ := ry.shaped s h2
    exact .inr ⟨_, _, d1, d2, s1, s2, by rw [eqv_toP 60 60 _ _ h1 h2]; exact kk _ _ _ (.fz (.bl _)) hk⟩
theorem ok_ne : OpOk X.K T neD (rNeA X) := by
  intro F H x y dx dy k Q s rx ry ho kk
  obtain ⟨hc, hk⟩ := ho
  rcases hc with hc | ⟨h1, h2⟩
  · obtain ⟨e1, e2⟩ := scal_of hc rx ry
    exact .inl ⟨e1, by rw [e2]; exact kk _ _ _ (.fz (.bl _)) hk⟩
  · obtain ⟨d1, s1⟩ := rx.shaped s h1
    obtain ⟨d2, s2⟩ := ry.shaped s h2
    exact .inr ⟨_, _, d1, d2, s1, s2, by rw [eqv_toP 60 60 _ _ h1 h2]; exact kk _ _ _ (.fz (.bl _)) hk⟩
/-! ### is None -/
theorem isNon_of {d : D} {v : V} (r : Rep X.K T F v d) : decide (v = .non) = d.isNon := by
  cases r <;> first | rfl | (rename_i o r; cases r <;> rfl)
def rIsN : R2 := fun x y H Q => y = .non ∧ Q (.bl (decide (x = .non))) H
def rIsnN : R2 := fun x y H Q => y = .non ∧ Q (.bl (!decide (x = .non))) H
/-! ### in -/
theorem flat_of {K : PySem.W.Frag} {d : D} {v : V} (h : d.flat = true) (r : Rep K T F v d) : flatV v = true := by
  cases r <;> first | rfl | cases h | (rename_i o r; cases r <;> cases h)
theorem eqV_of {K : PySem.W.Frag} {x y : D} {v w : V} (hx : x.flat = true) (hy : y.flat = true) (rx : Rep K T F v x) (ry : Rep K T F w y) : eqV v w = D.eqv x y := by
  cases x <;> cases y <;> first
    | (cases hx; done)
    | (cases hy; done)
    | (rw [rx.non_inv, ry.non_inv]; rfl)
    | (rw [rx.non_inv, ry.int_inv]; rfl)
    | (rw [rx.int_inv, ry.non_inv]; rfl)
    | (rw [rx.non_inv, ry.bl_inv]; rfl)
    | (rw [rx.bl_inv, ry.non_inv]; rfl)
    | (rw [rx.non_inv, ry.str_inv.1]; rfl)
    | (rw [rx.str_inv.1, ry.non_inv]; rfl)
    | (rw [rx.int_inv, ry.int_inv]; first | rfl | simp [eqV, D.eqv])
    | (rw [rx.bl_inv, ry.bl_inv]; first | rfl | simp [eqV, D.eqv])
    | (rw [rx.bl_inv, ry.int_inv]; first | rfl | simp [eqV, D.eqv])
    | (rw [rx.int_inv, ry.bl_inv]; first | rfl | simp [eqV, D.eqv])
    | (rw [rx.str_inv.1, ry.str_inv.1]; simp only [eqV, D.eqv, tx_beq]; done)
    | (rw [rx.int_inv, ry.str_inv.1]; rfl)
    | (rw [rx.str_inv.1, ry.int_inv]; rfl)
    | (rw [rx.bl_inv, ry.str_inv.1]; rfl)
    | (rw [rx.str_inv.1, ry.bl_inv]; rfl)
theorem any_of {K : PySem.W.Frag} {x : D} {v : V} (hx : x.flat = true) (rx : Rep K T F v x) : ∀ {ys : List D} {vs : List V}, ys.all D.flat = true → RepL K T F vs ys → vs.all flatV = true ∧ inV v vs = ys.any fun y => D.eqv y x
  | _, _, _, .nil => ⟨rfl, rfl⟩
  | _ :: _, _ :: _, h, .cons r rs => by
    rw [List.all_cons, Bool.and_eq_true] at h
    obtain ⟨h1, h2⟩ := any_of hx rx h.2 rs
    refine ⟨by rw [List.all_cons, flat_of h.1 r, h1]; rfl, ?_⟩
    show ((_ :: _).any fun y => eqV y v) = _
    rw [List.any_cons, List.any_cons, eqV_of h.1 hx r rx, ← h2]
    rfl
def rInA (X : Cx) (n : Bool) : R2 := fun x y H Q => (∃ (c : Nat) (z : Str), x = .str ⟨#[c]⟩ ∧ y = .str z ∧ Q (.bl (if n then !decide (c ∈ z.cps.toList) else decide (c ∈ z.cps.toList))) H) ∨ rIn X.K n x y H Q
theorem op_inA : OpR X (compareOp .In) (rInA X false) := op_in_sign.or op_in_seq
theorem in_of {n : Bool} {x y : D} {v w : V} {k : Bool → Prop} {Q : VK} (s : SmW F H) (rx : Rep X.K T F v x) (ry : Rep X.K T F w y) (h : inD x y k) (kk : ∀ b, k b → Q (.bl (if n then !b else b)) H) : rInA X n v w H Q := by
  unfold inD at h
  split at h
  · obtain ⟨ex, _⟩ := rx.str_inv
    obtain ⟨ey, _⟩ := ry.str_inv
    refine .inl ⟨_, _, ex, ey, ?_⟩
    have := kk _ h
    rw [tx_list]
    exact this
  · obtain ⟨hx, hy, hk⟩ := h
    obtain ⟨p, vs, rfl, hp, ra⟩ := ry.lst_inv
    obtain ⟨h1, h2⟩ := any_of hx rx hy ra
    exact .inr ⟨p, vs, rfl, .inl (.of (s _ _ hp)), flat_of hx rx, h1, by rw [h2]; exact kk _ hk⟩
  · obtain ⟨hx, hy, hk⟩ := h
    obtain ⟨p, vs, rfl, hp, ra⟩ := ry.tup_inv
    obtain ⟨h1, h2⟩ := any_of hx rx hy ra
    exact .inr ⟨p, vs, rfl, .inr (.of (s _ _ hp)), flat_of hx rx, h1, by rw [h2]; exact kk _ hk⟩
  · exact h.elim
theorem ok_in : OpOk X.K T inDv (rInA X false) := by
  intro F H x y dx dy k Q s rx ry ho kk
  exact in_of s rx ry ho fun b hb => kk _ _ _ (.fz (.bl _)) hb
/-! ### subscripts -/
theorem ixN_eq (n : Nat) (i : Int) : DL.ixN n i = L2.ixN n i := rfl
theorem atI_of {α : Type} {xs : List α} {i : Int} {j : Nat} {v : α} (h1 : DL.ixN xs.length i = some j) (h2 : xs[j]? = some v) : atI xs i = some v := by
  unfold atI
  rw [← ixN_eq, h1]
  exact h2
theorem okTx.len {l : Tx} (h : okTx l) : (tx l).length ≤ sizeLine := by rw [tx_len]; exact h.2
theorem ok_ix : OpOk X.K T ixD (rIx X.K) := by
  intro F H x y dx dy k Q s rx ry ho kk
  unfold ixD at ho
  split at ho
  · obtain ⟨j, d, h1, h2, hk⟩ := ho
    obtain ⟨p, vs, rfl, hp, ra⟩ := rx.lst_inv
    obtain ⟨v, e1, e2⟩ := ra.get h2
    exact .inl ⟨p, vs, _, v, rfl, ry.int_inv, .of (s _ _ hp), atI_of (by rw [ra.length]; exact h1) e1, kk _ _ _ (.fz e2) hk⟩
  · obtain ⟨j, d, h1, h2, hk⟩ := ho
    obtain ⟨p, vs, rfl, hp, ra⟩ := rx.tup_inv
    obtain ⟨v, e1, e2⟩ := ra.get h2
    exact .inr (.inl ⟨p, vs, _, v, rfl, ry.int_inv, .of (s _ _ hp), atI_of (by rw [ra.length]; exact h1) e1, kk _ _ _ (.fz e2) hk⟩)
  · rename_i l i k
    obtain ⟨j, c, h1, h2, hk⟩ := ho
    obtain ⟨ex, z⟩ := rx.str_inv
    refine .inr (.inr ⟨_, _, c, ex, ry.int_inv, z.len, ?_, ?_⟩)
    · rw [tx_list]; exact atI_of h1 h2
    · have hc := z.1 c (List.mem_of_getElem? h2)
      exact kk (.str (tx [c])) _ _ (.fz (.str ⟨fun c' h => by rw [List.mem_singleton] at h; rw [h]; exact hc, by show 1 ≤ sizeLine; rw [sizeLine_eq]; decide⟩)) hk
  · exact ho.elim
theorem pd_ix (ha : PD X T B M W a f) (hb : PD X T B M W b g) (hs : PlainIx b := by exact fun _ _ => rfl) : PD X T B M W (.Subscript a b pos) (dOp ixD f g) :=
  pe_imp (pe_ix ix_seq ha hb hs) fun σ H Q z => tOp_of ok_ix z
theorem sIx_eq (n d : Nat) (o : Option Int) : DL.sIx n d o = HT.sIx n d o := by
  cases o with
  | none => rfl
  | some i => rfl
theorem RepL.cut {vs : List V} {xs : List D} (lo hi : Option Int) (h : RepL X.K T F vs xs) : RepL X.K T F (cutV vs lo hi) (DL.cut xs lo hi) := by
  unfold cutV DL.cut
  rw [sIx_eq, sIx_eq, h.length]
  exact (h.drop _).take _
end
end DL

set_option Elab.async false
set_option linter.all false
set_option autoImplicit false
set_option maxRecDepth 100000
/-! DLX4: slices, arguments, built-in functions, tests, and, or, not. -/
namespace DL
open PySem PySem.Spec PyProof.Rows L2
section
variable {X : Cx} {T : Tb} {B : Bs} {M : List Nat} {W : EK} {F H : Hp} {ρ : Env} {σ : L2.St}
variable {a b c e : Expr} {f g h : DE} {pos : Pos}
/-! ### slices -/
def lO (K : PySem.W.Frag) (T : Tb) (B : Bs) (M : List Nat) (W : EK) (o : Option DE) : TO := fun σ H Q => ∃ F ρ Qd, SR K T B M F H ρ σ ∧ dPart o ρ Qd W ∧ ∀ F' H' ρ' i, Same F F' → SR K T B M F' H' ρ' σ → Qd i ρ' → Q i H'
theorem po_imp {e : Option Expr} {t t' : TO} (h : PO X e t) (k : ∀ σ H Q, t' σ H Q → t σ H Q) : PO X e t' := ⟨fun pins s σ H Q I q => h.run pins s σ H Q I (k σ H Q q)⟩
theorem pdo_none : PO X none (lO X.K T B M W none) := po_imp po_none fun σ H Q ⟨F, ρ, Qd, S, h, k⟩ => k F H ρ none (Same.refl _) S h
theorem pdo_some (he : PD X T B M W e f) : PO X (some e) (lO X.K T B M W (some f)) := po_imp (po_some he) fun σ H Q ⟨F, ρ, Qd, S, h, k⟩ => by
  refine lE_run S h fun F1 H1 ρ1 v1 r1 e1 S1 R1 h1 => ?_
  cases hd : r1.d with
  | int i =>
    rw [hd] at h1 R1
    exact ⟨i, R1.int_inv, k F1 H1 ρ1 (some i) e1 S1 h1⟩
  | _ => rw [hd] at h1; exact h1.elim
def rSlA (X : Cx) : V → Option Int → Option Int → Hp → VK → Prop := fun x lo hi H Q => rSlL X.K x lo hi H Q ∨ rSlS x lo hi H Q
theorem sl_A : SlR X (rSlA X) := sl_list.or sl_str
theorem cutS_tx (l : Tx) (lo hi : Option Int) : cutS (tx l) lo hi = tx (DL.cut l lo hi) := by
  unfold cutS DL.cut
  rw [tx_len, tx_list, sIx_eq, sIx_eq]
  rfl
theorem okTx.cut {l : Tx} (h : okTx l) (lo hi : Option Int) : okTx (DL.cut l lo hi) := by
  unfold DL.cut
  refine ⟨fun c hc => h.1 c (List.mem_of_mem_drop (List.mem_of_mem_take hc)), ?_⟩
  rw [List.length_take, List.length_drop]
  exact Nat.le_trans (Nat.le_trans (Nat.min_le_right _ _) (Nat.sub_le _ _)) h.2
theorem pd_sl {lo hi : Option Expr} {l u : Option DE} {p2 : Pos} (he : PD X T B M W e f) (hl : PO X lo (lO X.K T B M W l)) (hh : PO X hi (lO X.K T B M W u)) : PD X T B M W (.Subscript e (.Slice lo hi none p2) pos) (dSl f l u) := by
  refine pe_imp (pe_slice sl_A he hl hh) fun σ H Q ⟨F, ρ, Qd, S, h, k⟩ => ?_
  refine lE_run S h fun F1 H1 ρ1 v1 r1 e1 S1 R1 h1 => ?_
  refine ⟨F1, ρ1, _, S1, h1, fun F2 H2 ρ2 i e2 S2 h2 => ?_⟩
  refine ⟨F2, ρ2, _, S2, h2, fun F3 H3 ρ3 j e3 S3 h3 => ?_⟩
  have R := R1.mono (e2.trans e3)
  have e := e1.trans (e2.trans e3)
  cases hd : r1.d with
  | lst xs =>
    rw [hd] at h3 R
    obtain ⟨p, vs, rfl, hp, ra⟩ := R.lst_inv
    exact .inl ⟨p, vs, rfl, .of (S3.sub _ _ hp), fun q hq => lE_end k e S3 (.fr hq (.lst (ra.cut i j))) h3⟩
  | frl xs =>
    rw [hd] at h3 R
    obtain ⟨p, vs, rfl, hp, ra⟩ := R.frl_inv
    exact .inl ⟨p, vs, rfl, S3.sub.seq hp, fun q hq => lE_end k e S3 (.fr hq (.lst (ra.cut i j))) h3⟩
  | str x =>
    rw [hd] at h3 R
    obtain ⟨ex, z⟩ := R.str_inv
    refine .inr ⟨_, ex, z.len, ?_⟩
    rw [cutS_tx]
    exact lE_end k e S3 (.fz (.str (z.cut i j))) h3
  | _ => rw [hd] at h3; exact h3.elim
/-! ### arguments, displays -/
theorem zaE : PDA X T B M W [] [] := pa_imp pa_nil fun σ H Q ⟨F, ρ, Qd, S, h, k⟩ => k F H ρ [] [] (Same.refl _) S .nil h
theorem zaB {es : List Expr} {fs : List DE} (he : PD X T B M W e f) (hr : PDA X T B M W es fs) (hs : starEach (e :: es) X.env = (false, eval e X.env) :: starEach es X.env := by rfl) : PDA X T B M W (e :: es) (f :: fs) :=
  pa_imp (pa_cons he hr hs) fun σ H Q ⟨F, ρ, Qd, S, h, k⟩ => by
    refine lE_run S h fun F1 H1 ρ1 v1 r1 e1 S1 R1 h1 => ?_
    refine lA_run S1 h1 fun F2 H2 ρ2 vs ds e2 S2 R2 h2 => ?_
    exact k F2 H2 ρ2 _ _ (e1.trans e2) S2 (.cons (R1.mono e2) R2) h2
theorem pd_lst {es : List Expr} {fs : List DE} (h : PDA X T B M W es fs) : PD X T B M W (.List es pos) (dLst fs) :=
  pe_imp (pe_lst h) fun σ H Q ⟨F, ρ, Qd, S, h, k⟩ => by
    refine lA_run S h fun F1 H1 ρ1 vs ds e1 S1 R1 h1 => ?_
    exact ⟨by rw [R1.length, ← maxTx_eq]; exact h1.1, fun p hp => lE_end k e1 S1 (.fr hp (.lst R1)) h1.2⟩
theorem pd_tup {x1} {es : List Expr} {fs : List DE} (h : PDA X T B M W es fs) : PD X T B M W (.Tuple es x1 pos) (dTup fs) :=
  pe_imp (pe_tup h) fun σ H Q ⟨F, ρ, Qd, S, h, k⟩ => by
    refine lA_run S h fun F1 H1 ρ1 vs ds e1 S1 R1 h1 => ?_
    exact ⟨by rw [R1.length, ← maxTx_eq]; exact h1.1, fun p hp => lE_end k e1 S1 (.fr hp (.tup R1)) h1.2⟩
/-- a built-in's rule does what op says of data -/
def FnR (K : PySem.W.Frag) (T : Tb) (op : List D → (R → Prop) → Prop) (r : List V → Hp → VK → Prop) : Prop :=
  ∀ F H vs ds k Q, SmW F H → RepL K T F vs ds → op ds k → (∀ v H' t, NewR K T F H v H' t → k t → Q v H') → r vs H Q
theorem tCB_of {op : List D → (R → Prop) → Prop} {r : List V → Hp → VK → Prop} {fs : List DE} (ho : FnR X.K T op r) {H : Hp} {Q : VK} (h : lE X.K T B M W (dFn op fs) σ H Q) : tCB r (lA X.K T B M W fs) σ H Q := by
  obtain ⟨F, ρ, Qd, S, h, k⟩ := h
  refine lA_run S h fun F1 H1 ρ1 vs ds e1 S1 R1 h1 => ?_
  exact ho F1 H1 vs ds _ _ S1.sub.toSmW R1 h1 fun v H' t n q => lE_end k e1 S1 n q
variable {es : List Expr} {fs : List DE} {x : Str} {p : Pos} {id : String} {op : List D → (R → Prop) → Prop} {r : List V → Hp → VK → Prop}
theorem pd_callB (ho : FnR X.K T op r) (hc : CallR X (.builtin id) r) (hg : Gl X x) (hm : X.mg x = none) (hv : bootBuiltins x = some (.builtin id)) (ha : PDA X T B M W (e :: es) fs) (hn : x ≠ "__name__" := by decide) (hdb : (x == ("__debug__" : Str)) = false := by decide)
    (he : starEach (e :: es) X.env = (false, eval e X.env) :: starEach es X.env := by rfl) (hpl : (backTo pos (starEach es X.env)).any (·.1) = false := by rfl) : PD X T B M W (.Call (.Name x p) (e :: es) [] pos) (dFn op fs) :=
  pe_imp (pe_callB hc hg hm hv ha hn hdb he hpl) fun σ H Q z => tCB_of ho z
theorem pd_callTy (ho : FnR X.K T op r) (hc : CallR X (.type id) r) (hg : Gl X x) (hm : X.mg x = none) (hv : bootBuiltins x = some (.type id)) (ha : PDA X T B M W (e :: es) fs) (hn : x ≠ "__name__" := by decide) (hdb : (x == ("__debug__" : Str)) = false := by decide)
    (he : starEach (e :: es) X.env = (false, eval e X.env) :: starEach es X.env := by rfl) (hpl : (backTo pos (starEach es X.env)).any (·.1) = false := by rfl) : PD X T B M W (.Call (.Name x p) (e :: es) [] pos) (dFn op fs) :=
  pe_imp (pe_callTy hc hg hm hv ha hn hdb he hpl) fun σ H Q z => tCB_of ho z
/-! ### tests -/
theorem pdt_val (he : PD X T B M W e f) (hh : ∀ whole, isTrue e X.env whole = (do let v ← whole; standAt e.pos; holding [v] (truthy v)) := by intro _; rfl) : PDT X T B M W e (tVal f) :=
  pt_imp (pt_val he hh) fun σ H Q ⟨F, ρ, Qd, S, h, k⟩ => by
    refine lE_run S h fun F1 H1 ρ1 v1 r1 e1 S1 R1 h1 => ?_
    cases hd : r1.d with
    | bl b => rw [hd] at h1 R1; exact ⟨b, R1.bl_inv, k F1 H1 ρ1 b e1 S1 h1⟩
    | _ => rw [hd] at h1; exact h1.elim
/-- a comparison as a test -/
theorem pdt_cmp {o : CmpOp} {op : D → D → (R → Prop) → Prop} {r : R2} (hr : OpR X (compareOp o) r) (ho : OpOk X.K T op r) (ha : PD X T B M W a f) (hb : PD X T B M W b g) (hm : behindInMarks o b = false) : PDT X T B M W (.Compare a [o] [b] pos) (tVal (dOp op f g)) :=
  pt_imp (pt_cmpR hr ha hb hm) fun σ H Q ⟨F, ρ, Qd, S, h, k⟩ => by
    refine tOp_of (op := op) (f := f) (g := g) ho ⟨F, ρ, _, S, h, fun F1 H1 ρ1 v1 r1 e1 S1 R1 h1 => ?_⟩
    obtain ⟨F2, e2, S2, R2⟩ := S1.fix R1
    cases hd : r1.d with
    | bl b => rw [hd] at h1 R2; exact ⟨b, R2.bl_inv, k F2 H1 ρ1 b (e1.trans e2) S2 h1⟩
    | _ => rw [hd] at h1; exact h1.elim
theorem pdt_isnN {k} {p2 : Pos} (ha : PD X T B M W a f) : PDT X T B M W (.Compare a [.IsNot] [.Constant .none k p2] pos) (tVal (dUn isnD f)) :=
  pt_imp (pt_cmp (pc_notN ha) rfl) fun σ H Q ⟨F, ρ, Qd, S, h, k⟩ => by
    refine lE_run S h fun F1 H1 ρ1 v1 r1 e1 S1 R1 h1 => ?_
    rw [isNon_of R1]
    exact ⟨_, rfl, k F1 H1 ρ1 _ e1 S1 h1⟩
variable {tA tB' : DT} {rest : List Expr}
theorem pdw_and1 (ha : PDT X T B M W a tA) : PDW X T B M W (.BoolOp .And [a] pos) tA := pw_and1 ha
theorem pdw_or1 (ha : PDT X T B M W a tA) : PDW X T B M W (.BoolOp .Or [a] pos) tA := pw_or1 ha
theorem pdw_and (ha : PDT X T B M W a tA) (hb : PDW X T B M W (.BoolOp .And (b :: rest) pos) tB') : PDW X T B M W (.BoolOp .And (a :: b :: rest) pos) (DL.tAnd tA tB') :=
  pw_imp (pw_and ha hb) fun σ H Q ⟨F, ρ, Qd, S, h, k⟩ => by
    refine lT_run S h fun F1 H1 ρ1 z e1 S1 h1 => ?_
    cases z with
    | true => exact ⟨F1, ρ1, _, S1, h1, fun F2 H2 ρ2 z e2 => k F2 H2 ρ2 z (e1.trans e2)⟩
    | false => exact k F1 H1 ρ1 false e1 S1 h1
theorem pdw_or (ha : PDT X T B M W a tA) (hb : PDW X T B M W (.BoolOp .Or (b :: rest) pos) tB') : PDW X T B M W (.BoolOp .Or (a :: b :: rest) pos) (DL.tOr tA tB') :=
  pw_imp (pw_or ha hb) fun σ H Q ⟨F, ρ, Qd, S, h, k⟩ => by
    refine lT_run S h fun F1 H1 ρ1 z e1 S1 h1 => ?_
    cases z with
    | false => exact ⟨F1, ρ1, _, S1, h1, fun F2 H2 ρ2 z e2 => k F2 H2 ρ2 z (e1.trans e2)⟩
    | true => exact k F1 H1 ρ1 true e1 S1 h1
theorem pdt_w (h : PDW X T B M W e tA) : PDT X T B M W e tA := h.pt
theorem pdt_not (ha : PDT X T B M W a tA) : PDT X T B M W (.UnaryOp .Not a pos) (DL.tNot tA) :=
  pt_imp (pt_not ha) fun σ H Q ⟨F, ρ, Qd, S, h, k⟩ => lT_run S h fun F1 H1 ρ1 z e1 S1 h1 => k F1 H1 ρ1 _ e1 S1 h1
theorem pd_one {o} (h : PD X T B M W a f) : PD X T B M W (.BoolOp o [a] pos) f := pe_one h
theorem bl_run {Qd : R → Env → Prop} {Q : VK} {G : Bool → Env → Prop} (S : SR X.K T B M F H ρ σ) (h : f ρ (fun r ρ1 => match r.d with | .bl z => G z ρ1 | _ => False) W)
    (k : ∀ F' H' ρ' z, Same F F' → SR X.K T B M F' H' ρ' σ → G z ρ' → Q (.bl z) H') : lE X.K T B M W f σ H Q := by
  refine lE_run S h fun F1 H1 ρ1 v1 r1 e1 S1 R1 h1 => ?_
  cases hd : r1.d with
  | bl z => rw [hd] at h1 R1; rw [R1.bl_inv]; exact k F1 H1 ρ1 z e1 S1 h1
  | _ => rw [hd] at h1; exact h1.elim
theorem pd_and (ha : PD X T B M W a f) (hb : PD X T B M W (.BoolOp .And (b :: rest) pos) g) : PD X T B M W (.BoolOp .And (a :: b :: rest) pos) (dAnd f g) :=
  pe_imp (pe_and ha hb) fun σ H Q ⟨F, ρ, Qd, S, h, k⟩ => by
    refine bl_run (Qd := Qd) (G := fun z ρ1 => if z = true then g ρ1 Qd W else Qd (.fz (.bl false)) ρ1) S h fun F1 H1 ρ1 z e1 S1 h1 => ⟨z, rfl, ?_⟩
    cases z with
    | true => exact ⟨F1, ρ1, _, S1, h1, fun F2 H2 ρ2 v r e2 => k F2 H2 ρ2 v r (e1.trans e2)⟩
    | false => exact k F1 H1 ρ1 _ (.fz (.bl false)) e1 S1 (.bl false) h1
theorem pd_or (ha : PD X T B M W a f) (hb : PD X T B M W (.BoolOp .Or (b :: rest) pos) g) : PD X T B M W (.BoolOp .Or (a :: b :: rest) pos) (dOr f g) :=
  pe_imp (pe_or ha hb) fun σ H Q ⟨F, ρ, Qd, S, h, k⟩ => by
    refine bl_run (Qd := Qd) (G := fun z ρ1 => if z = true then Qd (.fz (.bl true)) ρ1 else g ρ1 Qd W) S h fun F1 H1 ρ1 z e1 S1 h1 => ⟨z, rfl, ?_⟩
    cases z with
    | false => exact ⟨F1, ρ1, _, S1, h1, fun F2 H2 ρ2 v r e2 => k F2 H2 ρ2 v r (e1.trans e2)⟩
    | true => exact k F1 H1 ρ1 _ (.fz (.bl true)) e1 S1 (.bl true) h1
theorem pd_not (ha : PD X T B M W a f) : PD X T B M W (.UnaryOp .Not a pos) (dNot f) :=
  pe_imp (pe_not ha) fun σ H Q ⟨F, ρ, Qd, S, h, k⟩ => by
    refine bl_run (Qd := Qd) (G := fun z ρ1 => Qd (.fz (.bl (!z))) ρ1) S h fun F1 H1 ρ1 z e1 S1 h1 => ⟨z, rfl, ?_⟩
    exact k F1 H1 ρ1 _ (.fz (.bl (!z))) e1 S1 (.bl _) h1
theorem pd_if {c : Expr} (hc : PDT X T B M W c tA) (ha : PD X T B M W a f) (hb : PD X T B M W b g) : PD X T B M W (.IfExp c a b pos) (dIfE tA f g) :=
  pe_imp (pe_ifExp hc ha hb) fun σ H Q ⟨F, ρ, Qd, S, h, k⟩ => by
    refine lT_run S h fun F1 H1 ρ1 z e1 S1 h1 => ?_
    cases z with
    | true => exact ⟨F1, ρ1, _, S1, h1, fun F2 H2 ρ2 v r e2 => k F2 H2 ρ2 v r (e1.trans e2)⟩
    | false => exact ⟨F1, ρ1, _, S1, h1, fun F2 H2 ρ2 v r e2 => k F2 H2 ρ2 v r (e1.trans e2)⟩
theorem tChain_of {op op' : D → D → (R → Prop) → Prop} {r r' : R2} (ho : OpOk X.K T op r) (ho' : OpOk X.K T op' r') {H : Hp} {Q : VK} (z : lE X.K T B M W (dChain op op' f g h) σ H Q) : tChain r r' (lE X.K T B M W f) (lE X.K T B M W g) (lE X.K T B M W h) σ H Q := by
  obtain ⟨F, ρ, Qd, S, h0, k⟩ := z
  refine lE_run S h0 fun F1 H1 ρ1 v1 r1 e1 S1 R1 h1 => lE_run S1 h1 fun F2 H2 ρ2 v2 r2 e2 S2 R2 h2 => ?_
  refine ho F2 H2 v1 v2 _ _ _ _ S2.sub.toSmW (R1.mono e2) R2 h2 fun v H' t n q => ?_
  obtain ⟨S3, RV⟩ := S2.new n
  obtain ⟨F3, e3, S3, R3⟩ := S3.fix RV
  cases hd : t.d with
  | bl z =>
    rw [hd] at q R3
    refine ⟨z, R3.bl_inv, ?_⟩
    cases z with
    | false => exact k F3 H' ρ2 _ (.fz (.bl false)) (e1.trans (e2.trans e3)) S3 (.bl false) q
    | true =>
      have q : h ρ2 (fun u ρ3 => op' r2.d u.d fun t' => Qd t' ρ3) W := q
      refine lE_run S3 q fun F4 H4 ρ4 v4 r4 e4 S4 R4 h4 => ?_
      exact ho' F4 H4 v2 v4 _ _ _ _ S4.sub.toSmW (R2.mono (e3.trans e4)) R4 h4 fun v H' t n q => lE_end k (e1.trans (e2.trans (e3.trans e4))) S4 n q
  | _ => rw [hd] at q; exact q.elim
theorem pd_chain {o o' : CmpOp} {op op' : D → D → (R → Prop) → Prop} {r r' : R2} (hr : OpR X (compareOp o) r) (ho : OpOk X.K T op r) (hr' : OpR X (compareOp o') r') (ho' : OpOk X.K T op' r') (ha : PD X T B M W a f) (hb : PD X T B M W b g) (hc : PD X T B M W c h)
    (hm : lastMarks [o, o'] [b, c] = false := by with_unfolding_all rfl) : PD X T B M W (.Compare a [o, o'] [b, c] pos) (dChain op op' f g h) :=
  pe_imp (pe_chain hr hr' ha hb hc hm) fun σ H Q z => tChain_of ho ho' z
theorem ix_own {K : PySem.W.Frag} {p : Addr} {o : HO} {d dy : D} {w : V} {k : R → Prop} {Q : VK} (hH : H p = some o) (ro : RepO K T F o d) (ry : Rep K T F w dy) (h : ixD d dy k) (kk : ∀ v t, Rep K T F v t → k (.fz t) → Q v H) : rIx K (.ref p) w H Q := by
  cases ro with
  | lst ra =>
    cases dy with
    | int i =>
      obtain ⟨j, t, h1, h2, hk⟩ := h
      obtain ⟨v, e1, e2⟩ := ra.get h2
      exact .inl ⟨p, _, _, v, rfl, ry.int_inv, .of hH, atI_of (by rw [ra.length]; exact h1) e1, kk _ _ e2 hk⟩
    | _ => exact h.elim
  | tup ra =>
    cases dy with
    | int i =>
      obtain ⟨j, t, h1, h2, hk⟩ := h
      obtain ⟨v, e1, e2⟩ := ra.get h2
      exact .inr (.inl ⟨p, _, _, v, rfl, ry.int_inv, .of hH, atI_of (by rw [ra.length]; exact h1) e1, kk _ _ e2 hk⟩)
    | _ => exact h.elim
  | dct _ => cases dy <;> exact h.elim
  | obj _ _ _ => cases dy <;> exact h.elim
  | dcT _ => cases dy <;> exact h.elim
/-! ### an item of an object that stays its name's own -/
theorem pd_ixN {i : Nat} {x : Str} {px : Pos} (hN : X.N[i]? = some x) (hv : Vis X.env.scope x) (hb : PD X T B M W b g) (hs : PlainIx b := by exact fun _ _ => rfl) (hd : (x == ("__debug__" : Str)) = false := by decide) (hcd : (x == ("__classdict__" : Str)) = false := by decide) :
    PD X T B M W (.Subscript (.Name x px) b pos) (dIxN i g) :=
  pe_imp (pe_ix ix_seq (pe_var hN hv hd hcd) hb hs) fun σ H Q ⟨F, ρ, Qd, S, h, k⟩ => by
    unfold dIxN at h
    obtain ⟨hkn, h⟩ := h
    have hv0 : ∃ v, σ[i]? = some (some v) := by
      have hs := S.slot i
      cases e : ρ.at i with
      | no => rw [e] at hkn; cases hkn
      | fz d => rw [e] at hs; obtain ⟨v, q, _⟩ := hs; exact ⟨v, q⟩
      | own d => rw [e] at hs; obtain ⟨p, o, q, _⟩ := hs; exact ⟨_, q⟩
      | ownT d => rw [e] at hs; obtain ⟨p, o, q, _⟩ := hs; exact ⟨_, q⟩
    obtain ⟨v, ev⟩ := hv0
    refine ⟨v, ev, ?_⟩
    refine lE_run S h fun F1 H1 ρ1 v2 r1 e1 S1 R2 h1 => ?_
    have hs := S1.slot i
    cases hd : ρ1.at i with
    | no => rw [hd] at h1; exact h1.elim
    | ownT d => rw [hd] at h1; exact h1.elim
    | fz d =>
      rw [hd] at hs h1
      obtain ⟨v', ev', r⟩ := hs
      rw [ev] at ev'
      cases ev'
      exact ok_ix (X := X) F1 H1 v v2 d r1.d _ Q S1.sub.toSmW r R2 h1 fun v H' t n q => lE_end k e1 S1 n q
    | own d =>
      rw [hd] at hs h1
      obtain ⟨p, o, ep, hF, hH, ro, _⟩ := hs
      rw [ev] at ep
      cases ep
      have h1 : ixD d r1.d (fun t => Qd t ρ1) := h1
      exact ix_own hH ro R2 h1 fun v t r q => lE_end k e1 S1 (.fz r) q
end
end DL

set_option Elab.async false
set_option linter.all false
set_option autoImplicit false
set_option maxRecDepth 100000
/-! DLX5: what is walked, targets, statements, loops. -/
namespace DL
open PySem PySem.Spec PyProof.Rows L2
/-- what is wanted behind a statement, over data -/
def lS (K : PySem.W.Frag) (T : Tb) (B : Bs) (M : List Nat) (W : EK) (f : DS) : TS := fun J σ H => ∃ F ρ Jd, SR K T B M F H ρ σ ∧ f Jd ρ W ∧
  (∀ F' H' ρ' σ', Same F F' → SR K T B M F' H' ρ' σ' → Jd.nx ρ' → J.nx σ' H') ∧
  (∀ F' H' ρ' σ' v r, Same F F' → SR K T B M F' H' ρ' σ' → RetV K T B F' H' ρ' σ' v r → Jd.rt r ρ' → J.rt v H') ∧
  (∀ F' H' ρ' σ', Same F F' → SR K T B M F' H' ρ' σ' → Jd.bk ρ' → J.bk σ' H') ∧
  (∀ F' H' ρ' σ', Same F F' → SR K T B M F' H' ρ' σ' → Jd.ct ρ' → J.ct σ' H')
def lG (K : PySem.W.Frag) (T : Tb) (B : Bs) (M : List Nat) (g : DG) : TG := fun v σ H Q => ∃ F ρ d Qd, SR K T B M F H ρ σ ∧ Rep K T F v d ∧ g d ρ Qd ∧ ∀ F' H' ρ' σ', Same F F' → SR K T B M F' H' ρ' σ' → Qd ρ' → Q σ' H'
abbrev PDS (X : Cx) (T : Tb) (B : Bs) (M : List Nat) (W : EK) (s : Stmt) (f : DS) : Prop := PS X s (lS X.K T B M W f)
abbrev PDSs (X : Cx) (T : Tb) (B : Bs) (M : List Nat) (W : EK) (s : List Stmt) (f : DS) : Prop := PSs X s (lS X.K T B M W f)
abbrev PDG (X : Cx) (T : Tb) (B : Bs) (M : List Nat) (e : Expr) (g : DG) : Prop := PG X e (lG X.K T B M g)
theorem ps_imp {X : Cx} {s : Stmt} {t t' : TS} (h : PS X s t) (k : ∀ J σ H, t' J σ H → t J σ H) : PS X s t' := ⟨fun pins s σ H J I q => h.run pins s σ H J I (k J σ H q)⟩
theorem pss_imp {X : Cx} {s : List Stmt} {t t' : TS} (h : PSs X s t) (k : ∀ J σ H, t' J σ H → t J σ H) : PSs X s t' := ⟨fun pins s σ H J I q => h.run pins s σ H J I (k J σ H q)⟩
theorem pg_imp {X : Cx} {e : Expr} {t t' : TG} (h : PG X e t) (k : ∀ v σ H Q, t' v σ H Q → t v σ H Q) : PG X e t' := ⟨fun pins s σ H v u Q I r q => h.run pins s σ H v u Q I r (k v σ H Q q)⟩
section
variable {X : Cx} {T : Tb} {B : Bs} {M : List Nat} {W : EK} {F H : Hp} {ρ : Env} {σ : L2.St}
variable {a b c e : Expr} {f g h : DE} {pos : Pos} {tg : Expr}
/-! ### a name's slot is stored -/
theorem SR.put {i : Nat} {v : V} {s : Slot} (S : SR X.K T B M F H ρ σ) (hi : i ∉ M) (hs : SlotOk X.K T F H (some (some v)) s) (hn : ∀ a ∈ foot H (some (some v)) s, (B.H0 a = none ∨ B.O1 i a) ∧ ∀ j, j ≠ i → a ∉ foot H (σ[j]?) (ρ.at j)) :
    SR X.K T B M F H (ρ.set i s) (σ.set i (some v)) := by
  by_cases hl : i < ρ.length
  · have hl' : i < σ.length := by rw [← S.len]; exact hl
    have same : ((σ.set i (some v))[i]? = some (some v)) ∧ Env.at (ρ.set i s) i = s := ⟨List.getElem?_set_self hl', Env.at_set_same hl⟩
    have other : ∀ j, i ≠ j → (σ.set i (some v))[j]? = σ[j]? ∧ Env.at (ρ.set i s) j = ρ.at j := fun j hj => ⟨List.getElem?_set_ne hj, Env.at_set_ne hj⟩
    refine ⟨S.sub, S.keep, S.live, S.f0, S.fnew, by simp [S.len], fun j => ?_, fun j a ha => ?_, fun j k a h1 h2 => ?_, fun j hj => ?_, S.tabs⟩
    · by_cases hj : i = j
      · subst hj
        rw [same.1, same.2]
        exact hs
      · rw [(other j hj).1, (other j hj).2]
        exact S.slot j
    · by_cases hj : i = j
      · subst hj
        rw [same.1, same.2] at ha
        exact (hn a ha).1
      · rw [(other j hj).1, (other j hj).2] at ha
        exact S.newF j a ha
    · by_cases hj : i = j
      · subst hj
        by_cases hk : i = k
        · exact hk
        · rw [same.1, same.2] at h1
          rw [(other k hk).1, (other k hk).2] at h2
          exact absurd h2 ((hn a h1).2 k (Ne.symm hk))
      · by_cases hk : i = k
        · subst hk
          rw [same.1, same.2] at h2
          rw [(other j hj).1, (other j hj).2] at h1
          exact absurd h1 ((hn a h2).2 j (Ne.symm hj))
        · rw [(other j hj).1, (other j hj).2] at h1
          rw [(other k hk).1, (other k hk).2] at h2
          exact S.injF j k a h1 h2
    · have : i ≠ j := fun z => hi (z ▸ hj)
      rw [List.getElem?_set_ne this]
      exact S.pin j hj
  · rw [List.set_eq_of_length_le (by omega), List.set_eq_of_length_le (by rw [← S.len]; omega)]
    exact S
theorem SR.putFz {i : Nat} {v : V} {d : D} (S : SR X.K T B M F H ρ σ) (hi : i ∉ M) (r : Rep X.K T F v d) : SR X.K T B M F H (ρ.set i (.fz d)) (σ.set i (some v)) :=
  S.put hi ⟨v, rfl, r⟩ fun a ha => by rw [foot_fz] at ha; simp at ha
theorem SR.putOwn {i : Nat} {p : Addr} {o : HO} {d : D} (S : SR X.K T B M F H ρ σ) (hi : i ∉ M) (hF : F p = none) (hH : H p = some o) (ro : RepO X.K T F o d) (hn : B.H0 p = none ∨ B.O1 i p) (hno : ∀ j, p ∉ foot H (σ[j]?) (ρ.at j)) (nt : tupB o = false) : SR X.K T B M F H (ρ.set i (.own d)) (σ.set i (some (.ref p))) :=
  S.put hi ⟨p, o, rfl, hF, hH, ro, nt⟩ fun a ha => by
    rw [foot_own] at ha
    rw [List.mem_singleton.mp ha]
    exact ⟨hn, fun j _ => hno j⟩
theorem SR.putOwnT {i : Nat} {p : Addr} {o : HO} {d : D} (S : SR X.K T B M F H ρ σ) (hi : i ∉ M) (hF : F p = none) (hH : H p = some o) (ro : TreeO X.K T F H o d) (nd : (p :: footO o d).Nodup) (hn : ∀ a ∈ p :: footO o d, B.H0 a = none ∧ ∀ j, a ∉ foot H (σ[j]?) (ρ.at j)) (nt : tupB o = false) : SR X.K T B M F H (ρ.set i (.ownT d)) (σ.set i (some (.ref p))) :=
  S.put hi ⟨p, o, rfl, hF, hH, ro, nd, nt⟩ fun a ha => by
    rw [foot_ownT hH] at ha
    exact ⟨.inl (hn a ha).1, fun j _ => (hn a ha).2 j⟩
/-- what a store into an own name says of a result -/
def putNx (i : Nat) (ρ : Env) (nx : Env → Prop) (fz : D → Prop) : R → Prop
  | .fr (.tup _) => False
  | .ft (.tup _) => False
  | .fr d => nx (ρ.set i (.own d))
  | .ft d => nx (ρ.set i (.ownT d))
  | .fz d => fz d
theorem SR.putN {i : Nat} {v : V} {r : R} {nx : Env → Prop} {fz : D → Prop} {P : Prop} (S : SR X.K T B M F H ρ σ) (hi : i ∉ M) (h : RetV X.K T B F H ρ σ v r) (q : putNx i ρ nx fz r) (k1 : ∀ d, r = .fz d → fz d → P) (k2 : ∀ s, SR X.K T B M F H (ρ.set i s) (σ.set i (some v)) → nx (ρ.set i s) → P) : P := by
  cases r with
  | fz d => exact k1 d rfl q
  | fr d =>
    obtain ⟨p, o, rfl, hF, hH, ro, hn, hno⟩ := h
    have nt : ∀ xs, d ≠ .tup xs := fun xs z => by subst z; exact q
    have q : nx (ρ.set i (.own d)) := by cases d <;> first | exact q | exact q.elim
    exact k2 _ (S.putOwn hi hF hH ro (.inl hn) hno (repO_nt ro nt)) q
  | ft d =>
    obtain ⟨p, o, rfl, hF, hH, ro, nd, hn⟩ := h
    have nt : ∀ xs, d ≠ .tup xs := fun xs z => by subst z; exact q
    have q : nx (ρ.set i (.ownT d)) := by cases d <;> first | exact q | exact q.elim
    exact k2 _ (S.putOwnT hi hF hH ro nd hn (treeO_nt ro nt)) q
/-! ### targets -/
theorem pdg_name {i : Nat} {x : Str} (hN : X.N.Nodup) (hi : X.N[i]? = some x) (hx : Loc X.env.scope x) (hM : i ∉ M) (hf : X.fn x = true ∨ X.env.scope.names.lookup x = some .local := by first | exact .inl rfl | exact .inr rfl | assumption) : PDG X T B M (.Name x pos) (gN i) :=
  pg_imp (pg_name hN hi hx hf) fun v σ H Q ⟨F, ρ, d, Qd, S, r, h, k⟩ => k F H _ _ (Same.refl _) (S.putFz hM r) h
def lGs (K : PySem.W.Frag) (T : Tb) (B : Bs) (M : List Nat) (is : List Nat) : TGs := fun vs σ H Q => ∃ F ρ ds Qd, SR K T B M F H ρ σ ∧ RepL K T F vs ds ∧ gNs is ds ρ Qd ∧ ∀ F' H' ρ' σ', Same F F' → SR K T B M F' H' ρ' σ' → Qd ρ' → Q σ' H'
abbrev PDGs (X : Cx) (T : Tb) (B : Bs) (M : List Nat) (es : List Expr) (is : List Nat) : Prop := PGs X es (lGs X.K T B M is)
theorem pgs_imp {es : List Expr} {t t' : TGs} (h : PGs X es t) (k : ∀ v σ H Q, t' v σ H Q → t v σ H Q) : PGs X es t' := ⟨fun pins s σ H v u Q I r q => h.run pins s σ H v u Q I r (k v σ H Q q)⟩
theorem pdgs_nil : PDGs X T B M [] [] := pgs_imp pgs_nil fun vs σ H Q ⟨F, ρ, ds, Qd, S, r, h, k⟩ => by
  cases r with
  | nil => exact ⟨rfl, k F H ρ σ (Same.refl _) S h⟩
  | cons _ _ => exact h.elim
theorem pdgs_cons {es : List Expr} {is : List Nat} {i : Nat} {x : Str} (hN : X.N.Nodup) (hi : X.N[i]? = some x) (hx : Loc X.env.scope x) (hM : i ∉ M) (h2 : PDGs X T B M es is)
    (hs : (assignEach (Expr.Name x pos :: es) X.env).map (·.2) = assign (Expr.Name x pos) X.env :: (assignEach es X.env).map (·.2) := by rfl) (hf : X.fn x = true ∨ X.env.scope.names.lookup x = some .local := by first | exact .inl rfl | exact .inr rfl | assumption) : PDGs X T B M (.Name x pos :: es) (i :: is) :=
  pgs_imp (pgs_cons (pdg_name (T := T) (B := B) hN hi hx hM hf) h2 hs) fun vs σ H Q ⟨F, ρ, ds, Qd, S, r, h, k⟩ => by
    cases r with
    | nil => exact h.elim
    | @cons v d vs ds r rs =>
      refine ⟨v, vs, rfl, F, ρ, d, fun ρ' => gNs is ds ρ' Qd, S, r, h, fun F' H' ρ' σ' e' S' q' => ?_⟩
      exact ⟨F', ρ', ds, Qd, S', rs.mono e', q', fun F2 H2 ρ2 σ2 e2 => k F2 H2 ρ2 σ2 (e'.trans e2)⟩
theorem gNs_len : ∀ {is : List Nat} {ds : List D} {ρ : Env} {k : Env → Prop}, gNs is ds ρ k → ds.length = is.length
  | [], [], _, _, _ => rfl
  | _ :: is, _ :: ds, _, _, h => congrArg (· + 1) (gNs_len (is := is) (ds := ds) h)
  | [], _ :: _, _, _, h => h.elim
  | _ :: _, [], _, _, h => h.elim
theorem pdg_tup {es : List Expr} {k : Nat} {is : List Nat} (hc : X.calm = true) (h : PDGs X T B M es is) (hn : (assignEach es X.env).length = is.length := by rfl) (hst : (assignEach es X.env).findIdx? (·.1) = none := by rfl) : PDG X T B M (.Tuple es k pos) (gT is) :=
  pg_imp (pg_tup (n := is.length) hc h hn hst) fun v σ H Q ⟨F, ρ, d, Qd, S, r, h, k⟩ => by
    cases d with
    | tup ds =>
      obtain ⟨p, vs, rfl, hp, ra⟩ := r.tup_inv
      exact ⟨p, vs, rfl, .of (S.sub _ _ hp), by rw [ra.length]; exact gNs_len h, F, ρ, ds, Qd, S, ra, h, k⟩
    | _ => exact h.elim
/-! ### what is walked -/
theorem itOk_list {K : PySem.W.Frag} {p : Addr} {vs : List V} {xs : List D} (hp : F p = some (.lst vs)) (r : RepL K T F vs xs) : ItOk K T F (Itl K p) xs := fun i F1 H e1 e2 => by
  have hq : SqL K H p vs := .of (e2 _ _ (e1 _ _ hp))
  refine ⟨fun hi => ?_, fun hi => ⟨vs, hq, by rw [r.length]; exact hi⟩⟩
  obtain ⟨v, hv, rv⟩ := r.get (List.getElem?_eq_getElem hi)
  refine ⟨⟨vs, v, hq, hv⟩, fun x H' hy => ?_⟩
  obtain ⟨rfl, hx⟩ := hy
  have e := (hx vs hq).symm.trans hv
  cases e
  exact ⟨.fz xs[i], List.getElem?_eq_getElem hi, .fz (rv.mono e1)⟩
theorem pdi_lst (he : PD X T B M W e f) : PDI X T B M W tg e (iLst f) :=
  pi_imp (pi_list he) fun σ H R ⟨F, ρ, Qd, S, h, k⟩ => by
    refine lE_run S h fun F1 H1 ρ1 v1 r1 e1 S1 R1 h1 => ?_
    cases hd : r1.d with
    | lst xs =>
      rw [hd] at h1 R1
      obtain ⟨p, vs, rfl, hp, ra⟩ := R1.lst_inv
      exact ⟨p, rfl, ⟨vs, .of (S1.sub _ _ hp)⟩, k F1 H1 ρ1 xs _ e1 S1 (itOk_list hp ra) h1⟩
    | _ => rw [hd] at h1; exact h1.elim
theorem itOk_str {K : PySem.W.Frag} {l : Tx} (z : okTx l) : ItOk K T F (Its (tx l)) (l.map fun c => .str [c]) := fun i F1 H e1 e2 => by
  refine ⟨fun hi => ?_, fun hi => by show (tx l).cps.size ≤ i; simpa [tx] using hi⟩
  have hi' : i < l.length := by simpa using hi
  refine ⟨by show i < (tx l).cps.size; simpa [tx] using hi', fun x H' hy => ?_⟩
  obtain ⟨rfl, c, hc, rfl⟩ := hy
  have hc' : l[i]? = some c := by simpa [tx] using hc
  refine ⟨.fz (.str [c]), by simp [hc', R.d], .fz ?_⟩
  have h1 := z.1 c (List.mem_of_getElem? hc')
  exact .str (l := [c]) ⟨fun c' h => by rw [List.mem_singleton] at h; rw [h]; exact h1, by show 1 ≤ sizeLine; rw [sizeLine_eq]; decide⟩
theorem pdi_str (he : PD X T B M W e f) : PDI X T B M W tg e (DL.iStr f) :=
  pi_imp (pi_str he) fun σ H R ⟨F, ρ, Qd, S, h, k⟩ => by
    refine lE_run S h fun F1 H1 ρ1 v1 r1 e1 S1 R1 h1 => ?_
    cases hd : r1.d with
    | str xs =>
      rw [hd] at h1 R1
      obtain ⟨rfl, z⟩ := R1.str_inv
      exact ⟨_, rfl, k F1 H1 ρ1 _ _ e1 S1 (itOk_str z) h1⟩
    | _ => rw [hd] at h1; exact h1.elim
theorem itOk_rng {K : PySem.W.Frag} {lo : Int} {n : Nat} : ItOk K T F (Itr lo n) (rng lo n) := fun i F1 H e1 e2 => by
  have hl : (rng lo n).length = n := by simp [rng]
  refine ⟨fun hi => ⟨by rw [hl] at hi; exact hi, fun x H' hy => ?_⟩, fun hi => by rw [hl] at hi; exact hi⟩
  obtain ⟨rfl, rfl⟩ := hy
  rw [hl] at hi
  refine ⟨.fz (.int (lo + i)), ?_, .fz (.int _)⟩
  simp [rng, hi, R.d]
theorem pdi_rng1 {p : Pos} (hg : Gl X "range") (hm : X.mg "range" = none) (ha : PD X T B M W a f) (hs : starEach [a] X.env = [(false, eval a X.env)] := by rfl) : PDI X T B M W tg (.Call (.Name "range" p) [a] [] pos) (DL.iRng1 f) :=
  pi_imp (pi_range1 hg hm (zaB ha zaE hs) hs) fun σ H R ⟨F, ρ, Qd, S, h, k⟩ => by
    refine lA_run (fs := [f]) (Qd := fun ds ρ1 => match ds with | [.int n] => (-(2 ^ 62) ≤ n ∧ n < 2 ^ 62) ∧ Qd (rng 0 n.toNat) ρ1 | _ => False) S ?_ fun F1 H1 ρ1 vs ds e1 S1 R1 h1 => ?_
    · refine (congrArg (fun z => f ρ z W) (funext fun r => funext fun ρ1 => ?_)).mp h
      show _ = (match [r.d] with | [.int n] => (-(2 ^ 62) ≤ n ∧ n < 2 ^ 62) ∧ Qd (rng 0 n.toNat) ρ1 | _ => False)
      cases r.d <;> rfl
    · split at h1
      · cases R1 with
        | cons r rs =>
          cases rs
          rw [r.int_inv]
          exact ⟨_, rfl, h1.1.1, h1.1.2, k F1 H1 ρ1 _ _ e1 S1 itOk_rng h1.2⟩
      · exact h1.elim
theorem pdi_rng2 {p : Pos} (hg : Gl X "range") (hm : X.mg "range" = none) (ha : PD X T B M W a f) (hb : PD X T B M W b g) (hs : starEach [a, b] X.env = [(false, eval a X.env), (false, eval b X.env)] := by rfl) (hs2 : starEach [b] X.env = [(false, eval b X.env)] := by rfl) :
    PDI X T B M W tg (.Call (.Name "range" p) [a, b] [] pos) (DL.iRng2 f g) :=
  pi_imp (pi_range2 hg hm (zaB ha (zaB hb zaE hs2) (by rw [hs, hs2])) hs hs2) fun σ H R ⟨F, ρ, Qd, S, h, k⟩ => by
    refine lA_run (fs := [f, g]) (Qd := fun ds ρ1 => match ds with | [.int i, .int j] => (-(2 ^ 62) ≤ i ∧ i < 2 ^ 62 ∧ -(2 ^ 62) ≤ j ∧ j < 2 ^ 62) ∧ Qd (rng i (j - i).toNat) ρ1 | _ => False) S ?_ fun F1 H1 ρ1 vs ds e1 S1 R1 h1 => ?_
    · refine (congrArg (fun z => f ρ z W) (funext fun r => funext fun ρ1 => congrArg (fun z => g ρ1 z W) (funext fun s => funext fun ρ2 => ?_))).mp h
      show _ = (match [r.d, s.d] with | [.int i, .int j] => (-(2 ^ 62) ≤ i ∧ i < 2 ^ 62 ∧ -(2 ^ 62) ≤ j ∧ j < 2 ^ 62) ∧ Qd (rng i (j - i).toNat) ρ2 | _ => False)
      cases r.d <;> cases s.d <;> rfl
    · split at h1
      · cases R1 with
        | cons r rs =>
          cases rs with
          | cons r' rs' =>
            cases rs'
            rw [r.int_inv, r'.int_inv]
            exact ⟨_, _, rfl, h1.1, k F1 H1 ρ1 _ _ e1 S1 itOk_rng h1.2⟩
      · exact h1.elim
theorem enumD_len (xs : List D) : (enumD xs).length = xs.length := by simp [enumD]
theorem enumD_at {xs : List D} {i : Nat} {d : D} (h : xs[i]? = some d) : (enumD xs)[i]? = some (.tup [.int (i : Int), d]) := by
  have hi := (List.getElem?_eq_some_iff.mp h).1
  unfold enumD
  rw [List.getElem?_zipWith, h, List.getElem?_range hi]
theorem itOk_enum {K : PySem.W.Frag} {p : Addr} {vs : List V} {xs : List D} (hp : F p = some (.lst vs)) (r : RepL K T F vs xs) : ItOk K T F (Ite K p) (enumD xs) := fun i F1 H e1 e2 => by
  have hq : SqL K H p vs := .of (e2 _ _ (e1 _ _ hp))
  rw [enumD_len]
  refine ⟨fun hi => ?_, fun hi => ⟨vs, hq, by rw [r.length]; exact hi⟩⟩
  obtain ⟨v, hv, rv⟩ := r.get (List.getElem?_eq_getElem hi)
  refine ⟨⟨vs, v, hq, hv⟩, fun x H' hy => ?_⟩
  obtain ⟨t, y, rfl, ht, rfl, hx⟩ := hy
  have e := (hx vs hq).symm.trans hv
  cases e
  exact ⟨.fr (.tup [.int i, xs[i]]), enumD_at (List.getElem?_eq_getElem hi), .fr ht (.tup (.cons (.int _) (.cons (rv.mono e1) .nil)))⟩
theorem pdi_enum {p tpos : Pos} {elts : List Expr} {kk : Nat} (hg : Gl X "enumerate") (hm : X.mg "enumerate" = none) (ha : PD X T B M W e f) (hs : starEach [e] X.env = [(false, eval e X.env)] := by rfl) : PDI X T B M W (.Tuple elts kk tpos) (.Call (.Name "enumerate" p) [e] [] pos) (DL.iEnum f) :=
  pi_imp (pi_enum hg hm (zaB ha zaE hs) hs) fun σ H R ⟨F, ρ, Qd, S, h, k⟩ => by
    refine lA_run (fs := [f]) (Qd := fun ds ρ1 => match ds with | [.lst xs] => Qd (enumD xs) ρ1 | _ => False) S ?_ fun F1 H1 ρ1 vs ds e1 S1 R1 h1 => ?_
    · refine (congrArg (fun z => f ρ z W) (funext fun r => funext fun ρ1 => ?_)).mp h
      show _ = (match [r.d] with | [.lst xs] => Qd (enumD xs) ρ1 | _ => False)
      cases r.d <;> rfl
    · split at h1
      · cases R1 with
        | cons r rs =>
          cases rs
          obtain ⟨p, vs, rfl, hp, ra⟩ := r.lst_inv
          exact ⟨p, vs, rfl, .of (S1.sub _ _ hp), k F1 H1 ρ1 _ _ e1 S1 (itOk_enum hp ra) h1⟩
      · exact h1.elim
/-! ### statements -/
variable {st : Stmt} {sts : List Stmt} {u w : DS}
theorem pds_nil : PDSs X T B M W [] sNx := pss_imp pss_nil fun J σ H ⟨F, ρ, Jd, S, h, k, _⟩ => k F H ρ σ (Same.refl _) S h
theorem zaF (h1 : PDS X T B M W st u) (h2 : PDSs X T B M W sts w) : PDSs X T B M W (st :: sts) (sSeq u w) :=
  pss_imp (pss_cons h1 h2) fun J σ H ⟨F, ρ, Jd, S, h, k1, k2, k3, k4⟩ => by
    refine ⟨F, ρ, _, S, h, fun F1 H1 ρ1 σ1 e1 S1 q1 => ?_, k2, k3, k4⟩
    exact ⟨F1, ρ1, Jd, S1, q1, fun F2 H2 ρ2 σ2 e2 => k1 F2 H2 ρ2 σ2 (e1.trans e2), fun F2 H2 ρ2 σ2 v r e2 => k2 F2 H2 ρ2 σ2 v r (e1.trans e2), fun F2 H2 ρ2 σ2 e2 => k3 F2 H2 ρ2 σ2 (e1.trans e2), fun F2 H2 ρ2 σ2 e2 => k4 F2 H2 ρ2 σ2 (e1.trans e2)⟩
theorem zaG (h1 : PDS X T B M W st u) : PDSs X T B M W [st] u := pss_one h1
theorem pds_expr (he : PD X T B M W e f) (hs : swapsWith e none pos.line X.env = pure false := by rfl) : PDS X T B M W (.Expr e pos) (sExp f) :=
  ps_imp (ps_expr he hs) fun J σ H ⟨F, ρ, Jd, S, h, k, _⟩ => ⟨F, ρ, _, S, h, fun F1 H1 ρ1 v r e1 S1 _ q => k F1 H1 ρ1 σ e1 S1 q⟩
theorem pds_ret (he : PD X T B M W e f) : PDS X T B M W (.Return (some e) pos) (sRet f) :=
  ps_imp (ps_ret he) fun J σ H ⟨F, ρ, Jd, S, h, _, k, _⟩ => ⟨F, ρ, _, S, h, fun F1 H1 ρ1 v r e1 S1 R q => k F1 H1 ρ1 σ v r e1 S1 R q⟩
theorem pds_if {c : Expr} {x y : List Stmt} {t : DT} (hc : PDT X T B M W c t) (hx : PDSs X T B M W x u) (hy : PDSs X T B M W y w) : PDS X T B M W (.If c x y pos) (sIf t u w) :=
  ps_imp (ps_if hc hx hy) fun J σ H ⟨F, ρ, Jd, S, h, k1, k2, k3, k4⟩ => by
    refine lT_run S h fun F1 H1 ρ1 z e1 S1 h1 => ?_
    have fin : ∀ {s : DS}, s Jd ρ1 W → lS X.K T B M W s J σ H1 := fun {s} q => ⟨F1, ρ1, Jd, S1, q, fun F2 H2 ρ2 σ2 e2 => k1 F2 H2 ρ2 σ2 (e1.trans e2), fun F2 H2 ρ2 σ2 v r e2 => k2 F2 H2 ρ2 σ2 v r (e1.trans e2), fun F2 H2 ρ2 σ2 e2 => k3 F2 H2 ρ2 σ2 (e1.trans e2), fun F2 H2 ρ2 σ2 e2 => k4 F2 H2 ρ2 σ2 (e1.trans e2)⟩
    cases z with
    | true => exact fin h1
    | false => exact fin h1
theorem pds_asg {G : DG} (he : PD X T B M W e f) (hg : PDG X T B M tg G) (hs : swapsWithSole [tg] e pos.line X.env = pure false := by rfl) (hw : swappedStores [tg] e X.env = pure none := by rfl)
    (h1 : (assignEach [tg] X.env).map (·.2) = [assign tg X.env] := by rfl) : PDS X T B M W (.Assign [tg] e pos) (sAsg G f) :=
  ps_imp (ps_asg he hg hs hw h1) fun J σ H ⟨F, ρ, Jd, S, h, k, _⟩ => by
    refine lE_run S h fun F1 H1 ρ1 v r e1 S1 R1 q => ?_
    exact ⟨F1, ρ1, r.d, Jd.nx, S1, R1, q, fun F2 H2 ρ2 σ2 e2 => k F2 H2 ρ2 σ2 (e1.trans e2)⟩
theorem pds_set {i : Nat} {x : Str} {px : Pos} (hN : X.N.Nodup) (hi : X.N[i]? = some x) (hx : Loc X.env.scope x) (hM : i ∉ M) (he : PD X T B M W e f) (hs : swapsWith e (some (.Name x px)) pos.line X.env = pure false := by rfl) (hf : X.fn x = true ∨ X.env.scope.names.lookup x = some .local := by first | exact .inl rfl | exact .inr rfl | assumption) :
    PDS X T B M W (.Assign [.Name x px] e pos) (sAsg (gN i) f) :=
  ps_imp (ps_set hN hi hx he hs hf) fun J σ H ⟨F, ρ, Jd, S, h, k, _⟩ => by
    refine lE_run S h fun F1 H1 ρ1 v r e1 S1 R1 q => ?_
    exact k F1 H1 _ _ e1 (S1.putFz hM R1) q
theorem pds_setO {i : Nat} {x : Str} {px : Pos} (hN : X.N.Nodup) (hi : X.N[i]? = some x) (hx : Loc X.env.scope x) (hM : i ∉ M) (he : PD X T B M W e f) (hs : swapsWith e (some (.Name x px)) pos.line X.env = pure false := by rfl) (hf : X.fn x = true ∨ X.env.scope.names.lookup x = some .local := by first | exact .inl rfl | exact .inr rfl | assumption) :
    PDS X T B M W (.Assign [.Name x px] e pos) (sAsgO i f) :=
  ps_imp (ps_set hN hi hx he hs hf) fun J σ H ⟨F, ρ, Jd, S, h, k, _⟩ => by
    refine ⟨F, ρ, _, S, h, fun F1 H1 ρ1 v r e1 S1 R1 q => ?_⟩
    exact S1.putN (fz := fun _ => False) hM R1 (by cases r <;> (rename_i d; cases d) <;> exact q) (fun _ _ z => z.elim) fun s S2 q2 => k F1 H1 _ _ e1 S2 q2
end
end DL

set_option Elab.async false
set_option linter.all false
set_option autoImplicit false
set_option maxRecDepth 100000
/-! DLX6: loops, stores into one's own objects, comprehensions. -/
namespace DL
open PySem PySem.Spec PyProof.Rows L2
section
variable {X : Cx} {T : Tb} {B : Bs} {M : List Nat} {W : EK} {F H : Hp} {ρ : Env} {σ : L2.St}
variable {a b c e : Expr} {f g h : DE} {pos : Pos} {tg : Expr} {u w : DS}
theorem drop_at {α : Type} {xs : List α} {i : Nat} {d : α} (h : xs[i]? = some d) : xs.drop i = d :: xs.drop (i + 1) := by
  obtain ⟨hi, e⟩ := List.getElem?_eq_some_iff.mp h
  rw [← e, List.drop_eq_getElem_cons hi]
theorem pds_for {iter : Expr} {body : List Stmt} {it : DI} {G : DG} (hp : PassesOwn (model X.prog X.w) X.A X.env X.xe) (hc : X.calm = true) (hi : PDI X T B M W tg iter it) (hg : PDG X T B M tg G) (hb : PDSs X T B M W body u)
    (hs : ∀ x, foldedSetIterable iter X.env x = pure x := by intro _; rfl) : PDS X T B M W (.For tg iter body [] pos) (sFor it G u) :=
  ps_imp (ps_for hp hc hi hg hb hs) fun J σ H ⟨F, ρ, Jd, S, h, k1, k2, k3, k4⟩ => by
    refine ⟨F, ρ, _, S, h, fun F1 H1 ρ1 xs It e1 S1 io q => ?_⟩
    refine ⟨fun i m σ' H' => m = xs.length - i ∧ i ≤ xs.length ∧ ∃ F' ρ', Same F1 F' ∧ SR X.K T B M F' H' ρ' σ' ∧ forL G u Jd W (xs.drop i) ρ', ⟨xs.length, by simp, Nat.zero_le _, F1, ρ1, Same.refl _, S1, q⟩, ?_⟩
    rintro i m σ' H' ⟨rfl, hi, F', ρ', e2, S2, q2⟩
    by_cases hlt : i < xs.length
    · obtain ⟨go, yl⟩ := (io i F' H' e2 S2.sub.toSmW).1 hlt
      refine .inr ⟨go, fun σ3 H3 => ∃ F3 ρ3, Same F1 F3 ∧ SR X.K T B M F3 H3 ρ3 σ3 ∧ forL G u Jd W (xs.drop (i + 1)) ρ3, fun σ3 H3 hN => ⟨xs.length - (i + 1), by omega, rfl, hlt, hN⟩, fun x H'' hy => ?_⟩
      obtain ⟨r, hx, n⟩ := yl x H'' hy
      obtain ⟨S3, RV⟩ := S2.new n
      obtain ⟨F3, e3, S3, R3⟩ := S3.fix RV
      rw [drop_at hx] at q2
      have q2 : G r.d ρ' (fun ρ1 => u { nx := forL G u Jd W (xs.drop (i + 1)), ct := forL G u Jd W (xs.drop (i + 1)), bk := Jd.nx, rt := Jd.rt } ρ1 W) := q2
      refine ⟨F3, ρ', r.d, _, S3, R3, q2, fun F4 H4 ρ4 σ4 e4 S4 q4 => ?_⟩
      have e5 := e1.trans (e2.trans (e3.trans e4))
      exact ⟨F4, ρ4, _, S4, q4, fun F5 H5 ρ5 σ5 e6 S5 q5 => ⟨F5, ρ5, e2.trans (e3.trans (e4.trans e6)), S5, q5⟩, fun F5 H5 ρ5 σ5 v r e6 => k2 F5 H5 ρ5 σ5 v r (e5.trans e6),
        fun F5 H5 ρ5 σ5 e6 => k1 F5 H5 ρ5 σ5 (e5.trans e6), fun F5 H5 ρ5 σ5 e6 S5 q5 => ⟨F5, ρ5, e2.trans (e3.trans (e4.trans e6)), S5, q5⟩⟩
    · have e : i = xs.length := by omega
      subst e
      rw [List.drop_length] at q2
      exact .inl ⟨(io _ F' H' e2 S2.sub.toSmW).2 (Nat.le_refl _), k1 F' H' ρ' σ' (e1.trans e2) S2 q2⟩
theorem pds_while {c : Expr} {body : List Stmt} {t : DT} (hp : PassesOwn (model X.prog X.w) X.A X.env X.xe) (hc : PDT X T B M W c t) (hb : PDSs X T B M W body u) : PDS X T B M W (.While c body [] pos) (sWh t u) :=
  ps_imp (ps_while hp hc hb) fun J σ H ⟨F, ρ, Jd, S, ⟨n, h⟩, k1, k2, k3, k4⟩ => by
    refine ⟨fun m σ' H' => ∃ F' ρ', Same F F' ∧ SR X.K T B M F' H' ρ' σ' ∧ whL t u Jd W m ρ', ⟨n, F, ρ, Same.refl _, S, h⟩, ?_⟩
    rintro m σ' H' ⟨F1, ρ1, e1, S1, q1⟩
    cases m with
    | zero => exact q1.elim
    | succ m =>
      have q1 : t ρ1 (fun b ρ2 => if b = true then u { nx := whL t u Jd W m, ct := whL t u Jd W m, bk := Jd.nx, rt := Jd.rt } ρ2 W else Jd.nx ρ2) W := q1
      refine lT_run S1 q1 fun F2 H2 ρ2 z e2 S2 q2 => ?_
      cases z with
      | false => exact k1 F2 H2 ρ2 σ' (e1.trans e2) S2 q2
      | true =>
        refine ⟨fun σ3 H3 => ∃ F3 ρ3, Same F F3 ∧ SR X.K T B M F3 H3 ρ3 σ3 ∧ whL t u Jd W m ρ3, fun σ3 H3 hN => ⟨m, Nat.lt_succ_self m, hN⟩, ?_⟩
        have e5 := e1.trans e2
        exact ⟨F2, ρ2, _, S2, q2, fun F5 H5 ρ5 σ5 e6 S5 q5 => ⟨F5, ρ5, e5.trans e6, S5, q5⟩, fun F5 H5 ρ5 σ5 v r e6 => k2 F5 H5 ρ5 σ5 v r (e5.trans e6),
          fun F5 H5 ρ5 σ5 e6 => k1 F5 H5 ρ5 σ5 (e5.trans e6), fun F5 H5 ρ5 σ5 e6 S5 q5 => ⟨F5, ρ5, e5.trans e6, S5, q5⟩⟩
/-! ### name op= e -/
def IpOk (K : PySem.W.Frag) (T : Tb) (op : D → D → (R → Prop) → Prop) (r : R2) : Prop := OpOk K T op r
theorem pip_of {o : Operator} {r : R2} (h : OpR X (inplaceOp o) r) : PIp X o r := fun pins s σ H x y v u Q I r1 r2 q => h pins s σ H x y v u Q I r1 r2 q
theorem pds_aug {i : Nat} {x : Str} {px : Pos} {o : Operator} {op : D → D → (R → Prop) → Prop} {r : R2} (hN : X.N.Nodup) (hi : X.N[i]? = some x) (hx : Loc X.env.scope x) (hM : i ∉ M) (he : PD X T B M W e f) (hr : PIp X o r) (ho : OpOk X.K T op r)
    (hf : X.fn x = true ∨ X.env.scope.names.lookup x = some .local := by first | exact .inl rfl | exact .inr rfl | assumption) : PDS X T B M W (.AugAssign (.Name x px) o e pos) (sAug i op f) :=
  ps_imp (ps_aug hN hi hx he hr hf) fun J σ H ⟨F, ρ, Jd, S, h, k1, k2, k3, k4⟩ => by
    unfold sAug at h
    have hs := S.slot i
    cases hd : ρ.at i with
    | no => rw [hd] at h; exact h.elim
    | own d => rw [hd] at h; exact h.elim
    | ownT d => rw [hd] at h; exact h.elim
    | fz d =>
      rw [hd] at h hs
      obtain ⟨v, ev, rv⟩ := hs
      refine ⟨v, ev, lE_run S h fun F1 H1 ρ1 v1 r1 e1 S1 R1 q => ?_⟩
      refine ho F1 H1 v v1 d r1.d _ _ S1.sub.toSmW (rv.mono e1) R1 q fun z H' t n q2 => ?_
      obtain ⟨S2, RV⟩ := S1.new n
      obtain ⟨F2, e2, S2, R2⟩ := S2.fix RV
      exact k1 F2 H' _ _ (e1.trans e2) (S2.putFz hM R2) q2
/-! ### stores into one's own objects -/
/-- a slot's own objects are changed: the heap elsewhere stays, what is new in the footprint is new -/
theorem SR.change {i : Nat} {s : Slot} {H' : Hp} (S : SR X.K T B M F H ρ σ) (hl : i < ρ.length) (ot : ∀ b, b ∉ foot H (σ[i]?) (ρ.at i) → (∀ o, H b = some o → H' b = some o)) (li : ∀ b ∈ foot H (σ[i]?) (ρ.at i), ∃ o, H' b = some o)
    (hs : SlotOk X.K T F H' (σ[i]?) s) (hn : ∀ a ∈ foot H' (σ[i]?) s, a ∈ foot H (σ[i]?) (ρ.at i) ∨ (B.H0 a = none ∧ ∀ j, a ∉ foot H (σ[j]?) (ρ.at j))) : SR X.K T B M F H' (ρ.set i s) σ := by
  have old : ∀ j, i ≠ j → Env.at (ρ.set i s) j = ρ.at j := fun j hj => Env.at_set_ne hj
  have same : Env.at (ρ.set i s) i = s := Env.at_set_same hl
  have ke : ∀ j, i ≠ j → ∀ a ∈ foot H (σ[j]?) (ρ.at j), H' a = H a := fun j hj a ha => by
    obtain ⟨_, o, e, _⟩ := S.priv ha
    rw [e]
    exact ot a (fun z => hj (S.injF i j a z ha)) o e
  have fe : ∀ j, i ≠ j → foot H' (σ[j]?) (ρ.at j) = foot H (σ[j]?) (ρ.at j) := fun j hj => foot_eq (ke j hj)
  have nfoot : ∀ b o, F b = some o → b ∉ foot H (σ[i]?) (ρ.at i) := fun b o e z => by
    have := (S.priv z).1
    rw [e] at this
    cases this
  have tabs : LamX.Tabs T.tabs H' := fun x hx => by
    obtain ⟨ps, e1, e2, e3⟩ := S.tabs.1 x hx
    refine ⟨ps, ot _ (fun z => ?_) _ e1, e2, fun pos cv hc => ?_⟩
    · obtain ⟨_, o, e, m, _⟩ := S.priv z
      rw [e1] at e
      exact m ps (Option.some.inj e).symm
    · obtain ⟨c, a, b⟩ := e3 pos cv hc
      refine ⟨c, a, ot _ (fun z => ?_) _ b⟩
      obtain ⟨_, o, e, _, m⟩ := S.priv z
      rw [b] at e
      exact m _ _ (Option.some.inj e).symm
  refine ⟨S.sub.step (fun b u e w _ z => ot b (nfoot b u e) w z), fun b u e n m => ?_, fun b u e => ?_, S.f0, S.fnew, by simp [S.len], fun j => ?_, fun j a ha => ?_, fun j k a h1 h2 => ?_, S.pin, tabs, S.tabs.2⟩
  · refine ot b (fun z => ?_) u (S.keep _ _ e n m)
    rcases S.newO z with q | q
    · rw [q] at e; cases e
    · exact n q
  · obtain ⟨u', e'⟩ := S.live _ _ e
    by_cases hb : b ∈ foot H (σ[i]?) (ρ.at i)
    · exact li b hb
    · exact ⟨u', ot b hb u' e'⟩
  · by_cases hj : i = j
    · subst hj
      rw [same]
      exact hs
    · rw [old j hj]
      exact (S.slot j).mono (Same.refl _) fun a ha => ⟨(S.priv ha).1, ke j hj a ha⟩
  · by_cases hj : i = j
    · subst hj
      rw [same] at ha
      rcases hn a ha with q | q
      · exact S.newF i a q
      · exact .inl q.1
    · rw [old j hj, fe j hj] at ha
      exact S.newF j a ha
  · have excl : ∀ j, i ≠ j → a ∈ foot H' (σ[i]?) s → a ∈ foot H (σ[j]?) (ρ.at j) → False := fun j hj z1 z2 => by
      rcases hn a z1 with q | q
      · exact hj (S.injF i j a q z2)
      · exact q.2 j z2
    by_cases hj : i = j
    · subst hj
      by_cases hk : i = k
      · exact hk
      · rw [same] at h1
        rw [old k hk, fe k hk] at h2
        exact (excl k hk h1 h2).elim
    · rw [old j hj, fe j hj] at h1
      by_cases hk : i = k
      · subst hk
        rw [same] at h2
        exact (excl j hj h2 h1).elim
      · rw [old k hk, fe k hk] at h2
        exact S.injF j k a h1 h2
theorem SR.store {i : Nat} {p : Addr} {d d' : D} {o' : HO} (S : SR X.K T B M F H ρ σ) (hi : ρ.at i = .own d) (hp : σ[i]? = some (some (.ref p))) (r : RepO X.K T F o' d') (nt : tupB o' = false := by rfl) : SR X.K T B M F (upd H p o') (ρ.set i (.own d')) σ := by
  have hf : foot H (σ[i]?) (ρ.at i) = [p] := by rw [hi, hp, foot_own]
  have hs := S.slot i
  rw [hi] at hs
  obtain ⟨p', o, e, hF, hH, ro, _⟩ := hs
  rw [hp] at e
  cases e
  refine S.change (Env.at_lt (by rw [hi]; exact fun z => nomatch z)) (fun b hb o e => ?_) (fun b hb => ?_) ?_ fun a ha => ?_
  · rw [hf] at hb
    rw [upd_ne fun z => hb (List.mem_singleton.mpr z)]
    exact e
  · rw [hf] at hb
    rw [List.mem_singleton.mp hb]
    exact ⟨_, upd_same⟩
  · exact ⟨p, o', hp, hF, upd_same, r, nt⟩
  · rw [hp, foot_own] at ha
    exact .inl (by rw [hf]; exact ha)
theorem ownL_inv {s : Slot} (h : s.ownL = true) : ∃ xs, s = .own (.lst xs) := by
  cases s with
  | own d => cases d <;> first | exact ⟨_, rfl⟩ | cases h
  | _ => cases h
theorem SR.ownAt {i : Nat} {d : D} (S : SR X.K T B M F H ρ σ) (hi : ρ.at i = .own d) : ∃ p o, σ[i]? = some (some (.ref p)) ∧ F p = none ∧ H p = some o ∧ RepO X.K T F o d := by
  have hs := S.slot i
  rw [hi] at hs
  obtain ⟨p, o, h1, h2, h3, h4, _⟩ := hs
  exact ⟨p, o, h1, h2, h3, h4⟩
theorem repO_lst {K : PySem.W.Frag} {o : HO} {xs : List D} (r : RepO K T F o (.lst xs)) : ∃ vs, o = .lst vs ∧ RepL K T F vs xs := by
  cases r with
  | lst r => exact ⟨_, rfl, r⟩
theorem pds_app {i : Nat} {x : Str} {px apos cpos : Pos} (hN : X.N[i]? = some x) (hv : Vis X.env.scope x) (he : PD X T B M W e f) (hd : (x == ("__debug__" : Str)) = false := by decide) (hcd : (x == ("__classdict__" : Str)) = false := by decide)
    (hbase : attributeBase (.Name x px) "append" X.env (eval (.Name x px) X.env) = eval (.Name x px) X.env := by rfl)
    (hfew : ((backTo cpos (starEach [e] X.env)).all (fun x => !x.1) && (backToKw cpos (keywordEach [] X.env)).all (fun x => x.1.isSome)
      && decide (([e] : List Expr).length + ([] : List Keyword).length + (if ([] : List Keyword).isEmpty then 0 else 1) < 30)) = true := by rfl)
    (hline : (apos.endLine == cpos.line) = true := by rfl) (hse : starEach [e] X.env = (false, eval e X.env) :: starEach [] X.env := by rfl) (hplain : (backTo cpos (starEach [] X.env)).any (·.1) = false := by rfl)
    (hs : swapsWith (.Call (.Attribute (.Name x px) "append" apos) [e] [] cpos) none pos.line X.env = pure false := by rfl) : PDS X T B M W (.Expr (.Call (.Attribute (.Name x px) "append" apos) [e] [] cpos) pos) (sApp i f) :=
  ps_imp (ps_expr (pe_bm PySem.F.plainAttrs_list PySem.F.slot_list_append PySem.F.type_list_append mt_append (pe_var hN hv hd hcd) (pa_cons he pa_nil hse) hbase hfew hline hse hplain) hs) fun J σ H ⟨F, ρ, Jd, S, ⟨h0, h⟩, k1, k2, k3, k4⟩ => by
    obtain ⟨xs0, hx0⟩ := ownL_inv h0
    obtain ⟨p, o, ep, hF, hH, ro⟩ := S.ownAt hx0
    obtain ⟨vs, rfl, ra⟩ := repO_lst ro
    refine ⟨.ref p, ep, .inl ⟨rfl, _, .inl (.inl hH)⟩, ?_⟩
    refine lE_run S h fun F1 H1 ρ1 v1 r1 e1 S1 R1 q => ?_
    have hs := S1.slot i
    cases hd : ρ1.at i with
    | own d =>
      cases d with
      | lst xs =>
        rw [hd] at q
        obtain ⟨p', o', ep', hF', hH', ro'⟩ := S1.ownAt hd
        rw [ep] at ep'
        cases ep'
        obtain ⟨ws, rfl, rb⟩ := repO_lst ro'
        refine ⟨p, ws, v1, rfl, rfl, hH', by rw [rb.length, ← maxTx_eq]; exact q.1, ?_⟩
        exact k1 F1 _ _ _ e1 (S1.store hd ep (.lst (rb.append (.cons R1 .nil)))) q.2
      | _ => rw [hd] at q; exact q.elim
    | _ => rw [hd] at q; exact q.elim
theorem pds_put {i : Nat} {x : Str} {px ppos : Pos} (hN : X.N[i]? = some x) (hv : Vis X.env.scope x) (he : PD X T B M W e f) (hk : PD X T B M W b g) (hd : (x == ("__debug__" : Str)) = false := by decide) (hcd : (x == ("__classdict__" : Str)) = false := by decide)
    (ha : ∀ v, assign (.Subscript (.Name x px) b ppos) X.env v = (do
      let ov ← holding [v] (eval (.Name x px) X.env)
      let iv ← holding [v, ov] (eval b X.env)
      standAt ppos
      holding [v, ov, iv] (setItem ov iv v)
      release [v, ov, iv] []) := by intro _; rfl)
    (hs : swapsWithSole [.Subscript (.Name x px) b ppos] e pos.line X.env = pure false := by rfl) (hw : swappedStores [.Subscript (.Name x px) b ppos] e X.env = pure none := by rfl)
    (h1 : (assignEach [.Subscript (.Name x px) b ppos] X.env).map (·.2) = [assign (.Subscript (.Name x px) b ppos) X.env] := by rfl) : PDS X T B M W (.Assign [.Subscript (.Name x px) b ppos] e pos) (sPut i g f) :=
  ps_imp (ps_asg he (pg_sub (pe_var hN hv hd hcd) hk set_list ha) hs hw h1) fun J σ H ⟨F, ρ, Jd, S, h, k1, k2, k3, k4⟩ => by
    refine lE_run S h fun F1 H1 ρ1 v1 r1 e1 S1 R1 q => ?_
    obtain ⟨h0, q⟩ := q
    obtain ⟨xs0, hx0⟩ := ownL_inv h0
    obtain ⟨p, o, ep, hF, hH, ro⟩ := S1.ownAt hx0
    refine ⟨.ref p, ep, ?_⟩
    refine lE_run S1 q fun F2 H2 ρ2 v2 r2 e2 S2 R2 q2 => ?_
    cases hd : ρ2.at i with
    | own d =>
      cases d with
      | lst xs =>
        rw [hd] at q2
        cases hz : r2.d with
        | int z =>
          rw [hz] at q2 R2
          obtain ⟨j, hj, q3⟩ := q2
          obtain ⟨p', o', ep', hF', hH', ro'⟩ := S2.ownAt hd
          rw [ep] at ep'
          cases ep'
          obtain ⟨ws, rfl, rb⟩ := repO_lst ro'
          refine ⟨p, ws, z, j, rfl, R2.int_inv, hH', by rw [rb.length]; exact hj, ?_⟩
          exact k1 F2 _ _ _ (e1.trans e2) (S2.store hd ep (.lst (rb.set j (R1.mono e2)))) q3
        | _ => rw [hz] at q2; exact q2.elim
      | _ => rw [hd] at q2; exact q2.elim
    | _ => rw [hd] at q2; exact q2.elim
end
end DL

set_option Elab.async false
set_option linter.all false
set_option autoImplicit false
set_option maxRecDepth 100000
/-! DLX7: comprehensions. -/
namespace DL
open PySem PySem.Spec PyProof.Rows L2
/-- the own objects of a frame -/
def OwnOf (H : Hp) (ρ : Env) (σ : L2.St) (b : Addr) : Prop := ∃ i, b ∈ foot H (σ[i]?) (ρ.at i)
/-- the base at a place within a body -/
def baseAt (B : Bs) (F H : Hp) (ρ : Env) (σ : L2.St) : Bs := ⟨F, H, fun i b => b ∈ foot H (σ[i]?) (ρ.at i), B.P⟩
section
variable {K : PySem.W.Frag} {T : Tb} {B : Bs} {M : List Nat} {F F2 H H2 : Hp} {ρ ρ2 : Env} {σ σ2 : L2.St}
theorem SR.base (S : SR K T B M F H ρ σ) : SR K T (baseAt B F H ρ σ) M F H ρ σ :=
  ⟨S.sub.toSmW.start (fun a o e ⟨i, z⟩ => absurd ((S.priv z).1.symm.trans e) (fun y => nomatch y)), fun b o e _ _ => e, fun b o e => ⟨o, e⟩, Same.refl _, fun b o e => .inl e, S.len, S.slot, fun i a ha => .inr ha, S.injF, S.pin, S.tabs⟩
theorem SR.gone (S : SR K T B M F H ρ σ) {b : Addr} (e : H b = none) : B.H0 b = none := by
  cases q : B.H0 b with
  | none => rfl
  | some o =>
    obtain ⟨o', z⟩ := S.live b o q
    rw [e] at z
    cases z
theorem RetV.low {B' : Bs} {v : V} {r : R} (hg : ∀ b, B'.H0 b = none → B.H0 b = none) (h : RetV K T B' F H ρ σ v r) : RetV K T B F H ρ σ v r := by
  cases r with
  | fz d => exact h
  | fr d =>
    obtain ⟨p, o, z1, z2, z3, z4, z5, z6⟩ := h
    exact ⟨p, o, z1, z2, z3, z4, hg _ z5, z6⟩
  | ft d =>
    obtain ⟨p, o, z1, z2, z3, z4, z5, z6⟩ := h
    exact ⟨p, o, z1, z2, z3, z4, z5, fun a ha => ⟨hg _ (z6 a ha).1, (z6 a ha).2⟩⟩
def R.slot : R → Slot
  | .fz _ => .no
  | .fr d => .own d
  | .ft d => .ownT d
/-- where a new result lies -/
def rfoot (H : Hp) (v : V) (r : R) : List Addr := foot H (some (some v)) r.slot
theorem SR.trans (S : SR K T B M F H ρ σ) (S2 : SR K T (baseAt B F H ρ σ) M F2 H2 ρ2 σ2) : SR K T B M F2 H2 ρ2 σ2 := by
  have own : ∀ b, OwnOf H ρ σ b → B.H0 b = none ∨ B.O0 b := fun b ⟨i, e1⟩ => S.newO e1
  refine ⟨S.sub.after S2.sub S2.fnew, fun b o e n m => ?_, fun b o e => ?_, S.f0.trans S2.f0, fun b o e => ?_, S2.len, S2.slot, fun i p e1 => ?_, S2.injF, S2.pin, S2.tabs⟩
  · refine S2.keep b o (S.keep b o e n m) (fun z => ?_) m
    rcases own b z with q | q
    · rw [q] at e; cases e
    · exact n q
  · obtain ⟨o', e'⟩ := S.live b o e
    exact S2.live b o' e'
  · rcases S2.fnew b o e with q | q | q | q
    · exact S.fnew b o q
    · exact .inr (.inl (S.gone q))
    · exact .inr ((own b q).elim .inl fun z => .inr (.inl z))
    · exact .inr (.inr (.inr q))
  · rcases S2.newF i p e1 with q | q
    · exact .inl (S.gone q)
    · exact S.newF i p q
/-- a loose object stays loose -/
theorem SR.loose (S : SR K T B M F H ρ σ) (S2 : SR K T (baseAt B F H ρ σ) M F2 H2 ρ2 σ2) {p : Addr} {o : HO} (hH : H p = some o) (hF : F p = none) (hn : ¬ OwnOf H ρ σ p) (hm : ∀ ps, o ≠ HO.tbl ps := by intro _ z; cases z) (nt : tupB o = false := by rfl) : H2 p = some o ∧ F2 p = none ∧ ¬ OwnOf H2 ρ2 σ2 p := by
  refine ⟨S2.keep p o hH hn hm, ?_, fun ⟨i, e1⟩ => ?_⟩
  · cases q : F2 p with
    | none => rfl
    | some u =>
      rcases S2.fnew p u q with z | z | z | z
      · have z : F p = some u := z
        rw [hF] at z; cases z
      · have z : H p = none := z
        rw [hH] at z; cases z
      · exact absurd z hn
      · have w := S2.sub.up q z
        rw [S2.keep p o hH hn hm] at w
        cases w
        rw [nt] at z
        cases z
  · rcases S2.newF i p e1 with z | z
    · have z : H p = none := z
      rw [hH] at z; cases z
    · exact hn ⟨i, z⟩
theorem wipeE_len : ∀ (vs : List Nat) (ρ : Env), (wipeE vs ρ).length = ρ.length
  | [], _ => rfl
  | v :: vs, ρ => by unfold wipeE; rw [List.length_set, wipeE_len vs ρ]
theorem backE_len : ∀ (vs : List Nat) (ρ0 ρ : Env), (backE vs ρ0 ρ).length = ρ.length
  | [], _, _ => rfl
  | v :: vs, ρ0, ρ => by unfold backE; rw [List.length_set, backE_len vs ρ0 ρ]
theorem wipeE_out : ∀ {vs : List Nat} {ρ : Env} {i : Nat}, i ∉ vs → (wipeE vs ρ).at i = ρ.at i
  | [], _, _, _ => rfl
  | v :: vs, ρ, i, h => by
    unfold wipeE
    rw [Env.at_set_ne (fun z => h (by rw [z]; exact List.mem_cons_self)), wipeE_out fun z => h (List.mem_cons_of_mem _ z)]
theorem at_oob {ρ : Env} {i : Nat} (h : ¬ i < ρ.length) : ρ.at i = .no := by
  unfold Env.at
  rw [List.getElem?_eq_none (by omega)]
  rfl
theorem wipeE_in : ∀ {vs : List Nat} {ρ : Env} {i : Nat}, i ∈ vs → (wipeE vs ρ).at i = .no
  | v :: vs, ρ, i, h => by
    unfold wipeE
    by_cases hi : v = i
    · subst hi
      by_cases hl : v < (wipeE vs ρ).length
      · rw [Env.at_set_same hl]
      · rw [at_oob (by simpa using hl)]
    · rw [Env.at_set_ne hi]
      exact wipeE_in ((List.mem_cons.mp h).resolve_left fun z => hi z.symm)
theorem backE_out : ∀ {vs : List Nat} {ρ0 ρ : Env} {i : Nat}, i ∉ vs → (backE vs ρ0 ρ).at i = ρ.at i
  | [], _, _, _, _ => rfl
  | v :: vs, ρ0, ρ, i, h => by
    unfold backE
    rw [Env.at_set_ne (fun z => h (by rw [z]; exact List.mem_cons_self)), backE_out fun z => h (List.mem_cons_of_mem _ z)]
theorem backE_in : ∀ {vs : List Nat} {ρ0 ρ : Env} {i : Nat}, i ∈ vs → (backE vs ρ0 ρ).at i = (ρ0.at i).noT ∨ (backE vs ρ0 ρ).at i = .no
  | v :: vs, ρ0, ρ, i, h => by
    unfold backE
    by_cases hi : v = i
    · subst hi
      by_cases hl : v < (backE vs ρ0 ρ).length
      · exact .inl (Env.at_set_same hl)
      · exact .inr (at_oob (by simpa using hl))
    · rw [Env.at_set_ne hi]
      exact backE_in ((List.mem_cons.mp h).resolve_left fun z => hi z.symm)
theorem wipe_out' {σ : L2.St} {i : Nat} : ∀ {vs : List Nat}, i ∉ vs → (wipe σ vs)[i]? = σ[i]?
  | [], _ => rfl
  | v :: vs, h => by
    unfold wipe
    rw [List.getElem?_set_ne (fun z => h (by rw [z]; exact List.mem_cons_self)), wipe_out' fun z => h (List.mem_cons_of_mem _ z)]
theorem wipe_set {σ : L2.St} {x : Option V} : ∀ {vs : List Nat} {i : Nat}, i ∈ vs → wipe (σ.set i x) vs = wipe σ vs
  | v :: vs, i, h => by
    unfold wipe
    by_cases hi : i ∈ vs
    · rw [wipe_set hi]
    · have hv : i = v := (List.mem_cons.mp h).resolve_right hi
      subst hv
      have : wipe (σ.set i x) vs = (wipe σ vs).set i x := by
        clear h
        induction vs with
        | nil => rfl
        | cons w vs ih =>
          unfold wipe
          rw [ih fun z => hi (List.mem_cons_of_mem _ z), List.set_comm _ _ (fun z => hi (by rw [z]; exact List.mem_cons_self))]
      rw [this, List.set_set]
theorem SR.wipe {vs : List Nat} (S : SR K T B M F H ρ σ) (hM : ∀ i ∈ M, i ∉ vs) : SR K T B M F H (wipeE vs ρ) (L2.wipe σ vs) := by
  have fact : ∀ i, (wipeE vs ρ).at i = .no ∨ ((wipeE vs ρ).at i = ρ.at i ∧ (L2.wipe σ vs)[i]? = σ[i]?) := fun i => by
    by_cases hi : i ∈ vs
    · exact .inl (wipeE_in hi)
    · exact .inr ⟨wipeE_out hi, wipe_out' hi⟩
  have own : ∀ i a, a ∈ foot H ((L2.wipe σ vs)[i]?) ((wipeE vs ρ).at i) → a ∈ foot H (σ[i]?) (ρ.at i) := fun i a e => by
    rcases fact i with q | ⟨q1, q2⟩
    · rw [q, foot_no] at e; simp at e
    · rw [q1, q2] at e; exact e
  refine ⟨S.sub, S.keep, S.live, S.f0, S.fnew, by rw [wipeE_len, wipe_length, S.len], fun i => ?_, fun i a e1 => S.newF i a (own i a e1), fun i j a e1 e2 => S.injF i j a (own i a e1) (own j a e2), fun i hi => ?_, S.tabs⟩
  · rcases fact i with q | ⟨q1, q2⟩
    · rw [q]; trivial
    · rw [q1, q2]; exact S.slot i
  · rw [wipe_out' (hM i hi)]
    exact S.pin i hi
/-- out of the block again -/
theorem SR.unwipe {vs : List Nat} (S : SR K T B M F H ρ σ) (hv : ∀ i ∈ vs, ∀ d, ρ.at i ≠ .own d) (e : Same F F2) (S2 : SR K T B M F2 H2 ρ2 (L2.wipe σ vs)) : SR K T B M F2 H2 (backE vs ρ ρ2) σ := by
  have fact : ∀ i, (backE vs ρ ρ2).at i = .no ∨ (i ∈ vs ∧ ∃ d, (backE vs ρ ρ2).at i = .fz d ∧ ρ.at i = .fz d) ∨ ((backE vs ρ ρ2).at i = ρ2.at i ∧ (L2.wipe σ vs)[i]? = σ[i]?) := fun i => by
    by_cases hi : i ∈ vs
    · rcases backE_in (ρ0 := ρ) (ρ := ρ2) hi with q | q
      · cases hd : ρ.at i with
        | no => rw [hd] at q; exact .inl q
        | own d => exact absurd hd (hv i hi d)
        | fz d => rw [hd] at q; exact .inr (.inl ⟨hi, d, q, rfl⟩)
        | ownT d => rw [hd] at q; exact .inl q
      · exact .inl q
    · exact .inr (.inr ⟨backE_out hi, wipe_out' hi⟩)
  have own : ∀ i a, a ∈ foot H2 (σ[i]?) ((backE vs ρ ρ2).at i) → a ∈ foot H2 ((L2.wipe σ vs)[i]?) (ρ2.at i) := fun i a h => by
    rcases fact i with q | ⟨_, d, q, _⟩ | ⟨q1, q2⟩
    · rw [q, foot_no] at h; simp at h
    · rw [q, foot_fz] at h; simp at h
    · rw [q1, ← q2] at h; exact h
  refine ⟨S2.sub, S2.keep, S2.live, S2.f0, S2.fnew, by rw [backE_len, S2.len, wipe_length], fun i => ?_, fun i a e1 => S2.newF i a (own i a e1), fun i j a e1 e2 => S2.injF i j a (own i a e1) (own j a e2), S.pin, S2.tabs⟩
  rcases fact i with q | ⟨_, d, q, hd⟩ | ⟨q1, q2⟩
  · rw [q]; trivial
  · have hs := S.slot i
    rw [hd] at hs
    obtain ⟨v, h1, h2⟩ := hs
    rw [q]
    exact ⟨v, h1, h2.mono e⟩
  · rw [q1, ← q2]; exact S2.slot i
end
/-! ### targets of a comprehension -/
theorem SR.storeLoose {K : PySem.W.Frag} {T : Tb} {B : Bs} {M : List Nat} {F H : Hp} {ρ : Env} {σ : L2.St} {p : Addr} {o o' : HO} (S : SR K T B M F H ρ σ) (hH : H p = some o) (hF : F p = none) (hn : ¬ OwnOf H ρ σ p) (hB : B.H0 p = none) (hm : ∀ ps, o ≠ HO.tbl ps := by intro _ z; cases z) (hc : ∀ c q, o ≠ LamX.CodeO c q := by intro _ _ z; unfold LamX.CodeO at z; cases z) : SR K T B M F (upd H p o') ρ σ := by
  have ke : ∀ i, ∀ a ∈ foot H (σ[i]?) (ρ.at i), upd H p o' a = H a := fun i a ha => upd_ne fun z => hn ⟨i, by rw [← z]; exact ha⟩
  have fe := S.footEq ke
  refine ⟨S.sub.step (fun b u e w _ z => ?_), fun b u e n m => ?_, fun b u e => ?_, S.f0, S.fnew, S.len, fun j => (S.slot j).mono (Same.refl _) fun a ha => ⟨(S.priv ha).1, ke j a ha⟩, fun i a ha => S.newF i a (fe i ▸ ha), fun i j a h1 h2 => S.injF i j a (fe i ▸ h1) (fe j ▸ h2), S.pin, tabs_upd S.tabs.1 hH hm hc, S.tabs.2⟩
  · have hb : b ≠ p := fun z => by subst z; rw [hF] at e; cases e
    rw [upd_ne hb]
    exact z
  · have hb : b ≠ p := fun z => by subst z; rw [hB] at e; cases e
    rw [upd_ne hb]
    exact S.keep _ _ e n m
  · by_cases hb : b = p
    · subst hb; exact ⟨_, upd_same⟩
    · rw [upd_ne hb]; exact S.live _ _ e
def gHs : List Nat → TGs
  | [] => gNil
  | i :: is => gCons (gName i) (gHs is)
def Tgt.h (K : PySem.W.Frag) : Tgt → TG
  | .one i => gName i
  | .tup is => gTup K is.length (gHs is)
section
variable {X : Cx} {T : Tb} {B : Bs} {M : List Nat} {W : EK} {F H : Hp} {ρ : Env} {σ : L2.St}
theorem gHs_of {vs : List Nat} : ∀ {is : List Nat} {ds : List D} {us : List V} {ρ : Env} {σ : L2.St} {k : Env → Prop}, SR X.K T B M F H ρ σ → RepL X.K T F us ds → gNs is ds ρ k → (∀ i ∈ is, i ∈ vs) → (∀ i ∈ is, i ∉ M) →
    gHs is us σ H fun σ2 H2 => wipe σ2 vs = wipe σ vs ∧ H2 = H ∧ ∃ ρ2, SR X.K T B M F H ρ2 σ2 ∧ k ρ2
  | [], [], _, ρ, σ, k, S, .nil, h, _, _ => ⟨rfl, rfl, rfl, ρ, S, h⟩
  | i :: is, d :: ds, _, ρ, σ, k, S, .cons (v := v) (vs := us) r rs, h, h1, h2 => by
    refine ⟨v, us, rfl, ?_⟩
    have q := gHs_of (vs := vs) (S.putFz (h2 i List.mem_cons_self) r) rs h (fun j hj => h1 j (List.mem_cons_of_mem _ hj)) (fun j hj => h2 j (List.mem_cons_of_mem _ hj))
    rw [wipe_set (h1 i List.mem_cons_self)] at q
    exact q
  | [], _ :: _, _, _, _, _, _, _, h, _, _ => h.elim
  | _ :: _, [], _, _, _, _, _, _, h, _, _ => h.elim
theorem Tgt.of {t : Tgt} {vs : List Nat} {v : V} {d : D} {k : Env → Prop} (S : SR X.K T B M F H ρ σ) (r : Rep X.K T F v d) (h : t.g d ρ k) (h1 : ∀ i ∈ t.is, i ∈ vs) (h2 : ∀ i ∈ t.is, i ∉ M) :
    t.h X.K v σ H fun σ2 H2 => wipe σ2 vs = wipe σ vs ∧ H2 = H ∧ ∃ ρ2, SR X.K T B M F H ρ2 σ2 ∧ k ρ2 := by
  cases t with
  | one i => exact ⟨wipe_set (h1 i List.mem_cons_self), rfl, _, S.putFz (h2 i List.mem_cons_self) r, h⟩
  | tup is =>
    cases d with
    | tup ds =>
      obtain ⟨p, us, rfl, hp, ra⟩ := r.tup_inv
      exact ⟨p, us, rfl, .of (S.sub _ _ hp), by rw [ra.length]; exact gNs_len h, gHs_of S ra h h1 h2⟩
    | _ => exact h.elim
theorem pgh_one {i : Nat} {x : Str} {pos : Pos} (hN : X.N.Nodup) (hi : X.N[i]? = some x) (hx : Loc X.env.scope x) (hf : X.fn x = true ∨ X.env.scope.names.lookup x = some .local := by first | exact .inl rfl | exact .inr rfl | assumption) : PG X (.Name x pos) ((Tgt.one i).h X.K) := pg_name hN hi hx hf
abbrev PDTs (X : Cx) (T : Tb) (B : Bs) (M : List Nat) (W : EK) (ifs : List Expr) (t : DT) : Prop := PTs X ifs (lT X.K T B M W t)
theorem pts_imp {ifs : List Expr} {t t' : TT} (h : PTs X ifs t) (k : ∀ σ H Q, t' σ H Q → t σ H Q) : PTs X ifs t' := ⟨fun pins s σ H Q I q => h.run pins s σ H Q I (k σ H Q q)⟩
theorem pdts_nil : PDTs X T B M W [] DL.tYes := pts_imp pts_nil fun σ H Q ⟨F, ρ, Qd, S, h, k⟩ => k F H ρ true (Same.refl _) S h
theorem pdts_one {c : Expr} {t : DT} (h : PDT X T B M W c t) : PDTs X T B M W [c] t := pts_one h
def lEx (K : PySem.W.Frag) (T : Tb) (M : List Nat) (W : EK) (f : DE) : TE := fun σ H Q => ∃ B, lE K T B M W f σ H Q
def lTx (K : PySem.W.Frag) (T : Tb) (M : List Nat) (W : EK) (f : DT) : TT := fun σ H Q => ∃ B, lT K T B M W f σ H Q
theorem pe_ex {e : Expr} {f : DE} (h : ∀ B, PD X T B M W e f) : PE X e (lEx X.K T M W f) := ⟨fun pins s σ H Q I ⟨B, q⟩ => (h B).run pins s σ H Q I q⟩
theorem pts_ex {e : List Expr} {f : DT} (h : ∀ B, PDTs X T B M W e f) : PTs X e (lTx X.K T M W f) := ⟨fun pins s σ H Q I ⟨B, q⟩ => (h B).run pins s σ H Q I q⟩
theorem wipe_in {σ : L2.St} {i : Nat} : ∀ {vs : List Nat}, i ∈ vs → (wipe σ vs)[i]? = if i < σ.length then some none else none
  | v :: vs, h => by
    unfold wipe
    by_cases hv : v = i
    · subst hv
      by_cases hl : v < σ.length
      · rw [List.getElem?_set_self (by rw [wipe_length]; exact hl), if_pos hl]
      · rw [List.getElem?_eq_none (by rw [List.length_set, wipe_length]; omega), if_neg hl]
    · rw [List.getElem?_set_ne hv]
      exact wipe_in ((List.mem_cons.mp h).resolve_left fun z => hv z.symm)
theorem wipe_wipe {σ : L2.St} {vs : List Nat} : wipe (wipe σ vs) vs = wipe σ vs := by
  apply List.ext_getElem?
  intro i
  by_cases h : i ∈ vs
  · rw [wipe_in h, wipe_in h, wipe_length]
  · rw [wipe_out' h]
theorem Tgt.h_mono {K : PySem.W.Frag} {t : Tgt} {v : V} {σ : L2.St} {H : Hp} {k k' : L2.St → Hp → Prop} (h : t.h K v σ H k) (hm : ∀ σ H, k σ H → k' σ H) : t.h K v σ H k' := by
  cases t with
  | one i => exact hm _ _ h
  | tup is =>
    obtain ⟨a, us, e1, e2, e3, h⟩ := h
    refine ⟨a, us, e1, e2, e3, ?_⟩
    clear e1 e2 e3
    induction is generalizing us σ H with
    | nil => exact ⟨h.1, hm _ _ h.2⟩
    | cons i is ih =>
      obtain ⟨w, r, e, h⟩ := h
      exact ⟨w, r, e, ih _ h⟩
theorem backE_foot {vs : List Nat} {ρ ρ2 : Env} {σ : L2.St} {H : Hp} {j : Nat} {a : Addr} (hv : ∀ i ∈ vs, ∀ d, ρ.at i ≠ .own d) (h : a ∈ foot H (σ[j]?) ((backE vs ρ ρ2).at j)) : a ∈ foot H (σ[j]?) (ρ2.at j) ∧ j ∉ vs := by
  by_cases hj : j ∈ vs
  · rcases backE_in (ρ0 := ρ) (ρ := ρ2) hj with q | q
    · rw [q] at h
      cases hd : ρ.at j with
      | no => rw [hd] at h; rw [show Slot.noT .no = Slot.no from rfl, foot_no] at h; simp at h
      | own d => exact absurd hd (hv j hj d)
      | fz d => rw [hd] at h; rw [show Slot.noT (.fz d) = Slot.fz d from rfl, foot_fz] at h; simp at h
      | ownT d => rw [hd] at h; rw [show Slot.noT (.ownT d) = Slot.no from rfl, foot_no] at h; simp at h
    · rw [q, foot_no] at h; simp at h
  · rw [backE_out hj] at h
    exact ⟨h, hj⟩
theorem not_own_wipe {vs : List Nat} {ρ : Env} {σ σ' : L2.St} {H : Hp} {b : Addr} (e : wipe σ' vs = wipe σ vs) (h : ¬ OwnOf H ρ σ' b) : ¬ OwnOf H (wipeE vs ρ) (wipe σ vs) b := fun ⟨i, e1⟩ => by
  by_cases hi : i ∈ vs
  · rw [wipeE_in hi, foot_no] at e1; simp at e1
  · rw [wipeE_out hi, ← e, wipe_out' hi] at e1
    exact h ⟨i, e1⟩
/-- the loop of a comprehension -/
theorem lc_of {it : DI} {t : Tgt} {tt : DT} {g : DE} {vs : List Nat} {TT' : TT} {TE' : TE} (h1 : ∀ i ∈ t.is, i ∈ vs) (h2 : ∀ i ∈ t.is, i ∉ M) (hM : ∀ i ∈ M, i ∉ vs) {H : Hp} {Q : VK}
    (h : lE X.K T B M W (dLc vs it t.g tt g) σ H Q) (hT : TT' = lTx X.K T M noE tt) (hE : TE' = lEx X.K T M noE g) :
    tLc (lI X.K T B M W it) (t.h X.K) TT' TE' vs σ H Q := by
  obtain ⟨F, ρ, Qd, S, h, k⟩ := h
  refine ⟨F, ρ, _, S, h, fun F1 H1 ρ1 xs J e1 S1 io q D' hD => ?_⟩
  obtain ⟨hv, q⟩ := q
  refine ⟨fun i m H' => m = xs.length - i ∧ i ≤ xs.length ∧ ∃ F' ρ' acc as, Same F1 F' ∧ SR X.K T B M F' H' ρ' (wipe σ vs) ∧ (H' D' = some (.lst acc) ∧ F' D' = none ∧ ¬ OwnOf H' ρ' (wipe σ vs) D' ∧ B.H0 D' = none) ∧ RepL X.K T F' acc as ∧
    lcL vs t.g tt g (fun acc ρ2 => Qd (.fr (.lst acc)) (backE vs ρ1 ρ2)) (xs.drop i) as ρ', ⟨xs.length, by simp, Nat.zero_le _, F1, _, [], [], Same.refl _, (S1.lay hD).wipe hM, ⟨upd_same, S1.sub.free hD, ?_, S1.gone hD⟩, .nil, q⟩, ?_⟩
  · rintro ⟨i, e2⟩
    have S0 := S1.wipe hM
    rw [S0.footEq (fun i a ha => upd_ne ((S0.priv ha).ne hD)) i] at e2
    exact (S0.priv e2).ne hD rfl
  rintro i m H' ⟨rfl, hi, F', ρ', acc, as, e2, S2, ⟨hD1, hD2, hD3, hD4⟩, ra, q2⟩
  by_cases hlt : i < xs.length
  · obtain ⟨go, yl⟩ := (io i F' H' e2 S2.sub.toSmW).1 hlt
    refine .inr ⟨go, fun H3 => ∃ F3 ρ3 acc as, Same F1 F3 ∧ SR X.K T B M F3 H3 ρ3 (wipe σ vs) ∧ (H3 D' = some (.lst acc) ∧ F3 D' = none ∧ ¬ OwnOf H3 ρ3 (wipe σ vs) D' ∧ B.H0 D' = none) ∧ RepL X.K T F3 acc as ∧
      lcL vs t.g tt g (fun acc ρ2 => Qd (.fr (.lst acc)) (backE vs ρ1 ρ2)) (xs.drop (i + 1)) as ρ3, fun H3 hN => ⟨xs.length - (i + 1), by omega, rfl, hlt, hN⟩, fun x H'' hy => ?_⟩
    obtain ⟨r, hx, n⟩ := yl x H'' hy
    have S2b := S2.base
    obtain ⟨S3b, RVb⟩ := S2b.new n
    obtain ⟨F3, e3, S3b, R3⟩ := S3b.fix RVb
    have S3 := S2.trans S3b
    obtain ⟨d1, d2, d3⟩ := S2.loose S3b hD1 hD2 hD3
    rw [drop_at hx] at q2
    have q2 : t.g r.d ρ' (fun ρ1' => tt ρ1' (fun b ρ2 => if b = true then g ρ2 (fun r' ρ3 => as.length < maxTx ∧ lcL vs t.g tt g (fun acc ρ2 => Qd (.fr (.lst acc)) (backE vs ρ1 ρ2)) (xs.drop (i + 1)) (as ++ [r'.d]) (wipeE vs ρ3)) noE
      else lcL vs t.g tt g (fun acc ρ2 => Qd (.fr (.lst acc)) (backE vs ρ1 ρ2)) (xs.drop (i + 1)) as (wipeE vs ρ2)) noE) := q2
    refine Tgt.h_mono (Tgt.of (X := X) (vs := vs) S3.base R3 q2 h1 h2) ?_
    rintro σ2 H2 ⟨hw, rfl, ρ4, S4, q4⟩
    have hw : wipe σ2 vs = wipe σ vs := hw.trans wipe_wipe
    refine ⟨hw, ?_⟩
    rw [hT]
    refine ⟨baseAt B F3 H2 ρ' (wipe σ vs), F3, ρ4, _, S4, q4, fun F5 H5 ρ5 b e5 S5 q5 => ?_⟩
    cases b with
    | false =>
      obtain ⟨l1, l2, l3⟩ := S3.loose S5 d1 d2 d3
      have S6 := (S3.trans S5).wipe hM
      rw [hw] at S6
      exact ⟨F5, _, acc, as, e2.trans (e3.trans e5), S6, ⟨l1, l2, not_own_wipe hw l3, hD4⟩, ra.mono (e3.trans e5), q5⟩
    | true =>
      have q5 : g ρ5 (fun r' ρ3 => as.length < maxTx ∧ lcL vs t.g tt g (fun acc ρ2 => Qd (.fr (.lst acc)) (backE vs ρ1 ρ2)) (xs.drop (i + 1)) (as ++ [r'.d]) (wipeE vs ρ3)) noE := q5
      show TE' σ2 H5 _
      rw [hE]
      refine ⟨baseAt B F3 H2 ρ' (wipe σ vs), lE_run (S5) q5 fun F6 H6 ρ6 v6 r6 e6 S6 R6 q6 => ?_⟩
      obtain ⟨l1, l2, l3⟩ := S3.loose S6 d1 d2 d3
      have S7 := (S3.trans S6).wipe hM
      rw [hw] at S7
      have l3' := not_own_wipe hw l3
      have hno' : ¬ OwnOf (upd H6 D' (.lst (acc ++ [v6]))) (wipeE vs ρ6) (wipe σ vs) D' := fun ⟨i, z⟩ => by
        rw [S7.footEq (fun i a ha => upd_ne fun z => l3' ⟨i, by rw [← z]; exact ha⟩) i] at z
        exact l3' ⟨i, z⟩
      refine ⟨acc, l1, by rw [ra.length, ← maxTx_eq]; exact q6.1, F6, _, _, _, e2.trans (e3.trans (e5.trans e6)), ?_, ⟨upd_same, l2, hno', hD4⟩, (ra.mono (e3.trans (e5.trans e6))).append (.cons R6 .nil), q6.2⟩
      exact S7.storeLoose l1 l2 l3' hD4
  · have e : i = xs.length := by omega
    subst e
    rw [List.drop_length] at q2
    refine .inl ⟨(io _ F' H' e2 S2.sub.toSmW).2 (Nat.le_refl _), ?_⟩
    exact k F' H' _ (.ref D') (.fr (.lst as)) (e1.trans e2) (S1.unwipe hv e2 S2) ⟨D', _, rfl, hD2, hD1, .lst ra, hD4, fun j hj => by
      obtain ⟨z1, z2⟩ := backE_foot hv hj
      exact hD3 ⟨j, by rw [wipe_out' z2]; exact z1⟩⟩ q2
variable {elt tg iter : Expr} {ifs : List Expr} {scope : Scope} {own : List (Str × Nat)} {pos : Pos} {it : DI} {t : Tgt} {tt : DT} {g : DE}
theorem pd_lc (hc : X.calm = true) (hN : X.N.Nodup) (hi : PDI X T B M W tg iter it) (ok : BlkOk X.N X.env.scope scope own) (hv : (t.is.all fun i => (own.map (·.2)).contains i && !M.contains i) = true) (hM : (M.all fun i => !(own.map (·.2)).contains i) = true)
    (hg : ∀ (s : Shared) (H : Hp) (C : Addr) (cl : List (Str × Addr)) (fp : List Addr), PG (X.blk s H scope (compEnvC scope cl C X.env) fp) tg (t.h X.K)) (ht : ∀ (s : Shared) (H : Hp) (C : Addr) (cl : List (Str × Addr)) (fp : List Addr) B, PDTs (X.blk s H scope (compEnvC scope cl C X.env) fp) T B M noE ifs tt)
    (he : ∀ (s : Shared) (H : Hp) (C : Addr) (cl : List (Str × Addr)) (fp : List Addr) B, PD (X.blk s H scope (compEnvC scope cl C X.env) fp) T B M noE elt g) (hs : ∀ x, foldedSetIterable iter X.env x = pure x := by intro _; rfl) :
    PD X T B M W (.ListComp elt [⟨tg, iter, ifs, 0⟩] scope pos) (dLc (own.map (·.2)) it t.g tt g) := by
  have a1 : ∀ i ∈ t.is, i ∈ own.map (·.2) ∧ i ∉ M := fun i h => by
    have := List.all_eq_true.mp hv i h
    rw [Bool.and_eq_true] at this
    exact ⟨by simpa using this.1, by simpa using this.2⟩
  have a2 : ∀ i ∈ M, i ∉ own.map (·.2) := fun i h => by
    have := List.all_eq_true.mp hM i h
    simpa using this
  refine pe_imp (pe_lc (te := lEx X.K T M noE g) (tt := lTx X.K T M noE tt) hc hN hi ok hg (fun s H C cl fp => pts_ex (ht s H C cl fp)) (fun s H C cl fp => pe_ex (he s H C cl fp)) hs) fun σ H Q z => ?_
  exact lc_of (fun i h => (a1 i h).1) (fun i h => (a1 i h).2) a2 z rfl rfl
end
end DL

set_option Elab.async false
set_option linter.all false
set_option autoImplicit false
set_option maxRecDepth 100000
/-! DLX8: name = [..], a, b = x, y; calls of defs; defs. -/
namespace DL
open PySem PySem.Spec PyProof.Rows L2
section
variable {X : Cx} {T : Tb} {B : Bs} {M : List Nat} {W : EK} {F H : Hp} {ρ : Env} {σ : L2.St}
variable {a b c e : Expr} {f : DE} {pos : Pos}
variable {elt tg iter : Expr} {ifs : List Expr} {scope : Scope} {own : List (Str × Nat)} {it : DI} {t : Tgt} {tt : DT} {g : DE}
/-! ### a, b = x, y -/
theorem pds_par {i j : Nat} {x y : Str} {px py pt pt2 : Pos} {kt k2} (hc : X.calm = true) (hN : X.N.Nodup) (hi : X.N[i]? = some x) (hj : X.N[j]? = some y) (hij : i ≠ j) (hiM : i ∉ M) (hjM : j ∉ M)
    (hx : X.env.scope.names.lookup x = some .local) (hy : X.env.scope.names.lookup y = some .local) (ha : PDA X T B M W [a, b] [f, g])
    (hw : swappedStores [.Tuple [.Name x px, .Name y py] kt pt] (.Tuple [a, b] k2 pt2) X.env = pure (some [x, y]) := by rfl)
    (hs : swapsWithSole [.Tuple [.Name x px, .Name y py] kt pt] (.Tuple [a, b] k2 pt2) pos.line X.env = pure false := by rfl) :
    PDS X T B M W (.Assign [.Tuple [.Name x px, .Name y py] kt pt] (.Tuple [a, b] k2 pt2) pos) (sPar i j f g) :=
  ps_imp (ps_par hc hN hi hj hij hx hy ha hw hs) fun J σ H ⟨F, ρ, Jd, S, h, k, _⟩ => by
    refine lA_run (fs := [f, g]) (Qd := fun ds ρ2 => ∃ d d', ds = [d, d'] ∧ Jd.nx ((ρ2.set i (.fz d)).set j (.fz d'))) S ?_ fun F1 H1 ρ1 vs ds e1 S1 R1 h1 => ?_
    · refine (congrArg (fun z => f ρ z W) (funext fun r => funext fun ρ1 => congrArg (fun z => g ρ1 z W) (funext fun s => funext fun ρ2 => propext ⟨fun q => ⟨_, _, rfl, q⟩, fun ⟨d, d', e, q⟩ => ?_⟩))).mp h
      cases e
      exact q
    · obtain ⟨d, d', rfl, q⟩ := h1
      cases R1 with
      | cons r rs =>
        cases rs with
        | cons r' rs' =>
          cases rs'
          exact ⟨_, _, rfl, k F1 H1 _ _ e1 ((S1.putFz hiM r).putFz hjM r') q⟩
theorem pds_parL {i j : Nat} {x y : Str} {px py pt pt2 pl : Pos} {kt k2} (hc : X.calm = true) (hN : X.N.Nodup) (hi : X.N[i]? = some x) (hj : X.N[j]? = some y) (hij : i ≠ j) (hiM : i ∉ M) (hjM : j ∉ M)
    (hx : X.env.scope.names.lookup x = some .local) (hy : X.env.scope.names.lookup y = some .local) (ha : PD X T B M W a f)
    (h1 : starEach [a, .List [] pl] X.env = (false, eval a X.env) :: starEach [.List [] pl] X.env := by rfl) (h2 : starEach [.List [] pl] X.env = (false, eval (.List [] pl) X.env) :: starEach [] X.env := by rfl)
    (hw : swappedStores [.Tuple [.Name x px, .Name y py] kt pt] (.Tuple [a, .List [] pl] k2 pt2) X.env = pure (some [x, y]) := by rfl)
    (hs : swapsWithSole [.Tuple [.Name x px, .Name y py] kt pt] (.Tuple [a, .List [] pl] k2 pt2) pos.line X.env = pure false := by rfl) :
    PDS X T B M W (.Assign [.Tuple [.Name x px, .Name y py] kt pt] (.Tuple [a, .List [] pl] k2 pt2) pos) (sParL i j f) :=
  ps_imp (ps_par hc hN hi hj hij hx hy (pa_cons ha (pa_cons (pe_lst pa_nil) pa_nil h2) h1) hw hs) fun J σ H ⟨F, ρ, Jd, S, h, k, _⟩ => by
    refine lE_run S h fun F1 H1 ρ1 v1 r1 e1 S1 R1 q => ?_
    refine ⟨Nat.zero_le _, fun p hp => ⟨v1, .ref p, rfl, ?_⟩⟩
    have S3 := S1.putFz hiM R1
    exact k F1 _ _ _ e1 ((S3.lay (o := .lst []) hp).putOwn hjM (S1.sub.free hp) upd_same (.lst .nil) (.inl (S1.gone hp)) (S3.lay_new hp) rfl) q
end
end DL

set_option Elab.async false
set_option linter.all false
set_option autoImplicit false
set_option maxRecDepth 100000
set_option maxHeartbeats 2000000
/-! DLE: own exception classes with one field, over several built-in bases. -/
namespace DLE
open PySem PySem.W PySem.Calls PyProof.Rows PySem.HandSPX Builtin Builtin.ObjectAttr
/-- what is asked of a built-in exception class -/
structure EB (B newId initId : String) (tail : List Value) : Prop where
  facts : ∃ bb, ExcBaseFacts B newId initId bb
  inB : tail.contains (.type B) = true
  inA : tail.contains (.type "AttributeError") = false
  inN : tail.contains (.type "NameError") = false
  pass : ∀ self, refuseLoop self "__setattr__" tail = pure ()
  obj : tail.contains (.type "object") = true
theorem eb_ValueError : EB "ValueError" "ValueError.__new__" "ValueError.__init__" [.type "ValueError", .type "Exception", .type "BaseException", .type "object"] := ⟨⟨_, F.excBase_ValueError⟩, by decide +kernel, by decide +kernel, by decide +kernel, fun self => by kernel_rfl, by decide +kernel⟩
theorem eb_RuntimeError : EB "RuntimeError" "RuntimeError.__new__" "RuntimeError.__init__" [.type "RuntimeError", .type "Exception", .type "BaseException", .type "object"] := ⟨⟨_, F.excBase_RuntimeError⟩, by decide +kernel, by decide +kernel, by decide +kernel, fun self => by kernel_rfl, by decide +kernel⟩
/-! ### making an exception of an own class, whose base takes __new__ from a base of its own -/
section
variable {nm qn : Str} {C N : Addr} {bs tl bb : List Value} {hd : Bool} {sn : List Str} {sub : List Value} {ab : Bool} {col : Option Bool} {dd : Option Addr} {k0 k1 k2 k3 k5 : Option Value} {B nI iI : String}
theorem kx_check {M : Model} {A : Around} {E : Value → Shared → Prop} {hp : Heap} {g : Array GenState} {d : Drawn} {t : Nat} {os : OsState} (FF : ExcBaseFacts B nI iI bb) (cB : tl.contains (.type B) = true) {more : List Value} {Q : Unit → Shared → Prop}
    (cC : hp.get? C = some (excClassObj nm qn C N bs tl hd sn sub ab col dd k0 k1 k2 k3 k5 nI)) (fin : Q () ⟨hp, g, d, t, os⟩) : wpAny M A (checkBuiltinCall nI ⟨.ref C :: more, []⟩) Q E ⟨hp, g, d, t, os⟩ := by
  have c1 : (Value.ref C :: tl).contains (.type B) = true := by rw [List.contains_cons]; rw [cB]; rw [Bool.or_true]
  have st := FF.noStar
  simp only [checkBuiltinCall, FF.newRow, FF.newSplit, FF.newKind]
  repeat (first | (refine wpAny_isSubtype_exc cC ?_; rw [c1]) | refine wpAny_madeBy_exc cC ?_ | refine wpAny_loadPart_at cC ?_ | refine wpAny_staticBase_exc cC ?_ | simp only [bne_self_eq_false, if_false, Bool.false_eq_true] | wp_step)
  exact fin
variable {prog : Program} {w : World} {A : Around} {E : Value → Shared → Prop} {R : Result → Shared → Prop} {hp : Heap} {g : Array GenState} {d : Drawn} {t : Nat} {os : OsState}
theorem kx_new (FF : ExcBaseFacts B nI iI bb) (cB : tl.contains (.type B) = true) (cA : tl.contains (.type "AttributeError") = false) (cN : tl.contains (.type "NameError") = false) {more : List Value}
    (cC : hp.get? C = some (excClassObj nm qn C N bs tl hd sn sub ab col dd k0 k1 k2 k3 k5 nI))
    (fin : R (.ok (.ret (.ref (hp.objs.size + 1)))) ⟨(hp.push { cls := .type "tuple", data := .seq more.toArray }).push { cls := .ref C, data := .fields #[.ref hp.objs.size, .none, .none, .none, .bool false, .none] }, g, d, t, os⟩) (few : more.length ≤ sizeLine) :
    codeAny (model prog w) A (.builtin nI ⟨.ref C :: more, []⟩) R ⟨hp, g, d, t, os⟩ := by
  have en := FF.ends
  have c1 : (Value.ref C :: tl).contains (.type B) = true := by rw [List.contains_cons]; rw [cB]; rw [Bool.or_true]
  have c2 : (Value.ref C :: tl).contains (.type "AttributeError") = false := by rw [List.contains_cons]; rw [cA]; rfl
  have c3 : (Value.ref C :: tl).contains (.type "NameError") = false := by rw [List.contains_cons]; rw [cN]; rfl
  refine codeAny_builtinAt FF.entry ?_
  unfold «BaseException.__new__»
  refine PySem.wpAt_bind ?_
  show PySem.wpAt _ _ _ (stack >>= _) _ _ _
  refine PySem.wpAt_bind (PySem.wpAt_stack fun p1 p2 => PySem.wpAt_of_wpAny ?_)
  wp_walk
  refine PySem.wpAt_of_wpAny ?_
  rw [FF.owner]
  repeat (first | with_reducible refine wpAny_loadPart_at cC ?_ | with_reducible refine wpAny_madeHere_exc FF.canon cC ?_ | (with_reducible refine wpAny_isSubtype_exc cC ?_; first | rw [c1] | rw [c2] | rw [c3]) | wp_step)
  show R _ _
  rw [Heap.size_push]
  exact fin
theorem kx_tcall (FF : ExcBaseFacts B nI iI bb) (cB : tl.contains (.type B) = true) (cA : tl.contains (.type "AttributeError") = false) (cN : tl.contains (.type "NameError") = false) {more : List Value} {fI : Addr} {Q : Fin → Shared → Prop}
    (cC : hp.get? C = some (excClassObj nm qn C N bs tl hd sn sub ab col dd k0 k1 k2 k3 k5 nI))
    (li : W.Looks (model prog w) hp (typeLookup (.ref C) "__init__") (some (.ref fI))) (bi : ∀ self, W.Looks (model prog w) hp (bindSpecial (.ref fI) self) (.ref fI, [self])) (few : more.length ≤ sizeLine)
    (fin : codeAny (model prog w) A (.call (.ref fI) ⟨.ref (hp.objs.size + 1) :: more, []⟩) (fun r s' => match r with | .ok (.ret v) => v = .none ∧ Q (.done (.ret (.ref (hp.objs.size + 1)))) s' | .ok _ => False | .error e => E e s')
      ⟨(hp.push (W.kdv_tup more)).push (excO C hp.objs.size), g, d, t, os⟩) : wpAny (model prog w) A (Builtin.«type.__call__» ⟨.ref C :: more, []⟩) Q E ⟨hp, g, d, t, os⟩ := by
  repeat (first | with_reducible refine wpAny_madeBy_exc cC ?_ | with_reducible refine wpAny_loadPart_at cC ?_ | wp_step)
  refine codeAny_call_builtin_code (Code.quiet_builtin _ FF.quiet) (kx_check FF cB cC ?_)
  refine kx_new FF cB cA cN cC ?_ few
  show wpAny _ _ _ _ _ _
  have kk : ∀ b o, hp.get? b = some o → ((hp.push (W.kdv_tup more)).push (excO C hp.objs.size)).get? b = some o := fun b o e => Heap.get?_push_of_some _ (Heap.get?_push_of_some _ e)
  have cC2 := kk _ _ cC
  have got : ((hp.push (W.kdv_tup more)).push (excO C hp.objs.size)).get? (hp.objs.size + 1) = some (excO C hp.objs.size) := by heap_get
  have cc : (Value.ref C :: tl).contains (.ref C) = true := by simp
  have li2 := li.keeps kk
  have bi2 := (bi (.ref (hp.objs.size + 1))).keeps kk
  unfold isInstance
  repeat (first | (with_reducible refine wpAny_isSubtype_exc cC2 ?_; rw [cc]) | with_reducible refine wpAny_loadPart_at got ?_ | wp_step)
  show wpAny _ _ (typeLookup (.ref C) _) _ _ _
  refine li2.at ?_
  refine wpAny_holding (wpAny_bind (bi2.at ?_))
  refine wpAny_bind (wpAny_call (codeAny_mono fin fun r s' y => ?_))
  rcases r with e | (v | _ | _ | _) <;> first
    | exact y
    | exact False.elim y
    | skip
  obtain ⟨rfl, yy⟩ := y
  first
    | exact wpAny_pure (wpAny_pure yy)
    | (wp_walk; exact yy)
theorem kx_call (FF : ExcBaseFacts B nI iI bb) (cB : tl.contains (.type B) = true) (cA : tl.contains (.type "AttributeError") = false) (cN : tl.contains (.type "NameError") = false) {more : List Value} {fI : Addr}
    (cC : hp.get? C = some (excClassObj nm qn C N bs tl hd sn sub ab col dd k0 k1 k2 k3 k5 nI))
    (li : W.Looks (model prog w) hp (typeLookup (.ref C) "__init__") (some (.ref fI))) (bi : ∀ self, W.Looks (model prog w) hp (bindSpecial (.ref fI) self) (.ref fI, [self])) (few : more.length ≤ sizeLine)
    (fin : codeAny (model prog w) (A.under (.builtin "type.__call__" ⟨.ref C :: more, []⟩)) (.call (.ref fI) ⟨.ref (hp.objs.size + 1) :: more, []⟩) (W.InitBack (hp.objs.size + 1) R) ⟨(hp.push (W.kdv_tup more)).push (excO C hp.objs.size), g, d, t, os⟩) :
    codeAny (model prog w) A (.call (.ref C) ⟨more, []⟩) R ⟨hp, g, d, t, os⟩ := by
  have l1 := tc_lookup
  have l2 := tc_bind (.ref C)
  have ty : (⟨hp, g, d, t, os⟩ : Shared).TypeIs (.ref C) "type" := ⟨_, cC, rfl⟩
  refine codeAny_of_tree ?_
  show wpAny _ _ (callAny (.ref C) _) _ _ _
  repeat (any_goals (first | with_reducible refine wpAny_loadPart_at cC ?_ | assumption | wp_step))
  refine ⟨rfl, ?_⟩
  refine codeAny_call_builtin_at (Code.quiet_builtin _ (by decide +kernel)) entry_typeCall (wpAny_check_type_call_sub cC (kx_tcall FF cB cA cN cC li bi few ?_))
  refine codeAny_mono fin fun r s' y => ?_
  rcases r with e | (v | _ | _ | _) <;> exact y
end
/-! ### the text of __init__(self, f): self.f = f -/
def iA (f : String) (p1 p2 : Pos) : Arguments := { posonlyargs := [], args := [{ arg := "self", annotation := none, pos := p1 }, { arg := f, annotation := none, pos := p2 }], vararg := none, kwonlyargs := [], kw_defaults := [], kwarg := none, defaults := [] }
def iB (f : String) (q1 q2 q3 q4 : Pos) : List Stmt := [.Assign [.Attribute (.Name "self" q1) f q2] (.Name f q3) q4]
def iS (f : String) : Scope := { kind := .function, names := [(PySem.Str.ofString "self", .local), (PySem.Str.ofString f, .local)], isGenerator := false, isCoroutine := false, more := [] }
/-- what the written part says of the class at C, and of its __init__, at fI -/
structure ETxt (K : Frag) (f : String) (newId initId B : String) (tail : List Value) (C fI : Addr) : Prop where
  eb : EB B newId initId tail
  fne : f ≠ "self" ∧ f ≠ "__debug__"
  bd : ∀ (qual : Str) (doc pm : Value) (an : Option Addr) (cdv ct : Value) (p1 p2 q1 q2 q3 q4 : Pos) (a b : Value), bindArgs (fnOf "__init__" qual (iA f p1 p2) (iB f q1 q2 q3 q4) (iS f) .none .none doc pm an cdv ct) ⟨[a, b], []⟩ = pure [(Str.ofString "self", a), (Str.ofString f, b)]
  cls : ∃ nm q N bs sn sub ab col dd k0 k1 k2 k3 k5, K.lookup C = some (excClassObj nm q C N bs tail true sn sub ab col dd k0 k1 k2 k3 k5 newId)
  sa : findIn K (.ref C) "__setattr__" = some (some (.builtin "object.__setattr__"))
  ga : findIn K (.ref C) "__getattribute__" = some (some (.builtin "BaseException.__getattribute__"))
  gg : findIn K (.ref C) "__getattr__" = some none
  noN : findIn K (.ref C) f = some none
  iC : findIn K (.ref C) "__init__" = some (some (.ref fI))
  tC : typeIn K (.ref fI) = some (.type "function")
  kC : keepIn K (.ref C) = true
  exC : subIn K (.ref C) (.type "BaseException") = some true
  tyC : typeIn K (.ref C) = some (.type "type")
  hdC : hasDictIn K C = true
  fn : ∃ (qual : Str) (oc : Value) (od : Option Addr) (doc pm : Value) (an : Option Addr) (cdv ct : Value) (osl : Array (Option Value)) (p1 p2 q1 q2 q3 q4 : Pos),
    K.lookup fI = some ⟨oc, od, .func (fnOf "__init__" qual (iA f p1 p2) (iB f q1 q2 q3 q4) (iS f) .none .none doc pm an cdv ct), osl⟩ ∧ codeIn K cdv qual = true
theorem one_size (v : Value) : [v].length ≤ sizeLine := by
  rw [sizeLine_eq]
  exact (by decide : 1 ≤ 16777216)
section
variable {prog : Program} {w : World} {A : Around} {E : Value → Shared → Prop} {R : Result → Shared → Prop} {hp : Heap} {g : Array GenState} {d : Drawn} {t : Nat} {os : OsState}
theorem osa_new {K : W.Frag} {name : Str} {tk : Tok} {v : Value} {x C : Addr} {fv : Array Value} {cd : ClassData} {B newId initId : String} {tail : List Value} (T : EB B newId initId tail)
    (X : K.In hp) (hx : hp.get? x = some { cls := .ref C, data := .fields fv }) (hcd : W.clsIn K C = some cd) (hm : cd.mro = .ref C :: tail) (hh : cd.hasDict = true) (ha : W.findIn K (.ref C) name = some none)
    (hq : ∀ h' tk' dx, (∀ b o, b ≠ x → hp.get? b = some o → h'.get? b = some o) → hp.objs.size ≤ dx → dx ≠ x → h'.get? x = some { cls := .ref C, dict := some dx, data := .fields fv } →
      h'.Ns1 dx (fun y => if y = name then some v else none) → R (.ok (.ret .none)) ⟨h', g, d, tk', os⟩) :
    codeAny (model prog w) A (.call (.builtin "object.__setattr__") ⟨[.ref x, .str name tk, v], []⟩) R ⟨hp, g, d, t, os⟩ := by
  have I : W.InstAt hp x { cls := .ref C, data := .fields fv } C none := ⟨hx, rfl, rfl, trivial⟩
  have SF := F.store_object
  have ne : cd.mro.isEmpty = false := by rw [hm]; rfl
  have hob : cd.mro.contains (.type "object") = true := by rw [hm, List.contains_cons, T.obj, Bool.or_true]
  have hxs : x ≠ hp.objs.size := Nat.ne_of_lt (Heap.lt_size hx)
  have sub : W.Looks (model prog w) hp (isInstance (.ref x) (.type "object")) true := I.type.andThen (W.looks_mroIn X (by unfold W.mroIn; rw [hcd, Option.bind_some, if_neg (by rw [ne]; decide), hob]))
  refine codeAny_call_builtin SF.slot.plain SF.entry (@W.check_slot (model prog w) _ _ ⟨hp, g, d, t, os⟩ "object.__setattr__" "object" "__setattr__" (.ref x) [.str name tk, v] [] _ SF.kind SF.split sub (SF.args (.ref x) (.str name tk) v) ?_)
  have hmr : W.Looks (model prog w) hp (mroOf (.ref C)) cd.mro := (W.looks_clsIn X hcd).andThen .now
  have L3 : W.Looks (model prog w) hp (storeTaker? none) none := .now
  have hcls : W.Looks (model prog w) hp (classData C) cd := W.looks_clsIn X hcd
  rw [W.osa_eq, refuse_eq]
  refine wpAny_bind (wpAny_bind (I.type.at (wpAny_bind (hmr.at ?_))))
  rw [hm, refuseLoop_ref, T.pass]
  refine wpAny_pure (wpAny_bind (I.type.at (wpAny_bind ((W.looks_findIn X ha).at (wpAny_bind (L3.at ?_))))))
  show wpAny _ _ (Builtin.ObjectAttr.storeInOwnDict (.ref x) (.ref C) (.str name tk) name v false) _ _ _
  obtain ⟨nm, bs, mro, ns, qn, hd, sn, sb, ab, col, del⟩ := cd
  dsimp only at hh
  subst hh
  unfold Builtin.ObjectAttr.storeInOwnDict Builtin.ObjectAttr.ownDictForStores
  repeat (first | with_reducible refine store_in_new ?_ ?_ | with_reducible refine wpAny_loadPart_at hx ?_ | with_reducible refine hcls.at ?_ | wp_step)
  · exact ⟨_, #[], _, (Heap.get?_update_ne _ _ _ _ hxs.symm).trans (Heap.get?_push_at rfl rfl), rfl, fun e he => absurd he (by simp), fun _ => rfl⟩
  · intro h' tk' hn' hs
    have hx₁ : (hp.push { cls := .type "dict", data := .dict #[] }).get? x = some { cls := .ref C, data := .fields fv } := Heap.get?_push_of_some _ hx
    refine hq h' tk' hp.objs.size (fun b o hb ho => ?_) (Nat.le_refl _) hxs.symm ?_ hn'
    · exact (hs.2 b (Nat.ne_of_lt (Heap.lt_size ho))).trans ((Heap.get?_update_ne _ _ _ _ hb).trans (Heap.get?_push_of_some _ ho))
    · exact (hs.2 x hxs).trans (Heap.get?_update_self _ hx₁ rfl)
end
theorem ldC {M : Model} {s : Shared} {name : Str} {scope : Scope} {L a : Addr} {cd : Value} {m : Str → Option Value} {x : Str} {pos : Pos} {v : Value} {Q : Value → Shared → Prop} {A : Around} {E : Value → Shared → Prop} (hn : s.heap.Ns L m) (hv : m x = some v) (h : Q v s)
    (hk : scope.kind = .function) (hl : (envOfC name scope L a cd).kindOf x = some .local) (hd : (x == ("__debug__" : Str)) = false) :
    wpAny M A (eval (.Name x pos) (envOfC name scope L a cd)) Q E s := wpAny_Name (wpAny_loadName_local hk hl hn hv h) hd
/-- what __init__ leaves of a fresh exception at x -/
structure InitEnd (f : Str) (h h' : Heap) (x C dx t1 : Addr) (v : Value) : Prop where
  keep : ∀ b o, b ≠ x → h.get? b = some o → h'.get? b = some o
  obj : h'.get? x = some { cls := .ref C, dict := some dx, data := .fields #[.ref t1, .none, .none, .none, .bool false, .none] }
  dbig : h.objs.size ≤ dx
  dne : dx ≠ x
  ns : h'.Ns1 dx (fun y => if y = f then some v else none)
structure OwnMade (f : Str) (h h' : Heap) (e C d : Addr) (v : Value) : Prop where
  keep : ∀ b o, h.get? b = some o → h'.get? b = some o
  new : h.objs.size ≤ e
  obj : ∃ oe vs, h'.get? e = some oe ∧ oe.cls = .ref C ∧ oe.dict = some d ∧ oe.data = .fields vs ∧ vs[1]? = some .none ∧ vs[2]? = some .none ∧ 4 < vs.size
  dbig : h.objs.size ≤ d
  dne : d ≠ e
  ns : h'.Ns1 d (fun y => if y = f then some v else none)
theorem str_ne {a b : String} (h : a ≠ b) : (Str.ofString a) ≠ Str.ofString b := fun e => h (by
  rw [Str.ofString_eq_toList, Str.ofString_eq_toList] at e
  have e2 : a.toList.map Char.toNat = b.toList.map Char.toNat := by
    have := congrArg (fun s => s.cps.toList) e
    simpa using this
  have e3 : a.toList = b.toList := by
    have inj : ∀ {l m : List Char}, l.map Char.toNat = m.map Char.toNat → l = m := by
      intro l
      induction l with
      | nil => intro m h; cases m with
        | nil => rfl
        | cons _ _ => cases h
      | cons c l ih =>
        intro m h
        cases m with
        | nil => cases h
        | cons c' m =>
          have h1 : c.toNat = c'.toNat := List.head_eq_of_cons_eq h
          have h2 := ih (List.tail_eq_of_cons_eq h)
          rw [h2, Char.toNat_inj.mp h1]
    exact inj e2
  exact String.toList_inj.mp e3)
section
variable {prog : Program} {w : World} {A : Around} {E : Value → Shared → Prop} {R : Result → Shared → Prop} {s : Shared} {K : Frag} {f B newId initId : String} {tail : List Value} {C fI : Addr}
theorem own_init (T : ETxt K f newId initId B tail C fI) {x t0 : Addr} {v : Value} (X : K.In s.heap) (hlim : s.heap.NoLimit) (hx : s.heap.get? x = some (excO C t0)) (hroom : A.depth < recursionLimit)
    (hq : ∀ h' tk dx, InitEnd f s.heap h' x C dx t0 v → R (.ok (.ret .none)) { s with heap := h', toks := tk }) :
    codeAny (model prog w) A (.call (.ref fI) ⟨[.ref x, v], []⟩) R s := by
  obtain ⟨qual, oc, od, doc, pm, an, cdv, ct, osl, p1, p2, q1, q2, q3, q4, ho, hcd⟩ := T.fn
  obtain ⟨nm, q, N, bs, sn, sub, ab, col, dd, k0, k1, k2, k3, k5, hC⟩ := T.cls
  have hcl : clsIn K C = some { name := nm, bases := bs, mro := .ref C :: tail, ns := N, qualname := q, hasDict := true, slotNames := sn, subclasses := sub, abstract := ab, collection := col, hasDel := false } := by unfold clsIn; rw [hC] <;> rfl
  have nfs : Str.ofString f ≠ Str.ofString "self" := str_ne T.fne.1
  have look_self : (iS f).names.lookup (Str.ofString "self") = some .local := by simp [iS, List.lookup]
  have look_f : (iS f).names.lookup (Str.ofString f) = some .local := by
    have : (Str.ofString f == Str.ofString "self") = false := by simpa using nfs
    simp [iS, List.lookup, this]
  have dbg : (Str.ofString f == ("__debug__" : Str)) = false := by
    have := str_ne T.fne.2
    simpa using this
  refine Att.call_fn (binds := [(Str.ofString "self", .ref x), (Str.ofString f, v)]) X hlim ho hcd hroom (BindsTo.of_eq (T.bd _ _ _ _ _ _ _ _ _ _ _ _ _ _)) (by simp [look_self, look_f]) (fun s₁ IC => ?_) rfl rfl rfl
  obtain ⟨h₁, tk₁, rfl⟩ := IC.toInCall.same
  have k : ∀ b o, s.heap.get? b = some o → h₁.get? b = some o := IC.toInCall.keep
  have hn := IC.toInCall.ns
  have hxL : s.heap.objs.size ≠ x := Nat.ne_of_gt (Heap.lt_size hx)
  have X₁ : K.In h₁ := X.keeps k
  have hx₁ := k _ _ hx
  have ks : (envOfC qual (iS f) s.heap.objs.size fI cdv).kindOf (Str.ofString "self") = some .local := look_self
  have kf : (envOfC qual (iS f) s.heap.objs.size fI cdv).kindOf (Str.ofString f) = some .local := look_f
  -- self.f = f
  show wpAny _ _ (execs _ _) _ _ _
  refine wpAny_execs_cons (plainObj_wpAny_Assign_Attribute ?_)
  refine ldC (v := v) hn ?_ (ldC (v := .ref x) hn ?_ ?_ rfl ks rfl) rfl kf dbg
  · unfold bindL
    rw [show bindL (envOfC qual (iS f) s.heap.objs.size fI cdv).kindOf [(Str.ofString f, v)] _ = _ from rfl]
    unfold bindL
    simp [kf, bindL]
  · unfold bindL
    simp [ks, kf, bindL, Ne.symm nfs]
  refine set_plain X₁ (ox := excO C t0) (od := none) ⟨hx₁, rfl, rfl, trivial⟩ T.sa ?_
  refine osa_new T.eb X₁ hx₁ hcl rfl rfl T.noN (fun h₃ tk₃ dx k₃ dn dne hx₃ hn₃ => ?_)
  show wpAny _ _ (execs _ _) _ _ _
  have z : s.heap.objs.size < h₁.objs.size := hn.lt
  exact wpAny_execs_nil (hq h₃ tk₃ dx ⟨fun b o hb e => k₃ b o hb (k b o e), hx₃, Nat.le_of_lt (Nat.lt_of_lt_of_le z dn), dne, hn₃⟩)
theorem own_made (T : ETxt K f newId initId B tail C fI) {v : Value} (X : K.In s.heap) (hlim : s.heap.NoLimit) (hroom : A.depth + 1 < recursionLimit)
    (hq : ∀ h' tk e d, OwnMade f s.heap h' e C d v → R (.ok (.ret (.ref e))) { s with heap := h', toks := tk }) :
    codeAny (model prog w) A (.call (.ref C) ⟨[v], []⟩) R s := by
  obtain ⟨nm, q, N, bs, sn, sub, ab, col, dd, k0, k1, k2, k3, k5, hC⟩ := T.cls
  obtain ⟨hp, g, dr, tk, os⟩ := s
  have k : ∀ b o, hp.get? b = some o → ((hp.push (kdv_tup [v])).push (excO C hp.objs.size)).get? b = some o := fun b o e => Heap.get?_push_of_some _ (Heap.get?_push_of_some _ e)
  have hget : ((hp.push (kdv_tup [v])).push (excO C hp.objs.size)).get? (hp.objs.size + 1) = some (excO C hp.objs.size) := by heap_get
  obtain ⟨bb, FF⟩ := T.eb.facts
  refine kx_call FF T.eb.inB T.eb.inA T.eb.inN (X _ _ hC) (looks_findIn X T.iC) (fun self => bind_fn X self T.tC) (one_size v) ?_
  refine own_init (s := ⟨(hp.push (kdv_tup [v])).push (excO C hp.objs.size), g, dr, tk, os⟩) T (X.keeps k) (hlim.keeps k) hget ?_ fun h' tk' dx ⟨k', hx, dn, dne, hns⟩ => ?_
  · show A.depth + 1 < recursionLimit
    exact hroom
  · have old : ∀ b o, hp.get? b = some o → h'.get? b = some o := fun b o e => k' b o (Nat.ne_of_lt (Nat.lt_succ_of_lt (Heap.lt_size e))) (k b o e)
    have z : hp.objs.size + 1 + 1 ≤ dx := by
      first
        | (simpa only [Heap.size_push] using dn)
        | exact dn
        | (have q := dn; rw [Heap.size_push, Heap.size_push] at q; exact q)
    exact ⟨rfl, hq h' tk' (hp.objs.size + 1) dx ⟨old, Nat.le_succ _, ⟨_, _, hx, rfl, rfl, rfl, rfl, rfl, (by decide : (4 : Nat) < 6)⟩, Nat.le_trans (Nat.le_trans (Nat.le_succ _) (Nat.le_succ _)) z, dne, hns⟩⟩
end
end DLE

set_option Elab.async false
set_option linter.all false
set_option autoImplicit false
set_option maxRecDepth 100000
set_option maxHeartbeats 1000000
/-! DLZ: exceptions in the air: of those whose class is cold the context is known to be None. -/
namespace DL
open PySem PySem.Spec PyProof.Rows L2
/-- a class whose exceptions are raised where nothing is handled -/
def coldK (K : PySem.W.Frag) : Value → Bool
  | .ref C => match PySem.W.clsIn K C with
    | some cd => cd.name != "ParseError"
    | none => true
  | _ => true
/-- behind a call that let an exception out: both of the kit's forms -/
def CZ (K : PySem.W.Frag) (P : Program) (w : World) : CXT := fun outer H s E u s' =>
  L2N.CX P w outer H s (fun c d H' => coldK K c = true ∧ E c d H') u s' ∨ L2.CX P w outer H s (fun c d H' => coldK K c = false ∧ E c d H') u s'
structure Takes (X : Cx) (W : WX) : Prop where
  n : L2N.Takes X (fun c d σ H => coldK X.K c = true ∧ W c d σ H)
  z : L2.Takes X (fun c d σ H => coldK X.K c = false ∧ W c d σ H)
section
variable {X : Cx} {W W' : WX} {E : XK}
theorem Takes.imp (t : Takes X W) (h : ∀ c d σ H, W' c d σ H → W c d σ H) : Takes X W' :=
  ⟨L2N.Takes.imp t.n fun c d σ H q => ⟨q.1, h _ _ _ _ q.2⟩, L2.Takes.imp t.z fun c d σ H q => ⟨q.1, h _ _ _ _ q.2⟩⟩
theorem takes_of (hs : X.stack = X.env :: X.outer) (hf : X.env.frame = some X.env.locals) (hex : X.ex = []) {E₁ : Value → Shared → Prop}
    (hx : X.xe = fun e s' => wpAny (model X.prog X.w) X.A (leaving X.env e) (fun _ s'' => CZ X.K X.prog X.w X.outer X.H_0 X.s_0 E e s'') E₁ s') : Takes X (fun cls d _ H => E cls d H) := by
  refine ⟨fun u s' x => ?_, fun u s' x => ?_⟩
  · rw [hx]
    exact thn (L2N.XE.leave (E := fun c d H' => coldK X.K c = true ∧ E c d H') hs hf hex (fun _ _ _ _ h => h) x) fun _ _ z => .inl z
  · rw [hx]
    exact thn (L2.XE.leave (E := fun c d H' => coldK X.K c = false ∧ E c d H') hs hf hex (fun _ _ _ _ h => h) x) fun _ _ z => .inr z
theorem passAt (tk : Takes X W) (σ : L2.St) : PassesAt (CZ X.K X.prog X.w) X σ (WE W σ) := fun pins H s e s' I c => by
  rcases c with c | c
  · exact L2N.passAt tk.n σ pins H s e s' I c
  · exact L2.passAt tk.z σ pins H s e s' I c
theorem noPass {σ : L2.St} : PassesAt (CZ X.K X.prog X.w) X σ (fun _ _ _ => False) := fun pins H s e s' I z => by
  rcases z with ⟨_, _, _, _, _, _, _, _, _, _, _, _, q⟩ | ⟨_, _, _, _, _, _, _, _, _, _, _, _, q⟩
  · exact q.2.elim
  · exact q.2.elim
end
end DL

set_option Elab.async false
set_option linter.all false
set_option autoImplicit false
set_option maxRecDepth 100000
/-! DLX9: raise; calls of defs; a def by its body. -/
namespace DL
open PySem PySem.Spec PyProof.Rows L2
theorem relO_f {f : Str} {v : V} {v' : Value} (r : RelV v v') (y : Str) : RelO (List.lookup y [(f, v)]) (if y = f then some v' else none) := by
  by_cases hw : y = f
  · subst hw
    rw [if_pos rfl]
    have q : List.lookup y [(y, v)] = some v := by simp [List.lookup]
    rw [q]
    exact r
  · rw [if_neg hw]
    have qw : (y == f) = false := by simpa using hw
    have q2 : List.lookup y [(f, v)] = none := by simp [List.lookup, qw]
    rw [q2]
    trivial
section
variable {X : Cx} {C fI : Addr} {f B newId initId : String} {tail : List Value}
/-- C(e), an own exception -/
def tMkE (C : Addr) (f : Str) (ta : TA) : L2.St → Hp → XK → Prop := fun σ H Q => ta σ H fun vs H1 => ∃ v, vs = [v] ∧ ∀ d, H1 d = none → Q (.ref C) (some d) (upd H1 d (.xd [(f, v)]))
theorem pmk_own5 {a : Expr} {ta : TA} {x : Str} {p pos : Pos}  (T : DLE.ETxt X.K f newId initId B tail C fI) (hr : X.A.depth + 1 < recursionLimit) (ha : PA X [a] ta) (hg : Gl X x) (hm : X.mg x = some (.ref C)) (hdb : (x == ("__debug__" : Str)) = false := by decide)
    (he : starEach (a :: []) X.env = (false, eval a X.env) :: starEach [] X.env := by rfl) (hpl : (backTo pos (starEach [] X.env)).any (·.1) = false := by rfl) :
    L2H.PMk5 X (.Call (.Name x p) [a] [] pos) (tMkE C f ta) := by
  intro pins s σ H Q I h
  refine wpAny_Call_Name_kw (ld_glob I hg hm ?_ hdb)
  refine PySem.W.callWith_K (h₀ := X.base) I.ok.mod.kin T.kC (thn (ha.run pos pins s σ H _ I h) fun us s1 hh => ?_) he hpl
  obtain ⟨vs, H1, I1, r1, v, ev, q1⟩ := hh
  subst ev
  refine ⟨I1.kIn, ?_⟩
  cases r1 with
  | cons rv rn =>
    rename_i v' us'
    cases rn
    show wpAny _ _ (call (.ref C) [v']) _ _ _
    have hlim := I1.nolimit
    obtain ⟨hp, g, dr, tk, os⟩ := s1
    refine wpAny_call (DLE.own_made T I1.kIn hlim hr fun h' tk' e d M => ?_)
    show L2N.MkP X pins σ Q (.ref e) ⟨h', g, dr, tk', os⟩ ∧ L2H.Six (.ref e) ⟨h', g, dr, tk', os⟩
    obtain ⟨oe, fv, hoe, hc, hd, hdat, h1, h2, hz⟩ := M.obj
    have hns := M.ns
    obtain ⟨G', g1, g2⟩ := restrict h' fun b => decide (b ≠ e)
    have gk : ∀ b, b ≠ e → G'.get? b = h'.get? b := fun b hb => g1 b (decide_eq_true hb)
    have ge : G'.get? e = none := g2 e (by simp)
    have old : ∀ b o, hp.get? b = some o → G'.get? b = some o := fun b o q => (gk b (Nat.ne_of_lt (Nat.lt_of_lt_of_le (Heap.lt_size q) M.new))).trans (M.keep b o q)
    have ob : ObjOk X.prog X.w (upd H1 d (.xd [(Str.ofString f, v)])) G' d (.xd [(Str.ofString f, v)]) :=
      ⟨_, hns.at (fun o q => (gk d M.dne).trans q), fun f => relO_f rv f⟩
    have J : Inv X pins σ (upd H1 d (.xd [(Str.ofString f, v)])) ⟨G', g, dr, tk', os⟩ := I1.laid (t' := tk') old M.dbig ob
    refine ⟨⟨e, oe, fv, ⟨G', g, dr, tk', os⟩, _, .ref C, some d, rfl, J, fun b o q => ?_, ge, hoe, ⟨hc, hd, fun vs z => by rw [hdat] at z; cases z; exact h2⟩, hdat, h1, ?_, rfl, I1.bare, raises_own T.exC T.tyC, q1 d (I1.hok.fresh M.dbig)⟩, fun a2 o2 v2 ea hg2 hd2 => ?_⟩
    · by_cases hb : b = e
      · have q' : G'.get? b = some o := q
        rw [hb, ge] at q'; cases q'
      · exact (gk b hb).symm.trans q
    · rw [upd_ne (Ne.symm M.dne)]
      exact I1.hok.fresh M.new
    · cases ea
      have hg3 : h'.get? e = some o2 := hg2
      rw [hoe] at hg3
      cases hg3
      rw [hdat] at hd2
      cases hd2
      exact hz
theorem pmk_zc {e : Expr} {t : L2.St → Hp → XK → Prop} (h : L2N.PMk X e t) : L2.PMk X e t := fun pins s σ H Q I q => thn (h pins s σ H Q I q) fun _ _ ⟨a, oe, vs, sI, H', cls, d, e, J, k, n, g, z, r⟩ => ⟨a, oe, vs, sI, H', cls, d, e, J, k, n, g, z.zc, r⟩
/-- n.f, n the exception that the suite holds (at a; its class cls, its dict d) -/
def tByE (C : Addr) (f : Str) (a : Addr) (cls : Value) (d : Option Addr) (te : TE) : TE := fun σ H Q => te σ H fun x H1 => x = .ref a ∧ cls = .ref C ∧ ∃ (dd : Addr) (v : V), d = some dd ∧ H1 dd = some (.xd [(f, v)]) ∧ Q v H1
theorem pe_byE {a : Addr} {oe : Obj} {cls : Value} {d : Option Addr} {pn : List (Addr × Obj)} {e : Expr} {te : TE} {pos : Pos} (T : DLE.ETxt X.K f newId initId B tail C fI) (hz : Zc cls d oe) (hf : ∃ vs, oe.data = .fields vs) (he : PE (X.suite a ((a, oe) :: pn)) e te)
    (hb : attributeBase e f X.env (eval e X.env) = eval e X.env := by rfl) :
    PE (X.suite a ((a, oe) :: pn)) (.Attribute e f pos) (tByE C f a cls d te) := by
  refine ⟨fun pins s σ H Q I h => ?_⟩
  refine attr_of hb (thn (he.run pins s σ H _ I h) fun u s1 hh => ?_)
  obtain ⟨x, H1, I1, rx, ex, ec, dd, v, ed, ea, q⟩ := hh
  subst ex
  obtain rfl : u = Value.ref a := rx
  subst ec
  subst ed
  obtain ⟨ha, _⟩ := I1.pin (a, oe) (List.mem_append_left _ List.mem_cons_self)
  obtain ⟨vs, hd⟩ := hf
  have hx : ObjOk X.prog X.w H1 s1.heap dd (.xd [(Str.ofString f, v)]) := I1.hok dd _ ea
  obtain ⟨mA, hns, hr⟩ := hx
  obtain ⟨od, ho, hl⟩ := lookIn_ns hns
  have l : List.lookup (Str.ofString f) [(Str.ofString f, v)] = some v := by simp [List.lookup]
  obtain ⟨u, hu, ru⟩ := RelO.some_of (v := v) (o := mA (Str.ofString f)) (by rw [← l]; exact hr (Str.ofString f))
  have J : PySem.W.InstAt s1.heap a oe C (some od) := ⟨ha, hz.1, by unfold PySem.W.notCls; rw [hd] <;> rfl, by rw [hz.2]; exact ho⟩
  exact HandSPX.exc_get I1.kIn J T.ga T.gg T.exC (PySem.W.findObj_own T.hdC T.noN rfl (by rw [hl, hu])) (handed_of ru) ⟨v, H1, I1.tok _, ru, q⟩
end
section
variable {X : Cx} {T : Tb} {B : Bs} {M : List Nat} {W : EK} {F H : Hp} {ρ : Env} {σ : L2.St}
theorem pds_raise {f newId initId Bn : String} {tail : List Value} {C fI : Addr} {c : Nat} {a : Expr} {g : DE} {x : Str} {p pos pos2 : Pos} {k : Nat} (hc : X.calm = true) (tk : Takes X (lW X.K T B M W)) (ET : DLE.ETxt X.K f newId initId Bn tail C fI) (hT : T.ex c = some ⟨C, Str.ofString f⟩) (hr : Room k X.A) (ha : PD X T B M W a g) (hg : Gl X x) (hm : X.mg x = some (.ref C)) (hdb : (x == ("__debug__" : Str)) = false := by decide)
    (he : starEach (a :: []) X.env = (false, eval a X.env) :: starEach [] X.env := by rfl) (hpl : (backTo pos (starEach [] X.env)).any (·.1) = false := by rfl) : PDS X T B M W (.Raise (some (.Call (.Name x p) [a] [] pos)) none pos2) (sRaise c g) :=
  by
  have mk := pmk_own5 (p := p) ET (by have := hr.dp; omega) (pa_cons ha pa_nil he) hg hm hdb he hpl
  have go : ∀ (P : Value → Prop), P (.ref C) → ∀ (J : Ends) (σ : L2.St) (H : Hp), lS X.K T B M W (sRaise c g) J σ H → tMkE C (Str.ofString f) (tCons (lE X.K T B M W g) tNil) σ H fun cls d H' => P cls ∧ lW X.K T B M W cls d σ H' := fun P hP J σ H ⟨F, ρ, Jd, S, h, _⟩ => by
    refine lE_run S h fun F1 H1 ρ1 v r e1 S1 R1 q => ?_
    refine ⟨v, rfl, fun d hd => ?_⟩
    have S2 := S1.lay (o := .xd [(Str.ofString f, v)]) hd
    have su : Same F1 (upd F1 d (.xd [(Str.ofString f, v)])) := same_upd (S1.sub.free hd)
    have S3 := S2.settle (S1.sub.free hd) upd_same (.inl (S1.gone hd)) (S1.lay_new hd)
    exact ⟨hP, _, ρ1, ⟨c, r.d⟩, S3, ⟨_, d, v, hT, rfl, rfl, upd_same, R1.mono su⟩, q⟩
  cases hcold : coldK X.K (.ref C) with
  | true => exact ps_imp (L2N.ps_raise hc tk.n mk.pmk) fun J σ H z => go (fun cls => coldK X.K cls = true) hcold J σ H z
  | false => exact ps_imp (L2.ps_raise hc tk.z (pmk_zc mk.pmk)) fun J σ H z => go (fun cls => coldK X.K cls = false) hcold J σ H z
end
end DL

set_option Elab.async false
set_option linter.all false
set_option autoImplicit false
set_option maxRecDepth 100000
/-! DLG: defs whose callers show no repr (no guard stands on the stack). -/
namespace DL
open PySem PySem.Spec PyProof.Rows L2
/-- room for k levels of calls (one frame each, and room to spare at the end) -/
structure RoomN (k : Nat) (A : Around) : Prop where
  hd : A.handled = none
  dp : A.depth + k + 60 < recursionLimit
  un : A.units + 16 * k + 440 < cLine
/-- room for k levels of calls, and no guard -/
structure RoomG (k : Nat) (A : Around) : Prop where
  rn : RoomN k A
  gd : A.guards = some []
namespace RoomN
variable {k : Nat} {A : Around}
theorem mono {j : Nat} (r : RoomN k A) (h : j ≤ k) : RoomN j A := ⟨r.hd, by have := r.dp; omega, by have := r.un; omega⟩
theorem deeper (r : RoomN (k + 1) A) (env : PySem.Env) : RoomN k (A.deeper env) := ⟨r.hd, by have := r.dp; show A.depth + 1 + k + 60 < _; omega, by have := r.un; show A.units + 3 + 16 * k + 440 < _; omega⟩
theorem depth (r : RoomN k A) : A.depth < recursionLimit := by have := r.dp; omega
theorem in1 (r : RoomN (k + 1) A) : RoomN k A.in1 := ⟨r.hd, by have := r.dp; show A.depth + k + 60 < _; omega, by have := r.un; show A.units + 1 + 16 * k + 440 < _; omega⟩
theorem make (r : RoomN (k + 1) A) (C : Addr) (us : List Value) (kw : List (Str × Value)) : RoomN k (A.under (.builtin "type.__call__" ⟨.ref C :: us, kw⟩)) :=
  ⟨r.hd, by have := r.dp; rw [make_depth]; omega, by have := r.un; rw [make_units]; omega⟩
end RoomN
namespace RoomG
variable {k : Nat} {A : Around}
theorem rm (r : RoomG k A) : Room 15 A := ⟨r.rn.hd, by have := r.rn.dp; omega, by have := r.rn.un; omega⟩
theorem mono {j : Nat} (r : RoomG k A) (h : j ≤ k) : RoomG j A := ⟨r.rn.mono h, r.gd⟩
theorem deeper (r : RoomG (k + 1) A) (env : PySem.Env) : RoomG k (A.deeper env) := ⟨r.rn.deeper env, r.gd⟩
theorem un0 (r : RoomG k A) : A.units + 200 < cLine := by have := r.rm.un; omega
theorem units (r : RoomG k A) : A.units + 64 < cLine := r.rm.units
theorem make_guards {C : Addr} {us : List Value} {kw : List (Str × Value)} : (Code.builtin "type.__call__" ⟨.ref C :: us, kw⟩).guards = [] := by
  unfold Code.guards
  rw [if_neg]
  show ¬ (guardIds.contains "type.__call__") = true
  decide +kernel
theorem make (r : RoomG (k + 1) A) (C : Addr) (us : List Value) (kw : List (Str × Value)) : RoomG k (A.under (.builtin "type.__call__" ⟨.ref C :: us, kw⟩)) := by
  refine ⟨r.rn.make C us kw, ?_⟩
  show pushGuards (Code.builtin "type.__call__" ⟨.ref C :: us, kw⟩).guards A.guards = some []
  rw [make_guards, r.gd]
  rfl
end RoomG
/-- a def's promise where no guard stands -/
structure FnG (P : Program) (w : World) (K : PySem.W.Frag) (mg : Str → Option Value) (base : Heap) (CX : CXT) (k : Nat) (f : Addr) (fd : FuncData) (ps : List Str) (sp : Sp) : Prop where
  len : ∀ vs H Q E, sp vs H Q E → vs.length = ps.length
  run : ∀ (A : Around) (outer : List PySem.Env) (s : Shared) (H : Hp) (args : Args) (us : List Value) (vs : List V) (Q : VK) (E : XK), RoomG k A → Env0 P w K mg base A outer s H →
    BindsTo s fd args (ps.zip us) → Vals vs us → sp vs H Q E → codeAny (model P w) A (.call (.ref f) args) (CR CX outer P w H s Q E) s
section
variable {P : Program} {w : World} {K : PySem.W.Frag} {mg : Str → Option Value} {base : Heap} {CX : CXT} {k : Nat} {f : Addr} {fd : FuncData} {ps : List Str} {sp sp' : Sp}
theorem FnG.imp (G : FnG P w K mg base CX k f fd ps sp) (h : ∀ vs H Q E, sp' vs H Q E → sp vs H Q E) : FnG P w K mg base CX k f fd ps sp' where
  len vs H Q E q := G.len vs H Q E (h _ _ _ _ q)
  run A outer s H args us vs Q E hr e0 hb hv hs := G.run A outer s H args us vs Q E hr e0 hb hv (h _ _ _ _ hs)
theorem FnG.of (G : FnOk P w K mg base CX k f fd ps sp) (hk : k ≤ 15 := by decide) : FnG P w K mg base CX k f fd ps sp where
  len := G.len
  run A outer s H args us vs Q E hr := G.run A outer s H args us vs Q E (hr.rm.mono hk)
theorem fnG_of {x qual : Str} {st : Stmt} {N : List Str} (Fn : Fun K x qual st f fd) (S : FnScope N ps (defScope st)) (len : ∀ vs H Q E, sp vs H Q E → vs.length = ps.length)
    (hbody : ∀ (cdv : Value), fd.code = cdv → ∀ (A : Around) (outer : List PySem.Env) (s : Shared) (H : Hp) (vs : List V) (Q : VK) (E : XK), RoomG k (A.deeper (envOfC qual (defScope st) s.heap.objs.size f cdv)) → sp vs H Q E →
      ∃ t, PSs (cxOf (CZ K P w) P w K mg base N qual (defScope st) f cdv A outer s H E) (defBody st) t ∧ t { nx := fun _ H' => Q .non H', rt := Q } (start N vs) H) : FnG P w K mg base (CZ K P w) (k + 1) f fd ps sp := by
  obtain ⟨oc, od, kV, doc, pm, an, cdv, ct, osl, rfl, lk, hcd⟩ := Fn.ex
  refine ⟨len, fun A outer s H args us vs Q E hr e0 hb r hsp => ?_⟩
  refine StX.run_bnd (G := fun vs' H' => vs' = vs ∧ H' = H) lk hcd S (show Room (14 + 1) A from hr.rm) e0 (fun A' Ex Q' h => ?_) fun s2 H2 vs2 g hr2 => ?_
  · exact hb _ _ _ _ (h s H vs us e0 Un.refl rfl (fun e s' z => z) r (len _ _ _ _ hsp) ⟨rfl, rfl⟩)
  · obtain ⟨rfl, rfl⟩ := g
    exact hbody cdv rfl A outer s2 H2 vs2 Q E (hr.deeper _) hsp
end
section
variable {X : Cx} {CX : CXT} {k : Nat} {f : Addr} {fd : FuncData} {ps : List Str} {sp : Sp} {E : L2.St → XK} {x : Str} {p pos : Pos} {e : Expr} {es : List Expr} {t : TA} {σ : L2.St} {H : Hp}
theorem run_fnG {pins : List (Addr × Obj)} {s : Shared} {Q : VK} {us : List Value} {vs : List V} (G : FnG X.prog X.w X.K X.mg X.base CX k f fd ps sp) (hr : RoomG k X.A) (hb : Binds X.K fd ps []) (hx : PassesAt CX X σ (E σ))
    (I : Inv X pins σ H s) (r : Vals vs us) (h : sp vs H Q (E σ)) : wpAny (model X.prog X.w) X.A (call (.ref f) us) (EP X pins σ Q) X.xe s := by
  have hl := G.len _ _ _ _ h
  rw [r.length] at hl
  have bd := hb s us I.kIn (by simpa using hl)
  simp only [List.append_nil] at bd
  refine wpAny_call (codeAny_mono (G.run X.A X.stack s H ⟨us, []⟩ us vs Q (E σ) hr I.env0 bd r h) fun res s' z => ?_)
  match res, z with
  | .error e, z => exact hx pins H s e s' I z
  | .ok (.ret u), z => exact I.after z
theorem pe_callG (G : FnG X.prog X.w X.K X.mg X.base CX k f fd ps sp) (hr : RoomG k X.A) (hg : Gl X x) (hm : X.mg x = some (.ref f)) (hk : PySem.W.keepIn X.K (.ref f) = true) (hb : Binds X.K fd ps []) (hx : ∀ σ, PassesAt CX X σ (E σ))
    (ha : PA X (e :: es) t) (hdb : (x == ("__debug__" : Str)) = false := by decide) (he : starEach (e :: es) X.env = (false, eval e X.env) :: starEach es X.env := by rfl) (hpl : (backTo pos (starEach es X.env)).any (·.1) = false := by rfl) :
    PE X (.Call (.Name x p) (e :: es) [] pos) (tCallS sp E t) where
  run pins s σ H Q I h := by
    refine wpAny_Call_Name_kw (ld_glob I hg hm (PySem.W.callWith_K (h₀ := X.base) I.ok.mod.kin hk (thn (ha.run pos pins s σ H _ I h) ?_) he hpl) hdb)
    rintro us s1 ⟨vs, H1, I1, r, q⟩
    exact ⟨I1.kIn, run_fnG G hr hb (hx σ) I1 r q⟩
end
end DL

set_option Elab.async false
set_option linter.all false
set_option autoImplicit false
set_option maxRecDepth 100000
/-! DLX10: calls of defs; a def by its body. -/
namespace DL
open PySem PySem.Spec PyProof.Rows L2
section
variable (K : PySem.W.Frag) (T : Tb)
/-- an argument as it is handed in -/
def ArgOk (F H : Hp) (v : V) : Slot → Prop
  | .no => True
  | .fz d => Rep K T F v d
  | .own d => ∃ p o, v = .ref p ∧ F p = none ∧ H p = some o ∧ RepO K T F o d ∧ tupB o = false
  | .ownT d => ∃ p o, v = .ref p ∧ F p = none ∧ H p = some o ∧ TreeO K T F H o d ∧ (p :: footO o d).Nodup ∧ tupB o = false
theorem ArgOk.slot {F H : Hp} {v : V} {s : Slot} (h : ArgOk K T F H v s) : SlotOk K T F H (some (some v)) s := by
  cases s with
  | no => trivial
  | fz d => exact ⟨v, rfl, h⟩
  | own d => obtain ⟨p, o, rfl, z⟩ := h; exact ⟨p, o, rfl, z⟩
  | ownT d => obtain ⟨p, o, rfl, z⟩ := h; exact ⟨p, o, rfl, z⟩
theorem ArgOk.of {F H : Hp} {v : V} {s : Slot} (h : SlotOk K T F H (some (some v)) s) : ArgOk K T F H v s := by
  cases s with
  | no => trivial
  | fz d => obtain ⟨v', e, z⟩ := h; cases e; exact z
  | own d => obtain ⟨p, o, e, z⟩ := h; cases e; exact ⟨p, o, rfl, z⟩
  | ownT d => obtain ⟨p, o, e, z⟩ := h; cases e; exact ⟨p, o, rfl, z⟩
/-- the objects that are handed in to be changed -/
def OwnI (H : Hp) (vs : List V) (args : List Slot) (i : Nat) (b : Addr) : Prop := ∃ v s, vs[i]? = some v ∧ args[i]? = some s ∧ b ∈ foot H (some (some v)) s
def OwnA (H : Hp) (vs : List V) (args : List Slot) (b : Addr) : Prop := ∃ i, OwnI H vs args i b
/-- behind a call -/
structure Aft (M : List Nat) (F H : Hp) (vs : List V) (args : List Slot) (F' H' : Hp) (outs : List Slot) : Prop where
  same : Same F F'
  sub : SmB H (OwnA H vs args) F' H'
  keep : ∀ b o, H b = some o → ¬ OwnA H vs args b → (∀ ps, o ≠ .tbl ps) → H' b = some o
  live : ∀ b o, H b = some o → ∃ o', H' b = some o'
  fnew : ∀ b o, F' b = some o → F b = some o ∨ H b = none ∨ OwnA H vs args b ∨ tupB o = true
  len : outs.length = args.length
  out : ∀ i ∈ M, ∀ v s, vs[i]? = some v → outs[i]? = some s → ArgOk K T F' H' v s
  outF : ∀ i ∈ M, ∀ b, OwnI H' vs outs i b → H b = none ∨ OwnI H vs args i b
  outJ : ∀ i ∈ M, ∀ j ∈ M, ∀ b, OwnI H' vs outs i b → OwnI H' vs outs j b → i = j
  tabs : TabsF T.tabs F' H'
/-- a result by itself -/
def RetC (M : List Nat) (vs : List V) (outs : List Slot) (F H H' : Hp) (v : V) : R → Prop
  | .fz d => Rep K T F v d
  | .fr d => ∃ p o, v = .ref p ∧ F p = none ∧ H' p = some o ∧ RepO K T F o d ∧ H p = none ∧ ∀ i ∈ M, ¬ OwnI H' vs outs i p
  | .ft d => ∃ p o, v = .ref p ∧ F p = none ∧ H' p = some o ∧ TreeO K T F H' o d ∧ (p :: footO o d).Nodup ∧ ∀ a ∈ p :: footO o d, H a = none ∧ ∀ i ∈ M, ¬ OwnI H' vs outs i a
/-- a def's promise, from its contract over data -/
def spC (n : Nat) (M : List Nat) (con : Con) : Sp := fun vs H Q E => ∃ F args Qc Ec, vs.length = n ∧ args.length = n ∧ (SmW F H ∧ TabsF T.tabs F H) ∧ (∀ (i : Nat) (v : V) (s : Slot), vs[i]? = some v → args[i]? = some s → ArgOk K T F H v s) ∧
  (∀ (i j : Nat) (p : Addr), OwnI H vs args i p → OwnI H vs args j p → i = j) ∧ (∀ (i : Nat) (p : Addr), OwnI H vs args i p → i ∈ M) ∧ con args Qc Ec ∧
  (∀ F' H' v r outs, Aft K T M F H vs args F' H' outs → RetC K T M vs outs F' H H' v r → Qc r outs → Q v H') ∧
  (∀ F' H' cls d x outs, Aft K T M F H vs args F' H' outs → ExR K T F' cls d x → Ec x outs → E cls d H')
end
/-- a def as callers know it -/
structure Def (P : Program) (w : World) (K : PySem.W.Frag) (mg : Str → Option Value) (base : Heap) (T : Tb) (k : Nat) (f : Addr) (fd : FuncData) (ps : List Str) (M : List Nat) (con : Con) : Prop where
  ok : FnG P w K mg base (CZ K P w) k f fd ps (spC K T ps.length M con)
  kp : PySem.W.keepIn K (.ref f) = true
section
variable {X : Cx} {T : Tb} {B : Bs} {M : List Nat} {W : EK} {F H : Hp} {ρ : Env} {σ : L2.St}
/-! ### arguments -/
def AVs (K : PySem.W.Frag) (T : Tb) (F : Hp) (σ : L2.St) : List V → List AV → Prop
  | [], [] => True
  | v :: vs, .v d :: as => Rep K T F v d ∧ AVs K T F σ vs as
  | v :: vs, .m i :: as => σ[i]? = some (some v) ∧ AVs K T F σ vs as
  | _, _ => False
theorem AVs.mono {K : PySem.W.Frag} {F' : Hp} (h : Same F F') : ∀ {vs : List V} {as : List AV}, AVs K T F σ vs as → AVs K T F' σ vs as
  | [], [], _ => trivial
  | _ :: _, .v _ :: _, q => ⟨q.1.mono h, AVs.mono h q.2⟩
  | _ :: _, .m _ :: _, q => ⟨q.1, AVs.mono h q.2⟩
  | [], _ :: _, q => q.elim
  | _ :: _, [], q => q.elim
/-- which arguments: m-slots as written, ref-like where the def may change -/
def AMatch : List DA → List AV → Prop
  | [], [] => True
  | .v _ :: as, .v _ :: bs => AMatch as bs
  | .r _ :: as, .v d :: bs => d.isRef = true ∧ AMatch as bs
  | .m i :: as, .m j :: bs => i = j ∧ AMatch as bs
  | _, _ => False
def lAV (K : PySem.W.Frag) (T : Tb) (B : Bs) (M : List Nat) (W : EK) (as : List DA) : TA := fun σ H Q => ∃ F ρ Qd, SR K T B M F H ρ σ ∧ dAVs as ρ Qd W ∧ ∀ F' H' ρ' vs bs, Same F F' → SR K T B M F' H' ρ' σ → AVs K T F' σ vs bs → AMatch as bs → Qd bs ρ' → Q vs H'
abbrev PDAV (X : Cx) (T : Tb) (B : Bs) (M : List Nat) (W : EK) (es : List Expr) (as : List DA) : Prop := PA X es (lAV X.K T B M W as)
variable {e : Expr} {es : List Expr} {f : DE} {as : List DA} {pos : Pos}
theorem zaL : PDAV X T B M W [] [] := pa_imp pa_nil fun σ H Q ⟨F, ρ, Qd, S, h, k⟩ => k F H ρ [] [] (Same.refl _) S trivial trivial h
theorem pav_v (he : PD X T B M W e f) (hr : PDAV X T B M W es as) (hs : starEach (e :: es) X.env = (false, eval e X.env) :: starEach es X.env := by rfl) : PDAV X T B M W (e :: es) (.v f :: as) :=
  pa_imp (pa_cons he hr hs) fun σ H Q ⟨F, ρ, Qd, S, h, k⟩ => by
    refine lE_run S h fun F1 H1 ρ1 v1 r1 e1 S1 R1 h1 => ?_
    exact ⟨F1, ρ1, _, S1, h1, fun F2 H2 ρ2 vs bs e2 S2 R2 mt h2 => k F2 H2 ρ2 _ (.v r1.d :: bs) (e1.trans e2) S2 ⟨R1.mono e2, R2⟩ mt h2⟩
theorem SR.known {i : Nat} (S : SR X.K T B M F H ρ σ) (h : (ρ.at i).known = true) : ∃ v, σ[i]? = some (some v) := by
  have hs := S.slot i
  cases e : ρ.at i with
  | no => rw [e] at h; cases h
  | fz d => rw [e] at hs; obtain ⟨v, q, _⟩ := hs; exact ⟨v, q⟩
  | own d => rw [e] at hs; obtain ⟨p, o, q, _⟩ := hs; exact ⟨_, q⟩
  | ownT d => rw [e] at hs; obtain ⟨p, o, q, _⟩ := hs; exact ⟨_, q⟩
theorem pav_m {i : Nat} {x : Str} {px : Pos} (hN : X.N[i]? = some x) (hv : Vis X.env.scope x) (hr : PDAV X T B M W es as) (hs : starEach (Expr.Name x px :: es) X.env = (false, eval (.Name x px) X.env) :: starEach es X.env := by rfl) (hd : (x == ("__debug__" : Str)) = false := by decide) (hcd : (x == ("__classdict__" : Str)) = false := by decide) :
    PDAV X T B M W (.Name x px :: es) (.m i :: as) :=
  pa_imp (pa_cons (pe_var hN hv hd hcd) hr hs) fun σ H Q ⟨F, ρ, Qd, S, ⟨h0, h⟩, k⟩ => by
    obtain ⟨v, ev⟩ := S.known h0
    exact ⟨v, ev, F, ρ, _, S, h, fun F2 H2 ρ2 vs bs e2 S2 R2 mt h2 => k F2 H2 ρ2 _ (.m i :: bs) e2 S2 ⟨ev, R2⟩ ⟨rfl, mt⟩ h2⟩
/-! ### what a call leaves -/
theorem AVs.len {K : PySem.W.Frag} : ∀ {vs : List V} {bs : List AV}, AVs K T F σ vs bs → vs.length = bs.length
  | [], [], _ => rfl
  | _ :: _, .v _ :: _, q => congrArg (· + 1) (AVs.len q.2)
  | _ :: _, .m _ :: _, q => congrArg (· + 1) (AVs.len q.2)
  | [], _ :: _, q => q.elim
  | _ :: _, [], q => q.elim
theorem AVs.getV {K : PySem.W.Frag} : ∀ {vs : List V} {bs : List AV} {i : Nat} {v : V} {d : D}, AVs K T F σ vs bs → vs[i]? = some v → bs[i]? = some (.v d) → Rep K T F v d
  | v :: vs, .v d :: bs, 0, _, _, q, h1, h2 => by simp at h1 h2; subst h1; subst h2; exact q.1
  | v :: vs, .m j :: bs, 0, _, _, q, h1, h2 => by simp at h2
  | v :: vs, .v d :: bs, i + 1, _, _, q, h1, h2 => AVs.getV (i := i) q.2 (by simpa using h1) (by simpa using h2)
  | v :: vs, .m j :: bs, i + 1, _, _, q, h1, h2 => AVs.getV (i := i) q.2 (by simpa using h1) (by simpa using h2)
  | [], [], _, _, _, _, h1, _ => by simp at h1
  | [], _ :: _, _, _, _, q, _, _ => q.elim
  | _ :: _, [], _, _, _, q, _, _ => q.elim
theorem AVs.getM {K : PySem.W.Frag} : ∀ {vs : List V} {bs : List AV} {i j : Nat} {v : V}, AVs K T F σ vs bs → vs[i]? = some v → bs[i]? = some (.m j) → σ[j]? = some (some v)
  | v :: vs, .v d :: bs, 0, _, _, q, h1, h2 => by simp at h2
  | v :: vs, .m j :: bs, 0, _, _, q, h1, h2 => by simp at h1 h2; subst h1; subst h2; exact q.1
  | v :: vs, .v d :: bs, i + 1, _, _, q, h1, h2 => AVs.getM (i := i) q.2 (by simpa using h1) (by simpa using h2)
  | v :: vs, .m j :: bs, i + 1, _, _, q, h1, h2 => AVs.getM (i := i) q.2 (by simpa using h1) (by simpa using h2)
  | [], [], _, _, _, _, h1, _ => by simp at h1
  | [], _ :: _, _, _, _, q, _, _ => q.elim
  | _ :: _, [], _, _, _, q, _, _ => q.elim
def mslots (bs : List AV) : List Nat := bs.filterMap fun a => match a with | .m i => some i | _ => none
theorem mem_mslots {bs : List AV} {i j : Nat} (h : bs[i]? = some (.m j)) : j ∈ mslots bs := List.mem_filterMap.mpr ⟨_, List.mem_of_getElem? h, rfl⟩
theorem nodup_m : ∀ {bs : List AV} {i j a : Nat}, (mslots bs).Nodup → bs[i]? = some (.m a) → bs[j]? = some (.m a) → i = j
  | [], _, _, _, _, h, _ => by simp at h
  | .v d :: bs, 0, _, _, _, h, _ => by simp at h
  | .v d :: bs, _, 0, _, _, _, h => by simp at h
  | .v d :: bs, i + 1, j + 1, a, nd, h1, h2 => by
    have nd' : (mslots bs).Nodup := nd
    exact congrArg (· + 1) (nodup_m (i := i) (j := j) nd' (by simpa using h1) (by simpa using h2))
  | .m b :: bs, 0, 0, _, _, _, _ => rfl
  | .m b :: bs, 0, j + 1, a, nd, h1, h2 => by
    have e : b = a := by simpa using h1
    subst e
    have nd' : (b :: mslots bs).Nodup := nd
    exact absurd (mem_mslots (by simpa using h2)) (List.nodup_cons.mp nd').1
  | .m b :: bs, i + 1, 0, a, nd, h1, h2 => by
    have e : b = a := by simpa using h2
    subst e
    have nd' : (b :: mslots bs).Nodup := nd
    exact absurd (mem_mslots (by simpa using h1)) (List.nodup_cons.mp nd').1
  | .m b :: bs, i + 1, j + 1, a, nd, h1, h2 => by
    have nd' : (b :: mslots bs).Nodup := nd
    exact congrArg (· + 1) (nodup_m (i := i) (j := j) (List.nodup_cons.mp nd').2 (by simpa using h1) (by simpa using h2))
theorem AMatch.slots : ∀ {as : List DA} {bs : List AV}, AMatch as bs → mslots bs = as.filterMap DA.slot?
  | [], [], _ => rfl
  | .v _ :: as, .v _ :: bs, h => AMatch.slots (as := as) (bs := bs) h
  | .r _ :: as, .v _ :: bs, h => AMatch.slots (as := as) (bs := bs) h.2
  | .m i :: as, .m j :: bs, h => by
    obtain ⟨rfl, h⟩ := h
    show i :: mslots bs = i :: as.filterMap DA.slot?
    rw [AMatch.slots h]
  | [], _ :: _, h => h.elim
  | .v _ :: _, [], h => h.elim
  | .r _ :: _, [], h => h.elim
  | .m _ :: _, [], h => h.elim
  | .v _ :: _, .m _ :: _, h => h.elim
  | .r _ :: _, .m _ :: _, h => h.elim
  | .m _ :: _, .v _ :: _, h => h.elim
theorem AMatch.len : ∀ {as : List DA} {bs : List AV}, AMatch as bs → as.length = bs.length
  | [], [], _ => rfl
  | .v _ :: as, .v _ :: bs, h => congrArg (· + 1) (AMatch.len (as := as) (bs := bs) h)
  | .r _ :: as, .v _ :: bs, h => congrArg (· + 1) (AMatch.len (as := as) (bs := bs) h.2)
  | .m i :: as, .m j :: bs, h => congrArg (· + 1) (AMatch.len h.2)
  | [], _ :: _, h => h.elim
  | .v _ :: _, [], h => h.elim
  | .r _ :: _, [], h => h.elim
  | .m _ :: _, [], h => h.elim
  | .v _ :: _, .m _ :: _, h => h.elim
  | .r _ :: _, .m _ :: _, h => h.elim
  | .m _ :: _, .v _ :: _, h => h.elim
theorem AMatch.at_m : ∀ {as : List DA} {bs : List AV} {i j : Nat}, AMatch as bs → bs[i]? = some (.m j) → ∃ a, as[i]? = some a ∧ a.mut = true
  | .m a :: as, .m b :: bs, 0, j, h, e => ⟨_, rfl, rfl⟩
  | .v _ :: as, .v _ :: bs, 0, j, h, e => by simp at e
  | .r _ :: as, .v _ :: bs, 0, j, h, e => by simp at e
  | .v _ :: as, .v _ :: bs, i + 1, j, h, e => by simpa using AMatch.at_m (as := as) (bs := bs) (i := i) (j := j) h (by simpa using e)
  | .r _ :: as, .v _ :: bs, i + 1, j, h, e => by simpa using AMatch.at_m (as := as) (bs := bs) (i := i) (j := j) h.2 (by simpa using e)
  | .m _ :: as, .m _ :: bs, i + 1, j, h, e => by simpa using AMatch.at_m (as := as) (bs := bs) (i := i) (j := j) h.2 (by simpa using e)
  | [], [], _, _, _, e => by simp at e
  | [], _ :: _, _, _, h, _ => h.elim
  | .v _ :: _, [], _, _, h, _ => h.elim
  | .r _ :: _, [], _, _, h, _ => h.elim
  | .m _ :: _, [], _, _, h, _ => h.elim
  | .v _ :: _, .m _ :: _, _, _, h, _ => h.elim
  | .r _ :: _, .m _ :: _, _, _, h, _ => h.elim
  | .m _ :: _, .v _ :: _, _, _, h, _ => h.elim
theorem backA_len : ∀ (bs : List AV) (outs : List Slot) (ρ : Env), (backA bs outs ρ).length = ρ.length
  | [], _, _ => rfl
  | .m i :: bs, [], _ => rfl
  | .v _ :: bs, [], _ => rfl
  | .m i :: bs, s :: ss, ρ => by
    show (backA bs ss (ρ.set i s)).length = _
    rw [backA_len bs ss, List.length_set]
  | .v _ :: bs, _ :: ss, ρ => backA_len bs ss ρ
theorem backA_at : ∀ {bs : List AV} {outs : List Slot} {ρ : Env} {j : Nat}, outs.length = bs.length → ((∀ (i : Nat), bs[i]? ≠ some (AV.m j)) ∧ (backA bs outs ρ).at j = ρ.at j) ∨ (∃ (i : Nat), bs[i]? = some (AV.m j) ∧ outs[i]? = some ((backA bs outs ρ).at j)) ∨ (backA bs outs ρ).at j = .no
  | [], _, _, _, _ => .inl ⟨fun i h => by simp at h, rfl⟩
  | _ :: bs, [], _, _, h => by simp at h
  | .v _ :: bs, s :: ss, ρ, j, hl => by
    rcases backA_at (bs := bs) (outs := ss) (ρ := ρ) (j := j) (by simpa using hl) with ⟨h1, h2⟩ | ⟨i, h1, h2⟩ | h
    · refine .inl ⟨fun i => ?_, h2⟩
      cases i with
      | zero => simp
      | succ i => simpa using h1 i
    · exact .inr (.inl ⟨i + 1, by simpa using h1, by rw [List.getElem?_cons_succ]; exact h2⟩)
    · exact .inr (.inr h)
  | .m i :: bs, s :: ss, ρ, j, hl => by
    rcases backA_at (bs := bs) (outs := ss) (ρ := ρ.set i s) (j := j) (by simpa using hl) with ⟨h1, h⟩ | ⟨i', h1, h2⟩ | h
    · have e : (backA (.m i :: bs) (s :: ss) ρ).at j = Env.at (ρ.set i s) j := h
      by_cases hj : i = j
      · subst hj
        by_cases hlt : i < ρ.length
        · rw [Env.at_set_same hlt] at e
          exact .inr (.inl ⟨0, rfl, by rw [e]; rfl⟩)
        · have z : Env.at (ρ.set i s) i = .no := at_oob (by simpa using hlt)
          exact .inr (.inr (e.trans z))
      · rw [Env.at_set_ne hj] at e
        refine .inl ⟨fun i' => ?_, e⟩
        cases i' with
        | zero => intro z; simp at z; exact hj z
        | succ i' => simpa using h1 i'
    · exact .inr (.inl ⟨i' + 1, by simpa using h1, by rw [List.getElem?_cons_succ]; exact h2⟩)
    · exact .inr (.inr h)
theorem OwnI.arg {H : Hp} {σ : L2.St} {vs : List V} {bs : List AV} {K : PySem.W.Frag} {F : Hp} (R : AVs K T F σ vs bs) {i : Nat} {b : Addr} (h : OwnI H vs (bs.map (avSlot ρ)) i b) : ∃ j, bs[i]? = some (.m j) ∧ b ∈ foot H (σ[j]?) (ρ.at j) := by
  obtain ⟨v, s, h1, h2, h3⟩ := h
  rw [List.getElem?_map] at h2
  cases e : bs[i]? with
  | none => rw [e] at h2; cases h2
  | some a =>
    rw [e] at h2
    cases h2
    cases a with
    | v d => rw [show avSlot ρ (.v d) = Slot.fz d from rfl, foot_fz] at h3; simp at h3
    | m j => exact ⟨j, rfl, by rw [R.getM h1 e]; exact h3⟩
theorem SR.after {Mc : List Nat} {F' H' : Hp} {vs : List V} {bs : List AV} {outs : List Slot} (S : SR X.K T B M F H ρ σ) (R : AVs X.K T F σ vs bs) (hm : ∀ (i j : Nat), bs[i]? = some (.m j) → i ∈ Mc)
    (A : Aft X.K T Mc F H vs (bs.map (avSlot ρ)) F' H' outs) : SR X.K T B M F' H' (backA bs outs ρ) σ := by
  have hlen : outs.length = bs.length := by rw [A.len, List.length_map]
  have valAt : ∀ (i j : Nat), bs[i]? = some (.m j) → ∃ v, vs[i]? = some v ∧ σ[j]? = some (some v) := fun i j h => by
    have hi : i < bs.length := (List.getElem?_eq_some_iff.mp h).1
    have hv : i < vs.length := by rw [R.len]; exact hi
    exact ⟨_, List.getElem?_eq_getElem hv, R.getM (List.getElem?_eq_getElem hv) h⟩
  -- what is handed in to be changed is own
  have ownA : ∀ b, OwnA H vs (bs.map (avSlot ρ)) b → ∃ j, b ∈ foot H (σ[j]?) (ρ.at j) := fun b ⟨i, h⟩ => by
    obtain ⟨j, _, h⟩ := OwnI.arg R h
    exact ⟨j, h⟩
  -- names that were not handed in keep their objects
  have stay : ∀ j, (∀ (i : Nat), bs[i]? ≠ some (AV.m j)) → ∀ a ∈ foot H (σ[j]?) (ρ.at j), F' a = none ∧ H' a = H a := fun j hin a ha => by
    have nA : ¬ OwnA H vs (bs.map (avSlot ρ)) a := fun ⟨i, z⟩ => by
      obtain ⟨l, z1, z2⟩ := OwnI.arg R z
      exact hin i (by rw [z1, S.injF j l a ha z2])
    obtain ⟨f, o, e, m, _⟩ := S.priv ha
    refine ⟨?_, by rw [e]; exact A.keep a o e nA m⟩
    cases y : F' a with
    | none => rfl
    | some u =>
      rcases A.fnew a u y with r | r | r | r
      · rw [f] at r; cases r
      · rw [e] at r; cases r
      · exact absurd r nA
      · have w := A.sub.up y r
        rw [A.keep a o e nA m] at w
        cases w
        rw [S.notup ha e] at r
        cases r
  -- where a footprint behind the call comes from
  have back : ∀ j a, a ∈ foot H' (σ[j]?) ((backA bs outs ρ).at j) → ((∀ (i : Nat), bs[i]? ≠ some (AV.m j)) ∧ a ∈ foot H (σ[j]?) (ρ.at j)) ∨ ∃ i, bs[i]? = some (.m j) ∧ OwnI H' vs outs i a := fun j a ha => by
    rcases backA_at (bs := bs) (outs := outs) (ρ := ρ) (j := j) hlen with ⟨h1, q⟩ | ⟨i, h1, h2⟩ | q
    · rw [q, foot_eq fun b hb => (stay j h1 b hb).2] at ha
      exact .inl ⟨h1, ha⟩
    · obtain ⟨v, hv, hs⟩ := valAt i j h1
      rw [hs] at ha
      exact .inr ⟨i, h1, v, _, hv, h2, ha⟩
    · rw [q, foot_no] at ha; simp at ha
  refine ⟨S.sub.after A.sub A.fnew, fun b o e n m => ?_, fun b o e => ?_, S.f0.trans A.same, fun b o e => ?_, by rw [backA_len, S.len], fun j => ?_, fun j a ha => ?_, fun j k a e1 e2 => ?_, S.pin, A.tabs⟩
  · refine A.keep b o (S.keep b o e n m) (fun z => ?_) m
    obtain ⟨j, z1⟩ := ownA b z
    rcases S.newO z1 with q | q
    · rw [q] at e; cases e
    · exact n q
  · obtain ⟨o', e'⟩ := S.live b o e
    exact A.live b o' e'
  · rcases A.fnew b o e with q | q | q | q
    · exact S.fnew b o q
    · exact .inr (.inl (S.gone q))
    · obtain ⟨j, z1⟩ := ownA b q
      exact .inr ((S.newO z1).elim .inl fun z => .inr (.inl z))
    · exact .inr (.inr (.inr q))
  · rcases backA_at (bs := bs) (outs := outs) (ρ := ρ) (j := j) hlen with ⟨hin, q⟩ | ⟨i, h1, h2⟩ | q
    · rw [q]
      exact (S.slot j).mono A.same (stay j hin)
    · obtain ⟨v, hv, hs⟩ := valAt i j h1
      rw [hs]
      exact (A.out i (hm i j h1) v _ hv h2).slot
    · rw [q]; trivial
  · rcases back j a ha with ⟨_, q⟩ | ⟨i, h1, q⟩
    · exact S.newF j a q
    · rcases A.outF i (hm i j h1) a q with z | z
      · exact .inl (S.gone z)
      · obtain ⟨l, z1, z2⟩ := OwnI.arg R z
        rw [h1] at z1
        cases z1
        exact S.newF _ a z2
  · have excl : ∀ j k i, (∀ (i : Nat), bs[i]? ≠ some (AV.m j)) → a ∈ foot H (σ[j]?) (ρ.at j) → bs[i]? = some (.m k) → OwnI H' vs outs i a → False := fun j k i h1 q1 h2 q2 => by
      rcases A.outF i (hm i k h2) a q2 with z | z
      · exact (S.priv q1).ne z rfl
      · obtain ⟨l, z1, z2⟩ := OwnI.arg R z
        exact h1 i (by rw [z1, S.injF j l a q1 z2])
    rcases back j a e1 with ⟨h1, q1⟩ | ⟨i1, h1, q1⟩ <;> rcases back k a e2 with ⟨h2, q2⟩ | ⟨i2, h2, q2⟩
    · exact S.injF j k a q1 q2
    · exact (excl j k i2 h1 q1 h2 q2).elim
    · exact (excl k j i1 h2 q2 h1 q1).elim
    · have := A.outJ i1 (hm i1 j h1) i2 (hm i2 k h2) a q1 q2
      subst this
      rw [h1] at h2
      exact AV.m.inj (Option.some.inj h2)
/-! ### the call -/
/-- the def's arguments fit its places that may be changed -/
def fitA (as : List DA) (Mc : List Nat) : Bool := decide ((as.filterMap DA.slot?).Nodup) && (List.range as.length).all fun i => match as[i]? with
  | some a => a.mut == Mc.contains i
  | none => true
theorem fitA_of {as : List DA} {bs : List AV} {Mc : List Nat} (h : fitA as Mc = true) (m : AMatch as bs) : (mslots bs).Nodup ∧ ∀ (i j : Nat), bs[i]? = some (.m j) → i ∈ Mc := by
  unfold fitA at h
  rw [Bool.and_eq_true] at h
  refine ⟨by rw [m.slots]; exact of_decide_eq_true h.1, fun i j e => ?_⟩
  obtain ⟨a, h1, h2⟩ := m.at_m e
  have hi := (List.getElem?_eq_some_iff.mp h1).1
  have := List.all_eq_true.mp h.2 i (List.mem_range.mpr hi)
  rw [h1] at this
  simp only [h2, beq_iff_eq] at this
  simpa using this.symm
theorem call_of {con : Con} {as : List DA} {n : Nat} {Mc : List Nat} {H : Hp} {Q : VK} (hn : as.length = n) (hf : fitA as Mc = true) (h : lE X.K T B M W (zaK con as) σ H Q) :
    lAV X.K T B M W as σ H fun vs H1 => spC X.K T n Mc con vs H1 Q (WE (lW X.K T B M W) σ) := by
  obtain ⟨F, ρ, Qd, S, h, k⟩ := h
  refine ⟨F, ρ, _, S, h, fun F1 H1 ρ1 vs bs e1 S1 R1 mt q => ?_⟩
  obtain ⟨ok, q⟩ := q
  obtain ⟨nd, hm⟩ := fitA_of hf mt
  have hlen : vs.length = n := by rw [R1.len, ← mt.len, hn]
  have argAt : ∀ (i : Nat), (bs.map (avSlot ρ1))[i]? = (bs[i]?).map (avSlot ρ1) := fun i => by rw [List.getElem?_map]
  refine ⟨F1, bs.map (avSlot ρ1), _, _, hlen, by rw [List.length_map, ← mt.len, hn], ⟨S1.sub, S1.tabs⟩, fun i v s h1 h2 => ?_, fun i j p h1 h2 => ?_, fun i p h1 => ?_, q, fun F2 H2 v r outs A R q2 => ?_, fun F2 H2 cls d x outs A ex q2 => ?_⟩
  · rw [argAt] at h2
    cases e : bs[i]? with
    | none => rw [e] at h2; cases h2
    | some a =>
      rw [e] at h2
      cases h2
      cases a with
      | v d => exact R1.getV h1 e
      | m j =>
        have hs := S1.slot j
        rw [R1.getM h1 e] at hs
        exact ArgOk.of _ _ hs
  · obtain ⟨a, e1, f1⟩ := OwnI.arg R1 h1
    obtain ⟨b, e2, f2⟩ := OwnI.arg R1 h2
    have := S1.injF a b p f1 f2
    subst this
    exact nodup_m nd e1 e2
  · obtain ⟨a, e1, f1⟩ := OwnI.arg R1 h1
    exact hm i a e1
  · have S2 := S1.after R1 hm A
    refine k F2 H2 _ v r (e1.trans A.same) S2 ?_ q2
    have hlen2 : outs.length = bs.length := by rw [A.len, List.length_map]
    have nof : ∀ a, H1 a = none → (∀ i ∈ Mc, ¬ OwnI H2 vs outs i a) → ∀ j, a ∉ foot H2 (σ[j]?) ((backA bs outs ρ1).at j) := fun a ha hno j hj => by
      rcases backA_at (bs := bs) (outs := outs) (ρ := ρ1) (j := j) hlen2 with ⟨h1, y⟩ | ⟨i, y1, y2⟩ | y
      · have stay : ∀ b ∈ foot H1 (σ[j]?) (ρ1.at j), H2 b = H1 b := fun b hb => by
          obtain ⟨f, o, e, m, _⟩ := S1.priv hb
          rw [e]
          refine A.keep b o e (fun ⟨i, z⟩ => ?_) m
          obtain ⟨l, z1, z2⟩ := OwnI.arg R1 z
          exact h1 i (by rw [z1, S1.injF j l b hb z2])
        rw [y, foot_eq stay] at hj
        exact (S1.priv hj).ne ha rfl
      · have hi : i < bs.length := (List.getElem?_eq_some_iff.mp y1).1
        have hv : i < vs.length := by rw [R1.len]; exact hi
        have hs := R1.getM (List.getElem?_eq_getElem hv) y1
        rw [hs] at hj
        exact hno i (hm i j y1) ⟨_, _, List.getElem?_eq_getElem hv, y2, hj⟩
      · rw [y, foot_no] at hj; simp at hj
    cases r with
    | fz d => exact R
    | fr d =>
      obtain ⟨p, o, rfl, z1, z2, z3, z4, z5⟩ := R
      exact ⟨p, o, rfl, z1, z2, z3, S1.gone z4, nof p z4 z5⟩
    | ft d =>
      obtain ⟨p, o, rfl, z1, z2, z3, z4, z5⟩ := R
      exact ⟨p, o, rfl, z1, z2, z3, z4, fun a ha => ⟨S1.gone (z5 a ha).1, nof a (z5 a ha).1 (z5 a ha).2⟩⟩
  · exact ⟨F2, _, x, S1.after R1 hm A, ex, q2⟩
variable {k : Nat} {fa : Addr} {fd : FuncData} {ps : List Str} {Mc : List Nat} {con : Con} {x : Str} {p : Pos}
theorem pd_call (G : Def X.prog X.w X.K X.mg X.base T k fa fd ps Mc con) (hr : RoomG k X.A) (tk : Takes X (lW X.K T B M W)) (hg : Gl X x) (hm : X.mg x = some (.ref fa)) (hb : Binds X.K fd ps []) (ha : PDAV X T B M W (e :: es) as) (hn : as.length = ps.length := by rfl) (hf : fitA as Mc = true := by rfl)
    (hdb : (x == ("__debug__" : Str)) = false := by decide) (he : starEach (e :: es) X.env = (false, eval e X.env) :: starEach es X.env := by rfl) (hpl : (backTo pos (starEach es X.env)).any (·.1) = false := by rfl) :
    PD X T B M W (.Call (.Name x p) (e :: es) [] pos) (zaK con as) :=
  pe_imp (pe_callG G.ok hr hg hm G.kp hb (fun σ => passAt tk σ) ha hdb he hpl) fun σ H Q z => call_of hn hf z
/-! ### a def by its body -/
theorem start_at {N : List Str} {vs : List V} {i : Nat} {v : V} (h : vs[i]? = some v) : (L2.start N vs)[i]? = some (some v) := by
  have hi := (List.getElem?_eq_some_iff.mp h).1
  unfold L2.start
  rw [List.getElem?_append_left (by simpa using hi), List.getElem?_map, h]
  rfl
theorem startE_at {n : Nat} {args : List Slot} {i : Nat} : Env.at (startE n args) i = (args[i]?).getD .no := by
  unfold Env.at startE
  by_cases h : i < args.length
  · rw [List.getElem?_append_left h]
  · rw [List.getElem?_append_right (by omega), List.getElem?_eq_none (by omega : args.length ≤ i), List.getElem?_replicate]
    split <;> rfl
end
section
variable {P : Program} {w : World} {K : PySem.W.Frag} {mg : Str → Option Value} {base : Heap} {T : Tb}
/-- the context of a def's body -/
abbrev BX (P : Program) (w : World) (K : PySem.W.Frag) (mg : Str → Option Value) (base : Heap) (N : List Str) (qual : Str) (sc : Scope) (f : Addr) (cdv : Value) (A : Around) (outer : List PySem.Env) (s : Shared) (H : Hp) (E : XK) : Cx := cxOf (CZ K P w) P w K mg base N qual sc f cdv A outer s H E
theorem outsE_len : ∀ (n : Nat) (ρ : Env), (outsE n ρ).length = n
  | 0, _ => rfl
  | n + 1, [] => congrArg (· + 1) (outsE_len n [])
  | n + 1, _ :: ρ => congrArg (· + 1) (outsE_len n ρ)
theorem outsE_at : ∀ {n i : Nat} {ρ : Env}, i < n → (outsE n ρ)[i]? = some (ρ.at i)
  | n + 1, 0, [], _ => rfl
  | n + 1, 0, _ :: _, _ => rfl
  | n + 1, i + 1, [], h => by
    show (outsE n [])[i]? = _
    rw [outsE_at (by omega)]
    rfl
  | n + 1, i + 1, _ :: ρ, h => by
    show (outsE n ρ)[i]? = _
    rw [outsE_at (by omega)]
    rfl
theorem bodyD {code : Value → Prop} {qual : Str} {st : Stmt} {f : Addr} {N ps : List Str} {M : List Nat} {k : Nat} {body : DS} {con : Con} (S : FnScope N ps (defScope st)) (hM : (M.all fun i => decide (i < ps.length)) = true)
    (der : ∀ (cdv : Value), code cdv → ∀ (A : Around) (outer : List PySem.Env) (s : Shared) (H : Hp) (E : XK) (B : Bs) (W : EK), RoomG k (A.deeper (envOfC qual (defScope st) s.heap.objs.size f cdv)) → Takes (BX P w K mg base N qual (defScope st) f cdv A outer s H E) (lW K T B M W) →
      PassesOwn (model P w) (BX P w K mg base N qual (defScope st) f cdv A outer s H E).A (BX P w K mg base N qual (defScope st) f cdv A outer s H E).env (BX P w K mg base N qual (defScope st) f cdv A outer s H E).xe → (∀ k p, B.O1 k p → k ∈ M) →
      PDSs (BX P w K mg base N qual (defScope st) f cdv A outer s H E) T B M W (defBody st) body)
    (h : ∀ args Q E, args.length = ps.length → con args Q E → runD N.length body args Q E) :
    ∀ (cdv : Value), code cdv → ∀ (A : Around) (outer : List PySem.Env) (s : Shared) (H : Hp) (vs : List V) (Q : VK) (E : XK), RoomG k (A.deeper (envOfC qual (defScope st) s.heap.objs.size f cdv)) → spC K T ps.length M con vs H Q E →
      ∃ t, PSs (BX P w K mg base N qual (defScope st) f cdv A outer s H E) (defBody st) t ∧ t { nx := fun _ H' => Q .non H', rt := Q } (start N vs) H := by
  intro cdv hcode A outer s H vs Q E hr hsp
  obtain ⟨F0, args, Qc, Ec, hl, hal, ⟨hsame, htabs⟩, hargs, hinj, hown, hcon, hQ, hE⟩ := hsp
  have hpl : ps.length ≤ N.length := by have := congrArg List.length S.pre; rw [List.length_take] at this; omega
  let B : Bs := ⟨F0, H, OwnI H vs args, fun i => (vs[i]?).getD .non⟩
  have ft : ∀ i a, a ∈ foot H ((L2.start N vs)[i]?) (Env.at (startE N.length args) i) → OwnI H vs args i a := fun i a ha => by
    rw [startE_at] at ha
    by_cases hi : i < args.length
    · have hv : i < vs.length := by omega
      rw [start_at (List.getElem?_eq_getElem hv), List.getElem?_eq_getElem hi] at ha
      exact ⟨_, _, List.getElem?_eq_getElem hv, List.getElem?_eq_getElem hi, ha⟩
    · have z : args[i]? = none := List.getElem?_eq_none (by omega)
      rw [z, show (none : Option Slot).getD .no = .no from rfl, foot_no] at ha
      simp at ha
  have S0 : SR K T B M F0 H (startE N.length args) (L2.start N vs) := by
    refine ⟨hsame.start (fun a o e ⟨i, v, s, h1, h2, h3⟩ => absurd ((((hargs i v s h1 h2).slot).priv a h3).1.symm.trans e) (fun y => nomatch y)), fun b o e _ _ => e, fun b o e => ⟨o, e⟩, Same.refl _, fun b o e => .inl e, ?_, fun i => ?_, fun i a ha => .inr (ft i a ha), fun i j a h1 h2 => hinj i j a (ft i a h1) (ft j a h2), fun i hi => ?_, htabs⟩
    · unfold startE L2.start
      rw [List.length_append, List.length_append, List.length_map, List.length_replicate, List.length_replicate, hal, hl]
    · rw [startE_at]
      by_cases hi : i < args.length
      · rw [List.getElem?_eq_getElem hi]
        have hv : i < vs.length := by omega
        rw [start_at (List.getElem?_eq_getElem hv)]
        exact (hargs i _ _ (List.getElem?_eq_getElem hv) (List.getElem?_eq_getElem hi)).slot
      · have z : args[i]? = none := List.getElem?_eq_none (by omega)
        rw [z]
        trivial
    · have hi' : i < ps.length := of_decide_eq_true (List.all_eq_true.mp hM i hi)
      have hv : i < vs.length := by omega
      rw [start_at (List.getElem?_eq_getElem hv)]
      show _ = some (some ((vs[i]?).getD .non))
      rw [List.getElem?_eq_getElem hv]
      rfl
  have outI : ∀ {F' H' : Hp} {ρ' : Env} {σ' : L2.St}, SR K T B M F' H' ρ' σ' → ∀ i ∈ M, ∀ b, OwnI H' vs (outsE args.length ρ') i b → b ∈ foot H' (σ'[i]?) (ρ'.at i) := fun {F' H' ρ' σ'} S' i hi b ⟨v, s, h1, h2, h3⟩ => by
    have hi' : i < args.length := by rw [hal]; exact of_decide_eq_true (List.all_eq_true.mp hM i hi)
    rw [outsE_at hi'] at h2
    have hp := S'.pin i hi
    have hP : B.P i = v := by show (vs[i]?).getD .non = v; rw [h1]; rfl
    rw [hP] at hp
    rw [hp, Option.some.inj h2]
    exact h3
  have aft : ∀ {F' H' : Hp} {ρ' : Env} {σ' : L2.St}, SR K T B M F' H' ρ' σ' → Aft K T M F0 H vs args F' H' (outsE args.length ρ') := fun {F' H' ρ' σ'} S' => by
    refine ⟨S'.f0, S'.sub, S'.keep, S'.live, S'.fnew, ?_, fun i hi v s hv hs => ?_, fun i hi b hb => S'.newF i b (outI S' i hi b hb), fun i hi j hj b h1 h2 => S'.injF i j b (outI S' i hi b h1) (outI S' j hj b h2), S'.tabs⟩
    · exact outsE_len _ _
    · have hi' : i < args.length := by rw [hal]; exact of_decide_eq_true (List.all_eq_true.mp hM i hi)
      rw [outsE_at hi'] at hs
      have hs' : ρ'.at i = s := Option.some.inj hs
      have hp := S'.pin i hi
      have hP : B.P i = v := by show (vs[i]?).getD .non = v; rw [hv]; rfl
      rw [hP] at hp
      have sl := S'.slot i
      rw [hs', hp] at sl
      exact ArgOk.of _ _ sl
  have ret : ∀ {F' H' : Hp} {ρ' : Env} {σ' : L2.St} {v : V} {r : R}, SR K T B M F' H' ρ' σ' → RetV K T B F' H' ρ' σ' v r → RetC K T M vs (outsE args.length ρ') F' H H' v r := fun {F' H' ρ' σ' v r} S' R => by
    cases r with
    | fz d => exact R
    | fr d =>
      obtain ⟨p, o, z1, z2, z3, z4, z5, z6⟩ := R
      exact ⟨p, o, z1, z2, z3, z4, z5, fun i hi q => z6 i (outI S' i hi p q)⟩
    | ft d =>
      obtain ⟨p, o, z1, z2, z3, z4, z5, z6⟩ := R
      exact ⟨p, o, z1, z2, z3, z4, z5, fun a ha => ⟨(z6 a ha).1, fun i hi q => (z6 a ha).2 i (outI S' i hi a q)⟩⟩
  have hB : ∀ k p, B.O1 k p → k ∈ M := hown
  have body_ok := h args Qc Ec hal hcon
  have tk : Takes (BX P w K mg base N qual (defScope st) f cdv A outer s H E) (lW K T B M fun x ρ => Ec x (outsE args.length ρ)) :=
    Takes.imp (takes_of rfl rfl rfl rfl) fun c d σ' H' ⟨F', ρ', x, S', ex, q⟩ => hE F' H' c d x _ (aft S') ex q
  refine ⟨_, der cdv hcode A outer s H E B _ hr tk (passes_of rfl) hB, F0, _, _, S0, body_ok, fun F' H' ρ' σ' _ S' q => ?_, fun F' H' ρ' σ' v r _ S' R q => ?_, fun _ _ _ _ _ _ q => q, fun _ _ _ _ _ _ q => q⟩
  · exact hQ F' H' .non (.fz .non) _ (aft S') .non q
  · exact hQ F' H' v r _ (aft S') (ret S' R) q
theorem fnD {x qual : Str} {st : Stmt} {f : Addr} {fd : FuncData} {N ps : List Str} {M : List Nat} {k : Nat} {body : DS} {con : Con} (F : Fun K x qual st f fd) (S : FnScope N ps (defScope st)) (hM : (M.all fun i => decide (i < ps.length)) = true)
    (der : ∀ (cdv : Value), fd.code = cdv → ∀ (A : Around) (outer : List PySem.Env) (s : Shared) (H : Hp) (E : XK) (B : Bs) (W : EK), RoomG k (A.deeper (envOfC qual (defScope st) s.heap.objs.size f cdv)) → Takes (BX P w K mg base N qual (defScope st) f cdv A outer s H E) (lW K T B M W) →
      PassesOwn (model P w) (BX P w K mg base N qual (defScope st) f cdv A outer s H E).A (BX P w K mg base N qual (defScope st) f cdv A outer s H E).env (BX P w K mg base N qual (defScope st) f cdv A outer s H E).xe → (∀ k p, B.O1 k p → k ∈ M) →
      PDSs (BX P w K mg base N qual (defScope st) f cdv A outer s H E) T B M W (defBody st) body)
    (h : ∀ args Q E, args.length = ps.length → con args Q E → runD N.length body args Q E) : Def P w K mg base T (k + 1) f fd ps M con :=
  ⟨fnG_of F S (fun vs H Q E ⟨_, _, _, _, hl, _⟩ => hl) (bodyD S hM der h), F.kp⟩
end
end DL

set_option Elab.async false
set_option linter.all false
set_option autoImplicit false
set_option maxRecDepth 100000
/-! DLX11: built-in functions, methods of texts. -/
namespace DL
open PySem PySem.Spec PyProof.Rows L2
section
variable {X : Cx} {T : Tb} {B : Bs} {M : List Nat} {W : EK} {F H : Hp} {ρ : Env} {σ : L2.St}
variable {a b c e : Expr} {f g h : DE} {pos : Pos}
theorem repL1 {K : PySem.W.Frag} {vs : List V} {d : D} (r : RepL K T F vs [d]) : ∃ v, vs = [v] ∧ Rep K T F v d := by
  cases r with
  | cons r rs => cases rs; exact ⟨_, rfl, r⟩
theorem repL2 {K : PySem.W.Frag} {vs : List V} {d e : D} (r : RepL K T F vs [d, e]) : ∃ v w, vs = [v, w] ∧ Rep K T F v d ∧ Rep K T F w e := by
  cases r with
  | cons r rs =>
    obtain ⟨w, rfl, r2⟩ := repL1 rs
    exact ⟨_, w, rfl, r, r2⟩
/-! ### len -/
def rLen (X : Cx) : List V → Hp → VK → Prop := fun xs H Q => (∃ x n, xs = [x] ∧ LenV X.K x H n ∧ Q (.int n) H) ∨ (∃ a kvs, xs = [V.ref a] ∧ Rd H a (.dK kvs) ∧ Q (.int kvs.length) H) ∨ ∃ (a : Addr) (kvs : List (List Key × V)), xs = [V.ref a] ∧ Rd H a (.dT kvs) ∧ Q (.int kvs.length) H
theorem call_lenDR {X : Cx} : CallR X (.builtin "len") (fun xs H Q => ∃ a kvs, xs = [V.ref a] ∧ Rd H a (.dK kvs) ∧ Q (.int kvs.length) H) := by
  intro pins s σ H xs us Q I r h
  obtain ⟨a, kvs, rfl, ha, q⟩ := h
  obtain ⟨u, rfl, ru⟩ := vals1 r
  cases ru
  exact d_len I ha fun t s' I' => ⟨.int kvs.length, H, I', ⟨t, rfl⟩, q⟩
theorem call_lenTR {X : Cx} : CallR X (.builtin "len") (fun xs H Q => ∃ (a : Addr) (kvs : List (List Key × V)), xs = [V.ref a] ∧ Rd H a (.dT kvs) ∧ Q (.int kvs.length) H) := by
  intro pins s σ H xs us Q I r h
  obtain ⟨a, kvs, rfl, ha, q⟩ := h
  obtain ⟨u, rfl, ru⟩ := vals1 r
  cases ru
  obtain ⟨z, hd, ys, rel, dd⟩ := dt_rd I.hok ha
  have hl : kvs.length = ys.length := Paired.length rel
  refine call_len_dictH hd dd (by rw [← hl]; rw [sizeLine_eq] at z; omega) ?_
  rw [← hl]
  exact ⟨.int ((kvs.length : Nat) : Int), H, I.tok _, ⟨_, rfl⟩, q⟩
theorem call_lenA : CallR X (.builtin "len") (rLen X) := call_len.or (call_lenDR.or call_lenTR)
/-- a value's type; a dict with tuples as keys may be locked -/
inductive TyZ (K : PySem.W.Frag) (H : Hp) : V → Value → Prop where
  | x {v : V} {t : Value} (h : TyX K H v t) : TyZ K H v t
  | fT {a : Addr} {o : Obj} {kvs : List (List Key × V)} (e : H a = some (.frz o (.dT kvs))) : TyZ K H (.ref a) (.type "dict")
theorem TyZ.base {K : PySem.W.Frag} {H : Hp} {v : V} {t : Value} (h : TyOf K H v t) : TyZ K H v t := .x (.base h)
theorem TyZ.kList {K : PySem.W.Frag} {H : Hp} {a : Addr} {o : Obj} (e : K.lookup a = some o) (c : o.cls = .type "list") : TyZ K H (.ref a) (.type "list") := .x (.kList e c)
theorem TyZ.fDict {K : PySem.W.Frag} {H : Hp} {a : Addr} {o : Obj} {kvs : List (Key × V)} (e : H a = some (.frz o (.dK kvs))) : TyZ K H (.ref a) (.type "dict") := .x (.fDict e)
theorem tyX_dt {K : PySem.W.Frag} {H : Hp} {a : Addr} {kvs : List (List Key × V)} (h : Rd H a (.dT kvs)) : TyZ K H (.ref a) (.type "dict") := h.elim (fun e => .base (.dT e)) fun ⟨_, e⟩ => .fT e
theorem kit_ofZ {X : Cx} {pins : List (Addr × Obj)} {σ : L2.St} {H : Hp} {s : Shared} {x : V} {u t : Value} (I : Inv X pins σ H s) (rx : RelV x u) (ty : TyZ X.K H x t) : ∃ P : Heap → Prop, PySem.W.KitX X.K u t P ∧ P s.heap ∧ u ≠ .builtin "__main__.__loader__#opaque" := by
  cases ty with
  | x h => exact kit_of I rx h
  | @fT a ob kvs ea =>
    cases (show u = Value.ref a from rx)
    obtain ⟨_, _, _, m, _, o, es, ep, h1, h2, _⟩ := (show ObjOk X.prog X.w H s.heap a (.frz ob (.dT kvs)) from I.hok a _ ea)
    exact ⟨_, PySem.W.kitx_dict, ⟨o, h1, h2.1⟩, fun z => nomatch z⟩
def rIsZ (K : PySem.W.Frag) : List V → Hp → VK → Prop := fun xs H Q => ∃ (x c : V) (t u : Value) (b : Bool), xs = [x, c] ∧ ClsV c u ∧ TyZ K H x t ∧ PySem.W.kitOne K t u = some b ∧ Q (.bl b) H
theorem call_isZ {X : Cx} : CallR X (.builtin "isinstance") (rIsZ X.K) := by
  intro pins s σ H xs us Q I r h
  obtain ⟨x, c, t, u, b, rfl, k, ty, e, q⟩ := h
  obtain ⟨v1, v2, rfl, g1, g2⟩ := vals2 r
  cases k.eq g2
  obtain ⟨P, Z, p, hx⟩ := kit_ofZ I g1 ty
  exact PySem.W.kia_one Z I.kIn p e hx fun tk => ⟨.bl b, H, I.tok tk, rfl, q⟩
theorem tyX_dk {K : PySem.W.Frag} {H : Hp} {a : Addr} {kvs : List (Key × V)} (h : Rd H a (.dK kvs)) : TyZ K H (.ref a) (.type "dict") := h.elim (fun e => .base (.dK e)) fun ⟨_, e⟩ => .fDict e
theorem repKT_l {K : PySem.W.Frag} : ∀ {kvs : List (List Key × V)} {ds : List (List Ky × D)}, RepKT K T F kvs ds → kvs.length = ds.length
  | _, _, .nil => rfl
  | _, _, .cons _ _ r => congrArg (· + 1) (repKT_l r)
theorem ok_len : DL.FnR X.K T lenF (rLen X) := by
  intro F H vs ds k Q s r ho kk
  cases ds with
  | nil => exact ho.elim
  | cons x rest =>
    cases rest with
    | cons _ _ => exact ho.elim
    | nil =>
      obtain ⟨v, rfl, r1⟩ := repL1 r
      have ho : lenD x k := ho
      cases x with
      | str l =>
        obtain ⟨rfl, z⟩ := r1.str_inv
        exact .inl ⟨_, l.length, rfl, ⟨z.len, (tx_len l).symm⟩, kk _ _ _ (.fz (.int _)) ho⟩
      | lst xs =>
        obtain ⟨p, vs, rfl, hp, ra⟩ := r1.lst_inv
        exact .inl ⟨_, xs.length, rfl, .inl ⟨vs, .of (s _ _ hp), ra.length.symm⟩, kk _ _ _ (.fz (.int _)) ho⟩
      | tup xs =>
        obtain ⟨p, vs, rfl, hp, ra⟩ := r1.tup_inv
        exact .inl ⟨_, xs.length, rfl, .inr ⟨vs, .of (s _ _ hp), ra.length.symm⟩, kk _ _ _ (.fz (.int _)) ho⟩
      | frl xs =>
        obtain ⟨p, vs, rfl, hp, ra⟩ := r1.frl_inv
        exact .inl ⟨_, xs.length, rfl, .inl ⟨vs, s.seq hp, ra.length.symm⟩, kk _ _ _ (.fz (.int _)) ho⟩
      | dct kvs =>
        obtain ⟨p, vs, rfl, hp, ra⟩ := r1.dct_inv
        exact .inr (.inl ⟨p, vs, rfl, s.rd hp, by rw [ra.length]; exact kk _ _ _ (.fz (.int _)) ho⟩)
      | dcT kvs =>
        obtain ⟨p, vs, rfl, hp, ra⟩ := r1.dcT_inv
        exact .inr (.inr ⟨p, vs, rfl, s.rd hp, by rw [repKT_l ra]; exact kk _ _ _ (.fz (.int _)) ho⟩)
      | _ => exact ho.elim
/-! ### lists of one kind -/
theorem repL_bls {K : PySem.W.Frag} : ∀ {bs : List Bool} {vs : List V}, RepL K T F vs (bs.map D.bl) → vs = bs.map V.bl
  | [], _, .nil => rfl
  | b :: bs, _, .cons r rs => by rw [r.bl_inv, repL_bls rs]; rfl
theorem repL_ints {K : PySem.W.Frag} : ∀ {bs : List Int} {vs : List V}, RepL K T F vs (bs.map D.int) → vs = bs.map V.int
  | [], _, .nil => rfl
  | b :: bs, _, .cons r rs => by rw [r.int_inv, repL_ints rs]; rfl
theorem repL_strs {K : PySem.W.Frag} : ∀ {bs : List Tx} {vs : List V}, RepL K T F vs (bs.map D.str) → vs = (bs.map tx).map V.str ∧ ∀ x ∈ bs, okTx x
  | [], _, .nil => ⟨rfl, fun _ h => nomatch h⟩
  | b :: bs, _, .cons r rs => by
    obtain ⟨e, z⟩ := r.str_inv
    obtain ⟨e2, z2⟩ := repL_strs rs
    refine ⟨by rw [e, e2]; rfl, fun x hx => ?_⟩
    rcases List.mem_cons.mp hx with h | h
    · rw [h]; exact z
    · exact z2 x h
theorem ok_all : DL.FnR X.K T allF (rAll X.K) := by
  intro F H vs ds k Q s r ho kk
  unfold allF at ho
  split at ho
  · obtain ⟨bs, rfl, hk⟩ := ho
    obtain ⟨v, rfl, r1⟩ := repL1 r
    obtain ⟨p, us, rfl, hp, ra⟩ := r1.lst_inv
    exact ⟨p, bs, rfl, by rw [← repL_bls ra]; exact .of (s _ _ hp), kk _ _ _ (.fz (.bl _)) hk⟩
  · exact ho.elim
def rMaxA (X : Cx) : List V → Hp → VK → Prop := fun xs H Q => (∃ i j, xs = [.int i, .int j] ∧ Q (.int (if j > i then j else i)) H) ∨ rMax X.K xs H Q
def rMinA (X : Cx) : List V → Hp → VK → Prop := fun xs H Q => (∃ i j, xs = [.int i, .int j] ∧ Q (.int (if j < i then j else i)) H) ∨ rMin X.K xs H Q
theorem call_maxA (hc : X.calm = true) : CallR X (.builtin "max") (rMaxA X) := (call_max2 hc).or (cr_max hc)
theorem call_minA (hc : X.calm = true) : CallR X (.builtin "min") (rMinA X) := (call_min2 hc).or (cr_min hc)
theorem ok_max : DL.FnR X.K T maxF (rMaxA X) := by
  intro F H vs ds k Q s r ho kk
  unfold maxF at ho
  split at ho
  · obtain ⟨v, w, rfl, r1, r2⟩ := repL2 r
    exact .inl ⟨_, _, by rw [r1.int_inv, r2.int_inv], kk _ _ _ (.fz (.int _)) ho⟩
  · obtain ⟨ns, rfl, h0, hk⟩ := ho
    obtain ⟨v, rfl, r1⟩ := repL1 r
    obtain ⟨p, us, rfl, hp, ra⟩ := r1.lst_inv
    exact .inr ⟨p, ns, rfl, by rw [← repL_ints ra]; exact .of (s _ _ hp), h0, fun m h1 h2 => kk _ _ _ (.fz (.int _)) (hk m h1 h2)⟩
  · exact ho.elim
theorem ok_min : DL.FnR X.K T minF (rMinA X) := by
  intro F H vs ds k Q s r ho kk
  unfold minF at ho
  split at ho
  · obtain ⟨v, w, rfl, r1, r2⟩ := repL2 r
    exact .inl ⟨_, _, by rw [r1.int_inv, r2.int_inv], kk _ _ _ (.fz (.int _)) ho⟩
  · obtain ⟨ns, rfl, h0, hk⟩ := ho
    obtain ⟨v, rfl, r1⟩ := repL1 r
    obtain ⟨p, us, rfl, hp, ra⟩ := r1.lst_inv
    exact .inr ⟨p, ns, rfl, by rw [← repL_ints ra]; exact .of (s _ _ hp), h0, fun m h1 h2 => kk _ _ _ (.fz (.int _)) (hk m h1 h2)⟩
  · exact ho.elim
def rInt1 : List V → Hp → VK → Prop := fun xs H Q => (∃ i, xs = [.int i] ∧ Q (.int i) H) ∨ ∃ k, xs = [.bl k] ∧ Q (.int (if k then 1 else 0)) H
theorem ok_int : DL.FnR X.K T intF rInt1 := by
  intro F H vs ds k Q s r ho kk
  unfold intF at ho
  split at ho
  · obtain ⟨v, rfl, r1⟩ := repL1 r
    exact .inl ⟨_, by rw [r1.int_inv], kk _ _ _ (.fz (.int _)) ho⟩
  · obtain ⟨v, rfl, r1⟩ := repL1 r
    exact .inr ⟨_, by rw [r1.bl_inv], kk _ _ _ (.fz (.int _)) ho⟩
  · exact ho.elim
theorem ok_list : DL.FnR X.K T listF (fun xs H Q => ∃ p ys, xs = [.ref p] ∧ (SqL X.K H p ys ∨ SqT X.K H p ys) ∧ ∀ l, H l = none → Q (.ref l) (upd H l (.lst ys))) := by
  intro F H vs ds k Q s r ho kk
  unfold listF at ho
  split at ho
  · obtain ⟨v, rfl, r1⟩ := repL1 r
    obtain ⟨p, us, rfl, hp, ra⟩ := r1.lst_inv
    exact ⟨p, us, rfl, .inl (.of (s _ _ hp)), fun l hl => kk _ _ _ (.fr hl (.lst ra)) ho⟩
  · obtain ⟨v, rfl, r1⟩ := repL1 r
    obtain ⟨p, us, rfl, hp, ra⟩ := r1.tup_inv
    exact ⟨p, us, rfl, .inr (.of (s _ _ hp)), fun l hl => kk _ _ _ (.fr hl (.lst ra)) ho⟩
  · obtain ⟨v, rfl, r1⟩ := repL1 r
    obtain ⟨p, us, rfl, hp, ra⟩ := r1.frl_inv
    exact ⟨p, us, rfl, .inl (s.seq hp), fun l hl => kk _ _ _ (.fr hl (.lst ra)) ho⟩
  · exact ho.elim
/-! ### isinstance -/
def Ty.name : Ty → String
  | .str => "str" | .int => "int" | .bool => "bool" | .list => "list" | .tuple => "tuple" | .dict => "dict"
theorem isi_of {K : PySem.W.Frag} {t : Ty} {d : D} {v : V} {b : Bool} (s : SmW F H) (r : Rep K T F v d) (h : d.isTy t = some b) : ∃ u, TyZ K H v (.type u) ∧ PySem.W.kitOne K (.type u) (.type t.name) = some b := by
  cases d with
  | non => rw [r.non_inv]; exact ⟨_, .base .non, by cases t <;> cases h <;> exact kit_ty (by decide +kernel)⟩
  | bl x => rw [r.bl_inv]; exact ⟨_, .base (.bl x), by cases t <;> cases h <;> exact kit_ty (by decide +kernel)⟩
  | int x => rw [r.int_inv]; exact ⟨_, .base (.int x), by cases t <;> cases h <;> exact kit_ty (by decide +kernel)⟩
  | str x => rw [r.str_inv.1]; exact ⟨_, .base (.str _), by cases t <;> cases h <;> exact kit_ty (by decide +kernel)⟩
  | lst x => obtain ⟨p, us, rfl, hp, ra⟩ := r.lst_inv; exact ⟨_, .base (.lst (s _ _ hp)), by cases t <;> cases h <;> exact kit_ty (by decide +kernel)⟩
  | tup x => obtain ⟨p, us, rfl, hp, ra⟩ := r.tup_inv; exact ⟨_, .base (.tup (s _ _ hp)), by cases t <;> cases h <;> exact kit_ty (by decide +kernel)⟩
  | dct x => obtain ⟨p, us, rfl, hp, ra⟩ := r.dct_inv; exact ⟨_, tyX_dk (s.rd hp), by cases t <;> cases h <;> exact kit_ty (by decide +kernel)⟩
  | obj c x => cases t <;> cases h
  | cls c => cases t <;> cases h
  | dcT x => obtain ⟨p, us, rfl, hp, ra⟩ := r.dcT_inv; exact ⟨_, tyX_dt (s.rd hp), by cases t <;> cases h <;> exact kit_ty (by decide +kernel)⟩
  | prt d => exact (not_rep_prt r).elim
  | frl x =>
    obtain ⟨p, us, rfl, hp, ra⟩ := r.frl_inv
    rcases s.seq hp with (h1 | ⟨o, h1⟩) | ⟨o, its, n, h1, h2, _⟩
    · exact ⟨_, .base (.lst h1), by cases t <;> cases h <;> exact kit_ty (by decide +kernel)⟩
    · exact ⟨_, .base (.frz h1), by cases t <;> cases h <;> exact kit_ty (by decide +kernel)⟩
    · exact ⟨_, .kList h1 h2, by cases t <;> cases h <;> exact kit_ty (by decide +kernel)⟩
theorem pd_isi {t : Ty} {tn : Str} {p p2 : Pos} (htn : bootBuiltins tn = some (.type t.name)) (hg : Gl X "isinstance") (hm : X.mg "isinstance" = none) (hgt : Gl X tn) (hmt : X.mg tn = none) (he : PD X T B M W e f) (hn : tn ≠ "__name__" := by decide) (hdb : (tn == ("__debug__" : Str)) = false := by decide)
    (h1 : starEach (e :: [.Name tn p2]) X.env = (false, eval e X.env) :: starEach [.Name tn p2] X.env := by rfl) (h2 : starEach [.Name tn p2] X.env = (false, eval (.Name tn p2) X.env) :: starEach [] X.env := by rfl) (hpl : (backTo pos (starEach [.Name tn p2] X.env)).any (·.1) = false := by rfl) :
    PD X T B M W (.Call (.Name "isinstance" p) [e, .Name tn p2] [] pos) (dIsi t f) :=
  pe_imp (pe_callB call_isZ hg hm (by decide +kernel) (pa_cons he (pa_cons (pe_bltn (v := .ty t.name) hgt hmt htn rfl hn hdb) pa_nil h2) h1) (by decide) (by decide) h1 hpl) fun σ H Q ⟨F, ρ, Qd, S, h, k⟩ => by
    refine lE_run S h fun F1 H1 ρ1 v r e1 S1 R1 q => ?_
    obtain ⟨b, hb, q⟩ := q
    obtain ⟨u, h3, h4⟩ := isi_of S1.sub.toSmW R1 hb
    exact ⟨v, .ty t.name, .type u, .type t.name, b, rfl, .ty _, h3, h4, lE_end k e1 S1 (.fz (.bl b)) q⟩
/-! ### methods of texts -/
def MsR (K : PySem.W.Frag) (T : Tb) (op : Tx → List D → (R → Prop) → Prop) (r : V → List V → Hp → VK → Prop) : Prop :=
  ∀ F H a vs ds k Q, SmW F H → okTx a → RepL K T F vs ds → op a ds k → (∀ v H' t, NewR K T F H v H' t → k t → Q v H') → r (.str (tx a)) vs H Q
theorem pd_ms {name : Str} {id : String} {op : Tx → List D → (R → Prop) → Prop} {r : V → List V → Hp → VK → Prop} {es : List Expr} {fs : List DE} {apos : Pos} (ho : MsR X.K T op r) (slot : PySem.Slot "str" name id) (hty : typeOf (.builtin id) = pure (.type "method_descriptor")) (hm : MtR X id r) (he : PD X T B M W a f) (ha : PDA X T B M W (e :: es) fs)
    (hbase : attributeBase a name X.env (eval a X.env) = eval a X.env := by rfl)
    (hfew : ((backTo pos (starEach (e :: es) X.env)).all (fun x => !x.1) && (backToKw pos (keywordEach [] X.env)).all (fun x => x.1.isSome)
      && decide ((e :: es).length + ([] : List Keyword).length + (if ([] : List Keyword).isEmpty then 0 else 1) < 30)) = true := by rfl)
    (hline : (apos.endLine == pos.line) = true := by rfl) (hs : starEach (e :: es) X.env = (false, eval e X.env) :: starEach es X.env := by rfl) (hplain : (backTo pos (starEach es X.env)).any (·.1) = false := by rfl) :
    PD X T B M W (.Call (.Attribute a name apos) (e :: es) [] pos) (dMs op f fs) :=
  pe_imp (pe_bm PySem.F.plainAttrs_str slot hty hm he ha hbase hfew hline hs hplain) fun σ H Q ⟨F, ρ, Qd, S, h, k⟩ => by
    refine lE_run S h fun F1 H1 ρ1 v r1 e1 S1 R1 q => ?_
    cases hd : r1.d with
    | str x =>
      rw [hd] at q R1
      obtain ⟨rfl, z⟩ := R1.str_inv
      refine ⟨rfl, lA_run S1 q fun F2 H2 ρ2 vs ds e2 S2 R2 q2 => ?_⟩
      exact ho F2 H2 x vs ds _ Q S2.sub.toSmW z R2 q2 fun v H' t n q3 => lE_end k (e1.trans e2) S2 n q3
    | _ => rw [hd] at q; exact q.elim
open TL in
theorem joinL_tx : ∀ (S : Tx) (ys : List Tx), joinL (tl (tx S)) ((ys.map tx).map tl) = joinT S ys
  | _, [] => rfl
  | _, [p] => by show tl (tx p) = p; exact tx_list p
  | S, p :: q :: r => by
    show tl (tx p) ++ (tl (tx S) ++ joinL (tl (tx S)) (((q :: r).map tx).map tl)) = p ++ (S ++ joinT S (q :: r))
    rw [joinL_tx S (q :: r)]
    show (tx p).cps.toList ++ ((tx S).cps.toList ++ _) = _
    rw [tx_list, tx_list]
open TL in
theorem join_tx (S : Tx) (ys : List Tx) : Txt.join (tx S) (ys.map tx) = tx (joinT S ys) := by
  rw [join_eq]
  apply ext_tl
  rw [tl_join, joinL_tx]
  exact (tx_list _).symm
theorem joinT_mem : ∀ {S : Tx} {ys : List Tx} {c : Nat}, c ∈ joinT S ys → c ∈ S ∨ ∃ y ∈ ys, c ∈ y
  | _, [], _, h => by cases h
  | _, [p], c, h => .inr ⟨p, List.mem_singleton.mpr rfl, h⟩
  | S, p :: q :: r, c, h => by
    have h : c ∈ p ++ (S ++ joinT S (q :: r)) := h
    rcases List.mem_append.mp h with h | h
    · exact .inr ⟨p, List.mem_cons_self, h⟩
    · rcases List.mem_append.mp h with h | h
      · exact .inl h
      · rcases joinT_mem h with h | ⟨y, h1, h2⟩
        · exact .inl h
        · exact .inr ⟨y, List.mem_cons_of_mem _ h1, h2⟩
theorem joinT_len : ∀ (S : Tx) (ys : List Tx), (joinT S ys).length ≤ (ys.map (·.length)).sum + ys.length * S.length
  | _, [] => Nat.zero_le _
  | _, [p] => by show p.length ≤ p.length + 0 + 1 * _; omega
  | S, p :: q :: r => by
    have ih := joinT_len S (q :: r)
    show (p ++ (S ++ joinT S (q :: r))).length ≤ (p.length + ((q :: r).map (·.length)).sum) + ((q :: r).length + 1) * S.length
    rw [List.length_append, List.length_append, Nat.add_mul]
    omega
theorem ok_join : MsR X.K T joinM (fun x xs H Q => ∃ a p, ∃ ys : List Str, x = .str a ∧ xs = [.ref p] ∧ (SqL X.K H p (ys.map V.str) ∨ SqT X.K H p (ys.map V.str)) ∧
    (ys.map (·.length)).sum + ys.length * a.length ≤ 16777216 ∧ Q (.str (Txt.join a ys)) H) := by
  intro F H a vs ds k Q s za r ho kk
  unfold joinM at ho
  split at ho
  · obtain ⟨ys, rfl, hz, hk⟩ := ho
    obtain ⟨v, rfl, r1⟩ := repL1 r
    obtain ⟨p, us, rfl, hp, ra⟩ := r1.lst_inv
    obtain ⟨e, z⟩ := repL_strs ra
    refine ⟨_, p, ys.map tx, rfl, rfl, .inl (by rw [← e]; exact .of (s _ _ hp)), ?_, ?_⟩
    · rw [List.map_map, List.length_map, tx_len]
      have : ((fun x : Str => x.length) ∘ tx) = fun x : Tx => x.length := by funext x; exact tx_len x
      rw [this]
      exact hz
    · rw [join_tx]
      refine kk _ _ _ (.fz (.str ⟨fun c hc => ?_, ?_⟩)) hk
      · rcases joinT_mem hc with h | ⟨y, h1, h2⟩
        · exact za.1 c h
        · exact (z y h1).1 c h2
      · rw [← maxTx_eq]; exact Nat.le_trans (joinT_len a ys) hz
  · exact ho.elim
theorem sw_tx (a b : Tx) : Txt.startswith (tx a) (tx b) = (a.take b.length == b) := by
  unfold Txt.startswith
  rw [StrLaws.subAt_eq, tx_list, tx_list, tx_len, tx_len, List.drop_zero]
  by_cases h : b.length ≤ a.length
  · rw [decide_eq_true (by omega : 0 + b.length ≤ a.length), Bool.true_and]
  · have : (a.take b.length == b) = false := by
      apply beq_eq_false_iff_ne.mpr
      intro e
      have := congrArg List.length e
      rw [List.length_take] at this
      omega
    rw [this, Bool.and_false]
theorem ok_sw : MsR X.K T swM (fun x xs H Q => ∃ a b, x = .str a ∧ xs = [.str b] ∧ Q (.bl (Txt.startswith a b)) H) := by
  intro F H a vs ds k Q s za r ho kk
  unfold swM at ho
  split at ho
  · obtain ⟨v, rfl, r1⟩ := repL1 r
    refine ⟨_, _, rfl, by rw [r1.str_inv.1], ?_⟩
    rw [sw_tx]
    exact kk _ _ _ (.fz (.bl _)) ho
  · exact ho.elim
/-! ### * -/
def rMulS : R2 := fun x y H Q => ∃ a n, x = .str a ∧ y = .int n ∧ MulOk a n ∧ Q (.str (Txt.mul a n)) H
theorem op_mulS : OpR X (binaryOp .Mult) rMulS := by
  intro pins s σ H x y v u Q I rx ry h
  obtain ⟨a, n, rfl, rfl, ok, q⟩ := h
  obtain ⟨t, rfl⟩ := rx
  obtain ⟨t', rfl⟩ := ry
  exact SB.mul ok fun t2 k => ⟨.str _, H, I.tok k, ⟨t2, rfl⟩, q⟩
def rMulA (X : Cx) : R2 := fun x y H Q => rI CMul (fun i j => .int (i * j)) x y H Q ∨ rMulS x y H Q ∨ rRep x y H Q
theorem op_mulA : OpR X (binaryOp .Mult) (rMulA X) := op_mul.or (op_mulS.or op_rep)
theorem foldl_cps (x : Array Nat) : ∀ (n : Nat) (acc : Array Nat), (List.replicate n x).foldl (· ++ ·) acc = acc ++ ((List.replicate n x.toList).flatten).toArray
  | 0, acc => by simp
  | n + 1, acc => by
    rw [List.replicate_succ, List.foldl_cons, foldl_cps x n, List.replicate_succ, List.flatten_cons]
    apply Array.toList_inj.mp
    simp
theorem mul_tx (a : Tx) (n : Int) : Txt.mul (tx a) n = tx (List.replicate n.toNat a).flatten := by
  unfold Txt.mul
  by_cases h1 : n < 1
  · rw [if_pos h1]
    have : n.toNat = 0 := by omega
    rw [this]
    rfl
  · rw [if_neg h1]
    by_cases h2 : (n == 1 || (tx a).length == 0) = true
    · rw [if_pos h2]
      rw [Bool.or_eq_true] at h2
      rcases h2 with h | h
      · have : n = 1 := beq_iff_eq.mp h
        subst this
        show tx a = tx (List.replicate 1 a).flatten
        simp
      · have : a = [] := by
          have := (beq_iff_eq.mp h)
          rw [tx_len] at this
          exact List.eq_nil_of_length_eq_zero this
        subst this
        have : (List.replicate n.toNat ([] : Tx)).flatten = [] := by simp
        rw [this]
    · rw [if_neg h2, foldl_cps]
      unfold tx
      simp
theorem okTx.rep {a : Tx} (h : okTx a) {n : Nat} (hl : a.length * n ≤ maxTx) : okTx (List.replicate n a).flatten := by
  refine ⟨fun c hc => ?_, ?_⟩
  · obtain ⟨y, h1, h2⟩ := List.mem_flatten.mp hc
    rw [(List.mem_replicate.mp h1).2] at h2
    exact h.1 c h2
  · rw [List.length_flatten, List.map_replicate, List.sum_replicate_nat, ← maxTx_eq, Nat.mul_comm]
    exact hl
theorem repL_rep {K : PySem.W.Frag} {vs : List V} {xs : List D} (h : RepL K T F vs xs) : ∀ n : Nat, RepL K T F (List.replicate n vs).flatten (List.replicate n xs).flatten
  | 0 => .nil
  | n + 1 => by
    rw [List.replicate_succ, List.replicate_succ, List.flatten_cons, List.flatten_cons]
    exact h.append (repL_rep h n)
theorem mulOk_of {a : Tx} {n : Int} (h1 : -(2 ^ 62) ≤ n) (h2 : n < 2 ^ 62) (h3 : a.length * n.toNat ≤ maxTx) : MulOk (tx a) n := by
  refine ⟨?_, fun hn _ => ?_, fun hn _ => ?_⟩
  · rw [decide_eq_false (by omega), decide_eq_false (by omega)]; decide
  · rw [tx_len]
    have hn' : 0 < n := by omega
    have : ((a.length : Int)) * n ≤ 16777216 := by
      have e : (n.toNat : Int) = n := Int.toNat_of_nonneg (by omega)
      have : ((a.length * n.toNat : Nat) : Int) ≤ 16777216 := Int.ofNat_le.mpr h3
      rw [Int.natCast_mul, e] at this
      exact this
    have : (a.length : Int) ≤ (2 ^ 63 - 1) / n := (Int.le_ediv_iff_mul_le hn').mpr (by omega)
    omega
  · rw [tx_len]
    have e : PySem.Builtin.Str.tooLong (a.length * n.toNat) = decide (a.length * n.toNat > sizeLine) := by
      unfold PySem.Builtin.Str.tooLong
      rfl
    rw [e, decide_eq_false]
    rw [← maxTx_eq]
    omega
theorem ok_mul : OpOk X.K T mulD (rMulA X) := by
  intro F H x y dx dy k Q s rx ry ho kk
  unfold mulD at ho
  split at ho
  · exact .inl ⟨_, _, rx.int_inv, ry.int_inv, ho.1, kk _ _ _ (.fz (.int _)) ho.2⟩
  · obtain ⟨ex, z⟩ := rx.str_inv
    refine .inr (.inl ⟨_, _, ex, ry.int_inv, mulOk_of ho.1.1 ho.1.2.1 ho.1.2.2, ?_⟩)
    rw [mul_tx]
    exact kk _ _ _ (.fz (.str (z.rep ho.1.2.2))) ho.2
  · obtain ⟨p, us, rfl, hp, ra⟩ := rx.lst_inv
    refine .inr (.inr ⟨p, _, us, rfl, ry.int_inv, s _ _ hp, by omega, by omega, by rw [ra.length, ← maxTx_eq]; exact ho.1.2.2, fun q hq => ?_⟩)
    exact kk _ _ _ (.fr hq (.lst (repL_rep ra _))) ho.2
  · exact ho.elim
end
end DL

set_option Elab.async false
set_option linter.all false
set_option autoImplicit false
set_option maxRecDepth 100000
/-! DLX12: own classes: attributes, making, methods. -/
namespace DL
open PySem PySem.Spec PyProof.Rows L2
section
variable {X : Cx} {T : Tb} {B : Bs} {M : List Nat} {W : EK} {F H : Hp} {ρ : Env} {σ : L2.St}
variable {a e : Expr} {es : List Expr} {f g : DE} {fs : List DE} {as : List DA} {pos : Pos}
/-! ### attributes by place -/
theorem zip_lookup : ∀ {names : List Str} {vs : List V} {j : Nat} {f : Str} {v : V}, names.Nodup → names[j]? = some f → vs[j]? = some v → (names.zip vs).lookup f = some v
  | [], _, _, _, _, _, h, _ => by simp at h
  | _ :: _, [], _, _, _, _, _, h => by simp at h
  | n :: ns, w :: ws, 0, f, v, nd, h1, h2 => by
    simp at h1 h2; subst h1; subst h2
    simp [List.zip_cons_cons, List.lookup]
  | n :: ns, w :: ws, j + 1, f, v, nd, h1, h2 => by
    have h1 : ns[j]? = some f := by simpa using h1
    have hne : (f == n) = false := by
      rw [beq_eq_false_iff_ne]
      intro z
      subst z
      exact (List.nodup_cons.mp nd).1 (List.mem_of_getElem? h1)
    rw [List.zip_cons_cons]
    unfold List.lookup
    rw [hne]
    exact zip_lookup (List.nodup_cons.mp nd).2 h1 (by simpa using h2)
theorem putF_zip : ∀ {names : List Str} {vs : List V} {j : Nat} {f : Str} {v : V}, names.Nodup → names[j]? = some f → j ≤ vs.length → putF f v (names.zip vs) = names.zip (if j < vs.length then vs.set j v else vs ++ [v])
  | [], _, _, _, _, _, h, _ => by simp at h
  | n :: ns, [], j, f, v, nd, h1, h2 => by
    have : j = 0 := by simpa using h2
    subst this
    simp at h1; subst h1
    simp [putF]
  | n :: ns, w :: ws, 0, f, v, nd, h1, h2 => by
    simp at h1; subst h1
    simp [putF, List.zip_cons_cons]
  | n :: ns, w :: ws, j + 1, f, v, nd, h1, h2 => by
    have h1 : ns[j]? = some f := by simpa using h1
    have hne : n ≠ f := by
      intro z
      subst z
      exact (List.nodup_cons.mp nd).1 (List.mem_of_getElem? h1)
    have ih := putF_zip (v := v) (List.nodup_cons.mp nd).2 h1 (by simpa using h2 : j ≤ ws.length)
    rw [List.zip_cons_cons]
    unfold putF
    have hne' : (n == f) = false := beq_eq_false_iff_ne.mpr hne
    simp only [hne, hne', if_false, Bool.false_eq_true]
    rw [ih]
    by_cases hj : j < ws.length
    · rw [if_pos hj, if_pos (by simpa using hj)]; rfl
    · rw [if_neg hj, if_neg (by simpa using hj)]; rfl
/-- what an own class must have for its attributes to be read and stored -/
structure ClD (K : PySem.W.Frag) (T : Tb) (c : Nat) (ci : CI) : Prop where
  at_ : T.cl c = some ci
  nd : ci.names.Nodup
  cls : Cls K ci.addr
/-- a property whose getter returns an attribute -/
theorem pd_prop {c j k : Nat} {ci : CI} {fn pn : Str} {p gA : Addr} {fd : FuncData} (hC : ClD X.K T c ci) (hj : ci.names[j]? = some fn) (hp : PropOf X.K ci.addr pn p gA) (G : FnOk X.prog X.w X.K X.mg X.base (CZ X.K X.prog X.w) k gA fd ["self"] (getSp ci.addr fn)) (hr : Room (k + 1) X.A) (hbn : Binds X.K fd ["self"] [])
    (he : PD X T B M W e g) (hb : attributeBase e pn X.env (eval e X.env) = eval e X.env := by rfl) : PD X T B M W (.Attribute e pn pos) (dFld c j g) :=
  pe_imp (pe_prop (E := fun _ _ _ => False) he hC.cls hp G hr hbn .nil (fun pins σ H s e s' I z => by
      rcases z with ⟨_, _, _, _, _, _, _, _, _, _, _, _, z⟩ | ⟨_, _, _, _, _, _, _, _, _, _, _, _, z⟩
      · exact z.2.elim
      · exact z.2.elim) hb) fun σ H Q ⟨F, ρ, Qd, S, h, k⟩ => by
    refine lE_run S h fun F1 H1 ρ1 v r e1 S1 R1 q => ?_
    cases hd : r.d with
    | obj c' ds =>
      rw [hd] at q R1
      obtain ⟨rfl, d, hj', q⟩ := q
      obtain ⟨p, ci', dx, vs, rfl, hc, hF, hl, ra⟩ := R1.obj_inv
      cases hC.at_.symm.trans hc
      obtain ⟨v, hv, rv⟩ := ra.get hj'
      exact ⟨p, dx, _, rfl, S1.sub _ _ hF, p, dx, _, v, rfl, S1.sub _ _ hF, zip_lookup hC.nd hj hv, lE_end k e1 S1 (.fz rv) q⟩
    | _ => rw [hd] at q; exact q.elim
/-- x.f = e -/
theorem pds_fld {c i j : Nat} {ci : CI} {fn x : Str} {px pos' : Pos} (hC : ClD X.K T c ci) (hj : ci.names[j]? = some fn) (kn : NoAttr X.K ci.addr fn) (hl : ci.names.length < 1000) (hN : X.N[i]? = some x) (hv : Vis X.env.scope x) (he : PD X T B M W e g) (hs : swapsWith e (some (.Attribute (.Name x px) fn pos')) pos.line X.env = pure false := by rfl)
    (hd : (x == ("__debug__" : Str)) = false := by decide) (hcd : (x == ("__classdict__" : Str)) = false := by decide) :
    PDS X T B M W (.Assign [.Attribute (.Name x px) fn pos'] e pos) (sFld i c j g) := by
  refine ps_imp (ps_fld (pe_var hN hv hd hcd) he hs) fun J σ H ⟨F, ρ, Jd, S, h, kn', kr, kb, kc⟩ => ?_
  refine lE_run S h fun F1 H1 ρ1 v r e1 S1 R1 q => ?_
  cases hsl : ρ1.at i with
  | no => rw [hsl] at q; exact q.elim
  | fz d => rw [hsl] at q; exact q.elim
  | ownT d => rw [hsl] at q; exact q.elim
  | own d =>
    rw [hsl] at q
    cases d with
    | obj c' ds =>
      obtain ⟨rfl, hle, q⟩ := q
      obtain ⟨p, o, hp, hF, hH, ro⟩ := S1.ownAt hsl
      cases ro with
      | obj hc hlen ra =>
        rename_i ci' dx vs
        cases hC.at_.symm.trans hc
        have hvl : j ≤ vs.length := by rw [ra.length]; exact hle
        refine ⟨.ref p, hp, p, ci.addr, dx, _, rfl, hH, hC.cls, kn, ?_, ?_⟩
        · rw [List.length_zip]; omega
        · rw [putF_zip hC.nd hj hvl]
          refine kn' F1 _ _ σ e1 (S1.store hsl hp ?_) q
          have hjn : j < ci.names.length := (List.getElem?_eq_some_iff.mp hj).1
          refine .obj hc ?_ ?_
          · split
            · rw [List.length_set]; exact hlen
            · rw [List.length_append]; show vs.length + 1 ≤ _; omega
          · rw [← ra.length]
            split
            · exact ra.set j R1
            · exact ra.append (.cons R1 .nil)
    | _ => exact q.elim
end
end DL

set_option Elab.async false
set_option linter.all false
set_option autoImplicit false
set_option maxRecDepth 100000
/-! DLX13: making, methods. -/
namespace DL
open PySem PySem.Spec PyProof.Rows L2
section
variable {X : Cx} {T : Tb} {B : Bs} {M : List Nat} {W : EK} {F H : Hp} {ρ : Env} {σ : L2.St}
variable {a e o : Expr} {es : List Expr} {f g : DE} {fs : List DE} {as : List DA} {pos apos : Pos}
/-- behind a call that changed new objects at most -/
theorem SR.aft {Mc : List Nat} {F' H' : Hp} {vs : List V} {args outs : List Slot} (S : SR X.K T B M F H ρ σ) (A : Aft X.K T Mc F H vs args F' H' outs) (hn : ∀ b, OwnA H vs args b → B.H0 b = none ∧ ∀ i, b ∉ foot H (σ[i]?) (ρ.at i)) : SR X.K T B M F' H' ρ σ ∧ ∀ i, foot H' (σ[i]?) (ρ.at i) = foot H (σ[i]?) (ρ.at i) := by
  have stay : ∀ j, ∀ a ∈ foot H (σ[j]?) (ρ.at j), F' a = none ∧ H' a = H a := fun j a ha => by
    have nA : ¬ OwnA H vs args a := fun z => (hn a z).2 j ha
    obtain ⟨f, o, e, m, _⟩ := S.priv ha
    refine ⟨?_, by rw [e]; exact A.keep a o e nA m⟩
    cases y : F' a with
    | none => rfl
    | some u =>
      rcases A.fnew a u y with r | r | r | r
      · rw [f] at r; cases r
      · rw [e] at r; cases r
      · exact absurd r nA
      · have w := A.sub.up y r
        rw [A.keep a o e nA m] at w
        cases w
        rw [S.notup ha e] at r
        cases r
  have fe := S.footEq fun i a ha => (stay i a ha).2
  refine ⟨⟨S.sub.after A.sub A.fnew, fun b o e n m => ?_, fun b o e => ?_, S.f0.trans A.same, fun b o e => ?_, S.len, fun j => (S.slot j).mono A.same (stay j), fun i a ha => S.newF i a (fe i ▸ ha), fun i j a h1 h2 => S.injF i j a (fe i ▸ h1) (fe j ▸ h2), S.pin, A.tabs⟩, fe⟩
  · refine A.keep b o (S.keep b o e n m) (fun z => ?_) m
    rw [(hn b z).1] at e
    cases e
  · obtain ⟨o', e'⟩ := S.live b o e
    exact A.live b o' e'
  · rcases A.fnew b o e with q | q | q | q
    · exact S.fnew b o q
    · exact .inr (.inl (S.gone q))
    · exact .inr (.inl (hn b q).1)
    · exact .inr (.inr (.inr q))
/-! ### C(..) -/
variable {k : Nat} {fa : Addr} {fd : FuncData} {ps : List Str} {con : Con} {x : Str} {p : Pos}
def tMakeS (C : Addr) (sp : Sp) (E : L2.St → XK) (t : TA) : TE := fun σ H Q => t σ H fun vs H1 => ∀ x dx, H1 x = none → H1 dx = none → dx ≠ x →
  sp (.ref x :: vs) (upd (upd H1 dx (.own x)) x (.ins C dx [])) (fun v H2 => v = .non ∧ Q (.ref x) H2) (E σ)
theorem run_makeS {CX : CXT} {C : Addr} {sp : Sp} {E : XK} {pins : List (Addr × Obj)} {s : Shared} {Q : VK} {us : List Value} {vs : List V} (Mm : Mk X.K C fa) (G : FnG X.prog X.w X.K X.mg X.base CX k fa fd ps sp) (hr : RoomG (k + 1) X.A) (hb : Binds X.K fd ps [])
    (hx : PassesAt CX X σ E) (I : Inv X pins σ H s) (r : Vals vs us)
    (h : ∀ x dx, H x = none → H dx = none → dx ≠ x → sp (.ref x :: vs) (upd (upd H dx (.own x)) x (.ins C dx [])) (fun v H2 => v = .non ∧ Q (.ref x) H2) E) :
    wpAny (model X.prog X.w) X.A (call (.ref C) us) (EP X pins σ Q) X.xe s := by
  have hq := h (s.heap.objs.size + 1) s.heap.objs.size (I.hok.fresh (Nat.le_succ _)) (I.hok.fresh (Nat.le_refl _)) (Nat.ne_of_lt (Nat.lt_succ_self _))
  have I2 := Inv.made (C := C) I
  have r2 : Vals (V.ref (s.heap.objs.size + 1) :: vs) (Value.ref (s.heap.objs.size + 1) :: us) := .cons rfl r
  have hl : (Value.ref (s.heap.objs.size + 1) :: us ++ []).length = ps.length := by
    have e := r2.length
    rw [G.len _ _ _ _ hq] at e
    rw [List.append_nil]
    exact e.symm
  have hb2 := hb _ (Value.ref (s.heap.objs.size + 1) :: us) I2.kIn hl
  rw [List.append_nil] at hb2
  refine wpAny_call (make_map (f := fa) I.kIn Mm.makes Mm.init (beq_iff_eq.mp Mm.fn) (codeAny_mono (G.run _ X.stack _ _ ⟨Value.ref (s.heap.objs.size + 1) :: us, []⟩ (Value.ref (s.heap.objs.size + 1) :: us) _ _ E (hr.make C us [])
    (I2.env0.make C us []) hb2 r2 hq) fun r s' hq' => ?_))
  cases r with
  | error e => exact hx pins _ _ e s' I2 hq'
  | ok fl =>
    cases fl with
    | ret u =>
      obtain ⟨v, H', I3, rv, ev, q3⟩ := I2.after hq'
      subst ev
      exact ⟨rv, ⟨V.ref (s.heap.objs.size + 1), H', I3, rfl, q3⟩⟩
    | next => exact False.elim hq'
    | brk => exact False.elim hq'
    | cont => exact False.elim hq'
/-- .. the class in a name of the def -/
theorem pe_makeV {CX : CXT} {C : Addr} {sp : Sp} {E : L2.St → XK} {t : TA} {te : TE} (Mm : Mk X.K C fa) (G : FnG X.prog X.w X.K X.mg X.base CX k fa fd ps sp) (hr : RoomG (k + 1) X.A) (hb : Binds X.K fd ps []) (hx : ∀ σ, PassesAt CX X σ (E σ))
    (hf : PE X (.Name x p) te) (ha : PA X (e :: es) t) (he : starEach (e :: es) X.env = (false, eval e X.env) :: starEach es X.env := by rfl) (hpl : (backTo pos (starEach es X.env)).any (·.1) = false := by rfl) :
    PE X (.Call (.Name x p) (e :: es) [] pos) (fun σ H Q => te σ H fun c H1 => c = .ref C ∧ tMakeS C sp E t σ H1 Q) := by
  refine ⟨fun pins s σ H Q I h => ?_⟩
  refine wpAny_Call_Name_kw (thn (hf.run pins s σ H _ I h) fun u s1 ⟨c, H1, I1, rc, ec, q1⟩ => ?_)
  subst ec
  obtain rfl : u = Value.ref C := rc
  refine PySem.W.callWith_K (h₀ := X.base) I.ok.mod.kin Mm.kp (thn (ha.run pos pins s1 σ H1 _ I1 q1) fun us s1 ⟨vs, H1, I1, r, q⟩ => ⟨I1.kIn, ?_⟩) he hpl
  exact run_makeS Mm G hr hb (hx σ) I1 r q
theorem args_of {K : PySem.W.Frag} {F H : Hp} {vs : List V} {ds : List D} (r : RepL K T F vs ds) (i : Nat) (v : V) (s : Slot) (h1 : vs[i]? = some v) (h2 : (ds.map Slot.fz)[i]? = some s) : ArgOk K T F H v s := by
  rw [List.getElem?_map] at h2
  obtain ⟨d, hd, rd⟩ := r.getV h1
  rw [hd] at h2
  cases h2
  exact rd
theorem noOwn {H : Hp} {vs : List V} {ds : List D} (i : Nat) (b : Addr) : ¬ OwnI H vs (ds.map Slot.fz) i b := fun ⟨v, s, h1, h2, h3⟩ => by
  rw [List.getElem?_map] at h2
  cases e : ds[i]? with
  | none => rw [e] at h2; cases h2
  | some d => rw [e] at h2; cases h2; rw [foot_fz] at h3; simp at h3
/-- the promise at settled values -/
theorem sp_fz {n : Nat} {Mc : List Nat} {vs : List V} {ds : List D} {Qc : R → List Slot → Prop} {Ec : Exc → List Slot → Prop} {Q : VK} {E : XK} (S : SR X.K T B M F H ρ σ) (R0 : RepL X.K T F vs ds) (hn : ds.length = n) (q : con (ds.map .fz) Qc Ec)
    (kk : ∀ F' H' v r outs, Same F F' → SR X.K T B M F' H' ρ σ → RetV X.K T B F' H' ρ σ v r → Qc r outs → Q v H') (ke : ∀ F' H' cls d x outs, Same F F' → SR X.K T B M F' H' ρ σ → ExR X.K T F' cls d x → Ec x outs → E cls d H') : spC X.K T n Mc con vs H Q E := by
  refine ⟨F, ds.map .fz, Qc, Ec, by rw [R0.length, hn], by rw [List.length_map, hn], ⟨S.sub, S.tabs⟩, args_of R0, fun i j p h1 => absurd h1 (noOwn i p), fun i p h1 => absurd h1 (noOwn i p), q, fun F2 H2 v r outs A R q2 => ?_, fun F2 H2 cls d x outs A ex q2 => ?_⟩
  · obtain ⟨S3, fe⟩ := S.aft A fun b ⟨i, h1⟩ => absurd h1 (noOwn i b)
    refine kk F2 H2 v r outs A.same S3 ?_ q2
    have nof : ∀ a, H a = none → ∀ i, a ∉ foot H2 (σ[i]?) (ρ.at i) := fun a ha i hi => by
      rw [fe i] at hi
      exact (S.priv hi).ne ha rfl
    cases r with
    | fz d => exact R
    | fr d =>
      obtain ⟨p, o, rfl, z1, z2, z3, z4, _⟩ := R
      exact ⟨p, o, rfl, z1, z2, z3, S.gone z4, nof p z4⟩
    | ft d =>
      obtain ⟨p, o, rfl, z1, z2, z3, z4, z5⟩ := R
      exact ⟨p, o, rfl, z1, z2, z3, z4, fun a ha => ⟨S.gone (z5 a ha).1, nof a (z5 a ha).1⟩⟩
  · obtain ⟨S3, fe⟩ := S.aft A fun b ⟨i, h1⟩ => absurd h1 (noOwn i b)
    exact ke F2 H2 cls d x outs A.same S3 ex q2
theorem make_gen {c n : Nat} {ci : CI} {ds : List D} {vs : List V} {Qd : R → Env → Prop} {Q : VK} {Qc : R → List Slot → Prop} (hC : ClD X.K T c ci) (S : SR X.K T B M F H ρ σ) (R0 : RepL X.K T F vs ds) (hn : ds.length + 1 = n) (q : con (.own (.obj c []) :: ds.map .fz) Qc fun x _ => W x ρ)
    (hQ : ∀ r outs, Qc r outs → r.d = .non ∧ ∃ s r', outs.head? = some s ∧ newR s = some r' ∧ Qd r' ρ)
    (kk : ∀ F' H' v r, Same F F' → SR X.K T B M F' H' ρ σ → RetV X.K T B F' H' ρ σ v r → Qd r ρ → Q v H') :
    ∀ x dx, H x = none → H dx = none → dx ≠ x → spC X.K T n [0] con (.ref x :: vs) (upd (upd H dx (.own x)) x (.ins ci.addr dx [])) (fun v H2 => v = .non ∧ Q (.ref x) H2) (WE (lW X.K T B M W) σ) := by
  intro x dx hx hdx hne
  have hx2 : (upd H dx (.own x)) x = none := by rw [upd_ne (Ne.symm hne)]; exact hx
  have S2 : SR X.K T B M F (upd (upd H dx (.own x)) x (.ins ci.addr dx [])) ρ σ := (S.lay hdx).lay hx2
  have nx := (S.lay (o := .own x) hdx).lay_new (o := .ins ci.addr dx []) hx2
  have hFx : F x = none := S.sub.free hx
  have gone : B.H0 x = none := S.gone hx
  have ownI : ∀ i b, OwnI (upd (upd H dx (.own x)) x (.ins ci.addr dx [])) (.ref x :: vs) (Slot.own (D.obj c []) :: ds.map Slot.fz) i b → i = 0 ∧ b = x := fun i b ⟨v, s, h1, h2, h3⟩ => by
    cases i with
    | zero =>
      simp at h1 h2
      subst h1; subst h2
      rw [foot_own] at h3
      exact ⟨rfl, List.mem_singleton.mp h3⟩
    | succ i => exact absurd ⟨v, s, by simpa using h1, by simpa using h2, h3⟩ (noOwn (H := upd (upd H dx (.own x)) x (.ins ci.addr dx [])) (vs := vs) (ds := ds) i b)
  have hna : ∀ b, OwnA (upd (upd H dx (.own x)) x (.ins ci.addr dx [])) (.ref x :: vs) (Slot.own (D.obj c []) :: ds.map Slot.fz) b → B.H0 b = none ∧ ∀ i, b ∉ foot (upd (upd H dx (.own x)) x (.ins ci.addr dx [])) (σ[i]?) (ρ.at i) := fun b ⟨i, hb⟩ => by
    rw [(ownI i b hb).2]
    exact ⟨gone, nx⟩
  refine ⟨F, _, Qc, _, ?_, ?_, ⟨S2.sub, S2.tabs⟩, fun i v s h1 h2 => ?_, fun i j p h1 h2 => ?_, fun i p h1 => ?_, q, fun F2 H2 v r outs A R q2 => ?_, fun F2 H2 cls d y outs A ex q2 => ?_⟩
  · rw [List.length_cons, R0.length, hn]
  · rw [List.length_cons, List.length_map, hn]
  · cases i with
    | zero =>
      simp at h1 h2
      subst h1; subst h2
      refine ⟨x, _, rfl, hFx, upd_same, ?_⟩
      have z : RepO X.K T F (.ins ci.addr dx (ci.names.zip [])) (.obj c []) := .obj hC.at_ (Nat.zero_le _) .nil
      rw [List.zip_nil_right] at z
      exact ⟨z, rfl⟩
    | succ i => exact args_of R0 i v s (by simpa using h1) (by simpa using h2)
  · rw [(ownI i p h1).1, (ownI j p h2).1]
  · rw [(ownI i p h1).1]; exact List.mem_singleton.mpr rfl
  · obtain ⟨hr, s, r', ho, hnr, q2⟩ := hQ _ _ q2
    obtain ⟨S3, fe⟩ := S2.aft A hna
    have hv : v = .non := by
      cases r with
      | fz d' => have hr : d' = .non := hr; subst hr; exact R.non_inv
      | fr d' =>
        have hr : d' = .non := hr
        subst hr
        obtain ⟨p, o, _, _, _, ro, _⟩ := R
        cases ro
      | ft d' =>
        obtain ⟨p, o, _, _, _, ro, _⟩ := R
        cases ro <;> cases hr
    refine ⟨hv, ?_⟩
    have hs0 : outs[0]? = some s := by rw [List.head?_eq_getElem?] at ho; exact ho
    have out := A.out 0 (List.mem_singleton.mpr rfl) (.ref x) s rfl hs0
    have fr : ∀ a ∈ foot H2 (some (some (.ref x))) s, B.H0 a = none ∧ ∀ i, a ∉ foot H2 (σ[i]?) (ρ.at i) := fun a ha => by
      rcases A.outF 0 (List.mem_singleton.mpr rfl) a ⟨.ref x, s, rfl, hs0, ha⟩ with z | z
      · exact ⟨S2.gone z, fun i hi => by rw [fe i] at hi; exact (S2.priv hi).ne z rfl⟩
      · rw [(ownI 0 a z).2]
        exact ⟨gone, fun i hi => nx i (fe i ▸ hi)⟩
    refine kk F2 H2 (.ref x) r' A.same S3 ?_ q2
    cases s with
    | no => cases hnr
    | fz d => cases hnr
    | own d =>
      cases hnr
      obtain ⟨p, o, ep, z1, z2, z3, _⟩ := out
      cases ep
      have := fr x (by rw [foot_own]; exact List.mem_singleton.mpr rfl)
      exact ⟨x, o, rfl, z1, z2, z3, this.1, this.2⟩
    | ownT d =>
      cases hnr
      obtain ⟨p, o, ep, z1, z2, z3, z4, _⟩ := out
      cases ep
      exact ⟨x, o, rfl, z1, z2, z3, z4, fun a ha => fr a (by rw [foot_ownT z2]; exact ha)⟩
  · exact ⟨F2, ρ, y, (S2.aft A hna).1, ex, q2⟩
theorem make_of {c n : Nat} {ci : CI} {ds : List D} {vs : List V} {Qd : R → Env → Prop} {Q : VK} (hC : ClD X.K T c ci) (S : SR X.K T B M F H ρ σ) (R0 : RepL X.K T F vs ds) (hn : ds.length + 1 = n) (q : mkC c con ds ρ Qd W)
    (kk : ∀ F' H' v r, Same F F' → SR X.K T B M F' H' ρ σ → RetV X.K T B F' H' ρ σ v r → Qd r ρ → Q v H') :
    ∀ x dx, H x = none → H dx = none → dx ≠ x → spC X.K T n [0] con (.ref x :: vs) (upd (upd H dx (.own x)) x (.ins ci.addr dx [])) (fun v H2 => v = .non ∧ Q (.ref x) H2) (WE (lW X.K T B M W) σ) :=
  make_gen hC S R0 hn q (fun r outs ⟨hr, d, ho, q2⟩ => ⟨hr, .own d, .fr d, ho, rfl, q2⟩) kk
theorem pd_makeV {c i : Nat} {ci : CI} (hC : ClD X.K T c ci) (Mm : Mk X.K ci.addr fa) (G : Def X.prog X.w X.K X.mg X.base T k fa fd ps [0] con) (hr : RoomG (k + 1) X.A) (tk : Takes X (lW X.K T B M W)) (hN : X.N[i]? = some x) (hv : Vis X.env.scope x) (hb : Binds X.K fd ps []) (ha : PDA X T B M W (e :: es) fs) (hn : fs.length + 1 = ps.length := by rfl)
    (hd : (x == ("__debug__" : Str)) = false := by decide) (hcd : (x == ("__classdict__" : Str)) = false := by decide) (he : starEach (e :: es) X.env = (false, eval e X.env) :: starEach es X.env := by rfl) (hpl : (backTo pos (starEach es X.env)).any (·.1) = false := by rfl) :
    PD X T B M W (.Call (.Name x p) (e :: es) [] pos) (dMakeV i c con fs) :=
  pe_imp (pe_makeV Mm G.ok hr hb (fun σ => passAt tk σ) (pe_var hN hv hd hcd) ha he hpl) fun σ H Q ⟨F, ρ, Qd, S, ⟨h0, h⟩, kk⟩ => by
    have hs := S.slot i
    cases hsl : ρ.at i with
    | no => rw [hsl] at h0; exact h0.elim
    | own d => rw [hsl] at h0; exact h0.elim
    | ownT d => rw [hsl] at h0; exact h0.elim
    | fz d =>
      rw [hsl] at h0 hs
      cases d with
      | cls c' =>
        have h0 : c' = c := h0
        subst h0
        obtain ⟨v, e1, r⟩ := hs
        obtain ⟨ci', hc, rfl⟩ := r.cls_inv
        cases hC.at_.symm.trans hc
        refine ⟨_, e1, rfl, lA_run S h fun F1 H1 ρ1 vs ds e1 S1 R1 q => ?_⟩
        exact make_of hC S1 R1 (by rw [q.1]; exact hn) q.2 fun F' H' v r e2 S' R' q' => kk F' H' ρ1 v r (e1.trans e2) S' R' q'
      | _ => exact h0.elim
end
end DL

set_option Elab.async false
set_option linter.all false
set_option autoImplicit false
set_option maxRecDepth 100000
/-! DLX14: static methods, class methods, methods. -/
namespace DL
open PySem PySem.Spec PyProof.Rows L2
/-- C.m is a staticmethod: its record at p, its def at g -/
structure SMet (K : PySem.W.Frag) (C : Addr) (mc : Value) (m : Str) (p g : Addr) : Prop where
  at_ : PySem.W.findCls K (.ref C) mc m = some (.get (.builtin "staticmethod.__get__") (.ref p) .none (.ref C))
  rc : ∃ rest, PySem.W.recIn K p "staticmethod" = some (.ref g :: rest)
section
variable {X : Cx} {T : Tb} {B : Bs} {M : List Nat} {W : EK} {F H : Hp} {ρ : Env} {σ : L2.St}
variable {a e o : Expr} {es : List Expr} {f g : DE} {fs : List DE} {as : List DA} {pos apos : Pos}
variable {k : Nat} {fa C pA : Addr} {mc : Value} {fd : FuncData} {ps : List Str} {con : DL.Con} {x m : Str} {p : Pos} {CX : CXT} {sp : Sp} {E : L2.St → XK} {t : TA} {te : TE} {pl : Sem Bool}
theorem pe_smethS (hf : PE X o te) (rC : ClX.CRead X.K C mc) (c : SMet X.K C mc m pA fa) (hk : PySem.W.keepIn X.K (.ref fa) = true) (G : FnG X.prog X.w X.K X.mg X.base CX k fa fd ps sp) (hr : RoomG k X.A) (hb : Binds X.K fd ps []) (hx : ∀ σ, PassesAt CX X σ (E σ)) (ha : PA X (e :: es) t)
    (hst : starEach (e :: es) X.env = (false, eval e X.env) :: starEach es X.env := by rfl) (hpl : (backTo pos (starEach es X.env)).any (·.1) = false := by rfl)
    (ht : eval (.Call (.Attribute o m apos) (e :: es) [] pos) X.env = (do
      let ov ← eval o X.env
      standAt apos.atName
      let (f, first) ← holding [ov] (getMethod ov m pl)
      callWith pos f first (backTo pos (starEach (e :: es) X.env)) (backToKw pos (keywordEach [] X.env))) := by rfl) :
    PE X (.Call (.Attribute o m apos) (e :: es) [] pos) (fun σ H Q => te σ H fun x H1 => x = .ref C ∧ tCallS sp E t σ H1 Q) := by
  refine ⟨fun pins s σ H Q I h => ?_⟩
  refine PySem.W.methodCall_KW (pl := pl) (thn (hf.run pins s σ H _ I h) fun u s1 ⟨x, H1, I1, rx, ex, q⟩ => ?_) ht
  subst ex
  obtain rfl : u = Value.ref C := rx
  obtain ⟨rest, hp⟩ := c.rc
  refine PySem.W.method_cls I1.kIn rC.ga (PySem.W.cls_bind I1.kIn rC.rd c.at_ (wpAny_call (PySem.W.sm_get (s := { s1 with toks := s1.toks + 1 }) I1.kIn hp (PySem.W.handed_on rfl ?_))))
  have I2 : Inv X pins σ H1 { s1 with toks := s1.toks + 1 } := I1.tok _
  refine PySem.W.callWith_K (h₀ := X.base) I2.ok.mod.kin hk (thn (ha.run pos pins _ σ H1 _ I2 q) fun us s2 ⟨vs, H2, I3, r, q2⟩ => ⟨I3.kIn, ?_⟩) hst hpl
  exact run_fnG G hr hb (hx σ) I3 r q2
/-- the call of a bound record -/
theorem run_cmS {E : XK} {pins : List (Addr × Obj)} {s : Shared} {q : Addr} {Q : VK} {us : List Value} {vs : List V} (G : FnG X.prog X.w X.K X.mg X.base CX k fa fd ps sp) (hr : RoomG k X.A) (hb : Binds X.K fd ps []) (hx : PassesAt CX X σ E) (I : Inv X ((q, PySem.W.methodObj (.ref fa) (.ref C)) :: pins) σ H s)
    (r : Vals vs us) (h : sp (.ref C :: vs) H Q E) : wpAny (model X.prog X.w) X.A (call (.ref q) us) (EP X pins σ Q) X.xe s := by
  have r2 : Vals (V.ref C :: vs) (Value.ref C :: us) := .cons rfl r
  have hl : (Value.ref C :: us).length = ps.length := by rw [← r2.length]; exact G.len _ _ _ _ h
  have b := hb s (Value.ref C :: us) I.kIn (by rw [List.append_nil]; exact hl)
  rw [List.append_nil] at b
  have z : wpAny (model X.prog X.w) X.A (call (.ref q) us) (EP X ((q, PySem.W.methodObj (.ref fa) (.ref C)) :: pins) σ Q) X.xe s := by
    refine wpAny_call (PySem.W.method_call (ClX.pin_at I) (codeAny_mono (G.run X.A X.stack s H ⟨.ref C :: us, []⟩ (.ref C :: us) (.ref C :: vs) Q E hr I.env0 b r2 h) fun r s' hq => ?_))
    cases r with
    | error e => exact hx _ H s e s' I hq
    | ok fl =>
      cases fl with
      | ret u => exact I.after hq
      | next => exact False.elim hq
      | brk => exact False.elim hq
      | cont => exact False.elim hq
  exact thn z fun _ _ y => ClX.unpinE y
theorem pe_cmethS (hf : PE X o te) (rC : ClX.CRead X.K C mc) (c : ClX.CMet X.K C mc m pA fa) (G : FnG X.prog X.w X.K X.mg X.base CX k fa fd ps sp) (hr : RoomG k X.A) (hb : Binds X.K fd ps []) (hx : ∀ σ, PassesAt CX X σ (E σ)) (ha : PA X (e :: es) t)
    (hst : starEach (e :: es) X.env = (false, eval e X.env) :: starEach es X.env := by rfl) (hpl : (backTo pos (starEach es X.env)).any (·.1) = false := by rfl)
    (ht : eval (.Call (.Attribute o m apos) (e :: es) [] pos) X.env = (do
      let ov ← eval o X.env
      standAt apos.atName
      let (f, first) ← holding [ov] (getMethod ov m pl)
      callWith pos f first (backTo pos (starEach (e :: es) X.env)) (backToKw pos (keywordEach [] X.env))) := by rfl) :
    PE X (.Call (.Attribute o m apos) (e :: es) [] pos) (fun σ H Q => te σ H fun x H1 => x = .ref C ∧ t σ H1 fun vs H2 => sp (.ref C :: vs) H2 Q (E σ)) := by
  refine ⟨fun pins s σ H Q I h => ?_⟩
  refine PySem.W.methodCall_KW (pl := pl) (thn (hf.run pins s σ H _ I h) fun u s1 ⟨x, H1, I1, rx, ex, q⟩ => ?_) ht
  subst ex
  obtain rfl : u = Value.ref C := rx
  refine ClX.getmethcm_ok I1 rC c fun s2 I2 => ?_
  refine ClX.callwith_cm I2 (ClX.base_none I1 (Nat.le_refl _)) c.fi (thn (ha.run pos _ s2 σ H1 _ I2 q) fun us s3 ⟨vs, H2, I3, rv, q2⟩ => ⟨⟨ClX.pin_at I3, I3.kIn⟩, ?_⟩) hst hpl
  exact run_cmS G hr hb (hx σ) I3 rv q2
/-! ### over data -/
theorem pd_smeth {pn : Pos} {Mc : List Nat} {cv : Value} (hg : Gl X x) (hm : X.mg x = some (.ref C)) (rC : ClX.CRead X.K C mc) (c : SMet X.K C mc m pA fa) (G : Def X.prog X.w X.K X.mg X.base T k fa fd ps Mc con) (hr : RoomG k X.A) (tk : Takes X (lW X.K T B M W)) (hb : Binds X.K fd ps []) (ha : PDAV X T B M W (e :: es) as) (hn : as.length = ps.length := by rfl) (hf : fitA as Mc = true := by rfl)
    (hdb : (x == ("__debug__" : Str)) = false := by decide) (hst : starEach (e :: es) X.env = (false, eval e X.env) :: starEach es X.env := by rfl) (hpl : (backTo pos (starEach es X.env)).any (·.1) = false := by rfl)
    (ht : eval (.Call (.Attribute (.Name x pn) m apos) (e :: es) [] pos) X.env = (do
      let ov ← eval (.Name x pn) X.env
      standAt apos.atName
      let (f, first) ← holding [ov] (getMethod ov m pl)
      callWith pos f first (backTo pos (starEach (e :: es) X.env)) (backToKw pos (keywordEach [] X.env))) := by rfl) :
    PD X T B M W (.Call (.Attribute (.Name x pn) m apos) (e :: es) [] pos) (zaK con as) :=
  pe_imp (pe_smethS (pe_glob (v := .ref C) hg hm rfl hdb) rC c G.kp G.ok hr hb (fun σ => passAt tk σ) ha hst hpl ht) fun σ H Q z => ⟨rfl, call_of hn hf z⟩
theorem pd_cmeth {c n : Nat} {ci : CI} {pn : Pos} {Mc : List Nat} (hT : T.cl c = some ci) (hg : Gl X x) (hm : X.mg x = some (.ref ci.addr)) (rC : ClX.CRead X.K ci.addr mc) (cm : ClX.CMet X.K ci.addr mc m pA fa) (G : Def X.prog X.w X.K X.mg X.base T k fa fd ps [] con) (hr : RoomG k X.A) (tk : Takes X (lW X.K T B M W)) (hb : Binds X.K fd ps []) (ha : PDA X T B M W (e :: es) fs) (hn : fs.length + 1 = ps.length := by rfl)
    (hdb : (x == ("__debug__" : Str)) = false := by decide) (hst : starEach (e :: es) X.env = (false, eval e X.env) :: starEach es X.env := by rfl) (hpl : (backTo pos (starEach es X.env)).any (·.1) = false := by rfl)
    (ht : eval (.Call (.Attribute (.Name x pn) m apos) (e :: es) [] pos) X.env = (do
      let ov ← eval (.Name x pn) X.env
      standAt apos.atName
      let (f, first) ← holding [ov] (getMethod ov m pl)
      callWith pos f first (backTo pos (starEach (e :: es) X.env)) (backToKw pos (keywordEach [] X.env))) := by rfl) :
    PD X T B M W (.Call (.Attribute (.Name x pn) m apos) (e :: es) [] pos) (dCm c con fs) :=
  pe_imp (pe_cmethS (pe_glob (v := .ref ci.addr) hg hm rfl hdb) rC cm G.ok hr hb (fun σ => passAt tk σ) ha hst hpl ht) fun σ H Q ⟨F, ρ, Qd, S, h, kk⟩ => by
    refine ⟨rfl, lA_run S h fun F1 H1 ρ1 vs ds e1 S1 R1 q => ?_⟩
    obtain ⟨hl, q⟩ := q
    have R2 : RepL X.K T F1 (.ref ci.addr :: vs) (D.cls c :: ds) := .cons (.cls hT) R1
    exact sp_fz S1 R2 (by rw [List.length_cons, hl, hn]) q (fun F2 H2 v r outs e2 S3 R q2 => kk F2 H2 ρ1 v r (e1.trans e2) S3 R q2) fun F2 H2 cls d y outs e2 S3 ex q2 => ⟨F2, ρ1, y, S3, ex, q2⟩
end
end DL

set_option Elab.async false
set_option linter.all false
set_option autoImplicit false
set_option maxRecDepth 100000
/-! DLX15: what callers know, in short; the law's end. -/
namespace DL
open PySem PySem.Spec PyProof.Rows L2


section
variable (P : Program) (w : World) (K : PySem.W.Frag) (mg : Str → Option Value) (base : Heap) (T : Tb)
/-- a def of the module -/
def Cal (x : Str) (k : Nat) (ps : List Str) (M : List Nat) (con : Con) : Prop := ∃ fa fd, Def P w K mg base T k fa fd ps M con ∧ Binds K fd ps [] ∧ mg x = some (.ref fa)
/-- a method of the class at C -/
def CalM (C : Addr) (m : Str) (k : Nat) (ps : List Str) (M : List Nat) (con : Con) : Prop := ∃ fa fd, Def P w K mg base T k fa fd ps M con ∧ Binds K fd ps [] ∧ Meth K C m fa
def CalS (C : Addr) (m : Str) (k : Nat) (ps : List Str) (M : List Nat) (con : Con) : Prop := ∃ fa fd pA, Def P w K mg base T k fa fd ps M con ∧ Binds K fd ps [] ∧ SMet K C (.type "type") m pA fa
def CalC (C : Addr) (m : Str) (k : Nat) (ps : List Str) (con : Con) : Prop := ∃ fa fd pA, Def P w K mg base T k fa fd ps [] con ∧ Binds K fd ps [] ∧ ClX.CMet K C (.type "type") m pA fa
def CalI (C : Addr) (k : Nat) (ps : List Str) (con : Con) : Prop := ∃ fa fd, Def P w K mg base T k fa fd ps [0] con ∧ Binds K fd ps [] ∧ Mk K C fa
/-- a property that hands out an attribute -/
def CalP (C : Addr) (pn fn : Str) (k : Nat) : Prop := ∃ p gA fd, PropOf K C pn p gA ∧ FnOk P w K mg base (CZ K P w) k gA fd ["self"] (getSp C fn) ∧ Binds K fd ["self"] []
/-- an own exception class -/
def ErrX (x : Str) (c : Nat) : Prop := ∃ f newId initId B tail C fI, DLE.ETxt K f newId initId B tail C fI ∧ T.ex c = some ⟨C, Str.ofString f⟩ ∧ mg x = some (.ref C)
/-- an own class of the module -/
structure Own (x : Str) (c : Nat) (ci : CI) : Prop where
  cl : ClD K T c ci
  rd : ClX.CRead K ci.addr (.type "type")
  mg : mg x = some (.ref ci.addr)
end
section
variable {X : Cx} {T : Tb} {B : Bs} {M : List Nat} {W : EK} {F H : Hp} {ρ : Env} {σ : L2.St}
variable {a e o : Expr} {es : List Expr} {f g : DE} {fs : List DE} {as : List DA} {pos apos : Pos}
variable {k c i j : Nat} {C : Addr} {ci : CI} {ps : List Str} {con : Con} {x m : Str} {p : Pos} {Mc : List Nat} {pl : Sem Bool}
theorem takes_no : Takes X (lW X.K T B M noE) := ⟨fun u s' ⟨a, B, sI, pins, σ, H, cls, d, e, I, nb, up, sky, na, os, ag, _, F, ρ, x, S, ex, w⟩ => w.elim, fun u s' ⟨a, B, sI, pins, σ, H, cls, d, e, I, nb, up, sky, na, os, ag, _, F, ρ, x, S, ex, w⟩ => w.elim⟩
theorem zaI (G : Cal X.prog X.w X.K X.mg X.base T x k ps Mc con) (hr : RoomG k X.A) (tk : Takes X (lW X.K T B M W)) (hg : Gl X x) (ha : PDAV X T B M W (e :: es) as) (hn : as.length = ps.length := by rfl) (hf : fitA as Mc = true := by rfl)
    (hdb : (x == ("__debug__" : Str)) = false := by decide) (he : starEach (e :: es) X.env = (false, eval e X.env) :: starEach es X.env := by rfl) (hpl : (backTo pos (starEach es X.env)).any (·.1) = false := by rfl) :
    PD X T B M W (.Call (.Name x p) (e :: es) [] pos) (zaK con as) := by
  obtain ⟨fa, fd, D, hb, hm⟩ := G
  exact pd_call D hr tk hg hm hb ha hn hf hdb he hpl
theorem pd_smethC {pn : Pos} (hO : Own X.K X.mg T x c ci) (G : CalS X.prog X.w X.K X.mg X.base T ci.addr m k ps Mc con) (hr : RoomG k X.A) (tk : Takes X (lW X.K T B M W)) (hg : Gl X x) (ha : PDAV X T B M W (e :: es) as) (hn : as.length = ps.length := by rfl) (hf : fitA as Mc = true := by rfl)
    (hdb : (x == ("__debug__" : Str)) = false := by decide) (hst : starEach (e :: es) X.env = (false, eval e X.env) :: starEach es X.env := by rfl) (hpl : (backTo pos (starEach es X.env)).any (·.1) = false := by rfl)
    (ht : eval (.Call (.Attribute (.Name x pn) m apos) (e :: es) [] pos) X.env = (do
      let ov ← eval (.Name x pn) X.env
      standAt apos.atName
      let (f, first) ← holding [ov] (getMethod ov m pl)
      callWith pos f first (backTo pos (starEach (e :: es) X.env)) (backToKw pos (keywordEach [] X.env))) := by rfl) :
    PD X T B M W (.Call (.Attribute (.Name x pn) m apos) (e :: es) [] pos) (zaK con as) := by
  obtain ⟨fa, fd, pA, D, hb, sm⟩ := G
  exact pd_smeth (cv := .none) hg hO.mg hO.rd sm D hr tk hb ha hn hf hdb hst hpl ht
theorem pd_cmethC {pn : Pos} (hO : Own X.K X.mg T x c ci) (G : CalC X.prog X.w X.K X.mg X.base T ci.addr m k ps con) (hr : RoomG k X.A) (tk : Takes X (lW X.K T B M W)) (hg : Gl X x) (ha : PDA X T B M W (e :: es) fs) (hn : fs.length + 1 = ps.length := by rfl)
    (hdb : (x == ("__debug__" : Str)) = false := by decide) (hst : starEach (e :: es) X.env = (false, eval e X.env) :: starEach es X.env := by rfl) (hpl : (backTo pos (starEach es X.env)).any (·.1) = false := by rfl)
    (ht : eval (.Call (.Attribute (.Name x pn) m apos) (e :: es) [] pos) X.env = (do
      let ov ← eval (.Name x pn) X.env
      standAt apos.atName
      let (f, first) ← holding [ov] (getMethod ov m pl)
      callWith pos f first (backTo pos (starEach (e :: es) X.env)) (backToKw pos (keywordEach [] X.env))) := by rfl) :
    PD X T B M W (.Call (.Attribute (.Name x pn) m apos) (e :: es) [] pos) (dCm c con fs) := by
  obtain ⟨fa, fd, pA, D, hb, cm⟩ := G
  exact pd_cmeth (n := 0) (Mc := []) hO.cl.at_ hg hO.mg hO.rd cm D hr tk hb ha hn hdb hst hpl ht
theorem pd_makeVC (hC : ClD X.K T c ci) (G : CalI X.prog X.w X.K X.mg X.base T ci.addr k ps con) (hr : RoomG (k + 1) X.A) (tk : Takes X (lW X.K T B M W)) (hN : X.N[i]? = some x) (hv : Vis X.env.scope x) (ha : PDA X T B M W (e :: es) fs) (hn : fs.length + 1 = ps.length := by rfl)
    (hd : (x == ("__debug__" : Str)) = false := by decide) (hcd : (x == ("__classdict__" : Str)) = false := by decide) (he : starEach (e :: es) X.env = (false, eval e X.env) :: starEach es X.env := by rfl) (hpl : (backTo pos (starEach es X.env)).any (·.1) = false := by rfl) :
    PD X T B M W (.Call (.Name x p) (e :: es) [] pos) (dMakeV i c con fs) := by
  obtain ⟨fa, fd, D, hb, mk⟩ := G
  exact pd_makeV hC mk D hr tk hN hv hb ha hn hd hcd he hpl
theorem pd_propC {fn pn : Str} (hC : ClD X.K T c ci) (G : CalP X.prog X.w X.K X.mg X.base ci.addr pn fn k) (hj : ci.names[j]? = some fn) (hr : RoomG (k + 1) X.A)
    (he : PD X T B M W e g) (hb : attributeBase e pn X.env (eval e X.env) = eval e X.env := by rfl) (hk : k + 1 ≤ 15 := by decide) : PD X T B M W (.Attribute e pn pos) (dFld c j g) := by
  obtain ⟨p, gA, fd, hp, G, hbn⟩ := G
  exact pd_prop hC hj hp G (hr.rm.mono hk) hbn he hb
theorem pds_raiseC {pos2 : Pos} (G : ErrX X.K X.mg T x c) (hc : X.calm = true) (tk : Takes X (lW X.K T B M W)) (hr : RoomG k X.A) (ha : PD X T B M W a g) (hg : Gl X x) (hdb : (x == ("__debug__" : Str)) = false := by decide)
    (he : starEach (a :: []) X.env = (false, eval a X.env) :: starEach [] X.env := by rfl) (hpl : (backTo pos (starEach [] X.env)).any (·.1) = false := by rfl) : PDS X T B M W (.Raise (some (.Call (.Name x p) [a] [] pos)) none pos2) (sRaise c g) := by
  obtain ⟨f, newId, initId, Bn, tail, C, fI, ET, hT, hm⟩ := G
  exact pds_raise hc tk ET hT hr.rm ha hg hm hdb he hpl
theorem pd_strG {y : Str} {l : Tx} (hg : Gl X y) (hm : ∃ tk, X.mg y = some (.str (tx l) tk)) (h : okTxB l = true) (hd : (y == ("__debug__" : Str)) = false := by decide) : PD X T B M W (.Name y pos) (dC (.str l)) :=
  let ⟨tk, hm⟩ := hm; pd_glob (v := .str (tx l)) hg hm ⟨tk, rfl⟩ (fun _ => .str (okTx_of h)) hd
theorem pd_intG {y : Str} {n : Int} (hg : Gl X y) (hm : ∃ tk, X.mg y = some (.int n tk)) (hd : (y == ("__debug__" : Str)) = false := by decide) : PD X T B M W (.Name y pos) (dC (.int n)) :=
  let ⟨tk, hm⟩ := hm; pd_glob (v := .int n) hg hm ⟨tk, rfl⟩ (fun _ => .int n) hd
end
/-! ### the law -/
def lawCon : Con := fun args Q _ => ∃ ns : List Int, ns.length ≤ 63 ∧ args = [.fz (.frl (ns.map .int))] ∧ ∀ outs, Q (.fz (.bl true)) outs
def spLaw (K : PySem.W.Frag) (L : List (Addr × Str)) : Sp := fun vs H Q _ => ∃ (a : Addr) (ns : List Int), vs = [.ref a] ∧ SqL K H a (ns.map V.int) ∧ ns.length ≤ 63 ∧ LamX.Tabs L H ∧ ∀ H', Q (.bl true) H'
/-- without the tables -/
def noT (H : Hp) : Hp := fun b => match H b with
  | some (.tbl _) => none
  | z => z
theorem noT_same (H : Hp) : Same (noT H) H := fun b o e => by
  unfold noT at e
  split at e
  · cases e
  · exact e
theorem noT_none (H : Hp) : ∀ b ps, noT H b ≠ some (.tbl ps) := fun b ps e => by
  unfold noT at e
  split at e
  · cases e
  · rename_i h; exact h ps e
theorem noT_at {H : Hp} {b : Addr} {o : HO} (e : H b = some o) (h : ∀ ps, o ≠ .tbl ps) : noT H b = some o := by
  unfold noT
  rw [e]
  split
  · rename_i ps z; exact absurd (Option.some.inj z) (h ps)
  · rfl
theorem noT_sq {K : PySem.W.Frag} {H : Hp} {a : Addr} {xs : List V} (h : SqL K H a xs) : SqL K (noT H) a xs := by
  rcases h with (h | ⟨o, h⟩) | h
  · exact .inl (.inl (noT_at h fun _ z => nomatch z))
  · exact .inl (.inr ⟨o, noT_at h fun _ z => nomatch z⟩)
  · exact .inr h
theorem ints_rep {K : PySem.W.Frag} {T : Tb} {F : Hp} : ∀ ns : List Int, RepL K T F (ns.map V.int) (ns.map D.int)
  | [] => .nil
  | n :: ns => .cons (.int n) (ints_rep ns)
theorem lawFn {P : Program} {w : World} {K : PySem.W.Frag} {mg : Str → Option Value} {base : Heap} {T : Tb} {k : Nat} {fa : Addr} {fd : FuncData} {x : Str} (G : Def P w K mg base T k fa fd [x] [] lawCon) {L : List (Addr × Str)} (ht : T.tabs = L := by rfl) :
    FnG P w K mg base (CZ K P w) k fa fd [x] (spLaw K L) :=
  G.ok.imp fun vs H Q E ⟨a, ns, e, hs, hl, hT, hq⟩ => by
    subst e
    refine ⟨noT H, [.fz (.frl (ns.map .int))], fun r _ => r = .fz (.bl true), fun _ _ => False, rfl, rfl, ⟨.of (noT_same H), by rw [ht]; exact ⟨hT, noT_none H⟩⟩, fun i v s h1 h2 => ?_, fun i j p h1 => absurd h1 (noOwn (ds := [.frl (ns.map .int)]) i p), fun i p h1 => absurd h1 (noOwn (ds := [.frl (ns.map .int)]) i p), ⟨ns, hl, rfl, fun _ => rfl⟩, fun F' H' v r outs A R q => ?_, fun _ _ _ _ _ _ _ _ q => q.elim⟩
    · cases i with
      | zero =>
        simp at h1 h2
        subst h1; subst h2
        exact .frl (noT_sq hs) (ints_rep ns)
      | succ i => simp at h1
    · subst q
      have : v = .bl true := Rep.bl_inv R
      subst this
      exact hq H'
/-- the abstract heap in which nothing but the script stands, if it is not the module's own -/
def scriptH (vs : List Value) (ns : List Int) (own : Bool) (a : Addr) : Hp := fun b => if own = false ∧ b = a then some (.frz { cls := .type "list", data := .seq vs.toArray } (.lst (ns.map V.int))) else none
theorem scriptH_some {vs : List Value} {ns : List Int} {own : Bool} {a b : Addr} {u : HO} (h : scriptH vs ns own a b = some u) : own = false ∧ b = a ∧ u = .frz { cls := .type "list", data := .seq vs.toArray } (.lst (ns.map V.int)) := by
  unfold scriptH at h
  split at h
  · rename_i q
    cases h
    exact ⟨q.1, q.2, rfl⟩
  · cases h
theorem law_at {P : Program} {w : World} {K : PySem.W.Frag} {mg mb : Str → Option Value} {k : Nat} {fa a : Addr} {fd : FuncData} {x : Str} {s₁ : Shared} {vs : List Value} {ns : List Int}
    (kin : K.In s₁.heap) (gl : s₁.heap.Ns mainGlobals mg) (bi : s₁.heap.Ns builtinsNs mb) (bb : ∀ x : Str, x ≠ "__name__" → mb x = bootBuiltins x) (lim : s₁.heap.NoLimit) (gens : s₁.gens = #[])
    (sc : s₁.heap.get? a = some { cls := .type "list", data := .seq vs.toArray }) (isI : IntsAre vs ns) (few : ns.length ≤ 63) (hr : RoomN k callerA)
    (F : ∀ base : Heap, K.In base → base.Ns mainGlobals mg → FnG P w K mg base (CZ K P w) k fa fd [x] (spLaw K [])) (hbind : ∀ (s : Shared) (u : Value), BindsTo s fd ⟨[u], []⟩ [(x, u)]) :
    codeAny (model P w) callerA (.call (.ref fa) ⟨[.ref a], []⟩) (fun r s' => r = .ok (.ret (.bool true)) ∧ OldK s₁.heap s'.heap ∧ s'.os = s₁.os ∧ AllBare s'.gens) s₁ := by
  have line : ns.length ≤ sizeLine := Nat.le_trans few (by rw [sizeLine_eq]; decide)
  obtain ⟨own, hown⟩ : ∃ own : Bool, own = (K.lookup a).isSome := ⟨_, rfl⟩
  let H : Hp := scriptH vs ns own a
  have H_a : ∀ {b : Addr} {u : HO}, H b = some u → b = a ∧ K.lookup a = none ∧ u = .frz { cls := .type "list", data := .seq vs.toArray } (.lst (ns.map V.int)) := fun {b u} e => by
    obtain ⟨h1, h2, h3⟩ := scriptH_some e
    rw [h1] at hown
    exact ⟨h2, by simpa using hown.symm, h3⟩
  have free : ∀ {b : Addr}, b ≠ a → H b = none := fun {b} hb => by
    cases e : H b with
    | none => rfl
    | some u => exact absurd (H_a e).1 hb
  have seq : SqL K H a (ns.map V.int) := by
    cases ho : own with
    | true =>
      have : (K.lookup a).isSome = true := by rw [← hown, ho]
      obtain ⟨o, hk⟩ := Option.isSome_iff_exists.mp this
      have e := kin a o hk
      rw [sc] at e
      cases e
      have lv : vs.length = ns.length := isI.length
      refine .inr ⟨_, vs.toArray, _, hk, rfl, rfl, rfl, ?_, by simpa using vals_ints isI⟩
      show vs.toArray.size ≤ sizeLine
      rw [List.size_toArray, lv]
      exact line
    | false =>
      refine .inl (.inr ⟨{ cls := .type "list", data := .seq vs.toArray }, ?_⟩)
      show scriptH vs ns own a a = _
      unfold scriptH
      exact if_pos ⟨ho, rfl⟩
  have hok : HOk P w H s₁.heap := fun b u e => by
    obtain ⟨rfl, _, rfl⟩ := H_a e
    exact ⟨sc, by rw [List.length_map]; exact line, vs, _, vals_ints isI, sc⟩
  have tabs : ∀ {b : Addr} {o : Obj} {es : Array DictEntry} {ep : Nat}, s₁.heap.get? b = some o → o.data = .dict es ep → H b = none := fun {b o es ep} e d => free fun hb => by
    subst hb
    rw [sc] at e
    cases e
    exact Data.noConfusion (show Data.seq vs.toArray _ = Data.dict es ep from d)
  have keepNs : ∀ {b : Addr} {m : Str → Option Value}, s₁.heap.Ns b m → (hidT s₁.heap H).Ns b m := fun {b m} ⟨o, es, ep, e, d, r⟩ => ⟨o, es, ep, hidT_get e (tabs e d), d, r⟩
  have kin2 : K.In (hidT s₁.heap H) := fun b o e => hidT_get (kin b o e) (by
    cases q : H b with
    | none => rfl
    | some u =>
      obtain ⟨rfl, hk, _⟩ := H_a q
      rw [hk] at e
      cases e)
  have md : Mod K mg (hidT s₁.heap H) := ⟨kin2, keepNs gl, ⟨mb, keepNs bi, bb⟩, let ⟨mc, h1, h2⟩ := lim; ⟨mc, keepNs h1, h2⟩⟩
  have start : Env0 P w K mg (hidT s₁.heap H) callerA [] s₁ H := ⟨rfl, md, fun b o e => of_hidT e, Nat.le_of_eq (hidT_size _ _), trivial, (fun b hb => absurd (show b ∈ ([] : List Addr) from hb) List.not_mem_nil), hok, .of_eq gens⟩
  refine codeAny_mono ((F _ kin2 (keepNs gl)).run callerA [] s₁ H ⟨[.ref a], []⟩ [.ref a] [.ref a] (fun v _ => v = .bl true) (fun _ _ _ => False) ⟨hr, rfl⟩ start (hbind s₁ (.ref a)) (.cons rfl .nil) ⟨a, ns, rfl, seq, few, (fun p hp => nomatch hp), fun _ => rfl⟩) fun r s' z => ?_
  match r, z with
  | .error e, .inl ⟨_, _, _, _, _, _, _, _, _, _, _, _, q⟩ => exact q.2.elim
  | .error e, .inr ⟨_, _, _, _, _, _, _, _, _, _, _, _, q⟩ => exact q.2.elim
  | .ok (.ret u), ⟨v, H', os, bare, un, hok', rv, q⟩ =>
    have q : v = .bl true := q
    subst q
    cases (show u = Value.bool true from rv)
    refine ⟨rfl, OldK.of_keep fun b o e => ?_, os, bare⟩
    cases hb : H b with
    | none => exact un.keep b o e hb (fun z => absurd (show b ∈ ([] : List Addr) from z) List.not_mem_nil) List.not_mem_nil
    | some u =>
      obtain ⟨rfl, _, rfl⟩ := H_a hb
      obtain ⟨now, _⟩ := hok' _ _ (un.frzs _ _ _ hb)
      rw [sc] at e
      cases e
      exact now
theorem walkD {l : PySem.W.OpenLaw} {q : Program} {loose : List Str} {XP : (Str → Option Value) → Heap → Prop} {YP : World → Heap → Prop} {d : DefRec} {K : Params → PySem.W.Frag} {k : Nat} {x : Str} (hn : l.most = some 63) (hdf : d.params.defaults = []) (hk : RoomN k callerA)
    (hY : ∀ (w : World) (h : Heap), YP w h → (K w.params).In h)
    (F : ∀ (w : World) (mg : Str → Option Value) (fa : Addr) (h : Heap), (K w.params).In h → h.Ns mainGlobals mg → mg d.name = some (.ref fa) →
      ∃ fd : FuncData, (∀ (s : Shared) (u : Value), BindsTo s fd ⟨[u], []⟩ [(x, u)]) ∧ ∀ base : Heap, (K w.params).In base → base.Ns mainGlobals mg → FnG l.prog w (K w.params) mg base (CZ (K w.params) l.prog w) k fa fd [x] (spLaw (K w.params) [])) :
    PySem.W.WalkO q loose XP YP l.row.toRowW d [] (fun f vs => PySem.call f vs) := by
  refine Att.attach_call hn hdf fun w s₀ s₁ mg mb fa o pm cd doc a vs ns gr y _ _ _ hmg sc isI few gens => ?_
  obtain ⟨fd, hb, hF⟩ := F w mg fa _ (hY w _ y) gr.T.g hmg
  exact law_at (hY w _ y) gr.T.g gr.T.b gr.T.builtins gr.T.nolimit gens sc isI few hk hF hb
end DL

set_option Elab.async false
set_option linter.all false
set_option autoImplicit false
set_option maxRecDepth 100000
/-! DLX16: += and the like. -/
namespace DL
open PySem PySem.Spec PyProof.Rows L2
section
variable {X : Cx} {T : Tb} {B : Bs} {M : List Nat} {W : EK} {F H : Hp} {ρ : Env} {σ : L2.St}
def rIAdd (X : Cx) : R2 := fun x y H Q => (rI0 (fun i j => .int (i + j))) x y H Q ∨ (∃ i j, x = .str i ∧ y = .str j ∧ i.length + j.length ≤ sizeLine ∧ Q (.str (i ++ j)) H)
theorem iop_addA : OpR X (inplaceOp .Add) (rIAdd X) := iop_add.or iop_add_str
theorem ok_iadd : OpOk X.K T iaddD (rIAdd X) := by
  intro F H x y dx dy k Q s rx ry ho kk
  cases dx with
  | int i =>
    cases dy with
    | int j => exact .inl ⟨i, j, rx.int_inv, ry.int_inv, kk _ _ _ (.fz (.int _)) ho⟩
    | _ => exact ho.elim
  | str a =>
    cases dy with
    | str b =>
      obtain ⟨ex, ha⟩ := rx.str_inv
      obtain ⟨ey, hb⟩ := ry.str_inv
      have hl : (tx a).length + (tx b).length ≤ sizeLine := by rw [tx_len, tx_len, ← maxTx_eq]; exact ho.1
      refine .inr ⟨_, _, ex, ey, hl, ?_⟩
      rw [tx_app]
      exact kk _ _ _ (.fz (.str (ha.append hb ho.1))) ho.2
    | _ => exact ho.elim
  | _ => exact ho.elim
end
end DL

set_option Elab.async false
set_option linter.all false
set_option autoImplicit false
set_option maxRecDepth 100000
/-! DLX17: isinstance with an own class. -/
namespace DL
open PySem PySem.Spec PyProof.Rows L2
/-- isinstance's word of an own class -/
structure KitC (K : PySem.W.Frag) (C : Addr) : Prop where
  self : PySem.W.kitOne K (.ref C) (.ref C) = some true
  non : PySem.W.kitOne K (.type "NoneType") (.ref C) = some false
  bl : PySem.W.kitOne K (.type "bool") (.ref C) = some false
  int : PySem.W.kitOne K (.type "int") (.ref C) = some false
  str : PySem.W.kitOne K (.type "str") (.ref C) = some false
  lst : PySem.W.kitOne K (.type "list") (.ref C) = some false
  tup : PySem.W.kitOne K (.type "tuple") (.ref C) = some false
  dct : PySem.W.kitOne K (.type "dict") (.ref C) = some false
  at_ : PySem.W.findIn K (.ref C) "__class__" = some (some (.builtin "object.__class__"))
  hn : PySem.W.specialIn K (.builtin "object.__class__") "__get__" = some (some (.builtin "getset_descriptor.__get__"))
  tk : PySem.W.takesIn K (.builtin "object.__class__") = some true
  top : PySem.W.mroIn K C (.type "object") = some true
/-- isinstance's word of the other own classes -/
def KitX (K : PySem.W.Frag) (T : Tb) (c : Nat) (C : Addr) : Prop := ∀ c' ci', T.cl c' = some ci' → c' < 1000 → c' ≠ c → Cls K ci'.addr ∧ KitC K ci'.addr ∧ PySem.W.kitOne K (.ref ci'.addr) (.ref C) = some false
section
variable {X : Cx} {T : Tb} {B : Bs} {M : List Nat} {W : EK} {F H : Hp} {ρ : Env} {σ : L2.St} {e : Expr} {f : DE} {pos : Pos}
theorem isO_of {K : PySem.W.Frag} {c : Nat} {ci : CI} {d : D} {v : V} {b : Bool} (hC : ClD K T c ci) (kc : KitC K ci.addr) (kx : KitX K T c ci.addr) (s : SmW F H) (r : Rep K T F v d) (h : d.isCls c = some b) : ∃ u, TyZ K H v u ∧ PySem.W.kitOne K u (.ref ci.addr) = some b := by
  cases d with
  | non => rw [r.non_inv]; cases h; exact ⟨_, .base .non, kc.non⟩
  | bl x => rw [r.bl_inv]; cases h; exact ⟨_, .base (.bl x), kc.bl⟩
  | int x => rw [r.int_inv]; cases h; exact ⟨_, .base (.int x), kc.int⟩
  | str x => rw [r.str_inv.1]; cases h; exact ⟨_, .base (.str _), kc.str⟩
  | lst x => obtain ⟨p, us, rfl, hp, ra⟩ := r.lst_inv; cases h; exact ⟨_, .base (.lst (s _ _ hp)), kc.lst⟩
  | tup x => obtain ⟨p, us, rfl, hp, ra⟩ := r.tup_inv; cases h; exact ⟨_, .base (.tup (s _ _ hp)), kc.tup⟩
  | dct x => obtain ⟨p, us, rfl, hp, ra⟩ := r.dct_inv; cases h; exact ⟨_, tyX_dk (s.rd hp), kc.dct⟩
  | obj c' x =>
    have h5 : (if c' = c then some true else if c' < 1000 then some false else none) = some b := h
    clear h
    by_cases hcc : c' = c
    · rw [if_pos hcc] at h5
      subst hcc
      cases h5
      obtain ⟨p, ci', dx, vs, rfl, hc, hF, hl, ra⟩ := r.obj_inv
      cases hC.at_.symm.trans hc
      exact ⟨_, .base (.ins (s _ _ hF) hC.cls kc.at_ kc.hn kc.tk kc.top), kc.self⟩
    · rw [if_neg hcc] at h5
      by_cases h6 : c' < 1000
      · rw [if_pos h6] at h5
        cases h5
        obtain ⟨p, ci', dx, vs, rfl, hc, hF, hl, ra⟩ := r.obj_inv
        obtain ⟨x1, x2, x3⟩ := kx c' ci' hc h6 hcc
        exact ⟨_, .base (.ins (s _ _ hF) x1 x2.at_ x2.hn x2.tk x2.top), x3⟩
      · rw [if_neg h6] at h5
        cases h5
  | cls c => cases h
  | dcT x => obtain ⟨p, us, rfl, hp, ra⟩ := r.dcT_inv; cases h; exact ⟨_, tyX_dt (s.rd hp), kc.dct⟩
  | prt d => exact (not_rep_prt r).elim
  | frl x =>
    obtain ⟨p, us, rfl, hp, ra⟩ := r.frl_inv
    cases h
    rcases s.seq hp with (h1 | ⟨o, h1⟩) | ⟨o, its, n, h1, h2, _⟩
    · exact ⟨_, .base (.lst h1), kc.lst⟩
    · exact ⟨_, .base (.frz h1), kc.lst⟩
    · exact ⟨_, .kList h1 h2, kc.lst⟩
theorem pd_isO {c : Nat} {ci : CI} {cn : Str} {p p2 : Pos} (hO : Own X.K X.mg T cn c ci) (kc : KitC X.K ci.addr) (kx : KitX X.K T c ci.addr) (hg : Gl X "isinstance") (hm : X.mg "isinstance" = none) (hgc : Gl X cn) (he : PD X T B M W e f) (hdb : (cn == ("__debug__" : Str)) = false := by decide)
    (h1 : starEach (e :: [.Name cn p2]) X.env = (false, eval e X.env) :: starEach [.Name cn p2] X.env := by rfl) (h2 : starEach [.Name cn p2] X.env = (false, eval (.Name cn p2) X.env) :: starEach [] X.env := by rfl) (hpl : (backTo pos (starEach [.Name cn p2] X.env)).any (·.1) = false := by rfl) :
    PD X T B M W (.Call (.Name "isinstance" p) [e, .Name cn p2] [] pos) (dIsO c f) :=
  pe_imp (pe_callB call_isZ hg hm (by decide +kernel) (pa_cons he (pa_cons (pe_glob (v := .ref ci.addr) hgc hO.mg rfl hdb) pa_nil h2) h1) (by decide) (by decide) h1 hpl) fun σ H Q ⟨F, ρ, Qd, S, h, k⟩ => by
    refine lE_run S h fun F1 H1 ρ1 v r e1 S1 R1 q => ?_
    obtain ⟨b, hb, q⟩ := q
    obtain ⟨u, h3, h4⟩ := isO_of hO.cl kc kx S1.sub.toSmW R1 hb
    exact ⟨v, .ref ci.addr, u, .ref ci.addr, b, rfl, .own _, h3, h4, lE_end k e1 S1 (.fz (.bl b)) q⟩
end
end DL

set_option Elab.async false
set_option linter.all false
set_option autoImplicit false
set_option maxRecDepth 100000
/-! DLX18: try .. except C as e. -/
namespace DL
open PySem PySem.Spec PyProof.Rows L2
/-- the exception's field is seen by the suite as a datum -/
def sTryAs (i c : Nat) (body : DS) (suite : Exc → DS) : DS := fun D ρ E => body D ρ fun x ρ1 => if x.cls = c then i < ρ1.length ∧ suite x { nx := fun ρ' => D.nx (ρ'.set i .no), rt := D.rt, bk := fun ρ' => D.bk (ρ'.set i .no), ct := fun ρ' => D.ct (ρ'.set i .no) } (ρ1.set i .no) noE else E x ρ1
section
variable {X : Cx} {T : Tb} {B : Bs} {M : List Nat} {W : EK} {F H F2 H2 : Hp} {ρ ρ2 : Env} {σ σ2 : L2.St}
theorem SR.unset {i : Nat} {o : Option V} (S : SR X.K T B M F H ρ σ) (hi : i ∉ M) : SR X.K T B M F H (ρ.set i .no) (σ.set i o) := by
  have at_ne : ∀ j, j ≠ i → Env.at (ρ.set i .no) j = ρ.at j := fun j h => Env.at_set_ne (Ne.symm h)
  have at_no : Env.at (ρ.set i .no) i = .no := by
    by_cases h : i < ρ.length
    · exact Env.at_set_same h
    · exact at_oob (by simpa using h)
  have fo : ∀ j a, a ∈ foot H ((σ.set i o)[j]?) (Env.at (ρ.set i .no) j) → a ∈ foot H (σ[j]?) (ρ.at j) := fun j a ha => by
    by_cases h : j = i
    · subst h; rw [at_no, foot_no] at ha; simp at ha
    · rw [at_ne j h, List.getElem?_set_ne (Ne.symm h)] at ha; exact ha
  refine ⟨S.sub, S.keep, S.live, S.f0, S.fnew, by simp [S.len], fun j => ?_, fun j a ha => S.newF j a (fo j a ha), fun j k a h1 h2 => S.injF j k a (fo j a h1) (fo k a h2), fun j hj => ?_, S.tabs⟩
  · by_cases h : j = i
    · subst h; rw [at_no]; trivial
    · rw [at_ne j h, List.getElem?_set_ne (Ne.symm h)]; exact S.slot j
  · have h : j ≠ i := fun e => hi (e ▸ hj)
    rw [List.getElem?_set_ne (Ne.symm h)]
    exact S.pin j hj
/-- the base of a suite: the exception's place pinned -/
def baseE (B : Bs) (F H : Hp) (ρ : Env) (σ : L2.St) (i : Nat) (a : Addr) : Bs := ⟨F, H, fun i b => b ∈ foot H (σ[i]?) (ρ.at i), fun j => if j = i then .ref a else B.P j⟩
theorem SR.baseE {i : Nat} {a : Addr} (S : SR X.K T B M F H ρ σ) (hi : i ∉ M) (hs : σ[i]? = some (some (.ref a))) : SR X.K T (baseE B F H ρ σ i a) (i :: M) F H ρ σ := by
  have Z := S.base
  refine ⟨Z.sub, Z.keep, Z.live, Z.f0, Z.fnew, Z.len, Z.slot, Z.newF, Z.injF, fun j hj => ?_, Z.tabs⟩
  rcases List.mem_cons.mp hj with e | e
  · subst e
    show _ = some (some (if j = j then .ref a else B.P j))
    rw [if_pos rfl]
    exact hs
  · show _ = some (some (if j = i then .ref a else B.P j))
    rw [if_neg (fun h : j = i => hi (h ▸ e))]
    exact S.pin j e
theorem SR.outE {i : Nat} {a : Addr} (S : SR X.K T B M F H ρ σ) (hi : i ∉ M) (S2 : SR X.K T (DL.baseE B F H ρ σ i a) (i :: M) F2 H2 ρ2 σ2) : SR X.K T B M F2 H2 ρ2 σ2 := by
  refine S.trans ⟨S2.sub, S2.keep, S2.live, S2.f0, S2.fnew, S2.len, S2.slot, S2.newF, S2.injF, fun j hj => ?_, S2.tabs⟩
  have := S2.pin j (List.mem_cons_of_mem _ hj)
  have e : (DL.baseE B F H ρ σ i a).P j = B.P j := by
    show (if j = i then V.ref a else B.P j) = B.P j
    rw [if_neg (fun h : j = i => hi (h ▸ hj))]
  rw [e] at this
  exact this
variable {x n : Str} {c i : Nat} {body suite : List Stmt} {b₀ : Stmt} {np pos pos' : Pos} {fb : DS} {fs : Exc → DS}
/-- what «except C» says of the exceptions that may come: of C itself yes, of the others no -/
def ExM (K : PySem.W.Frag) (T : Tb) (c : Nat) (C : Value) : Prop := ∀ k ei, T.ex k = some ei → PySem.W.exmOne K (.ref ei.addr) C = some (decide (k = c))
end
end DL

set_option Elab.async false
set_option linter.all false
set_option autoImplicit false
set_option maxRecDepth 100000
/-! DLX19: the exception's field in an except suite. -/
namespace DL
open PySem PySem.Spec PyProof.Rows L2
section
variable {X : Cx} {T : Tb} {B : Bs} {M : List Nat} {W : EK}
theorem pd_excf {a : Addr} {oe : Obj} {cls : Value} {d : Option Addr} {pn : List (Addr × Obj)} {y : Exc} {i c : Nat} {x cx fld : Str} {px pos : Pos} (hz : Zc cls d oe) (hf : ∃ vs, oe.data = .fields vs) (hP : B.P i = .ref a) (ex : ExR X.K T B.F0 cls d y) (hy : y.cls = c) (G : ErrX X.K X.mg T cx c)
    (hfld : ∀ ei, T.ex c = some ei → ei.field = fld) (hN : X.N[i]? = some x) (hv : Vis X.env.scope x) (hi : i ∈ M) (hb : attributeBase (.Name x px) fld X.env (eval (.Name x px) X.env) = eval (.Name x px) X.env := by rfl) (hd : (x == ("__debug__" : Str)) = false := by decide) (hcd : (x == ("__classdict__" : Str)) = false := by decide) :
    PD (X.suite a ((a, oe) :: pn)) T B M W (.Attribute (.Name x px) fld pos) (dC y.val) := by
  obtain ⟨f, newId, initId, Bn, tail, C, fI, ET, hT, hm⟩ := G
  have hfe : Str.ofString f = fld := hfld _ hT
  subst hfe
  refine pe_imp (pe_byE (te := tVar i) ET hz hf (pe_var hN hv hd hcd) hb) fun σ H Q ⟨F, ρ, Qd, S, h, k⟩ => ?_
  obtain ⟨ei, da, v, e1, e2, e3, e4, e5⟩ := ex
  rw [hy] at e1
  cases hT.symm.trans e1
  have hp := S.pin i hi
  rw [hP] at hp
  exact ⟨_, hp, rfl, e2, da, v, e3, S.sub _ _ (S.f0 _ _ e4), k F H ρ v (.fz y.val) (Same.refl _) S (e5.mono S.f0) h⟩
end
end DL

set_option Elab.async false
set_option linter.all false
set_option autoImplicit false
set_option maxRecDepth 100000
set_option maxHeartbeats 2000000
/-! DLX20: isinstance of a caught exception that has a field. -/
namespace DLK
open PySem PySem.W PySem.Spec PySem.Calls PyProof.Rows L2
section
variable {prog : Program} {w : World} {A : Around} {E : Value → Shared → Prop} {s : Shared} {K : Frag} {x D : Addr} {ox od : Obj}
theorem classOf {Q : Option Value → Shared → Prop} (C : ExcC K D) (X : K.In s.heap) (I : InstAt s.heap x ox D (some od)) (h : Q (some (.ref D)) { s with toks := s.toks + 1 }) :
    wpAny (model prog w) A (getAttr? (.ref x) "__class__") Q E s := by
  have hc : (clsIn K D).isSome = true := by
    obtain ⟨cd, e, _⟩ := any_some C.hd
    rw [e]; rfl
  have hf : findObj K D (some od) "__class__" = some (.bind (.builtin "getset_descriptor.__get__") (.builtin "object.__class__")) := findObj_data hc C.ha C.hn C.ht
  obtain ⟨hp, g, d, t, os⟩ := s
  have A0 := I.type (M := model prog w)
  have A1 := looks_findIn (M := model prog w) X C.hg
  have A2 := looks_findIn (M := model prog w) X C.hk
  have A3 := looks_find (M := model prog w) X I hf
  have isE : Looks (model prog w) hp (isInstance (.ref x) (.type "BaseException")) true := A0.andThen (looks_subIn X C.hs)
  have z2 : (Value.builtin "BaseException.__getattribute__" == Value.builtin "object.__getattribute__") = false := by decide +kernel
  have z1 : (onTheHeap (Value.ref D) && Value.builtin "BaseException.__getattribute__" == Value.builtin "object.__getattribute__") = false := by rw [z2]; rfl
  have z0 : (false && onTheHeap (Value.builtin "BaseException.__getattribute__")) = false := rfl
  unfold getAttr? getAttrBy? getAttrBy
  refine wpAny_bind (wpAny_mkText (wpAny_bind (wpAny_attempt (wpAny_holding (wpAny_bind (A0.at (wpAny_bind (A1.at ?_))))))))
  show wpAny _ _ (if (onTheHeap (Value.ref D) && Value.builtin "BaseException.__getattribute__" == Value.builtin "object.__getattribute__") = true then _ else _) _ _ _
  rw [z1, if_neg Bool.false_ne_true]
  unfold getAttrByItsOwn hookBefore
  refine wpAny_bind ?_
  rw [if_pos (show onTheHeap (Value.ref D) = true from rfl)]
  refine A2.at (wpAny_bind (wpAny_attempt (wpAny_holding ?_)))
  unfold callGetattribute
  rw [z0, if_neg Bool.false_ne_true]
  unfold boundAndCalled
  rw [PySem.F.excAttr_ValueError.ga.bind (.ref x)]
  refine wpAny_bind (wpAny_pure ?_)
  show wpAny _ _ (call (.builtin "BaseException.__getattribute__") [.ref x, .str "__class__" t]) _ _ _
  refine wpAny_call (codeAny_call_builtin PySem.F.excAttr_ValueError.ga.plain PySem.F.entry_bexc_ga ?_)
  refine @check_slot (model prog w) _ _ ⟨hp, g, d, t + 1, os⟩ "BaseException.__getattribute__" "BaseException" "__getattribute__" (.ref x) [.str "__class__" t] [] _ (by decide +kernel) (by decide +kernel) isE (PySem.F.args_bexc_ga (.ref x) (.str "__class__" t)) ?_
  unfold Builtin.«object.__getattribute__»
  refine wpAny_bind (wpAny_of_eq (a := ((Value.ref x : Value), [Value.str "__class__" t])) (by first | rfl | (simp only [slotArgs]; rfl)) ?_)
  refine wpAny_bind (wpAny_pure (wpAny_bind (A0.at (wpAny_bind (A3.at ?_)))))
  show wpAny _ _ (holding [Value.builtin "object.__class__"] (call (.builtin "getset_descriptor.__get__") [.builtin "object.__class__", .ref x, .ref D]) >>= ret) _ _ _
  refine wpAny_bind (wpAny_holding (wpAny_call (class_get (s := ⟨hp, g, d, t + 1, os⟩) (ox := ox) (od := some od) X I C.hm (wpAny_pure ?_))))
  show wpAny _ _ (handedOut (.ref D)) _ _ _
  rw [handedOut_of (v := .ref D) rfl]
  first
    | exact wpAny_pure (wpAny_pure h)
    | exact wpAny_pure h
    | exact wpAny_pure (wpAny_bind (wpAny_pure (wpAny_pure h)))
theorem kitE (C : ExcC K D) : KitX K (.ref x) (.ref D) (fun h => ∃ od, InstAt h x ox D (some od)) where
  ty := fun _ _ _ ⟨od, I⟩ => I.type
  it := fun _ _ X _ => by
    obtain ⟨cdD, hcD, _⟩ := any_some C.hd
    unfold clsIn at hcD
    split at hcD
    · rename_i ho
      intro A' Q' E' s' k q
      unfold isType loadHead
      exact wpAny_bind (wpAny_loadPart (k _ _ (X _ _ ho)) (wpAny_pure q))
    · cases hcD
  ne := fun h tp dd its n sl X htp => by
    obtain ⟨cdD, hcD, _⟩ := any_some C.hd
    refine Bool.eq_false_iff.mpr fun q => ?_
    have e : D = tp := Value.ref.inj (beq_iff_eq.mp q)
    subst e
    unfold clsIn at hcD
    split at hcD
    · rename_i ho
      cases (X _ _ ho).symm.trans htp
    · cases hcD
  ca := fun X ⟨od, I⟩ k => classOf C X I k
end
end DLK
namespace DL
open PySem PySem.Spec PyProof.Rows L2
section
variable {X : Cx} {T : Tb} {B : Bs} {M : List Nat} {W : EK}
/-- isinstance(e, c), e the exception that the suite holds -/
theorem call_isF {a D da : Addr} {oe : Obj} {pn : List (Addr × Obj)} (C : ExcC X.K D) (hz : Zc (.ref D) (some da) oe) (hf : ∃ vs, oe.data = .fields vs) :
    CallR (X.suite a ((a, oe) :: pn)) (.builtin "isinstance") (fun xs H Q => ∃ (c : V) (cv : Value) (b : Bool) (l : List (Str × V)), xs = [.ref a, c] ∧ ClsV c cv ∧ H da = some (.xd l) ∧ PySem.W.kitOne X.K (.ref D) cv = some b ∧ Q (.bl b) H) := by
  intro pins s σ H xs us Q I r h
  obtain ⟨c, cv, b, l, rfl, hcv, hd, e, q⟩ := h
  obtain ⟨u1, u2, rfl, r1, r2⟩ := vals2 r
  cases (show u1 = Value.ref a from r1)
  have ec := hcv.eq r2
  subst ec
  obtain ⟨hget, _⟩ := I.pin (a, oe) (List.mem_append_left _ List.mem_cons_self)
  obtain ⟨vs, hv⟩ := hf
  obtain ⟨mA, hns, _⟩ := (show ObjOk X.prog X.w H s.heap da (.xd l) from I.hok da _ hd)
  obtain ⟨od, ho, _⟩ := lookIn_ns hns
  have J : PySem.W.InstAt s.heap a oe D (some od) := ⟨hget, hz.1, by unfold PySem.W.notCls; rw [hv] <;> rfl, by rw [hz.2]; exact ho⟩
  exact PySem.W.kia_one (DLK.kitE (ox := oe) C) I.kIn ⟨od, J⟩ e (fun z => nomatch z) fun tk => ⟨.bl b, H, I.tok tk, rfl, q⟩
end
end DL

set_option Elab.async false
set_option linter.all false
set_option autoImplicit false
set_option maxRecDepth 100000
/-! DLX21: repr of data. -/
namespace DL
open PySem PySem.Spec PyProof.Rows L2
theorem tx_ofString (s : String) : Str.ofString s = tx (s.toList.map Char.toNat) := by
  unfold Str.ofString tx
  rw [cpsOfBytes_string]
theorem repL_len : ∀ xs : List D, (D.repL xs).length = xs.length
  | [] => rfl
  | x :: xs => congrArg (· + 1) (repL_len xs)
/-! ints -/
theorem nat_repr_len {n : Nat} (h : n < 10 ^ 120) : (Nat.repr n).toList.length ≤ 120 := by
  have e : (Nat.repr n).toList = Nat.toDigits 10 n := by simp [Nat.repr]
  rw [e]
  exact PyProof.Rows.digits10_le (by decide) h
theorem intT_len {i : Int} (h : i.natAbs < 10 ^ 120) : (intT i).length ≤ 128 := by
  unfold intT
  rw [List.length_map]
  cases i with
  | ofNat n =>
    have := nat_repr_len (n := n) h
    exact Nat.le_trans this (by decide)
  | negSucc n =>
    have := nat_repr_len (n := n + 1) h
    show (("-" ++ Nat.repr (n + 1)) : String).toList.length ≤ 128
    rw [String.toList_append, List.length_append]
    show 1 + _ ≤ 128
    omega
theorem log_small {n : Nat} (h : n < 10 ^ 120) : n.log2 < 1920 := by
  by_cases z : n = 0
  · rw [z]; decide
  · exact (Nat.log2_lt z).mpr (Nat.lt_of_lt_of_le h (by decide))
theorem print_ok : ∀ c : Nat, okC c = true → Unicode.isPrintable c = true := by
  have h : ∀ c : Fin 127, okC c.val = true → Unicode.isPrintable c.val = true := by decide +kernel
  intro c hc
  have : c < 127 := by
    unfold okC at hc
    simp only [Bool.and_eq_true, decide_eq_true_eq] at hc
    exact hc.1.1.2
  exact h ⟨c, this⟩ hc
theorem okC_inv {c : Nat} (h : okC c = true) : 32 ≤ c ∧ c < 127 ∧ c ≠ 39 ∧ c ≠ 92 := by
  unfold okC at h
  simp only [Bool.and_eq_true, decide_eq_true_eq, bne_iff_ne] at h
  exact ⟨h.1.1.1, h.1.1.2, h.1.2, h.2⟩
theorem repr_sign {c : Nat} (h : okC c = true) : Builtin.Str.reprChar 39 c = [c] := by
  obtain ⟨h1, h2, h3, h4⟩ := okC_inv h
  unfold Builtin.Str.reprChar
  have e1 : (c == 39 || c == 92) = false := by simp [h3, h4]
  have e2 : (c == 10) = false := by simp; omega
  have e3 : (c == 13) = false := by simp; omega
  have e4 : (c == 9) = false := by simp; omega
  simp only [e1, e2, e3, e4, print_ok c h, Bool.false_eq_true, if_false, if_true]
theorem repr_fold (l : Tx) : ∀ acc : Array Nat, l.all okC = true → l.foldl (fun out c => out ++ (Builtin.Str.reprChar 39 c).toArray) acc = acc ++ l.toArray := by
  induction l with
  | nil => intro acc _; simp
  | cons c l ih =>
    intro acc h
    rw [List.all_cons, Bool.and_eq_true] at h
    rw [List.foldl_cons, repr_sign h.1, ih _ h.2]
    simp
theorem reprText_of {x : Tx} (h : x.all okC = true) : reprText (tx x) = tx (39 :: (x ++ [39])) := by
  have q : reprQuote (tx x) = 39 := by
    unfold reprQuote tx
    have z : 39 ∉ x := fun z => (okC_inv (List.all_eq_true.mp h 39 z)).2.2.1 rfl
    simp [z]
  unfold reprText
  rw [q]
  show (⟨(x.toArray.foldl (fun out c => out ++ (Builtin.Str.reprChar 39 c).toArray) #[39]).push 39⟩ : Str) = _
  rw [List.foldl_toArray', repr_fold x _ h]
  unfold tx
  simp
  rfl
/-! lists -/
theorem tx_join (S : Tx) : ∀ ts : List Tx, Str.join (tx S) (ts.map tx) = tx (joinT S ts)
  | [] => rfl
  | [p] => rfl
  | p :: q :: r => by
    have ih := tx_join S (q :: r)
    show tx p ++ tx S ++ Str.join (tx S) ((q :: r).map tx) = tx (p ++ (S ++ joinT S (q :: r)))
    rw [ih, tx_app, tx_app, List.append_assoc]
theorem textFrom_pos : ∀ (ts : List Tx) (k : Nat) (acc : Tx), 0 < k → textFrom k (tx acc) (ts.map tx) = tx (acc ++ (ts.map fun t => [44, 32] ++ t).flatten)
  | [], k, acc, _ => by simp [textFrom]
  | t :: ts, k, acc, hk => by
    have e : (Str.ofString (if k > 0 then ", " else "" : String)) = tx [44, 32] := by rw [if_pos hk]; rfl
    show textFrom (k + 1) (tx acc ++ Str.ofString (if k > 0 then ", " else "" : String) ++ tx t) (ts.map tx) = _
    rw [e, tx_app, tx_app, textFrom_pos ts (k + 1) _ (Nat.succ_pos k)]
    simp
theorem joinT_cons (t : Tx) (ts : List Tx) : joinT [44, 32] (t :: ts) = t ++ (ts.map fun t => [44, 32] ++ t).flatten := by
  induction ts generalizing t with
  | nil => simp [joinT]
  | cons u us ih =>
    show t ++ ([44, 32] ++ joinT [44, 32] (u :: us)) = _
    rw [ih u]
    simp
theorem listText_of (ts : List Tx) : listText (ts.map tx) = tx (91 :: (joinT [44, 32] ts ++ [93])) := by
  unfold listText
  cases ts with
  | nil => rfl
  | cons t ts =>
    show textFrom 1 (Str.ofString "[" ++ Str.ofString "" ++ tx t) (ts.map tx) ++ Str.ofString "]" = _
    have e : Str.ofString "[" ++ Str.ofString "" ++ tx t = tx (91 :: t) := by
      have h1 : Str.ofString "[" ++ Str.ofString "" = tx [91] := rfl
      rw [h1, tx_app]; rfl
    rw [e, textFrom_pos ts 1 _ (by decide), joinT_cons]
    have h2 : Str.ofString "]" = tx [93] := rfl
    rw [h2, tx_app]
    simp
theorem tupleText_of (ts : List Tx) : tupleText (ts.map tx) = tx (40 :: (joinT [44, 32] ts ++ (if ts.length == 1 then [44, 41] else [41]))) := by
  unfold tupleText
  have h1 : Str.ofString "(" = tx [40] := rfl
  have h2 : Str.ofString ", " = tx [44, 32] := rfl
  rw [h1, h2, tx_join, List.length_map, tx_app]
  cases e : ts.length == 1 with
  | true =>
    have h3 : Str.ofString (if true = true then ",)" else ")" : String) = tx [44, 41] := rfl
    rw [h3, tx_app]; simp
  | false =>
    have h3 : Str.ofString (if false = true then ",)" else ")" : String) = tx [41] := rfl
    rw [h3, tx_app]; simp
theorem joinR_len : ∀ ts : List Tx, (joinT [44, 32] ts).length ≤ (ts.map fun t => t.length + 2).sum
  | [] => Nat.le_refl _
  | [p] => by simp [joinT]
  | p :: q :: r => by
    have ih := joinR_len (q :: r)
    show (p ++ ([44, 32] ++ joinT [44, 32] (q :: r))).length ≤ _
    rw [List.length_append, List.length_append, List.map_cons, List.sum_cons]
    show _ + (2 + _) ≤ _
    omega
mutual
theorem shown_of : ∀ (n : Nat) (d : D), d.repOk n = true → d.toP.shown = tx d.rep ∧ d.toP.showable = true ∧ d.toP.hasDict = false ∧ d.toP.depth ≤ n ∧ d.rep.length ≤ d.wt
  | n, .non, _ => ⟨rfl, rfl, rfl, Nat.zero_le _, by show 4 ≤ 5; decide⟩
  | n, .bl b, _ => ⟨by cases b <;> rfl, rfl, rfl, Nat.zero_le _, by cases b <;> (show _ ≤ 5; decide)⟩
  | n, .int i, h => by
    have h : i.natAbs < 10 ^ 120 := by cases n <;> exact of_decide_eq_true h
    refine ⟨tx_ofString _, ?_, rfl, Nat.zero_le _, intT_len h⟩
    show decide (i.natAbs.log2 < 1920) = true
    exact decide_eq_true (log_small h)
  | n, .str x, h => by
    have h : x.all okC = true := by cases n <;> exact h
    refine ⟨reprText_of h, rfl, rfl, Nat.zero_le _, ?_⟩
    show (39 :: (x ++ [39])).length ≤ x.length + 2
    rw [List.length_cons, List.length_append]
    exact Nat.le_refl _
  | 0, .lst xs, h => by cases h
  | n + 1, .lst xs, h => by
    obtain ⟨h1, h2, h3, h4, h5⟩ := shownAll_of n xs h
    refine ⟨?_, h2, h3, Nat.succ_le_succ h4, ?_⟩
    · show listText (PyData.shownAll (D.toPL xs)) = _
      rw [h1, listText_of]; rfl
    · show (91 :: (joinT [44, 32] (D.repL xs) ++ [93])).length ≤ D.wtL xs + 2
      have := joinR_len (D.repL xs)
      rw [List.length_cons, List.length_append]
      show _ + 1 + 1 ≤ _
      omega
  | 0, .tup xs, h => by cases h
  | n + 1, .tup xs, h => by
    obtain ⟨h1, h2, h3, h4, h5⟩ := shownAll_of n xs h
    refine ⟨?_, h2, h3, Nat.succ_le_succ h4, ?_⟩
    · show tupleText (PyData.shownAll (D.toPL xs)) = _
      rw [h1, tupleText_of, repL_len]; rfl
    · show (40 :: (joinT [44, 32] (D.repL xs) ++ (if xs.length == 1 then [44, 41] else [41]))).length ≤ D.wtL xs + 4
      have := joinR_len (D.repL xs)
      rw [List.length_cons, List.length_append]
      have : (if xs.length == 1 then [44, 41] else [41] : Tx).length ≤ 2 := by split <;> decide
      omega
  | n, .dct _, h => by cases n <;> cases h
  | n, .dcT _, h => by cases n <;> cases h
  | n, .obj _ _, h => by cases n <;> cases h
  | n, .frl _, h => by cases n <;> cases h
  | n, .cls _, h => by cases n <;> cases h
  | n, .prt _, h => by cases n <;> cases h
theorem shownAll_of : ∀ (n : Nat) (xs : List D), D.repOkL n xs = true → PyData.shownAll (D.toPL xs) = (D.repL xs).map tx ∧ PyData.showableAll (D.toPL xs) = true ∧ PyData.hasDictAll (D.toPL xs) = false ∧ PyData.depthAll (D.toPL xs) ≤ n ∧ ((D.repL xs).map fun t => t.length + 2).sum ≤ D.wtL xs
  | n, [], _ => ⟨rfl, rfl, rfl, Nat.zero_le _, Nat.le_refl _⟩
  | n, x :: xs, h => by
    unfold D.repOkL at h
    rw [Bool.and_eq_true] at h
    obtain ⟨a1, a2, a3, a4, a5⟩ := shown_of n x h.1
    obtain ⟨b1, b2, b3, b4, b5⟩ := shownAll_of n xs h.2
    refine ⟨?_, ?_, ?_, Nat.max_le.mpr ⟨a4, b4⟩, ?_⟩
    · show x.toP.shown :: PyData.shownAll (D.toPL xs) = _
      rw [a1, b1]; rfl
    · show (x.toP.showable && PyData.showableAll (D.toPL xs)) = true
      rw [a2, b2]; rfl
    · show (x.toP.hasDict || PyData.hasDictAll (D.toPL xs)) = false
      rw [a3, b3]; rfl
    · show ((x.rep :: D.repL xs).map fun t => t.length + 2).sum ≤ x.wt + 2 + D.wtL xs
      rw [List.map_cons, List.sum_cons]
      omega
end
mutual
theorem eqOk_of : ∀ (n : Nat) (d : D), d.repOk n = true → d.eqOk n = true
  | n, .non, _ => by cases n <;> rfl
  | n, .bl _, _ => by cases n <;> rfl
  | n, .int _, _ => by cases n <;> rfl
  | n, .str _, _ => by cases n <;> rfl
  | 0, .lst xs, h => by cases h
  | n + 1, .lst xs, h => eqOkL_of n xs h
  | 0, .tup xs, h => by cases h
  | n + 1, .tup xs, h => eqOkL_of n xs h
  | n, .dct _, h => by cases n <;> cases h
  | n, .dcT _, h => by cases n <;> cases h
  | n, .obj _ _, h => by cases n <;> cases h
  | n, .frl _, h => by cases n <;> cases h
  | n, .cls _, h => by cases n <;> cases h
  | n, .prt _, h => by cases n <;> cases h
theorem eqOkL_of : ∀ (n : Nat) (xs : List D), D.repOkL n xs = true → D.eqOkL n xs = true
  | n, [], _ => by unfold D.eqOkL; rfl
  | n, x :: xs, h => by
    unfold D.repOkL at h
    rw [Bool.and_eq_true] at h
    unfold D.eqOkL
    rw [eqOk_of n x h.1, eqOkL_of n xs h.2]
    rfl
end
theorem join_sign {S : Tx} (hS : ∀ c ∈ S, c < 0x110000) : ∀ {ts : List Tx}, (∀ t ∈ ts, ∀ c ∈ t, c < 0x110000) → ∀ c ∈ joinT S ts, c < 0x110000
  | [], _, c, hc => by simp [joinT] at hc
  | [p], h, c, hc => h p List.mem_cons_self c hc
  | p :: q :: r, h, c, hc => by
    have hc : c ∈ p ++ (S ++ joinT S (q :: r)) := hc
    rcases List.mem_append.mp hc with z | z
    · exact h p List.mem_cons_self c z
    · rcases List.mem_append.mp z with z | z
      · exact hS c z
      · exact join_sign hS (fun t ht => h t (List.mem_cons_of_mem _ ht)) c z
mutual
theorem rep_sign : ∀ (n : Nat) (d : D), d.repOk n = true → ∀ c ∈ d.rep, c < 0x110000
  | n, .non, _, c, hc => by revert c; decide
  | n, .bl b, _, c, hc => by cases b <;> (revert c; decide)
  | n, .int i, _, c, hc => by
    have hc : c ∈ (toString i).toList.map Char.toNat := hc
    obtain ⟨ch, _, rfl⟩ := List.mem_map.mp hc
    have := ch.valid
    show ch.val.toNat < _
    simp only [UInt32.isValidChar, Nat.isValidChar] at this
    omega
  | n, .str x, h, c, hc => by
    have h : x.all okC = true := by cases n <;> exact h
    have hc : c ∈ 39 :: (x ++ [39]) := hc
    rcases List.mem_cons.mp hc with z | z
    · omega
    · rcases List.mem_append.mp z with z | z
      · have := (okC_inv (List.all_eq_true.mp h c z)).2.1
        omega
      · have : c = 39 := by simpa using z
        omega
  | 0, .lst xs, h, _, _ => by cases h
  | n + 1, .lst xs, h, c, hc => by
    have hc : c ∈ 91 :: (joinT [44, 32] (D.repL xs) ++ [93]) := hc
    rcases List.mem_cons.mp hc with z | z
    · omega
    · rcases List.mem_append.mp z with z | z
      · exact join_sign (by decide) (repL_sign n xs h) c z
      · have : c = 93 := by simpa using z
        omega
  | 0, .tup xs, h, _, _ => by cases h
  | n + 1, .tup xs, h, c, hc => by
    have hc : c ∈ 40 :: (joinT [44, 32] (D.repL xs) ++ (if xs.length == 1 then [44, 41] else [41])) := hc
    rcases List.mem_cons.mp hc with z | z
    · omega
    · rcases List.mem_append.mp z with z | z
      · exact join_sign (by decide) (repL_sign n xs h) c z
      · split at z
        · simp at z; omega
        · simp at z; omega
  | n, .dct _, h, _, _ => by cases n <;> cases h
  | n, .dcT _, h, _, _ => by cases n <;> cases h
  | n, .obj _ _, h, _, _ => by cases n <;> cases h
  | n, .frl _, h, _, _ => by cases n <;> cases h
  | n, .cls _, h, _, _ => by cases n <;> cases h
  | n, .prt _, h, _, _ => by cases n <;> cases h
theorem repL_sign : ∀ (n : Nat) (xs : List D), D.repOkL n xs = true → ∀ t ∈ D.repL xs, ∀ c ∈ t, c < 0x110000
  | n, [], _, t, ht => by cases ht
  | n, x :: xs, h, t, ht => by
    unfold D.repOkL at h
    rw [Bool.and_eq_true] at h
    have ht : t ∈ x.rep :: D.repL xs := ht
    rcases List.mem_cons.mp ht with z | z
    · subst z; exact rep_sign n x h.1
    · exact repL_sign n xs h.2 t z
end
/-! data with dicts in it -/
theorem ky_len {k : Ky} (h : kyOk k = true) : (kyRep k).length ≤ kyWt k := by
  cases k with
  | int i => exact intT_len (of_decide_eq_true h)
  | str x =>
    show (39 :: (x ++ [39])).length ≤ x.length + 2
    rw [List.length_cons, List.length_append]
    exact Nat.le_refl _
mutual
theorem q_len : ∀ (n : Nat) (d : D), d.shOk n = true → d.rep.length ≤ d.wt
  | n, .non, _ => by show 4 ≤ 5; decide
  | n, .bl b, _ => by cases b <;> (show _ ≤ 5; decide)
  | n, .int i, h => intT_len (by cases n <;> exact of_decide_eq_true h)
  | n, .str x, h => by
    show (39 :: (x ++ [39])).length ≤ x.length + 2
    rw [List.length_cons, List.length_append]
    exact Nat.le_refl _
  | 0, .lst xs, h => by cases h
  | n + 1, .lst xs, h => by
    have h5 := qL_len n xs h
    show (91 :: (joinT [44, 32] (D.repL xs) ++ [93])).length ≤ D.wtL xs + 2
    have := joinR_len (D.repL xs)
    rw [List.length_cons, List.length_append]
    show _ + 1 + 1 ≤ _
    omega
  | 0, .tup xs, h => by cases h
  | n + 1, .tup xs, h => by
    have h5 := qL_len n xs h
    show (40 :: (joinT [44, 32] (D.repL xs) ++ (if xs.length == 1 then [44, 41] else [41]))).length ≤ D.wtL xs + 4
    have := joinR_len (D.repL xs)
    rw [List.length_cons, List.length_append]
    have : (if xs.length == 1 then [44, 41] else [41] : Tx).length ≤ 2 := by split <;> decide
    omega
  | 0, .dct ks, h => by cases h
  | n + 1, .dct ks, h => by
    have h5 := qK_len n ks h
    show (123 :: (joinT [44, 32] (D.repK ks) ++ [125])).length ≤ D.wtK ks + 5
    have := joinR_len (D.repK ks)
    rw [List.length_cons, List.length_append]
    show _ + 1 + 1 ≤ _
    omega
  | n, .obj _ _, h => by cases n <;> cases h
  | n, .frl _, h => by cases n <;> cases h
  | n, .cls _, h => by cases n <;> cases h
  | n, .prt _, h => by cases n <;> cases h
theorem qL_len : ∀ (n : Nat) (xs : List D), D.shOkL n xs = true → ((D.repL xs).map fun t => t.length + 2).sum ≤ D.wtL xs
  | n, [], _ => Nat.le_refl _
  | n, x :: xs, h => by
    unfold D.shOkL at h
    rw [Bool.and_eq_true] at h
    have h1 := q_len n x h.1
    have h2 := qL_len n xs h.2
    show ((x.rep :: D.repL xs).map fun t => t.length + 2).sum ≤ x.wt + 2 + D.wtL xs
    rw [List.map_cons, List.sum_cons]
    omega
theorem qK_len : ∀ (n : Nat) (ks : List (Ky × D)), D.shOkK n ks = true → ((D.repK ks).map fun t => t.length + 2).sum ≤ D.wtK ks
  | n, [], _ => Nat.le_refl _
  | n, (k, d) :: ks, h => by
    unfold D.shOkK at h
    rw [Bool.and_eq_true, Bool.and_eq_true] at h
    have h0 := ky_len h.1
    have h1 := q_len n d h.2.1
    have h2 := qK_len n ks h.2.2
    show (((kyRep k ++ (58 :: 32 :: d.rep)) :: D.repK ks).map fun t => t.length + 2).sum ≤ kyWt k + 2 + d.wt + 2 + D.wtK ks
    rw [List.map_cons, List.sum_cons, List.length_append, List.length_cons, List.length_cons]
    omega
end
theorem sq_sign {x : Tx} (h : x.all okC = true) : ∀ c ∈ 39 :: (x ++ [39]), c < 0x110000 := fun c hc => by
  rcases List.mem_cons.mp hc with z | z
  · omega
  · rcases List.mem_append.mp z with z | z
    · have := (okC_inv (List.all_eq_true.mp h c z)).2.1
      omega
    · have : c = 39 := by simpa using z
      omega
theorem int_sign {i : Int} : ∀ c ∈ intT i, c < 0x110000 := fun c hc => by
  have hc : c ∈ (toString i).toList.map Char.toNat := hc
  obtain ⟨ch, _, rfl⟩ := List.mem_map.mp hc
  have := ch.valid
  show ch.val.toNat < _
  simp only [UInt32.isValidChar, Nat.isValidChar] at this
  omega
theorem ky_sign {k : Ky} (h : kyOk k = true) : ∀ c ∈ kyRep k, c < 0x110000 := by
  cases k with
  | int i => exact int_sign
  | str x => exact sq_sign h
mutual
theorem q_sign : ∀ (n : Nat) (d : D), d.shOk n = true → ∀ c ∈ d.rep, c < 0x110000
  | n, .non, _, c, hc => by revert c; decide
  | n, .bl b, _, c, hc => by cases b <;> (revert c; decide)
  | n, .int i, _, c, hc => int_sign c hc
  | n, .str x, h, c, hc => sq_sign (by cases n <;> exact h) c hc
  | 0, .lst xs, h, _, _ => by cases h
  | n + 1, .lst xs, h, c, hc => by
    have hc : c ∈ 91 :: (joinT [44, 32] (D.repL xs) ++ [93]) := hc
    rcases List.mem_cons.mp hc with z | z
    · omega
    · rcases List.mem_append.mp z with z | z
      · exact join_sign (by decide) (qL_sign n xs h) c z
      · have : c = 93 := by simpa using z
        omega
  | 0, .tup xs, h, _, _ => by cases h
  | n + 1, .tup xs, h, c, hc => by
    have hc : c ∈ 40 :: (joinT [44, 32] (D.repL xs) ++ (if xs.length == 1 then [44, 41] else [41])) := hc
    rcases List.mem_cons.mp hc with z | z
    · omega
    · rcases List.mem_append.mp z with z | z
      · exact join_sign (by decide) (qL_sign n xs h) c z
      · split at z
        · simp at z; omega
        · simp at z; omega
  | 0, .dct ks, h, _, _ => by cases h
  | n + 1, .dct ks, h, c, hc => by
    have hc : c ∈ 123 :: (joinT [44, 32] (D.repK ks) ++ [125]) := hc
    rcases List.mem_cons.mp hc with z | z
    · omega
    · rcases List.mem_append.mp z with z | z
      · exact join_sign (by decide) (qK_sign n ks h) c z
      · have : c = 125 := by simpa using z
        omega
  | n, .obj _ _, h, _, _ => by cases n <;> cases h
  | n, .frl _, h, _, _ => by cases n <;> cases h
  | n, .cls _, h, _, _ => by cases n <;> cases h
  | n, .prt _, h, _, _ => by cases n <;> cases h
theorem qL_sign : ∀ (n : Nat) (xs : List D), D.shOkL n xs = true → ∀ t ∈ D.repL xs, ∀ c ∈ t, c < 0x110000
  | n, [], _, t, ht => by cases ht
  | n, x :: xs, h, t, ht => by
    unfold D.shOkL at h
    rw [Bool.and_eq_true] at h
    have ht : t ∈ x.rep :: D.repL xs := ht
    rcases List.mem_cons.mp ht with z | z
    · subst z; exact q_sign n x h.1
    · exact qL_sign n xs h.2 t z
theorem qK_sign : ∀ (n : Nat) (ks : List (Ky × D)), D.shOkK n ks = true → ∀ t ∈ D.repK ks, ∀ c ∈ t, c < 0x110000
  | n, [], _, t, ht => by cases ht
  | n, (k, d) :: ks, h, t, ht => by
    unfold D.shOkK at h
    rw [Bool.and_eq_true, Bool.and_eq_true] at h
    have ht : t ∈ (kyRep k ++ (58 :: 32 :: d.rep)) :: D.repK ks := ht
    rcases List.mem_cons.mp ht with z | z
    · subst z
      intro c hc
      rcases List.mem_append.mp hc with z | z
      · exact ky_sign h.1 c z
      · rcases List.mem_cons.mp z with z | z
        · omega
        · rcases List.mem_cons.mp z with z | z
          · omega
          · exact q_sign n d h.2.1 c z
    · exact qK_sign n ks h.2.2 t z
end
section
variable {X : Cx} {T : Tb} {σ : L2.St} {H F : Hp} {pins : List (Addr × Obj)} {s : Shared}
theorem dictText_of (ts : List Tx) : dictText (ts.map tx) = tx (123 :: (joinT [44, 32] ts ++ [125])) := by
  unfold dictText
  have h1 : ("{" : Str) = tx [123] := rfl
  have h2 : (", " : Str) = tx [44, 32] := rfl
  have h3 : ("}" : Str) = tx [125] := rfl
  rw [h1, h2, h3, tx_join, tx_app, tx_app]
  simp
/-- what is known of a thing that is to be shown -/
def ShQ (X : Cx) (s : Shared) (u : Value) (n : Nat) (t : Tx) : Prop := ∃ pd as bs, Reads s.heap u pd as ∧ ReadAtMost s.heap pd.depth bs ∧ ReprK X.prog X.w bs s.heap pd.depth u (tx t) ∧ pd.depth ≤ n
def ShL (X : Cx) (s : Shared) (us : List Value) (n : Nat) (ts : List Tx) : Prop := ∃ pds as bs, ReadsAll s.heap us pds as ∧ ReadAtMost s.heap (PyData.depthAll pds) bs ∧ ReprAllK X.prog X.w bs s.heap (PyData.depthAll pds) us (ts.map tx) ∧ PyData.depthAll pds ≤ n
def ShK (X : Cx) (s : Shared) (es : List DictEntry) (n : Nat) (ts : List Tx) : Prop := ∃ pds as cs bs, ReadsAll s.heap (es.map (·.key)) (pds.map (·.1)) as ∧ ReadsAll s.heap (es.map (·.val)) (pds.map (·.2)) cs ∧ ReadAtMost s.heap (PyData.depthKv pds) bs ∧ ReprEntriesK X.prog X.w bs s.heap (PyData.depthKv pds) es (ts.map tx) ∧ PyData.depthKv pds ≤ n
theorem ShQ.scal (I : Inv X pins σ H s) (sm : SmW F H) {n : Nat} {d : D} {v : V} {u : Value} (h : d.repOk 0 = true) (r : Rep X.K T F v d) (q : RelV v u) (hw : d.wt ≤ maxTx) : ShQ X s u n d.rep := by
  obtain ⟨h1, h2, h3, h4, h5⟩ := shown_of 0 d h
  obtain ⟨dp, _, _⟩ := Rep.dp (X := X) sm 0 d v (eqOk_of 0 d h) r
  obtain ⟨as, rd⟩ := Dp.reads I d.toP v u dp q
  have hz : d.toP.shown.length ≤ sizeLine := by rw [h1, tx_len, ← maxTx_eq]; exact Nat.le_trans h5 hw
  obtain ⟨bs, hb, k⟩ := ReprK.of_reads (prog := X.prog) (w := X.w) rd h2 (fun z => by rw [h3] at z; cases z) hz
  rw [h1] at k
  exact ⟨d.toP, as, bs, rd, hb, k, Nat.le_trans h4 (Nat.zero_le _)⟩
theorem ShL.cons {u : Value} {us : List Value} {n : Nat} {t : Tx} {ts : List Tx} (h : ShQ X s u n t) (hs : ShL X s us n ts) : ShL X s (u :: us) n (t :: ts) := by
  obtain ⟨pd, as1, b1, q1, q2, q3, q4⟩ := h
  obtain ⟨pds, as2, b2, p1, p2, p3, p4⟩ := hs
  refine ⟨pd :: pds, _, b1 ++ b2, .cons q1 p1, fun b hb => ?_, ?_, Nat.max_le.mpr ⟨q4, p4⟩⟩
  · rcases List.mem_append.mp hb with z | z
    · obtain ⟨d', as', r', hd'⟩ := q2 b z
      exact ⟨d', as', r', Nat.le_trans hd' (Nat.le_max_left _ _)⟩
    · obtain ⟨d', as', r', hd'⟩ := p2 b z
      exact ⟨d', as', r', Nat.le_trans hd' (Nat.le_max_right _ _)⟩
  · exact .cons ((q3.more fun b hb => List.mem_append_left _ hb).level_le (Nat.le_max_left _ _)) (p3.more_le (fun b hb => List.mem_append_right _ hb) (Nat.le_max_right _ _))
theorem _root_.PySem.ReprEntriesK.more_le {prog : Program} {w : World} {h₀ : Heap} {as as' : List Addr} {d d' : Nat} (hsub : ∀ b ∈ as, b ∈ as') (hd : d ≤ d') : ∀ {l : List DictEntry} {ts : List Str}, ReprEntriesK prog w as h₀ d l ts → ReprEntriesK prog w as' h₀ d' l ts
  | _, _, .nil => .nil
  | _, _, .cons hk hx hl => .cons ((hk.more hsub).level_le hd) ((hx.more hsub).level_le hd) (PySem.ReprEntriesK.more_le hsub hd hl)
theorem ShK.cons {e : DictEntry} {es : List DictEntry} {n : Nat} {k t : Tx} {ts : List Tx} (hk : ShQ X s e.key n k) (h : ShQ X s e.val n t) (hs : ShK X s es n ts) : ShK X s (e :: es) n ((k ++ (58 :: 32 :: t)) :: ts) := by
  obtain ⟨kd, as0, b0, k1, k2, k3, k4⟩ := hk
  obtain ⟨pd, as1, b1, q1, q2, q3, q4⟩ := h
  obtain ⟨pds, as2, cs2, b2, p1, p1', p2, p3, p4⟩ := hs
  have m0 : kd.depth ≤ PyData.depthKv ((kd, pd) :: pds) := by simp only [PyData.depthKv]; omega
  have m1 : pd.depth ≤ PyData.depthKv ((kd, pd) :: pds) := by simp only [PyData.depthKv]; omega
  have m2 : PyData.depthKv pds ≤ PyData.depthKv ((kd, pd) :: pds) := by simp only [PyData.depthKv]; omega
  refine ⟨(kd, pd) :: pds, _, _, b0 ++ (b1 ++ b2), .cons k1 p1, .cons q1 p1', (k2.mono m0).append ((q2.mono m1).append (p2.mono m2)), ?_, by simp only [PyData.depthKv]; omega⟩
  have z := ReprEntriesK.cons (e := e) ((k3.more (as' := b0 ++ (b1 ++ b2)) fun b hb => List.mem_append_left _ hb).level_le m0) ((q3.more (as' := b0 ++ (b1 ++ b2)) fun b hb => List.mem_append_right _ (List.mem_append_left _ hb)).level_le m1)
    (p3.more_le (as' := b0 ++ (b1 ++ b2)) (fun b hb => List.mem_append_right _ (List.mem_append_right _ hb)) m2)
  have e2 : (": " : Str) = tx [58, 32] := rfl
  rw [e2, tx_app, tx_app, List.append_assoc] at z
  exact z
theorem ShQ.key {n : Nat} {k : Ky} {u : Value} (h : kyOk k = true) (z : keyIs (kyV k) u = true) (hw : kyWt k ≤ maxTx) : ShQ X s u n (kyRep k) := by
  rcases keyIs_shape z with ⟨i, t, e, rfl⟩ | ⟨x, t, e, rfl⟩
  · cases k with
    | int j =>
      cases e
      have hi : i.natAbs < 10 ^ 120 := of_decide_eq_true h
      refine ⟨.int i, [], [], .int i t, (fun _ z => nomatch z), ?_, Nat.zero_le _⟩
      have e : tx (kyRep (.int i)) = toString i := (tx_ofString _).symm
      rw [e]
      exact .of_is (ReprIs.int t (log_small hi)) _ _ _
    | str y => cases e
  · cases k with
    | int j => cases e
    | str y =>
      cases e
      refine ⟨.str (tx y), [], [], .str _ t, (fun _ z => nomatch z), ?_, Nat.zero_le _⟩
      have e : tx (kyRep (.str y)) = reprText (tx y) := (reprText_of h).symm
      rw [e]
      refine .of_is (ReprIs.str _ t ?_) _ _ _
      rw [← e, tx_len, ← maxTx_eq]
      exact Nat.le_trans (ky_len h) hw
theorem ShL.list (I : Inv X pins σ H s) {a : Addr} {vs : List V} {n : Nat} {xs : List D} (ha : H a = some (.lst vs)) (h : ∀ us, Vals vs us → ShL X s us n (D.repL xs)) (hx : xs = [] ↔ vs = []) : ShQ X s (.ref a) (n + 1) (D.lst xs).rep := by
  obtain ⟨z, its, m, r, e⟩ := I.hok a _ ha
  obtain ⟨pds, as, bs, p1, p2, p3, p4⟩ := h _ r
  have rd : Reads s.heap (.ref a) (.list pds) (a :: as) := .list e rfl rfl p1
  have hna : a ∉ bs := not_mem_of_deeper rd (by simp only [PyData.depth]; omega) p2
  refine ⟨_, _, a :: bs, rd, ReadAtMost.cons rd (by simp only [PyData.depth]; omega) p2, ?_, Nat.succ_le_succ p4⟩
  simp only [PyData.depth]
  have t : tx (D.lst xs).rep = listText ((D.repL xs).map tx) := (listText_of _).symm
  rw [t]
  cases vs with
  | nil =>
    cases r
    rw [hx.mpr rfl]
    exact ReprK.listEmpty e rfl rfl
  | cons v vs =>
    cases r with
    | cons r1 r2 => exact ReprK.list e rfl rfl hna (by simpa using p3.length_eq) (fun i y hy => p3.item i y (by simpa using hy))
theorem repL_nil {vs : List V} {xs : List D} (r : RepL X.K T F vs xs) : xs = [] ↔ vs = [] := by
  cases r with
  | nil => exact ⟨fun _ => rfl, fun _ => rfl⟩
  | cons => exact ⟨(fun z => nomatch z), (fun z => nomatch z)⟩
theorem ShL.tuple (I : Inv X pins σ H s) {a : Addr} {vs : List V} {n : Nat} {xs : List D} (ha : H a = some (.tup vs)) (h : ∀ us, Vals vs us → ShL X s us n (D.repL xs)) : ShQ X s (.ref a) (n + 1) (D.tup xs).rep := by
  obtain ⟨z, its, r, o, e1, e2, m, e3⟩ := (show ObjOk X.prog X.w H s.heap a (.tup vs) from I.hok a _ ha)
  obtain ⟨pds, as, bs, p1, p2, p3, p4⟩ := h _ r
  have rd : Reads s.heap (.ref a) (.tuple pds) as := .tuple e1 e2 e3 (by simpa using p1)
  have hna : a ∉ bs := not_mem_of_deeper rd (by simp only [PyData.depth]; omega) p2
  refine ⟨_, _, a :: bs, rd, ReadAtMost.cons rd (by simp only [PyData.depth]; omega) p2, ?_, Nat.succ_le_succ p4⟩
  simp only [PyData.depth]
  have t : tx (D.tup xs).rep = tupleText ((D.repL xs).map tx) := by rw [tupleText_of, repL_len]; rfl
  rw [t]
  exact ReprK.tuple e1 e2 e3 hna (by simpa using p3)
theorem ShK.dict (I : Inv X pins σ H s) {a : Addr} {kvs : List (Key × V)} {n : Nat} {ks : List (Ky × D)} (ha : Rd H a (.dK kvs)) (h : ∀ vs es, KV kvs vs → Pairs (mixKind X.prog X.w) es vs → ShK X s es n (D.repK ks)) : ShQ X s (.ref a) (n + 1) (D.dct ks).rep := by
  obtain ⟨_, hs, vs, kv, o, es, ep, ho, ex, hd, _, pr, _⟩ := dk_rd I.hok ha
  obtain ⟨pds, as, cs, bs, p1, p1', p2, p3, p4⟩ := h vs es.toList kv pr
  have rd : Reads s.heap (.ref a) (.dict pds) (a :: as ++ cs) := .dict ho ex.1 hd p1 p1'
  have hna : a ∉ bs := not_mem_of_deeper rd (by simp only [PyData.depth]; omega) p2
  refine ⟨_, _, a :: bs, rd, ReadAtMost.cons rd (by simp only [PyData.depth]; omega) p2, ?_, Nat.succ_le_succ p4⟩
  simp only [PyData.depth]
  have t : tx (D.dct ks).rep = dictText ((D.repK ks).map tx) := (dictText_of _).symm
  rw [t]
  exact ReprK.dict ho ex.1 hd hs hna p3
mutual
theorem sh_of (I : Inv X pins σ H s) (sm : SmW F H) : ∀ (n : Nat) (d : D) (v : V) (u : Value), d.shOk n = true → Rep X.K T F v d → RelV v u → d.wt ≤ maxTx → ShQ X s u n d.rep
  | n, .non, v, u, h, r, q, hw => .scal I sm rfl r q hw
  | n, .bl b, v, u, h, r, q, hw => .scal I sm rfl r q hw
  | n, .int i, v, u, h, r, q, hw => .scal I sm (by cases n <;> exact h) r q hw
  | n, .str x, v, u, h, r, q, hw => .scal I sm (by cases n <;> exact h) r q hw
  | 0, .lst xs, v, u, h, r, q, hw => by cases h
  | n + 1, .lst xs, v, u, h, r, q, hw => by
    obtain ⟨p, vs, rfl, hp, ra⟩ := r.lst_inv
    cases q
    have hw : D.wtL xs + 2 ≤ maxTx := hw
    exact ShL.list I (sm _ _ hp) (fun us r => shL_of I sm n xs vs us h ra r (by omega)) (repL_nil ra)
  | 0, .tup xs, v, u, h, r, q, hw => by cases h
  | n + 1, .tup xs, v, u, h, r, q, hw => by
    obtain ⟨p, vs, rfl, hp, ra⟩ := r.tup_inv
    cases q
    have hw : D.wtL xs + 4 ≤ maxTx := hw
    exact ShL.tuple I (sm _ _ hp) (fun us r => shL_of I sm n xs vs us h ra r (by omega))
  | 0, .dct ks, v, u, h, r, q, hw => by cases h
  | n + 1, .dct ks, v, u, h, r, q, hw => by
    obtain ⟨a, us, rfl, ha, rk⟩ := r.dct_inv
    cases q
    have hw : D.wtK ks + 5 ≤ maxTx := hw
    exact ShK.dict I (sm.rd ha) (fun vs es kv pr => shK_of I sm n ks us vs es h rk kv pr (by omega))
  | n, .obj _ _, _, _, h, _, _, _ => by cases n <;> cases h
  | n, .frl _, _, _, h, _, _, _ => by cases n <;> cases h
  | n, .cls _, _, _, h, _, _, _ => by cases n <;> cases h
  | n, .prt _, _, _, h, _, _, _ => by cases n <;> cases h
theorem shL_of (I : Inv X pins σ H s) (sm : SmW F H) : ∀ (n : Nat) (xs : List D) (vs : List V) (us : List Value), D.shOkL n xs = true → RepL X.K T F vs xs → Vals vs us → D.wtL xs ≤ maxTx → ShL X s us n (D.repL xs)
  | n, [], _, _, _, .nil, q, _ => by
    cases q
    exact ⟨[], _, [], .nil, (fun _ h => nomatch h), .nil, Nat.zero_le _⟩
  | n, x :: xs, _, _, h, .cons r rs, .cons q qs, hw => by
    unfold D.shOkL at h
    rw [Bool.and_eq_true] at h
    have hw : x.wt + 2 + D.wtL xs ≤ maxTx := hw
    exact ShL.cons (sh_of I sm n x _ _ h.1 r q (by omega)) (shL_of I sm n xs _ _ h.2 rs qs (by omega))
theorem shK_of (I : Inv X pins σ H s) (sm : SmW F H) : ∀ (n : Nat) (ks : List (Ky × D)) (kvs : List (Key × V)) (vs : List (Key × Value)) (es : List DictEntry), D.shOkK n ks = true → RepK X.K T F kvs ks → KV kvs vs → Pairs (mixKind X.prog X.w) es vs → D.wtK ks ≤ maxTx → ShK X s es n (D.repK ks)
  | n, [], _, _, _, _, .nil, q, p, _ => by
    cases q
    cases p
    exact ⟨[], _, _, [], .nil, .nil, (fun _ h => nomatch h), .nil, Nat.zero_le _⟩
  | n, (k, d) :: ks, _, _, _, h, .cons z r rs, q, p, hw => by
    unfold D.shOkK at h
    rw [Bool.and_eq_true, Bool.and_eq_true] at h
    have hw : kyWt k + 2 + d.wt + 2 + D.wtK ks ≤ maxTx := hw
    cases q with
    | cons q qs =>
      rename_i kv vs
      cases p with
      | cons p1 p2 ps =>
        obtain ⟨e1, e2⟩ := q
        refine ShK.cons (.key h.1 ?_ (by omega)) (sh_of I sm n d _ _ h.2.1 r ?_ (by omega)) (shK_of I sm n ks _ _ _ h.2.2 rs qs ps (by omega))
        · have e1 : kyV k = kv.1 := e1
          rw [e1]
          exact p1
        · rw [p2]; exact e2
end
/-- .. at the call -/
def rRepr (X : Cx) (T : Tb) : List V → Hp → VK → Prop := fun xs H Q => ∃ (v : V) (d : D) (F : Hp), xs = [v] ∧ SmW F H ∧ Rep X.K T F v d ∧ d.shOk 40 = true ∧ d.wt ≤ maxTx ∧ Q (.str (tx d.rep)) H
theorem q_fits {n : Nat} {d : D} (h : d.shOk n = true) (hw : d.wt ≤ maxTx) : (tx d.rep).length ≤ sizeLine := by
  rw [tx_len, ← maxTx_eq]
  exact Nat.le_trans (q_len n d h) hw
theorem call_reprA (un : X.A.units + 200 < cLine) (gd : X.A.guards = some []) : CallR X (.builtin "repr") (rRepr X T) := by
  intro pins s σ H xs us Q I r h
  obtain ⟨v, d, F, rfl, sm, rp, ok, wt, q⟩ := h
  obtain ⟨u, rfl, ru⟩ := vals1 r
  have hz := q_fits ok wt
  have room := un
  have fin : ∀ (h' : Heap) (t tk : Nat), (∀ b o, s.heap.get? b = some o → h'.get? b = some o) → EP X pins σ Q (.str (tx d.rep) t) { s with heap := h', toks := tk } := fun h' t tk k => ⟨.str (tx d.rep), H, I.kept k, ⟨_, rfl⟩, q⟩
  cases d with
  | non =>
    rw [rp.non_inv] at ru
    cases ru
    exact PySem.P.repr_of_none (fin s.heap _ _ fun b o e => e)
  | bl b =>
    rw [rp.bl_inv] at ru
    cases ru
    have := fin s.heap
    cases b <;> exact PySem.P.repr_of_bool (this _ _ fun b o e => e)
  | int i =>
    rw [rp.int_inv] at ru
    obtain ⟨t, rfl⟩ := ru
    have hi : i.natAbs < 10 ^ 120 := of_decide_eq_true ok
    have e : tx (D.rep (.int i)) = toString i := (tx_ofString _).symm
    rw [e] at fin
    exact PySem.P.repr_of_int (log_small hi) (fin s.heap _ _ fun b o e => e)
  | str x =>
    rw [rp.str_inv.1] at ru
    obtain ⟨t, rfl⟩ := ru
    have e : tx (D.rep (.str x)) = reprText (tx x) := (reprText_of ok).symm
    rw [e] at fin hz
    exact PySem.P.repr_of_str (fin s.heap _ _ fun b o e => e) hz
  | lst xs =>
    obtain ⟨a, vs, rfl, ha, ra⟩ := rp.lst_inv
    cases ru
    have ha := sm _ _ ha
    have wt' : D.wtL xs + 2 ≤ maxTx := wt
    obtain ⟨z, its, n, r, e⟩ := I.hok a _ ha
    obtain ⟨pds, as, bs, p1, p2, p3, p4⟩ := shL_of I sm 39 xs vs _ ok ra r (by omega)
    have rd : Reads s.heap (.ref a) (.list pds) (a :: as) := .list e rfl rfl p1
    have hna : a ∉ bs := not_mem_of_deeper rd (by simp only [PyData.depth]; omega) p2
    have t : tx (D.lst xs).rep = listText ((D.repL xs).map tx) := (listText_of _).symm
    rw [t] at fin hz
    refine call_repr_slot (by omega) ⟨_, e, rfl⟩ PySem.F.slot_list_repr.toG ?_
    cases vs with
    | nil =>
      cases r
      have e0 := (repL_nil ra).mpr rfl
      subst e0
      exact call_list_repr_empty ⟨_, e, rfl⟩ e rfl ⟨_, _, rfl, fin s.heap _ _ fun b o e => e⟩
    | cons v vs =>
      cases r with
      | cons r1 r2 => exact call_list_reprK (h₀ := s.heap) (as := bs) (d := PyData.depthAll pds) e rfl rfl hna (by simpa using p3.length_eq) (fun i y hy => p3.item i y (by simpa using hy)) gd (fun b _ => Clear.nil b) (by show X.A.units + 1 + _ < _; omega) (fun b o e => e) (fun h' u tk k => ⟨_, _, rfl, fin h' u tk k⟩) hz
  | tup xs =>
    obtain ⟨a, vs, rfl, ha, ra⟩ := rp.tup_inv
    cases ru
    have ha := sm _ _ ha
    have wt' : D.wtL xs + 4 ≤ maxTx := wt
    obtain ⟨z, its, r, o, e1, e2, m, e3⟩ := (show ObjOk X.prog X.w H s.heap a (.tup vs) from I.hok a _ ha)
    obtain ⟨pds, as, bs, p1, p2, p3, p4⟩ := shL_of I sm 39 xs vs _ ok ra r (by omega)
    have rd : Reads s.heap (.ref a) (.tuple pds) as := .tuple e1 e2 e3 (by simpa using p1)
    have hna : a ∉ bs := not_mem_of_deeper rd (by simp only [PyData.depth]; omega) p2
    have t : tx (D.tup xs).rep = tupleText ((D.repL xs).map tx) := by rw [tupleText_of, repL_len]; rfl
    rw [t] at fin hz
    refine call_repr_slot (by omega) ⟨o, e1, e2⟩ PySem.F.slot_tuple_repr ?_
    exact call_tuple_reprK (h₀ := s.heap) (as := bs) (d := PyData.depthAll pds) e1 e2 e3 hna (by simpa using p3) gd (fun b _ => Clear.nil b) (by show X.A.units + 1 + _ < _; omega) (fun b o e => e) (fun h' u tk k => ⟨_, _, rfl, fin h' u tk k⟩) hz
  | dct ks =>
    obtain ⟨a, kvs, rfl, ha, rk⟩ := rp.dct_inv
    cases ru
    have wt' : D.wtK ks + 5 ≤ maxTx := wt
    obtain ⟨_, hs, vs, kv, o, es, ep, ho, ex, hd, _, pr, _⟩ := dk_rd I.hok (sm.rd ha)
    obtain ⟨pds, as, cs, bs, p1, p1', p2, p3, p4⟩ := shK_of I sm 39 ks kvs vs es.toList ok rk kv pr (by omega)
    have rd : Reads s.heap (.ref a) (.dict pds) (a :: as ++ cs) := .dict ho ex.1 hd p1 p1'
    have hna : a ∉ bs := not_mem_of_deeper rd (by simp only [PyData.depth]; omega) p2
    have t : tx (D.dct ks).rep = dictText ((D.repK ks).map tx) := (dictText_of _).symm
    rw [t] at fin hz
    refine call_repr_slot (by omega) ⟨o, ho, ex.1⟩ PySem.F.slot_dict_repr ?_
    exact call_dict_reprK (h₀ := s.heap) (as := bs) (d := PyData.depthKv pds) ho ex.1 hd hs hna p3 gd (fun b _ => Clear.nil b) (by show X.A.units + 1 + _ < _; omega) (fun b o e => e) (fun h' u tk k => ⟨_, _, rfl, fin h' u tk k⟩) hz
  | obj _ _ => cases ok
  | dcT _ => cases ok
  | frl _ => cases ok
  | cls _ => cases ok
  | prt _ => cases ok
end
mutual
theorem shOk_of : ∀ (n : Nat) (d : D), d.repOk n = true → d.shOk n = true
  | n, .non, _ => by cases n <;> rfl
  | n, .bl _, _ => by cases n <;> rfl
  | n, .int _, h => by cases n <;> exact h
  | n, .str _, h => by cases n <;> exact h
  | 0, .lst xs, h => by cases h
  | n + 1, .lst xs, h => shOkL_of n xs h
  | 0, .tup xs, h => by cases h
  | n + 1, .tup xs, h => shOkL_of n xs h
  | n, .dct _, h => by cases n <;> cases h
  | n, .dcT _, h => by cases n <;> cases h
  | n, .obj _ _, h => by cases n <;> cases h
  | n, .frl _, h => by cases n <;> cases h
  | n, .cls _, h => by cases n <;> cases h
  | n, .prt _, h => by cases n <;> cases h
theorem shOkL_of : ∀ (n : Nat) (xs : List D), D.repOkL n xs = true → D.shOkL n xs = true
  | n, [], _ => by unfold D.shOkL; rfl
  | n, x :: xs, h => by
    unfold D.repOkL at h
    rw [Bool.and_eq_true] at h
    unfold D.shOkL
    rw [shOk_of n x h.1, shOkL_of n xs h.2]
    rfl
end
theorem repF_ok {d : D} (h : (d.repOk 40 = true ∧ d.wt ≤ maxTx) ∨ d.noD = true) : d.shOk 40 = true ∧ d.wt ≤ maxTx := by
  rcases h with ⟨h1, h2⟩ | h
  · exact ⟨shOk_of 40 d h1, h2⟩
  · unfold D.noD at h
    rw [Bool.and_eq_true, decide_eq_true_iff] at h
    exact h
theorem okTx_q {n : Nat} {d : D} (h : d.shOk n = true) (hw : d.wt ≤ maxTx) : okTx d.rep := by
  refine ⟨q_sign n d h, ?_⟩
  rw [← maxTx_eq]
  exact Nat.le_trans (q_len n d h) hw
section
variable {X : Cx} {T : Tb}
theorem ok_repr : DL.FnR X.K T repF (rRepr X T) := by
  intro F H vs ds k Q s r ho kk
  unfold repF at ho
  split at ho
  · rename_i k d
    obtain ⟨v, rfl, r1⟩ := repL1 r
    obtain ⟨hd, hk⟩ := ho
    obtain ⟨h1, h2⟩ := repF_ok hd
    exact ⟨v, d, F, rfl, s, r1, h1, h2, kk _ _ _ (.fz (.str (okTx_q h1 h2))) hk⟩
  · exact ho.elim
end
end DL

set_option Elab.async false
set_option linter.all false
set_option autoImplicit false
set_option maxRecDepth 100000
set_option maxHeartbeats 1000000
/-! DLX23: try with several clauses that name what they catch. -/
namespace DL
open PySem PySem.Spec PyProof.Rows L2
abbrev Clause := Value × Nat × (Addr → Value → Option Addr → TS)
/-- the ends of a clause whose name (at i) goes behind it -/
def unnamed (i : Nat) (D : Ends) : Ends := { nx := fun σ H => D.nx (σ.set i none) H, rt := D.rt, bk := fun σ H => D.bk (σ.set i none) H, ct := fun σ H => D.ct (σ.set i none) H }
/-- the clauses' wish, one behind the other -/
def wCls (K : PySem.W.Frag) (Wout : WX) (D : Ends) : List Clause → WX
  | [] => Wout
  | (c, i, ts) :: r => fun cls d σ H => ∃ hit, PySem.W.exmOne K cls c = some hit ∧ (hit = true → ∀ a, H a = none → ts a cls d (unnamed i D) (σ.set i (some (.ref a))) H) ∧ (hit = false → wCls K Wout D r cls d σ H)
inductive ClsOk (X : Cx) : List ExceptHandler → List Clause → Prop
  | nil : ClsOk X [] []
  | cons {x n : Str} {c : Value} {i : Nat} {ts : Addr → Value → Option Addr → TS} {st : Stmt} {sts : List Stmt} {np hp : Pos} {hds : List ExceptHandler} {l : List Clause} (names : Names X x c) (at_ : X.N[i]? = some n) (own : X.env.kindOf n = some .local)
      (suite : ∀ (a : Addr) (oe : Obj) (cls : Value) (d : Option Addr) (pn : List (Addr × Obj)), Zc cls d oe → (∃ vs, oe.data = .fields vs) → PSs (X.suite a ((a, oe) :: pn)) (st :: sts) (ts a cls d)) (rest : ClsOk X hds l) :
      ClsOk X (.ExceptHandler (some (.Name x np)) (some n) (st :: sts) hp :: hds) ((c, i, ts) :: l)
section
variable {X : Cx} {body : List Stmt} {h₀ : ExceptHandler} {hds : List ExceptHandler} {l : List Clause} {pos : Pos} {tb : WX → TS} {Wout : WX}
/-- from a suite's state to the one behind it -/
theorem behind {pins : List (Addr × Obj)} {D : Ends} {i : Nat} {n : Str} {hp : Pos} {a : Addr} {oe : Obj} {fl : Flow} {s6 : Shared} (ok : X.Ok) (hN : X.N.Nodup) (at_ : X.N[i]? = some n) (own : X.env.kindOf n = some .local)
    (hsp : SP (X.suite a ((a, oe) :: (X.pn ++ pins))) [] (unnamed i D) fl s6) :
    wpAny (model X.prog X.w) X.A (do bindName X.env n .none; unbindBehindTheSuite X.env n hp) (fun _ s7 => SP X pins D fl s7) X.xe s6 := by
  cases fl with
  | next => obtain ⟨σ6, H6, S6, q⟩ := hsp; exact gone_ok (S6.unsuite ok) hN at_ own fun s7 J7 => ⟨_, _, J7, q⟩
  | brk => obtain ⟨σ6, H6, S6, q⟩ := hsp; exact gone_ok (S6.unsuite ok) hN at_ own fun s7 J7 => ⟨_, _, J7, q⟩
  | cont => obtain ⟨σ6, H6, S6, q⟩ := hsp; exact gone_ok (S6.unsuite ok) hN at_ own fun s7 J7 => ⟨_, _, J7, q⟩
  | ret u => obtain ⟨v, σ6, H6, S6, r, q⟩ := hsp; exact gone_ok (S6.unsuite ok) hN at_ own fun s7 J7 => ⟨_, _, _, J7, r, q⟩
/-- an exception on the ground meets the clauses; Z: what is known of its object -/
theorem clauses_run {pins : List (Addr × Obj)} {D : Ends} {Z : Obj → Prop} {a : Addr} {G : Heap} {sI s' : Shared} {σ' : L2.St} {H' : Hp} {cls : Value} {d : Option Addr} {h3 : Heap} (ok : X.Ok) (hs : X.stack = X.env :: X.outer) (hf : X.env.frame = some X.env.locals) (hN : X.N.Nodup) (zc : ∀ o, Z o → Zc cls d o)
    (Ib : Inv X pins σ' H' sI) (grd : ∀ b o, sI.heap.get? b = some o → b ∉ frs X.stack → G.get? b = some o) (up03 : sI.heap.UpToSlots h3) (fly : HandSPX.FlyingZ G (X.env :: X.outer) a Z h3) (na : H' a = none) (os : s'.os = sI.os) (ag : AllBare s'.gens)
    (out : Wout cls d σ' H' → ∀ h4, HandSPX.HeldZ G (X.env :: X.outer) a Z X.env.locals h4 → sI.heap.UpToSlots h4 → X.xe (.ref a) { s' with heap := h4 }) :
    ∀ {hs' : List ExceptHandler} {l' : List Clause}, ClsOk X hs' l' → wCls X.K Wout D l' cls d σ' H' → wpAny (model X.prog X.w) X.A (handleBy (.ref a) X.env hs') (SP X pins D) X.xe { s' with heap := h3 } := by
  obtain ⟨o1, v1, g1, z1, d1⟩ := fly.there
  have apart : a ∉ frs (X.env :: X.outer) := fun hm => by
    obtain ⟨_, o', e', nf⟩ := fly.2.2.1.mem hm
    rw [g1] at e'
    cases e'
    exact nf _ d1
  have notL : a ≠ X.env.locals := fun z => apart (List.mem_filterMap.mpr ⟨X.env, List.mem_cons_self, by rw [hf, z]⟩)
  have notF : a ∉ X.fs := fun hm => by
    obtain ⟨e, he, q⟩ := List.mem_filterMap.mp hm
    exact apart (List.mem_filterMap.mpr ⟨e, List.mem_cons_of_mem _ he, q⟩)
  have base3 : Inv X pins σ' H' { s' with heap := h3 } := Ib.landed grd fly.1 up03 os ag
  have in3 := base3.suite g1 d1 na notL notF
  intro hs' l' ok'
  induction ok' with
  | nil =>
    intro w
    have out : wpAny (model X.prog X.w) X.A (setFlight (.ref a) X.env.frame) (fun _ s4 => wpAny (model X.prog X.w) X.A (throw (.ref a) : Sem Flow) (SP X pins D) X.xe s4) X.xe { s' with heap := h3 } := by
      rw [hf]
      refine HandSPX.setFlight_upZ fly fun h4 held up4 => wpAny_throw (out w h4 held (up03.trans up4))
    obtain ⟨_, _, _, oe, vs, tb0, _, _, there, _, fields, first, _⟩ := id fly
    refine wpAny_handleBy_nil ?_
    unfold PySem.passOn
    refine wpAny_bind (wpAny_field there fields first ?_)
    rw [if_neg (by simp)]
    first
      | exact wpAny_bind out
      | exact wpAny_bind (wpAny_pure (wpAny_bind out))
  | @cons x n c i ts st sts np hp hds2 l2 names at_ own suite rest ih =>
    rintro ⟨hit, kind, yes, no⟩
    have ty : PySem.W.Looks (model X.prog X.w) h3 (typeOf (.ref a)) cls := fun A Q E s k q => wpAny_typeOf_ref (k _ _ g1) (by rw [(zc _ z1).1]; exact q)
    refine wpAny_handleBy_cons (codeAny_handlers_test ?_) (fun q => nomatch q)
    have name : ∀ {Q : Value → Shared → Prop} {E : Value → Shared → Prop}, Q c { s' with heap := h3 } → wpAny (model X.prog X.w) (X.A.mark (some (.ref a))) (eval (.Name x np) X.env) Q E { s' with heap := h3 } := fun {Q E} q => by
      obtain ⟨gl, dbg, there | ⟨none, boot, nm⟩⟩ := names
      · exact ld_glob (X := X.suite a ((a, o1) :: (X.pn ++ pins))) in3 gl there q dbg
      · exact ld_blt (X := X.suite a ((a, o1) :: (X.pn ++ pins))) in3 gl none boot q nm dbg
    refine name ((PySem.W.exm_one (M := model X.prog X.w) base3.kIn ty kind).here ?_)
    cases hit with
    | false => exact ih (no rfl)
    | true =>
      refine codeAny_handlers_suite_as (HandSPX.lands_againZ fly fun h4 fly4 up4 => ?_)
      obtain ⟨o4, v4, g4, z4, d4⟩ := fly4.there
      have base4 : Inv X pins σ' H' { s' with heap := h4 } := Ib.landed grd fly4.1 (up03.trans up4) os ag
      refine store_ok (X := X.suite a ((a, o4) :: (X.pn ++ pins))) (v := .ref a) (base4.suite g4 d4 na notL notF) hN at_ (.inl own) rfl (fun s5 in5 => ?_) (.inr own)
      exact wpAny_mono ((suite a o4 cls d (X.pn ++ pins) (zc _ z4) ⟨_, d4⟩).run [] s5 _ H' _ in5 (yes rfl a na)) (fun fl s6 q => behind ok hN at_ own q) fun _ _ z => z.elim
theorem ps_tries (hs : X.stack = X.env :: X.outer) (hf : X.env.frame = some X.env.locals) (hN : X.N.Nodup) (tk : Takes X Wout)
    (hb : ∀ (W : WX) (pn : List (Addr × Obj)) (xe : Value → Shared → Prop), Takes (X.tr pn xe) W → PassesOwn (model X.prog X.w) X.A X.env xe → PSs (X.tr pn xe) body (tb W))
    (hh : ClsOk X (h₀ :: hds) l) : PS X (.Try body (h₀ :: hds) [] [] pos) (fun D σ H => tb (wCls X.K Wout D l) D σ H) where
  run pins s σ H D I h := by
    have frs0 : X.A.frames = some (X.env :: X.outer) := by rw [I.ok.frames, hs]
    refine wpAny_Try_except (wpAny_mono ((hb (wCls X.K Wout D l) (X.pn ++ pins) _ ⟨fun u s' air => ?_, fun u s' air => ?_⟩ PassesOwn.looking).run [] s σ H D (I.toTry _) h) (fun fl s1 hsp => ?_) fun _ _ z => z)
    · obtain ⟨a, G, sI, pins', σ', H', cls, d, rfl, It, grd, up0, sky, na, os, ag, cold, wish⟩ := air
      have Ib : Inv X pins σ' H' sI := It.ofTry I.ok
      rw [show (X.tr (X.pn ++ pins) _).stack = X.env :: X.outer from hs] at sky
      refine L2N.Sky.land L2N.Zn.steady frs0 hf sky fun h3 fly up3 => clauses_run I.ok hs hf hN (fun _ z => z.zc) Ib grd (up0.trans up3) fly na os ag (fun w h4 held up => ?_) hh wish
      exact tk.n _ _ ⟨a, G, sI, pins, σ', H', cls, d, rfl, Ib, grd, up, .inr (.inr (by rw [hs]; exact held)), na, os, ag, cold, w⟩
    · obtain ⟨a, G, sI, pins', σ', H', cls, d, rfl, It, grd, up0, sky, na, os, ag, cold, wish⟩ := air
      have Ib : Inv X pins σ' H' sI := It.ofTry I.ok
      rw [show (X.tr (X.pn ++ pins) _).stack = X.env :: X.outer from hs] at sky
      refine L2.Sky.land Zc.steady frs0 hf sky fun h3 fly up3 => clauses_run I.ok hs hf hN (fun _ z => z) Ib grd (up0.trans up3) fly na os ag (fun w h4 held up => ?_) hh wish
      exact tk.z _ _ ⟨a, G, sI, pins, σ', H', cls, d, rfl, Ib, grd, up, .inr (.inr (by rw [hs]; exact held)), na, os, ag, cold, w⟩
    · cases fl with
      | next => obtain ⟨σ1, H1, J, q⟩ := hsp; exact wpAny_execs_nil ⟨σ1, H1, J.ofTry I.ok, q⟩
      | brk => obtain ⟨σ1, H1, J, q⟩ := hsp; exact ⟨σ1, H1, J.ofTry I.ok, q⟩
      | cont => obtain ⟨σ1, H1, J, q⟩ := hsp; exact ⟨σ1, H1, J.ofTry I.ok, q⟩
      | ret u => obtain ⟨v, σ1, H1, J, r, q⟩ := hsp; exact ⟨v, σ1, H1, J.ofTry I.ok, r, q⟩
end
/-! ### over data -/
def suiteT (X : Cx) (T : Tb) (M : List Nat) (i c : Nat) (fs : Exc → DS) : Addr → Value → Option Addr → TS := fun a cls d D σ H => ∃ y B', B'.P i = .ref a ∧ ExR X.K T B'.F0 cls d y ∧ y.cls = c ∧ lS X.K T B' (i :: M) noE (fs y) D σ H
inductive ClsD (X : Cx) (T : Tb) (M : List Nat) : List ExceptHandler → List DClause → List Clause → Prop
  | nil : ClsD X T M [] [] []
  | cons {x n : Str} {C : Value} {i c : Nat} {fs : Exc → DS} {st : Stmt} {sts : List Stmt} {np hp : Pos} {hds : List ExceptHandler} {cl : List DClause} {l : List Clause} (names : Names X x C) (at_ : X.N[i]? = some n) (own : X.env.kindOf n = some .local) (free : i ∉ M) (kind : ExM X.K T c C)
      (suite : ∀ (a : Addr) (oe : Obj) (cls : Value) (d : Option Addr) (pn : List (Addr × Obj)) (y : Exc) (B' : Bs), Zc cls d oe → (∃ vs, oe.data = .fields vs) → B'.P i = .ref a → ExR X.K T B'.F0 cls d y → y.cls = c →
        PDSs (X.suite a ((a, oe) :: pn)) T B' (i :: M) noE (st :: sts) (fs y)) (rest : ClsD X T M hds cl l) :
      ClsD X T M (.ExceptHandler (some (.Name x np)) (some n) (st :: sts) hp :: hds) ((i, c, fs) :: cl) ((C, i, suiteT X T M i c fs) :: l)
section
variable {X : Cx} {T : Tb} {B : Bs} {M : List Nat} {W : EK} {F H : Hp} {ρ : Env} {σ : L2.St}
theorem ClsD.ok : ∀ {hds : List ExceptHandler} {cl : List DClause} {l : List Clause}, ClsD X T M hds cl l → ClsOk X hds l
  | _, _, _, .nil => .nil
  | _, _, _, .cons names at_ own free kind suite rest => .cons names at_ own (fun a oe cls d pn hz hf => ⟨fun pins s σ H J I ⟨y, B', h1, h2, h3, q⟩ => (suite a oe cls d pn y B' hz hf h1 h2 h3).run pins s σ H J I q⟩) rest.ok
theorem retv_out {F' H' : Hp} {ρ' : Env} {σ' : L2.St} {v : V} {r : R} (S : SR X.K T B M F H ρ σ) (R : RetV X.K T (baseAt B F H ρ σ) F' H' ρ' σ' v r) : RetV X.K T B F' H' ρ' σ' v r := RetV.low (fun b z => S.gone z) R
theorem caught_of {Jd : DEnds} {J : Ends} {E : EK} (hE : ∀ cls d σ' H' F' ρ' y, SR X.K T B M F' H' ρ' σ' → Same F F' → ExR X.K T F' cls d y → E y ρ' → lW X.K T B M E cls d σ' H')
    (k1 : ∀ F' H' ρ' σ', Same F F' → SR X.K T B M F' H' ρ' σ' → Jd.nx ρ' → J.nx σ' H') (k2 : ∀ F' H' ρ' σ' v r, Same F F' → SR X.K T B M F' H' ρ' σ' → RetV X.K T B F' H' ρ' σ' v r → Jd.rt r ρ' → J.rt v H')
    (k3 : ∀ F' H' ρ' σ', Same F F' → SR X.K T B M F' H' ρ' σ' → Jd.bk ρ' → J.bk σ' H') (k4 : ∀ F' H' ρ' σ', Same F F' → SR X.K T B M F' H' ρ' σ' → Jd.ct ρ' → J.ct σ' H') :
    ∀ {hds : List ExceptHandler} {cl : List DClause} {l : List Clause}, ClsD X T M hds cl l → ∀ (cls : Value) (d : Option Addr) (σ' : L2.St) (H' F' : Hp) (ρ' : Env) (y : Exc), SR X.K T B M F' H' ρ' σ' → Same F F' → ExR X.K T F' cls d y → catchD cl Jd E y ρ' →
      wCls X.K (lW X.K T B M E) J l cls d σ' H'
  | _, _, _, .nil, cls, d, σ', H', F', ρ', y, S, e0, ex, q => hE cls d σ' H' F' ρ' y S e0 ex q
  | _, _, _, .cons (i := i) (c := c) (C := C) names at_ own free kind suite rest, cls, d, σ', H', F', ρ', y, S, e0, ex, q => by
    have ex0 := ex
    obtain ⟨ei, da, v, e1, e2, e3, e4, e5⟩ := ex
    subst e2
    refine ⟨decide (y.cls = c), kind _ _ e1, fun hy a ha => ?_, fun hy => ?_⟩
    · have hy := of_decide_eq_true hy
      have q : if y.cls = c then _ else _ := q
      rw [if_pos hy] at q
      obtain ⟨hil, q⟩ := q
      rw [S.len] at hil
      have S1 : SR X.K T B M F' H' (ρ'.set i .no) (σ'.set i (some (.ref a))) := S.unset free
      refine ⟨y, DL.baseE B F' H' (ρ'.set i .no) (σ'.set i (some (.ref a))) i a, if_pos rfl, ex0, hy, F', _, _, S1.baseE free (List.getElem?_set_self hil), q, fun F2 H2 ρ2 σ2 e S2 z => ?_, fun F2 H2 ρ2 σ2 v2 r e S2 R z => ?_, fun F2 H2 ρ2 σ2 e S2 z => ?_, fun F2 H2 ρ2 σ2 e S2 z => ?_⟩
      · exact k1 F2 H2 _ _ (e0.trans e) ((S1.outE free S2).unset free) z
      · refine k2 F2 H2 ρ2 σ2 v2 r (e0.trans e) (S1.outE free S2) (RetV.low (fun b z => S1.gone z) R) z
      · exact k3 F2 H2 _ _ (e0.trans e) ((S1.outE free S2).unset free) z
      · exact k4 F2 H2 _ _ (e0.trans e) ((S1.outE free S2).unset free) z
    · have hy := of_decide_eq_false hy
      have q : if y.cls = c then _ else _ := q
      rw [if_neg hy] at q
      exact caught_of hE k1 k2 k3 k4 rest _ d σ' H' F' ρ' y S e0 ex0 q
variable {body : List Stmt} {h₀ : ExceptHandler} {hds : List ExceptHandler} {pos : Pos} {fb : DS} {cl : List DClause} {l : List Clause}
theorem pds_trys (hs : X.stack = X.env :: X.outer) (hf : X.env.frame = some X.env.locals) (hN : X.N.Nodup) (tk : Takes X (lW X.K T B M W))
    (hb : ∀ (B1 : Bs) (We : EK) (pn : List (Addr × Obj)) (xe : Value → Shared → Prop), Takes (X.tr pn xe) (lW X.K T B1 M We) → PassesOwn (model X.prog X.w) X.A X.env xe → PDSs (X.tr pn xe) T B1 M We body fb)
    (hc : ClsD X T M (h₀ :: hds) cl l) : PDS X T B M W (.Try body (h₀ :: hds) [] [] pos) (sTrys cl fb) := by
  refine ps_imp (ps_tries (Wout := lW X.K T B M W) (l := l) (tb := fun Wx D σ H => ∃ B1 We, (∀ cls d σ H, lW X.K T B1 M We cls d σ H → Wx cls d σ H) ∧ lS X.K T B1 M We fb D σ H) hs hf hN tk (fun Wx pn xe tkx po => ?_) hc.ok) ?_
  · exact ⟨fun pins s σ H J I ⟨B1, We, hw, q⟩ => (hb B1 We pn xe (Takes.imp tkx hw) po).run pins s σ H J I q⟩
  · rintro J σ H ⟨F, ρ, Jd, S, h, k1, k2, k3, k4⟩
    refine ⟨baseAt B F H ρ σ, _, fun cls d σ' H' ⟨F', ρ', y, S', ex, q⟩ => ?_, F, ρ, Jd, S.base, h, fun F' H' ρ' σ' e S' => k1 F' H' ρ' σ' e (S.trans S'), fun F' H' ρ' σ' v r e S' R => k2 F' H' ρ' σ' v r e (S.trans S') (retv_out S R), fun F' H' ρ' σ' e S' => k3 F' H' ρ' σ' e (S.trans S'), fun F' H' ρ' σ' e S' => k4 F' H' ρ' σ' e (S.trans S')⟩
    exact caught_of (F := F) (fun cls d σ' H' F' ρ' y S' _ ex q => ⟨F', ρ', y, S', ex, q⟩) k1 k2 k3 k4 hc cls d σ' H' F' ρ' y (S.trans S') S'.f0 ex q
end
/-! ### isinstance of what a suite holds -/
/-- own exceptions' word of a class -/
def ErrI (K : PySem.W.Frag) (T : Tb) (c : Nat) (cv : Value) (b : Bool) : Prop := ∀ ei, T.ex c = some ei → ExcC K ei.addr ∧ PySem.W.kitOne K (.ref ei.addr) cv = some b
section
variable {X : Cx} {T : Tb} {B : Bs} {M : List Nat} {W : EK}
theorem pd_excI {a : Addr} {oe : Obj} {cls : Value} {d : Option Addr} {pn : List (Addr × Obj)} {y : Exc} {i c : Nat} {x tn : Str} {ty : String} {b : Bool} {px p2 p pos : Pos} (hz : Zc cls d oe) (hf : ∃ vs, oe.data = .fields vs) (hP : B.P i = .ref a) (ex : ExR X.K T B.F0 cls d y) (hy : y.cls = c) (G : ErrI X.K T c (.type ty) b)
    (hg : Gl X "isinstance") (hm : X.mg "isinstance" = none) (hgt : Gl X tn) (hmt : X.mg tn = none) (htn : bootBuiltins tn = some (.type ty)) (hN : X.N[i]? = some x) (hv : Vis X.env.scope x) (hi : i ∈ M) (hn : tn ≠ "__name__" := by decide) (hdb : (tn == ("__debug__" : Str)) = false := by decide) (hd : (x == ("__debug__" : Str)) = false := by decide) (hcd : (x == ("__classdict__" : Str)) = false := by decide)
    (h1 : starEach [.Name x px, .Name tn p2] (X.suite a ((a, oe) :: pn)).env = (false, eval (.Name x px) (X.suite a ((a, oe) :: pn)).env) :: starEach [.Name tn p2] (X.suite a ((a, oe) :: pn)).env := by rfl)
    (h2 : starEach [.Name tn p2] (X.suite a ((a, oe) :: pn)).env = (false, eval (.Name tn p2) (X.suite a ((a, oe) :: pn)).env) :: starEach [] (X.suite a ((a, oe) :: pn)).env := by rfl) (hpl : (backTo pos (starEach [.Name tn p2] (X.suite a ((a, oe) :: pn)).env)).any (·.1) = false := by rfl) :
    PD (X.suite a ((a, oe) :: pn)) T B M W (.Call (.Name "isinstance" p) [.Name x px, .Name tn p2] [] pos) (dC (.bl b)) := by
  obtain ⟨ei, da, v, e1, e2, e3, e4, e5⟩ := ex
  rw [hy] at e1
  subst e2 e3
  obtain ⟨ec, kit⟩ := G _ e1
  refine pe_imp (pe_callB (X := X.suite a ((a, oe) :: pn)) (call_isF ec hz hf) hg hm (by decide +kernel) (pa_cons (pe_var (i := i) hN hv hd hcd) (pa_cons (pe_bltn (v := .ty ty) hgt hmt htn rfl hn hdb) pa_nil h2) h1) (by decide) (by decide) h1 hpl) fun σ H Q ⟨F, ρ, Qd, S, h, k⟩ => ?_
  have hp := S.pin i hi
  rw [hP] at hp
  exact ⟨_, hp, .ty ty, .type ty, b, _, rfl, .ty _, S.sub _ _ (S.f0 _ _ e4), kit, k F H ρ (.bl b) (.fz (.bl b)) (Same.refl _) S (.bl b) h⟩
end
end DL

set_option Elab.async false
set_option linter.all false
set_option autoImplicit false
set_option maxRecDepth 100000
/-! DLX24: clauses from what a module says of its exceptions; {}. -/
namespace DL
open PySem PySem.Spec PyProof.Rows L2
/-- an own exception class as what is caught -/
def ErrN (K : PySem.W.Frag) (mg : Str → Option Value) (T : Tb) (x : Str) (c : Nat) : Prop := ∃ C, mg x = some (.ref C) ∧ ExM K T c (.ref C)
def ClsE (X : Cx) (T : Tb) (M : List Nat) (hds : List ExceptHandler) (cl : List DClause) : Prop := ∃ l, ClsD X T M hds cl l
section
variable {X : Cx} {T : Tb} {B : Bs} {M : List Nat} {W : EK} {F H : Hp} {ρ : Env} {σ : L2.St}
theorem cls_nil : ClsE X T M [] [] := ⟨_, .nil⟩
theorem cls_cons {x n : Str} {i c : Nat} {fs : Exc → DS} {st : Stmt} {sts : List Stmt} {np hp : Pos} {hds : List ExceptHandler} {cl : List DClause} (Y : ErrN X.K X.mg T x c) (hg : Gl X x) (at_ : X.N[i]? = some n) (own : X.env.kindOf n = some .local) (free : i ∉ M)
    (suite : ∀ (a : Addr) (oe : Obj) (cls : Value) (d : Option Addr) (pn : List (Addr × Obj)) (y : Exc) (B' : Bs), Zc cls d oe → (∃ vs, oe.data = .fields vs) → B'.P i = .ref a → ExR X.K T B'.F0 cls d y → y.cls = c →
      PDSs (X.suite a ((a, oe) :: pn)) T B' (i :: M) noE (st :: sts) (fs y)) (rest : ClsE X T M hds cl) (hdb : (x == ("__debug__" : Str)) = false := by decide) :
    ClsE X T M (.ExceptHandler (some (.Name x np)) (some n) (st :: sts) hp :: hds) ((i, c, fs) :: cl) := by
  obtain ⟨C, hm, kind⟩ := Y
  obtain ⟨l, rest⟩ := rest
  exact ⟨_, .cons ⟨hg, hdb, .inl hm⟩ at_ own free kind suite rest⟩
theorem pds_tryE {body : List Stmt} {h₀ : ExceptHandler} {hds : List ExceptHandler} {pos : Pos} {fb : DS} {cl : List DClause} (hs : X.stack = X.env :: X.outer) (hf : X.env.frame = some X.env.locals) (hN : X.N.Nodup) (tk : Takes X (lW X.K T B M W))
    (hb : ∀ (B1 : Bs) (We : EK) (pn : List (Addr × Obj)) (xe : Value → Shared → Prop), Takes (X.tr pn xe) (lW X.K T B1 M We) → PassesOwn (model X.prog X.w) X.A X.env xe → PDSs (X.tr pn xe) T B1 M We body fb)
    (hc : ClsE X T M (h₀ :: hds) cl) : PDS X T B M W (.Try body (h₀ :: hds) [] [] pos) (sTrys cl fb) := let ⟨l, hc⟩ := hc; pds_trys hs hf hN tk hb hc
end
end DL

set_option Elab.async false
set_option linter.all false
set_option autoImplicit false
set_option maxRecDepth 100000
/-! DLX25: what isinstance and except ask of own classes, from what the written part says. -/
namespace DL
open PySem PySem.Spec PyProof.Rows L2
section
variable {K : PySem.W.Frag} {C D : Addr} {b : Bool}
theorem clsIn_of (h : PySem.W.hasDictIn K C = true) : (PySem.W.clsIn K C).isSome = true := by
  unfold PySem.W.hasDictIn at h
  cases e : PySem.W.clsIn K C with
  | none => rw [e] at h; cases h
  | some cd => rfl
theorem kitCls_of {t : Value} (hd : PySem.W.hasDictIn K C = true) (ty : PySem.W.typeIn K (.ref C) = some (.type "type")) (h : PySem.W.subIn K t (.ref C) = some b) : PySem.W.kitCls K t (.ref C) = some b := by
  show (if ((PySem.W.clsIn K C).isSome && PySem.W.typeIn K (.ref C) == some (.type "type")) = true then PySem.W.subIn K t (.ref C) else none) = _
  rw [clsIn_of hd, ty, h]
  simp
theorem kit_self : PySem.W.kitOne K (.ref C) (.ref C) = some true := by
  unfold PySem.W.kitOne
  simp
def mroT : List String := ["NoneType", "bool", "int", "str", "list", "tuple", "dict"]
theorem mro_types : ∀ n ∈ mroT, ∃ l : List String, PySem.fastBuiltinMro n = some (l.map Value.type) := by
  intro n h
  have h2 : n = "NoneType" ∨ n = "bool" ∨ n = "int" ∨ n = "str" ∨ n = "list" ∨ n = "tuple" ∨ n = "dict" := by simpa [mroT] using h
  rcases h2 with rfl | rfl | rfl | rfl | rfl | rfl | rfl
  · exact ⟨["NoneType", "object"], by kernel_rfl⟩
  · exact ⟨["bool", "int", "object"], by kernel_rfl⟩
  · exact ⟨["int", "object"], by kernel_rfl⟩
  · exact ⟨["str", "object"], by kernel_rfl⟩
  · exact ⟨["list", "object"], by kernel_rfl⟩
  · exact ⟨["tuple", "object"], by kernel_rfl⟩
  · exact ⟨["dict", "object"], by kernel_rfl⟩
theorem kit_built {n : String} (hn : n ∈ mroT) (hd : PySem.W.hasDictIn K C = true) (ty : PySem.W.typeIn K (.ref C) = some (.type "type")) : PySem.W.kitOne K (.type n) (.ref C) = some false := by
  obtain ⟨l, e⟩ := mro_types n hn
  unfold PySem.W.kitOne
  rw [if_neg (by simp)]
  refine kitCls_of hd ty ?_
  show (PySem.fastBuiltinMro n).map (·.contains (Value.ref C)) = some false
  rw [e]
  simp
theorem kitC_of (hd : PySem.W.hasDictIn K C = true) (ty : PySem.W.typeIn K (.ref C) = some (.type "type")) (ka : PySem.W.findIn K (.ref C) "__class__" = some (some (.builtin "object.__class__")))
    (hn : PySem.W.specialIn K (.builtin "object.__class__") "__get__" = some (some (.builtin "getset_descriptor.__get__"))) (ht : PySem.W.takesIn K (.builtin "object.__class__") = some true) (km : PySem.W.mroIn K C (.type "object") = some true) : KitC K C :=
  have z : ∀ n ∈ mroT, PySem.W.kitOne K (.type n) (.ref C) = some false := fun n h => kit_built h hd ty
  ⟨kit_self, z _ (by simp [mroT]), z _ (by simp [mroT]), z _ (by simp [mroT]), z _ (by simp [mroT]), z _ (by simp [mroT]), z _ (by simp [mroT]), z _ (by simp [mroT]), ka, hn, ht, km⟩
theorem exm_ref (hd : PySem.W.hasDictIn K C = true) (ty : PySem.W.typeIn K (.ref C) = some (.type "type")) (be : PySem.W.subIn K (.ref C) (.type "BaseException") = some true) (h : PySem.W.subIn K (.ref D) (.ref C) = some b) : PySem.W.exmOne K (.ref D) (.ref C) = some b := by
  unfold PySem.W.exmOne
  rw [if_pos (by rw [be]; simp), kitCls_of hd ty h]
theorem kit_err {t : String} (hm : PySem.W.kitMeta t = true) (h : PySem.W.subIn K (.ref D) (.type t) = some b) : PySem.W.kitOne K (.ref D) (.type t) = some b := by
  unfold PySem.W.kitOne
  rw [if_neg (by simp)]
  show (if PySem.W.kitMeta t = true then PySem.W.subIn K (.ref D) (.type t) else none) = _
  rw [if_pos hm, h]
end
end DL

set_option Elab.async false
set_option linter.all false
set_option autoImplicit false
set_option maxRecDepth 100000
/-! DLX26: == and != by an own __eq__. -/
namespace DL
open PySem PySem.Spec PyProof.Rows L2
/-- an own == of the class at C: its def, and no own != -/
structure OwnEq (K : PySem.W.Frag) (C f : Addr) : Prop where
  eq : PySem.W.findIn K (.ref C) "__eq__" = some (some (.ref f))
  fn : PySem.W.isFn K (.ref f) = true
  hd : PySem.W.hasDictIn K C = true
  ty : PySem.W.typeIn K (.ref C) = some (.type "type")
  cls : ∃ nm q N bs hdct sn sub ab col dd k0 k1 k2 k3 k5 newId, K.lookup C = some (excClassObj nm q C N bs [.type "object"] hdct sn sub ab col dd k0 k1 k2 k3 k5 newId) ∧ PySem.W.nsOkIn K N = true ∧ PySem.W.nsIn K N "__eq__" = some (some (.ref f)) ∧ PySem.W.nsIn K N "__ne__" = some none
section
variable {X : Cx} {k : Nat} {C f : Addr} {fd : FuncData} {ps : List Str} {sp : Sp} {σ : L2.St} {H : Hp}
theorem RoomG.in1 {A : Around} (r : RoomG (k + 1) A) : RoomG k A.in1 := ⟨r.rn.in1, r.gd⟩
theorem op_eqO (G : FnG X.prog X.w X.K X.mg X.base (CZ X.K X.prog X.w) k f fd ps sp) (hr : RoomG (k + 1) X.A) (oe : OwnEq X.K C f) (hb : Binds X.K fd ps []) :
    OpR X (compareOp .Eq) (fun x y H Q => (∃ a dx fs, x = .ref a ∧ H a = some (.ins C dx fs)) ∧ (∃ t, TyZ X.K H y t ∧ PySem.W.notFirst X.K C t = true) ∧ sp [x, y] H (fun v H' => ∃ b, v = .bl b ∧ Q (.bl b) H') fun _ _ _ => False) := by
  rintro pins s σ H x y v u Q I rx ry ⟨⟨a, dx, fs, rfl, ha⟩, ⟨t, ty, nf⟩, q⟩
  cases rx
  obtain ⟨mA, J, _⟩ := ins_get I.hok ha
  obtain ⟨od, J, _⟩ := J.look
  obtain ⟨P, kx, hP, _⟩ := kit_ofZ I ry ty
  obtain ⟨m, fr⟩ := I.fr
  show wpAny (model X.prog X.w) X.A (richCompare .Eq (.ref a) u) (EP X pins σ Q) X.xe s
  refine PySem.W.cmp_K (op := .Eq) hr.rm.units0 fr I.ok.mod.kin J (kx.ty _ _ I.kIn hP) nf oe.eq oe.fn ?_
  refine wpAny_mono (run_fnG (E := fun _ _ _ _ => False) (σ := σ) (us := [.ref a, u]) (vs := [.ref a, y]) G (hr.mono (Nat.le_succ _)) hb noPass I (.cons rfl (.cons ry .nil)) q) (fun w s' z => ?_) fun _ _ z => z
  obtain ⟨_, H', I', rw', b, rfl, q'⟩ := z
  cases rw'
  exact ⟨.bl b, H', I', rfl, q'⟩
end
section
variable {X : Cx} {T : Tb} {B : Bs} {M : List Nat} {W : EK} {F H : Hp} {ρ : Env} {σ : L2.St}
/-- the promise at two settled values -/
theorem sp2_of {con : Con} {x y : V} {dx dy : D} {Qd : R → Env → Prop} {Q : VK} (S : SR X.K T B M F H ρ σ) (rx : Rep X.K T F x dx) (ry : Rep X.K T F y dy) {neg : Bool}
    (q : con [.fz dx, .fz dy] (fun t _ => ∃ b, t.d = .bl b ∧ Qd (.fz (.bl (if neg = true then !b else b))) ρ) fun _ _ => False)
    (kk : ∀ F' H' v r, Same F F' → SR X.K T B M F' H' ρ σ → RetV X.K T B F' H' ρ σ v r → Qd r ρ → Q v H') :
    spC X.K T 2 [] con [x, y] H (fun v H' => ∃ b, v = .bl b ∧ Q (.bl (if neg = true then !b else b)) H') fun _ _ _ => False := by
  refine sp_fz (ds := [dx, dy]) S (.cons rx (.cons ry .nil)) rfl q (fun F2 H2 v r outs e2 S3 R q2 => ?_) fun F2 H2 cls d y outs e2 S3 ex q2 => q2
  obtain ⟨b, hb, q2⟩ := q2
  have rv : v = .bl b := by
    cases r with
    | fz d => cases (show d = .bl b from hb); exact Rep.bl_inv R
    | fr d =>
      cases (show d = .bl b from hb)
      obtain ⟨p, o, rfl, z1, z2, z3, z4⟩ := R
      cases z3
    | ft d =>
      obtain ⟨p, o, _, _, _, ro, _⟩ := R
      cases ro <;> cases hb
  exact ⟨b, rv, kk F2 H2 (.bl _) (.fz (.bl _)) e2 S3 (Rep.bl _) q2⟩
theorem tyO_of {c : Nat} {ci : CI} {d : D} {v : V} (hC : ClD X.K T c ci) (kc : KitC X.K ci.addr) (hd : PySem.W.hasDictIn X.K ci.addr = true) (ty : PySem.W.typeIn X.K (.ref ci.addr) = some (.type "type")) (s : SmW F H) (r : Rep X.K T F v d) (h : d.eqTo c = true) :
    ∃ t, TyZ X.K H v t ∧ PySem.W.notFirst X.K ci.addr t = true := by
  have sub : ∀ n ∈ mroT, PySem.W.notFirst X.K ci.addr (.type n) = true := fun n hn => by
    obtain ⟨l, e⟩ := mro_types n hn
    unfold PySem.W.notFirst
    have : PySem.W.subIn X.K (.type n) (.ref ci.addr) = some false := by
      show (PySem.fastBuiltinMro n).map (·.contains (Value.ref ci.addr)) = some false
      rw [e]
      simp
    rw [this]
    simp
  cases d with
  | non => rw [r.non_inv]; exact ⟨_, .base .non, sub _ (by simp [mroT])⟩
  | bl x => rw [r.bl_inv]; exact ⟨_, .base (.bl x), sub _ (by simp [mroT])⟩
  | int x => rw [r.int_inv]; exact ⟨_, .base (.int x), sub _ (by simp [mroT])⟩
  | str x => rw [r.str_inv.1]; exact ⟨_, .base (.str _), sub _ (by simp [mroT])⟩
  | lst x => obtain ⟨p, us, rfl, hp, ra⟩ := r.lst_inv; exact ⟨_, .base (.lst (s _ _ hp)), sub _ (by simp [mroT])⟩
  | tup x => obtain ⟨p, us, rfl, hp, ra⟩ := r.tup_inv; exact ⟨_, .base (.tup (s _ _ hp)), sub _ (by simp [mroT])⟩
  | dct x => obtain ⟨p, us, rfl, hp, ra⟩ := r.dct_inv; exact ⟨_, tyX_dk (s.rd hp), sub _ (by simp [mroT])⟩
  | obj c' x =>
    have h : (c' == c) = true := h
    have hcc : c' = c := by simpa using h
    subst hcc
    obtain ⟨p, ci', dx, vs, rfl, hc, hF, hl, ra⟩ := r.obj_inv
    cases hC.at_.symm.trans hc
    refine ⟨_, .base (.ins (s _ _ hF) hC.cls kc.at_ kc.hn kc.tk kc.top), ?_⟩
    unfold PySem.W.notFirst
    simp
  | cls c => cases h
  | dcT x => obtain ⟨p, us, rfl, hp, ra⟩ := r.dcT_inv; exact ⟨_, tyX_dt (s.rd hp), sub _ (by simp [mroT])⟩
  | prt d => exact (not_rep_prt r).elim
  | frl x => cases h
variable {a b : Expr} {f g : DE} {pos : Pos} {c k : Nat} {ci : CI} {con : Con} {ps : List Str}
/-- what callers know of an own == -/
def CalE (P : Program) (w : World) (K : PySem.W.Frag) (mg : Str → Option Value) (base : Heap) (T : Tb) (C : Addr) (k : Nat) (con : Con) : Prop := ∃ fa fd ps, Def P w K mg base T k fa fd ps [] con ∧ ps.length = 2 ∧ Binds K fd ps [] ∧ OwnEq K C fa
theorem objAt_of {d : D} {v : V} (hC : ClD X.K T c ci) (s : SmW F H) (r : Rep X.K T F v d) (h : d.isObj c = true) : ∃ a dx fs, v = .ref a ∧ H a = some (.ins ci.addr dx fs) := by
  cases d with
  | obj c' x =>
    have h : (c' == c) = true := h
    have hcc : c' = c := by simpa using h
    subst hcc
    obtain ⟨p, ci', dx, vs, rfl, hc, hF, hl, ra⟩ := r.obj_inv
    cases hC.at_.symm.trans hc
    exact ⟨p, dx, _, rfl, s _ _ hF⟩
  | _ => cases h
theorem pd_eqO (hC : ClD X.K T c ci) (kc : KitC X.K ci.addr) (G : CalE X.prog X.w X.K X.mg X.base T ci.addr k con) (hr : RoomG (k + 1) X.A) (ha : PD X T B M W a f) (hb : PD X T B M W b g) (hm : behindInMarks .Eq b = false) : PD X T B M W (.Compare a [.Eq] [b] pos) (dEqO c con false f g) := by
  obtain ⟨fa, fd, ps, D, hl, hbn, oe⟩ := G
  refine pe_imp (pe_cmpR (op_eqO D.ok hr oe hbn) ha hb hm) fun σ H Q ⟨F, ρ, Qd, S, h, kk⟩ => ?_
  refine lE_run S h fun F1 H1 ρ1 v1 r1 e1 S1 R1 h1 => lE_run S1 h1 fun F2 H2 ρ2 v2 r2 e2 S2 R2 h2 => ?_
  obtain ⟨o1, o2, q⟩ := h2
  rw [hl]
  exact ⟨objAt_of hC S2.sub.toSmW (R1.mono e2) o1, tyO_of hC kc oe.hd oe.ty S2.sub.toSmW R2 (by simpa using o2), sp2_of (neg := false) S2 (R1.mono e2) R2 q fun F' H' v r e => kk F' H' _ v r (e1.trans (e2.trans e))⟩
end
end DL

set_option Elab.async false
set_option linter.all false
set_option autoImplicit false
set_option maxRecDepth 100000
/-! DLX27: C.m() of a classmethod. -/
namespace DL
open PySem PySem.Spec PyProof.Rows L2
theorem nsOk_of {K : PySem.W.Frag} {N : Addr} {c : Value} {d : Option Addr} {es : Array DictEntry} {n : Nat} {sl : Array (Option Value)} (lk : K.lookup N = some ⟨c, d, .dict es n, sl⟩) (all : (es.toList.all fun e => match e.key with | .str _ _ => true | _ => false) = true) : PySem.W.nsOkIn K N = true := by
  unfold PySem.W.nsOkIn
  rw [lk]
  show (es.all fun e => match e.key with | .str _ _ => true | _ => false) = true
  rw [← Array.all_toList]
  exact all
section
variable {X : Cx} {T : Tb} {B : Bs} {M : List Nat} {W : EK} {F H : Hp} {ρ : Env} {σ : L2.St}
variable {k c : Nat} {ci : CI} {ps : List Str} {con : Con} {x m : Str} {pn pos apos : Pos} {pl : Sem Bool}
end
end DL

set_option linter.all false
set_option autoImplicit false
namespace DL
/-! thunks: told(lambda: e) -/
/-- the names that the thunk uses are settled -/
def calmE : List Nat → Env → Env
  | [], ρ => ρ
  | i :: is, ρ => calmE is (match ρ.at i with
    | .own d => ρ.set i (.fz d)
    | .ownT d => ρ.set i (.fz d.calm)
    | _ => ρ)
/-- what a name keeps for itself the thunk does not see -/
def hideE (ρ : Env) : Env := ρ.map fun s => match s with
  | .own _ => .no
  | .ownT _ => .no
  | z => z
/-- try: return x() / except C as e: .. -/
def dTold (is : List Nat) (n : Nat) (cl : List DClause) (f : DE) : DE := fun ρ Q _ => f (hideE (calmE is ρ)) (fun r _ => Q r (calmE is ρ)) fun x _ => catchD cl { nx := fun _ => Q (.fz .non) (calmE is ρ), rt := fun r _ => Q r (calmE is ρ) } noE x (List.replicate n .no)
/-- try: x() / except C as e: .. / behind it: return t -/
def dToldB (is : List Nat) (n : Nat) (cl : List DClause) (t : Tx) (f : DE) : DE := fun ρ Q _ => f (hideE (calmE is ρ)) (fun _ _ => Q (.fz (.str t)) (calmE is ρ)) fun x _ => catchD cl { nx := fun _ => Q (.fz (.str t)) (calmE is ρ), rt := fun r _ => Q r (calmE is ρ) } noE x (List.replicate n .no)
/-- try: return len(x()) / except C as e: .., len by the own __len__ of what x() hands back -/
def dToldO (is : List Nat) (n : Nat) (cl : List DClause) (c : Nat) (con : Con) (f : DE) : DE := fun ρ Q _ => f (hideE (calmE is ρ)) (fun r _ => r.d.isObj c = true ∧ con [.fz r.d] (fun t _ => ∃ m : Nat, t.d = .int m ∧ m < 2 ^ 62 ∧ Q (.fz (.int m)) (calmE is ρ)) fun _ _ => False)
  fun x _ => catchD cl { nx := fun _ => Q (.fz .non) (calmE is ρ), rt := fun r _ => Q r (calmE is ρ) } noE x (List.replicate n .no)
/-- isinstance with a built-in class: an own object is none of it -/
def D.isTyO (t : Ty) (c : Nat) : D → Option Bool
  | .obj c' _ => if c' = c then some false else none
  | d => d.isTy t
def dIsiO (t : Ty) (c : Nat) (f : DE) : DE := fun ρ Q E => f ρ (fun r ρ1 => ∃ b, r.d.isTyO t c = some b ∧ Q (.fz (.bl b)) ρ1) E
/-- a call of the def that a name holds -/
def dCallF (i : Nat) (tbl : List (Nat × Con)) (as : List DA) : DE := fun ρ Q E => match ρ.at i with
  | .fz (.cls n) => (match tbl.lookup n with
    | some con => zaK con as ρ Q E
    | none => False)
  | _ => False
end DL

set_option Elab.async false
set_option linter.all false
set_option autoImplicit false
set_option maxRecDepth 100000
/-! DLX56: defs as values: the name of a def read, a call of what a name holds. -/
namespace DL
open PySem PySem.Spec PyProof.Rows L2
/-- the def x as a value: the class-like thing n -/
def FnV (K : PySem.W.Frag) (mg : Str → Option Value) (T : Tb) (x : Str) (n : Nat) : Prop := ∃ f, mg x = some (.ref f) ∧ T.cl n = some ⟨f, []⟩
/-- what is known of a def that a name may hold -/
def CalF (P : Program) (w : World) (K : PySem.W.Frag) (mg : Str → Option Value) (base : Heap) (T : Tb) (n k : Nat) (con : Con) (as : List DA) : Prop :=
  ∃ fa fd ps Mc ci k', k' ≤ k ∧ Def P w K mg base T k' fa fd ps Mc con ∧ Binds K fd ps [] ∧ T.cl n = some ci ∧ ci.addr = fa ∧ as.length = ps.length ∧ fitA as Mc = true
theorem calF_of {P : Program} {w : World} {K : PySem.W.Frag} {mg : Str → Option Value} {base : Heap} {T : Tb} {x : Str} {n k k' : Nat} {ps : List Str} {Mc : List Nat} {con : Con} {as : List DA} (G : Cal P w K mg base T x k' ps Mc con) (V : FnV K mg T x n) (hk : k' ≤ k) (hn : as.length = ps.length) (hf : fitA as Mc = true) : CalF P w K mg base T n k con as := by
  obtain ⟨fa, fd, D, hb, hm⟩ := G
  obtain ⟨f, hm2, hT⟩ := V
  rw [hm] at hm2
  cases hm2
  exact ⟨fa, fd, ps, Mc, _, k', hk, D, hb, hT, rfl, hn, hf⟩
theorem mem_lookN {α : Type} {n : Nat} {a : α} : ∀ {l : List (Nat × α)}, l.lookup n = some a → (n, a) ∈ l
  | (m, b) :: l, h => by
    rw [List.lookup_cons] at h
    cases hb : (n == m) with
    | true =>
      rw [hb] at h
      cases h
      rw [beq_iff_eq.mp hb]
      exact List.mem_cons_self
    | false =>
      rw [hb] at h
      exact List.mem_cons_of_mem _ (mem_lookN h)
section
variable {X : Cx} {T : Tb} {B : Bs} {M : List Nat} {W : EK} {F H : Hp} {ρ : Env} {σ : L2.St} {pos p : Pos} {x : Str}
theorem pd_fnv {n : Nat} (V : FnV X.K X.mg T x n) (hg : Gl X x) (hd : (x == ("__debug__" : Str)) = false := by decide) : PD X T B M W (.Name x pos) (dC (.cls n)) := by
  obtain ⟨f, hm, hT⟩ := V
  exact pd_glob (v := .ref f) hg hm rfl (fun _ => .cls hT) hd
variable {e : Expr} {es : List Expr} {as : List DA} {i k : Nat} {tbl : List (Nat × Con)}
theorem pd_callF (G : ∀ z ∈ tbl, CalF X.prog X.w X.K X.mg X.base T z.1 k z.2 as) (hr : RoomG k X.A) (tk : Takes X (lW X.K T B M W)) (hN : X.N[i]? = some x) (hv : Vis X.env.scope x) (ha : PDAV X T B M W (e :: es) as)
    (hd : (x == ("__debug__" : Str)) = false := by decide) (hcd : (x == ("__classdict__" : Str)) = false := by decide) (he : starEach (e :: es) X.env = (false, eval e X.env) :: starEach es X.env := by rfl) (hpl : (backTo pos (starEach es X.env)).any (·.1) = false := by rfl) :
    PD X T B M W (.Call (.Name x p) (e :: es) [] pos) (dCallF i tbl as) where
  run pins s σ H Q I hyp := by
    obtain ⟨F, ρ, Qd, S, h, kk⟩ := hyp
    have hs := S.slot i
    unfold dCallF at h
    cases hd2 : ρ.at i with
    | no => rw [hd2] at h; exact h.elim
    | own d => rw [hd2] at h; exact h.elim
    | ownT d => rw [hd2] at h; exact h.elim
    | fz d =>
      rw [hd2] at h hs
      cases d with
      | cls n =>
        obtain ⟨v, ev, rv⟩ := hs
        obtain ⟨ci, hc, rfl⟩ := rv.cls_inv
        have h : match tbl.lookup n with
          | some con => zaK con as ρ Qd W
          | none => False := h
        cases hl : tbl.lookup n with
        | none => rw [hl] at h; exact h.elim
        | some con =>
          rw [hl] at h
          obtain ⟨fa, fd, ps, Mc, ci2, k', hk, D, hb, hT, rfl, hn, hf⟩ := G (n, con) (mem_lookN hl)
          cases hc.symm.trans hT
          have hq := call_of (n := ps.length) (Mc := Mc) hn hf ⟨F, ρ, Qd, S, h, kk⟩
          refine wpAny_Call_Name_kw (thn ((pe_var (pos := p) (i := i) hN hv hd hcd).run pins s σ H (fun v H1 => v = .ref ci.addr ∧ H1 = H) I ⟨.ref ci.addr, ev, rfl, rfl⟩) ?_)
          rintro u s1 ⟨v, H1, I1, r1, rfl, rfl⟩
          obtain rfl : u = Value.ref ci.addr := r1
          refine PySem.W.callWith_K (h₀ := X.base) I.ok.mod.kin D.kp (thn (ha.run pos pins s1 σ _ _ I1 hq) ?_) he hpl
          rintro us s2 ⟨vs, H2, I2, r, q⟩
          exact ⟨I2.kIn, run_fnG (E := WE (lW X.K T B M W)) D.ok (hr.mono hk) hb (passAt tk σ) I2 r q⟩
      | _ => exact h.elim
end
end DL

set_option Elab.async false
set_option linter.all false
set_option autoImplicit false
set_option maxRecDepth 100000
/-! DLPU: more data definitions. -/
namespace DL
/-- [o, o] != [o, o] by an own __eq__, the equal case -/
def dNeL (c : Nat) (con : Con) (f g : DE) : DE := fun ρ Q E => f ρ (fun r ρ1 => g ρ1 (fun s ρ2 => ∃ o1 o2 p1 p2, r.d = .lst [o1, o2] ∧ s.d = .lst [p1, p2] ∧ (o1.isObj c = true ∧ o2.isObj c = true ∧ p1.isObj c = true ∧ p2.isObj c = true) ∧
  (Q (.fz (.bl false)) ρ2 ∧ con [.fz o2, .fz p2] (fun t _ => ∃ b, t.d = .bl b ∧ (R.fz (.bl b) = .fz (.bl true) ∧ Q (.fz (.bl false)) ρ2)) fun _ _ => False) ∧
  con [.fz o1, .fz p1] (fun t _ => ∃ b, t.d = .bl b ∧ (R.fz (.bl b) = .fz (.bl true) ∧ (Q (.fz (.bl false)) ρ2 ∧ con [.fz o2, .fz p2] (fun t _ => ∃ b, t.d = .bl b ∧ (R.fz (.bl b) = .fz (.bl true) ∧ Q (.fz (.bl false)) ρ2)) fun _ _ => False))) fun _ _ => False) E) E
/-! objects with parts of their own -/
def putL : List D → Nat → D → List D
  | [], _, d => [d]
  | _ :: xs, 0, d => d :: xs
  | x :: xs, j + 1, d => x :: putL xs j d
/-- a field's new value: a part of its own, or settled -/
def kidOf : Bool → R → (D → Prop) → Prop
  | true, .fr (.tup _), _ => False
  | true, .fr d, k => k (.prt d)
  | true, _, _ => False
  | false, r, k => k r.d
/-- x.f = e, x the name's own object -/
def sFldT (i c j : Nat) (b : Bool) (f : DE) : DS := fun D ρ E => f ρ (fun r ρ1 => match ρ1.at i with
  | .own (.obj c' fs) => c' = c ∧ j ≤ fs.length ∧ kidOf b r fun d => D.nx (ρ1.set i (.ownT (.obj c (putL fs j d))))
  | .ownT (.obj c' fs) => c' = c ∧ j ≤ fs.length ∧ kidOf b r fun d => D.nx (ρ1.set i (.ownT (.obj c (putL fs j d))))
  | _ => False) E
/-- x.f.append(e), the field a list of its object's own -/
def sAppF (i c j : Nat) (f : DE) : DS := fun D ρ _ => match ρ.at i with
  | .ownT (.obj c' fs) => c' = c ∧ ∃ xs, fs[j]? = some (.prt (.lst xs)) ∧ f (ρ.map Slot.calm) (fun r _ => r.d.flat = true ∧ xs.length < maxTx ∧ D.nx (ρ.set i (.ownT (.obj c (putL fs j (.prt (.lst (xs ++ [r.d])))))))) noE
  | _ => False
/-- x.f op= e, flat values -/
def sFldAugT (i c j : Nat) (op : D → D → (R → Prop) → Prop) (f : DE) : DS := fun D ρ _ => match ρ.at i with
  | .ownT (.obj c' fs) => c' = c ∧ ∃ x, fs[j]? = some x ∧ x.flat = true ∧ f (ρ.map Slot.calm) (fun r _ => op x r.d fun t => t.d.flat = true ∧ D.nx (ρ.set i (.ownT (.obj c (putL fs j t.d))))) noE
  | _ => False
/-! == where the left one may be None -/
def eqNone (c : Nat) (con : Con) (x y : D) (k : Bool → Prop) : Prop := match x with
  | .non => (match y with
    | .non => k true
    | y => y.isObj c = true ∧ con [.fz y, .fz .non] (fun t _ => ∃ b, t.d = .bl b ∧ k b) fun _ _ => False)
  | x => x.isObj c = true ∧ y.eqTo c = true ∧ con [.fz x, .fz y] (fun t _ => ∃ b, t.d = .bl b ∧ k b) fun _ _ => False
def dEqN (c : Nat) (con : Con) (f g : DE) : DE := fun ρ Q E => f ρ (fun r ρ1 => g ρ1 (fun s ρ2 => eqNone c con r.d s.d fun b => Q (.fz (.bl b)) ρ2) E) E
/-- x.p, p a property whose getter computes -/
def dProp (c : Nat) (con : Con) (f : DE) : DE := fun ρ Q E => f ρ (fun r ρ1 => r.d.isObj c = true ∧ con [.fz r.d] (fun t _ => Q t ρ1) (fun _ _ => False)) E
/-- str(i) -/
def strF : List D → (R → Prop) → Prop
  | [.int i], k => i.natAbs < 10 ^ 120 ∧ k (.fz (.str (intT i)))
  | _, _ => False
end DL

set_option Elab.async false
set_option linter.all false
set_option autoImplicit false
set_option maxRecDepth 100000
/-! DLPV: more data definitions. -/
namespace DL
/-! != where either may be None -/
def neNone (c : Nat) (con : Con) (x y : D) (k : Bool → Prop) : Prop := match x with
  | .non => (match y with
    | .non => k false
    | y => y.isObj c = true ∧ con [.fz y, .fz .non] (fun t _ => ∃ b, t.d = .bl b ∧ k (!b)) fun _ _ => False)
  | x => x.isObj c = true ∧ (match y with
    | .non => con [.fz x, .fz .non] (fun t _ => ∃ b, t.d = .bl b ∧ k (!b)) fun _ _ => False
    | y => y.isObj c = true ∧ con [.fz x, .fz y] (fun t _ => ∃ b, t.d = .bl b ∧ k (!b)) fun _ _ => False)
def dNeN (c : Nat) (con : Con) (f g : DE) : DE := fun ρ Q E => f ρ (fun r ρ1 => g ρ1 (fun s ρ2 => neNone c con r.d s.d fun b => Q (.fz (.bl b)) ρ2) E) E
/-- a new object of flat things -/
def D.flat1 : D → Bool
  | .lst xs => xs.all D.flat
  | .tup xs => xs.all D.flat
  | .dct ks => ks.all fun p => p.2.flat
  | _ => false
/-- read with one's own objects as they stand, for a new object of flat things -/
def dLookL (f : DE) : DE := fun ρ Q _ => f (ρ.map Slot.calm) (fun r _ => ∃ d, r = .fr d ∧ d.flat1 = true ∧ Q (.fr d) ρ) noE
/-! targets of any kind -/
/-- x.f, x the name's own object -/
def gA (i c j : Nat) : DG := fun d ρ k => match ρ.at i with
  | .own (.obj c' fs) => c' = c ∧ j ≤ fs.length ∧ k (ρ.set i (.own (.obj c (putL fs j d))))
  | _ => False
/-- x.f, x a name that keeps its own object -/
def dFldN (i c j : Nat) : DE := fun ρ Q _ => match ρ.at i with
  | .own (.obj c' fs) => c' = c ∧ ∃ d, fs[j]? = some d ∧ Q (.fz d) ρ
  | .fz (.obj c' fs) => c' = c ∧ ∃ d, fs[j]? = some d ∧ Q (.fz d) ρ
  | _ => False
def gGs : List DG → List D → Env → (Env → Prop) → Prop
  | [], [], ρ, k => k ρ
  | g :: gs, d :: ds, ρ, k => g d ρ fun ρ1 => gGs gs ds ρ1 k
  | _, _, _, _ => False
def gTG (gs : List DG) : DG := fun d ρ k => match d with
  | .tup ds => gGs gs ds ρ k
  | _ => False
/-- a = b = .. = f -/
def gAll : List DG → D → Env → (Env → Prop) → Prop
  | [], _, ρ, k => k ρ
  | g :: gs, d, ρ, k => g d ρ fun ρ1 => gAll gs d ρ1 k
def sAsgs (gs : List DG) (f : DE) : DS := fun D ρ E => f ρ (fun r ρ1 => gAll gs r.d ρ1 D.nx) E
/-- x.clear(), x the name's own list or dict -/
def sClr (i : Nat) : DS := fun D ρ _ => match ρ.at i with
  | .own (.lst _) => D.nx (ρ.set i (.own (.lst [])))
  | .own (.dct _) => D.nx (ρ.set i (.own (.dct [])))
  | _ => False
/-- a new object becomes the name's own; a settled value is stored as it is -/
def sAsgN (i : Nat) (f : DE) : DS := fun D ρ E => f ρ (fun r ρ1 => match r with | .fr (.tup _) => False | .ft (.tup _) => False | .fr d => D.nx (ρ1.set i (.own d)) | .ft d => D.nx (ρ1.set i (.ownT d)) | .fz d => D.nx (ρ1.set i (.fz d))) E
/-- x.index(e), x a list: the first place of an equal thing -/
def firstEq : List D → D → Nat → Option Nat
  | [], _, _ => none
  | y :: ys, d, i => if D.eqv y d = true then some i else firstEq ys d (i + 1)
def dLix (f g : DE) : DE := fun ρ Q E => f ρ (fun r ρ1 => match r.d with
  | .lst ys => g ρ1 (fun s ρ2 => D.eqOkL 59 ys = true ∧ s.d.eqOk 60 = true ∧ ∃ i : Nat, firstEq ys s.d 0 = some i ∧ Q (.fz (.int (i : Int))) ρ2) E
  | _ => False) E
/-! texts in their order -/
def leT : Tx → Tx → Bool
  | [], _ => true
  | _ :: _, [] => false
  | x :: xs, y :: ys => if x < y then true else if y < x then false else leT xs ys
def insT (x : Tx) : List Tx → List Tx
  | [] => [x]
  | y :: ys => if leT x y then x :: y :: ys else y :: insT x ys
def srtT : List Tx → List Tx
  | [] => []
  | x :: xs => insT x (srtT xs)
def ddT : List Tx → List Tx
  | [] => []
  | x :: xs => if x ∈ xs then ddT xs else x :: ddT xs
/-- len(set(e)), sorted(set(e)): e a list of texts -/
def dLenSet (f : DE) : DE := fun ρ Q E => f ρ (fun r ρ1 => match r.d with
  | .lst xs => ∃ ys : List Tx, xs = ys.map D.str ∧ ys.length < 4000 ∧ Q (.fz (.int (ddT ys).length)) ρ1
  | _ => False) E
def dSrtSet (f : DE) : DE := fun ρ Q E => f ρ (fun r ρ1 => match r.d with
  | .lst xs => ∃ ys : List Tx, xs = ys.map D.str ∧ ys.length < 4000 ∧ (ddT ys).length < 64 ∧ Q (.fr (.lst ((srtT (ddT ys)).map D.str))) ρ1
  | _ => False) E
/-- sorted(x) of a list of texts, or of a dict whose keys are texts -/
def kyT : Ky → Tx
  | .str x => x
  | .int _ => []
def Ky.isT : Ky → Bool
  | .str _ => true
  | .int _ => false
def sortedF : List D → (R → Prop) → Prop
  | [.lst xs], k => ∃ ys : List Tx, xs = ys.map D.str ∧ ys.length ≤ maxTx ∧ k (.fr (.lst ((srtT ys).map D.str)))
  | [.dct kvs], k => (kvs.all (fun p => p.1.isT) = true ∧ kvs.length ≤ maxTx) ∧ k (.fr (.lst ((srtT (kvs.map fun p => kyT p.1)).map D.str)))
  | _, _ => False
end DL

set_option Elab.async false
set_option linter.all false
set_option autoImplicit false
set_option maxRecDepth 100000
/-! DLPW: texts in order: sorting, dropping repetitions. -/
namespace DL
abbrev RisT (xs : List Tx) : Prop := xs.Pairwise fun a b => leT a b = true
end DL

set_option linter.all false
set_option autoImplicit false
/-! DLPX: dicts: walks over them, comprehensions, .get, d[k] = v, `in`. -/
namespace DL
def kyD : Ky → D
  | .int i => .int i
  | .str x => .str x
def kyOf : D → Option Ky
  | .int i => some (.int i)
  | .str x => some (.str x)
  | _ => none
/-- d.items(), d.values(), d itself, walked over -/
def iWk (f : DE) (xs : List (Ky × D) → List D) : DI := fun ρ Q E => f ρ (fun r ρ1 => match r.d with
  | .dct ds => Q (xs ds) ρ1
  | _ => False) E
def itmX (ds : List (Ky × D)) : List D := ds.map fun p => .tup [kyD p.1, p.2]
def valX (ds : List (Ky × D)) : List D := ds.map (·.2)
def keyX (ds : List (Ky × D)) : List D := ds.map fun p => kyD p.1
/-- a loop of which nothing raises -/
def sForN (it : DI) (g : DG) (body : DS) : DS := fun D ρ E => it ρ (fun xs ρ1 => forL g body D noE xs ρ1) E
/-- in its place, or at the end -/
def putD (ds : List (Ky × D)) (k : Ky) (d : D) : List (Ky × D) := if ds.any (fun p => decide (p.1 = k)) = true then ds.map (fun p => if p.1 = k then (p.1, d) else p) else ds ++ [(k, d)]
def dcL (vs : List Nat) (g : DG) (t : DT) (ek e : DE) (Q : List (Ky × D) → Env → Prop) : List D → List (Ky × D) → Env → Prop
  | [], acc, ρ => Q acc ρ
  | x :: xs, acc, ρ => g x ρ fun ρ1 => t ρ1 (fun b ρ2 => if b = true then ek ρ2 (fun rk ρ3 => e ρ3 (fun r ρ4 => ∃ k, kyOf rk.d = some k ∧ acc.length < maxTx ∧ dcL vs g t ek e Q xs (putD acc k r.d) (wipeE vs ρ4)) noE) noE
    else dcL vs g t ek e Q xs acc (wipeE vs ρ2)) noE
/-- {k: e for x in ..} -/
def dDc (vs : List Nat) (it : DI) (g : DG) (t : DT) (ek e : DE) : DE := fun ρ Q E => it ρ (fun xs ρ1 => (∀ i ∈ vs, ∀ d, ρ1.at i ≠ .own d) ∧
  dcL vs g t ek e (fun acc ρ2 => Q (.fr (.dct acc)) (backE vs ρ1 ρ2)) xs [] (wipeE vs ρ1)) E
/-- d.get(k, x): a settled dict; the name's own dict -/
def dGet (f g h : DE) : DE := fun ρ Q E => f ρ (fun r ρ1 => (match r.d with | .dct _ => True | _ => False) ∧ g ρ1 (fun s ρ2 => h ρ2 (fun t ρ3 => match r.d with
  | .dct ds => ∃ k, kyOf s.d = some k ∧ Q (.fz ((lookD ds k).getD t.d)) ρ3
  | _ => False) E) E) E
def ownK : Slot → Bool
  | .own (.dct _) => true
  | _ => false
def dGetN (i : Nat) (g h : DE) : DE := fun ρ Q E => ownK (ρ.at i) = true ∧ g ρ (fun s ρ1 => h ρ1 (fun t ρ2 => match ρ2.at i with
  | .own (.dct ds) => ∃ k, kyOf s.d = some k ∧ Q (.fz ((lookD ds k).getD t.d)) ρ2
  | _ => False) E) E
/-- x[k], x the name's own dict -/
def dIxK (i : Nat) (g : DE) : DE := fun ρ Q E => ownK (ρ.at i) = true ∧ g ρ (fun s ρ1 => match ρ1.at i with
  | .own (.dct ds) => ∃ k, kyOf s.d = some k ∧ ∃ d, lookD ds k = some d ∧ Q (.fz d) ρ1
  | _ => False) E
/-- x[k] = e, x the name's own dict -/
def sPutK (i : Nat) (k : DE) (f : DE) : DS := fun D ρ E => f ρ (fun r ρ1 => ownK (ρ1.at i) = true ∧ k ρ1 (fun s ρ2 => match ρ2.at i with
  | .own (.dct ds) => ∃ ky, kyOf s.d = some ky ∧ ds.length < maxTx ∧ D.nx (ρ2.set i (.own (.dct (putD ds ky r.d))))
  | _ => False) E) E
/-- == (!=) of dicts that are found equal, their values flat -/
def eqKv (b : Bool) (x y : D) (k : R → Prop) : Prop := match x, y with
  | .dct as, .dct bs => as.length = bs.length ∧ (∀ p ∈ as, lookD bs p.1 = some p.2 ∧ p.2.flat = true) ∧ k (.fz (.bl b))
  | _, _ => False
/-- k in d -/
def inKv (x d : D) (k : R → Prop) : Prop := match d with
  | .dct ds => ∃ ky, kyOf x = some ky ∧ k (.fz (.bl (ds.any fun p => decide (p.1 = ky))))
  | .dcT ds => ∃ xs ks, x = .tup xs ∧ kysOf xs = some ks ∧ k (.fz (.bl (ds.any fun p => decide (p.1 = ks))))
  | _ => False
def putT (ds : List (List Ky × D)) (k : List Ky) (d : D) : List (List Ky × D) := if ds.any (fun p => decide (p.1 = k)) = true then ds.map (fun p => if p.1 = k then (p.1, d) else p) else ds ++ [(k, d)]
/-- {k: e}, the key a tuple -/
def dDspT (fk f : DE) : DE := fun ρ Q E => fk ρ (fun rk ρ1 => f ρ1 (fun r ρ2 => ∃ xs ks, rk.d = .tup xs ∧ kysOf xs = some ks ∧ Q (.fr (.dcT [(ks, r.d)])) ρ2) noE) noE
def ownKT : Slot → Bool
  | .own (.dcT _) => true
  | _ => false
/-- x[k] = e, x the name's own dict, the key a tuple -/
def sPutT (i : Nat) (k : DE) (f : DE) : DS := fun D ρ E => f ρ (fun r ρ1 => ownKT (ρ1.at i) = true ∧ k ρ1 (fun s ρ2 => match ρ2.at i with
  | .own (.dcT ds) => ∃ xs ks, s.d = .tup xs ∧ kysOf xs = some ks ∧ ds.length < maxTx ∧ D.nx (ρ2.set i (.own (.dcT (putT ds ks r.d))))
  | _ => False) E) E
/-- {k: e}, the key computed -/
def dDsp1 (fk f : DE) : DE := fun ρ Q E => fk ρ (fun rk ρ1 => f ρ1 (fun r ρ2 => ∃ k, kyOf rk.d = some k ∧ Q (.fr (.dct [(k, r.d)])) ρ2) noE) noE
/-- list(d.items()) -/
def dLitm (f : DE) : DE := fun ρ Q E => f ρ (fun r ρ1 => match r.d with
  | .dct ds => Q (.fr (.lst (itmX ds))) ρ1
  | _ => False) E
/-- dict(d), dict([(k, v), ..]) -/
def prD : D → Option (Ky × D)
  | .tup [a, b] => (kyOf a).map fun k => (k, b)
  | _ => none
def dictF : List D → (R → Prop) → Prop
  | [.dct ds], k => k (.fr (.dct ds))
  | [.lst xs], k => ∃ ps : List (Ky × D), xs.map prD = ps.map some ∧ ps.length ≤ maxTx ∧ k (.fr (.dct (ps.foldl (fun acc p => putD acc p.1 p.2) [])))
  | _, _ => False
/-- x < y of texts -/
def ltSD (x y : D) (k : R → Prop) : Prop := match x, y with
  | .str a, .str b => k (.fz (.bl (decide (a < b))))
  | _, _ => False
/-- sorted(x), x a list of ints -/
def insI (x : Int) : List Int → List Int
  | [] => [x]
  | y :: ys => if x ≤ y then x :: y :: ys else y :: insI x ys
def srtI : List Int → List Int
  | [] => []
  | x :: xs => insI x (srtI xs)
def sortedIF : List D → (R → Prop) → Prop
  | [.lst xs], k => ∃ ns : List Int, xs = ns.map D.int ∧ ns.length ≤ maxTx ∧ k (.fr (.lst ((srtI ns).map D.int)))
  | _, _ => False
end DL

set_option linter.all false
set_option autoImplicit false
/-! DLPY: tuples that take own objects with them, and back. -/
namespace DL
/-- own objects leave their names for a tuple -/
def giveE : List AV → Env → (List D → Env → Prop) → Prop
  | [], ρ, k => k [] ρ
  | .v d :: xs, ρ, k => giveE xs ρ fun ds ρ1 => k (d :: ds) ρ1
  | .m i :: xs, ρ, k => match ρ.at i with
    | .own d => giveE xs (ρ.set i .no) fun ds ρ1 => k (.prt d :: ds) ρ1
    | .fz d => giveE xs ρ fun ds ρ1 => k (d :: ds) ρ1
    | _ => False
/-- (x, e, ..), x a name that gives its own object away -/
def dTupK (as : List DA) : DE := fun ρ Q E => dAVs as ρ (fun vs ρ1 => vs.length ≤ maxTx ∧ giveE vs ρ1 fun ds ρ2 => Q (.ft (.tup ds)) ρ2) E
def R.raw : R → D
  | .fz d => d
  | .fr d => d
  | .ft d => d
def D.isPrt : D → Bool
  | .prt _ => true
  | _ => false
def unpK1 (b : Bool) (i : Nat) (d : D) (ρ : Env) (k : Env → Prop) : Prop := match d with
  | .prt d => b = true ∧ k (ρ.set i (.own d))
  | d => k (ρ.set i (.fz d))
def unpK : List (Nat × Bool) → List D → Env → (Env → Prop) → Prop
  | [], [], ρ, k => k ρ
  | (i, b) :: is, d :: ds, ρ, k => unpK1 b i d ρ fun ρ1 => unpK is ds ρ1 k
  | _, _, _, _ => False
/-- a, b = f, the parts of a new tuple becoming the names' own -/
def sAsgK (is : List (Nat × Bool)) (f : DE) : DS := fun D ρ E => f ρ (fun r ρ1 => match r.raw with
  | .tup ds => unpK is ds ρ1 D.nx
  | _ => False) E
end DL
namespace DL
/-- k not in d -/
def ninKv (x d : D) (k : R → Prop) : Prop := match d with
  | .dct ds => ∃ ky, kyOf x = some ky ∧ k (.fz (.bl (!ds.any fun p => decide (p.1 = ky))))
  | .dcT ds => ∃ xs ks, x = .tup xs ∧ kysOf xs = some ks ∧ k (.fz (.bl (!ds.any fun p => decide (p.1 = ks))))
  | _ => False
/-- ==, != of dicts whose values are flat -/
def eqKB (as bs : List (Ky × D)) : Bool := (as.length == bs.length) && as.all fun p => match lookD bs p.1 with
  | some d => D.eqv p.2 d
  | none => false
def eqKg (b : Bool) (x y : D) (k : R → Prop) : Prop := match x, y with
  | .dct as, .dct bs => (as.all (fun p => p.2.flat) = true ∧ bs.all (fun p => p.2.flat) = true) ∧ k (.fz (.bl (b == eqKB as bs)))
  | _, _ => False
end DL

set_option linter.all false
set_option autoImplicit false
set_option maxRecDepth 100000
/-! DLPZ: sums of a dict's values; floor division by wide numbers. -/
namespace DL
def intsOf : List D → Option (List Int)
  | [] => some []
  | .int i :: ds => (intsOf ds).map (i :: ·)
  | _ => none
/-- sum(d.values()) -/
def dSumV (f : DE) : DE := fun ρ Q E => f ρ (fun r ρ1 => match r.d with
  | .dct ds => ∃ is, intsOf (ds.map (·.2)) = some is ∧ Q (.fz (.int is.sum)) ρ1
  | _ => False) E
/-- i // j for a wide j -/
def fdivWD : D → D → (R → Prop) → Prop
  | .int i, .int j, k => (0 < j ∧ j < 2 ^ 1000) ∧ k (.fz (.int (i / j)))
  | _, _, _ => False
/-- an own object with flat parts -/
def D.flatO (c : Nat) : D → Bool
  | .obj c' xs => c' == c && xs.all D.flat
  | _ => false
/-- == of two dicts of own objects with an own __eq__ -/
def eqKs (con : Con) (ds2 : List (Ky × D)) (Q : R → Prop) : List (Ky × D) → Prop
  | [] => Q (.fz (.bl true))
  | (k, d) :: r => match lookD ds2 k with
    | none => Q (.fz (.bl false))
    | some e => (d = e → eqKs con ds2 Q r) ∧ con [.fz d, .fz e] (fun t _ => ∃ b, t.d = .bl b ∧ (if b = true then eqKs con ds2 Q r else Q (.fz (.bl false)))) fun _ _ => False
def dEqKO (c : Nat) (con : Con) (f g : DE) : DE := fun ρ Q E => f ρ (fun r ρ1 => g ρ1 (fun s ρ2 => match r.d, s.d with
  | .dct ds1, .dct ds2 => (ds1.all (fun p => p.2.flatO c) = true ∧ ds2.all (fun p => p.2.flatO c) = true) ∧ (if ds1.length = ds2.length then eqKs con ds2 (fun t => Q t ρ2) ds1 else Q (.fz (.bl false)) ρ2)
  | _, _ => False) E) E
/-- d | e -/
def mergeD (a b : List (Ky × D)) : List (Ky × D) := b.foldl (fun acc p => putD acc p.1 p.2) a
def orKD : D → D → (R → Prop) → Prop
  | .dct a, .dct b, k => a.length + b.length ≤ maxTx ∧ k (.fr (.dct (mergeD a b)))
  | _, _, _ => False
/-- min(xs, key=f, default=None) -/
def minUp (d : D) (n : Int) : Option (D × Int) → D × Int
  | none => (d, n)
  | some p => if n < p.2 then (d, n) else p
def minKs (con : Con) (Q : R → Prop) : List D → Option (D × Int) → Prop
  | [], none => Q (.fz .non)
  | [], some p => Q (.fz p.1)
  | d :: r, b => con [.fz d] (fun t _ => ∃ n : Int, t.d = .int n ∧ minKs con Q r (some (minUp d n b))) fun _ _ => False
def dMinK (con : Con) (f : DE) : DE := fun ρ Q E => f ρ (fun r ρ1 => match r.d with
  | .lst xs => minKs con (fun t => Q t ρ1) xs none
  | _ => False) E
/-- statements that are never reached -/
def sDead : DS := fun _ _ _ => False
end DL

set_option linter.all false
set_option autoImplicit false
set_option maxRecDepth 100000
/-! DLQ: lists of own lists and dicts (parts). -/
namespace DL
/-- a result as a part of what keeps it -/
def R.kid : R → Option D
  | .fz d => some d
  | .fr (.tup _) => none
  | .fr d => some (.prt d)
  | .ft _ => none
def Slot.lstT : Slot → Option (List D)
  | .own (.lst xs) => some xs
  | .ownT (.lst xs) => some xs
  | _ => none
/-- x.append(e): a new thing becomes a part of x's own list -/
def sAppP (i : Nat) (f : DE) : DS := fun D ρ E => (∃ xs, (ρ.at i).lstT = some xs) ∧ f ρ (fun r ρ1 => ∃ xs d, (ρ1.at i).lstT = some xs ∧ r.kid = some d ∧ xs.length < maxTx ∧ D.nx (ρ1.set i (.ownT (.lst (xs ++ [d]))))) E
/-- return x: x's own list leaves with its parts -/
def sRetT (i : Nat) (M : List Nat) : DS := fun D ρ _ => (M.all fun k => (ρ.at k).isOwn) = true ∧ ∃ xs, (ρ.at i).lstT = some xs ∧ D.rt (.ft (.lst xs)) (ρ.set i .no)
/-- x + y, new lists with parts -/
def dCatT (f g : DE) : DE := fun ρ Q E => dVals [f, g] ρ (fun rs ρ1 => match rs with
  | [.ft (.lst a), .ft (.lst b)] => a.length + b.length ≤ maxTx ∧ Q (.ft (.lst (a ++ b))) ρ1
  | _ => False) E
/-- an item taken out of a list that goes -/
def outR : D → R
  | .prt d => .fr d
  | d => .fz d
/-- min(xs, key=f, default=None) of a new list with parts -/
def minKT (con : Con) (Q : R → Prop) : List D → Option (D × Int) → Prop
  | [], none => Q (.fz .non)
  | [], some p => Q (outR p.1)
  | d :: r, b => con [.fz d.unm] (fun t _ => ∃ n : Int, t.d = .int n ∧ minKT con Q r (some (minUp d n b))) fun _ _ => False
def dMinKT (con : Con) (f : DE) : DE := fun ρ Q E => f ρ (fun r ρ1 => match r with
  | .ft (.lst xs) => minKT con (fun t => Q t ρ1) xs none
  | _ => False) E
/-- == (!=) of dicts of flat values, or None -/
def eqKN (b : Bool) (x y : D) (k : R → Prop) : Prop := match x, y with
  | .dct ks, .dct ls => eqKg b (.dct ks) (.dct ls) k
  | .dct _, .non => k (.fz (.bl (!b)))
  | .non, .dct _ => k (.fz (.bl (!b)))
  | .non, .non => k (.fz (.bl b))
  | _, _ => False
/-- list(d) -/
def listKF : List D → (R → Prop) → Prop
  | [.dct ds], k => k (.fr (.lst (ds.map fun p => kyD p.1)))
  | _, _ => False
/-- list(text) -/
def listSF : List D → (R → Prop) → Prop
  | [.str x], k => k (.fr (.lst (x.map fun c => .str [c])))
  | _, _ => False
end DL

set_option linter.all false
set_option autoImplicit false
set_option maxRecDepth 100000
/-! DLR: tuples joined, cut, repeated; lists and dicts of own lists, changed in their place. -/
namespace DL
/-- x + y of tuples (one of them may come back as it is) -/
def catTD : D → D → (R → Prop) → Prop
  | .tup a, .tup b, k => a.length + b.length ≤ maxTx ∧ ∀ r : R, r.d = .tup (a ++ b) → k r
  | _, _, _ => False
/-- x * n of a tuple -/
def repTD : D → D → (R → Prop) → Prop
  | .tup a, .int n, k => (a ≠ [] ∧ 1 ≤ n ∧ n ≤ 1000 ∧ a.length ≤ 1000) ∧ ∀ r : R, r.d = .tup (List.replicate n.toNat a).flatten → k r
  | _, _, _ => False
/-- x[lo:hi] of a tuple -/
def dSlT (f : DE) (lo hi : Option DE) : DE := fun ρ Q E => f ρ (fun r ρ1 => dPart lo ρ1 (fun l ρ2 => dPart hi ρ2 (fun h ρ3 => match r.d with
  | .tup xs => ∀ t : R, t.d = .tup (cut xs l h) → Q t ρ3
  | _ => False) E) E) E
end DL
namespace DL
/-- x[n].append(e): one of x's own lists -/
def sAppAt (i : Nat) (g f : DE) : DS := fun D ρ _ => match ρ.at i with
  | .ownT (.lst xs) => g (ρ.map Slot.calm) (fun ri _ => ri.d.flat = true ∧ ∃ n j ys, ri.d = .int n ∧ ixN xs.length n = some j ∧ xs[j]? = some (.prt (.lst ys)) ∧
    f (ρ.map Slot.calm) (fun r _ => r.d.flat = true ∧ ys.length < maxTx ∧ D.nx (ρ.set i (.ownT (.lst (xs.set j (.prt (.lst (ys ++ [r.d]))))))) ) noE) noE
  | _ => False
/-- the first entry with a key, changed -/
def updD : List (Ky × D) → Ky → D → List (Ky × D)
  | [], _, _ => []
  | (k', d') :: r, k, d => if k' = k then (k', d) :: r else (k', d') :: updD r k d
/-- d[k].append(e): one of d's own lists -/
def sAppAtK (i : Nat) (g f : DE) : DS := fun D ρ _ => match ρ.at i with
  | .ownT (.dct ds) => g (ρ.map Slot.calm) (fun ri _ => ri.d.flat = true ∧ ∃ ky ys, kyOf ri.d = some ky ∧ lookD ds ky = some (.prt (.lst ys)) ∧
    f (ρ.map Slot.calm) (fun r _ => r.d.flat = true ∧ ys.length < maxTx ∧ D.nx (ρ.set i (.ownT (.dct (updD ds ky (.prt (.lst (ys ++ [r.d]))))))) ) noE) noE
  | _ => False
/-- d[k].pop(0) of one of d's own lists -/
def dPopAtK (i : Nat) (g : DE) : DE := fun ρ Q _ => match ρ.at i with
  | .ownT (.dct ds) => g (ρ.map Slot.calm) (fun ri _ => ri.d.flat = true ∧ ∃ ky y ys, kyOf ri.d = some ky ∧ lookD ds ky = some (.prt (.lst (y :: ys))) ∧
    Q (.fz y) (ρ.set i (.ownT (.dct (updD ds ky (.prt (.lst ys))))))) noE
  | _ => False
def Slot.dctT : Slot → Option (List (Ky × D))
  | .own (.dct ds) => some ds
  | .ownT (.dct ds) => some ds
  | _ => none
/-- e not in d.setdefault(k, []): flat things in d's own lists -/
def tNinSet (i : Nat) (f g : DE) : DT := fun ρ Q _ => (∃ ds, (ρ.at i).dctT = some ds) ∧ f (ρ.map Slot.calm) (fun r _ => r.d.flat = true ∧ r.d.flat = true ∧ g (ρ.map Slot.calm) (fun rk _ => rk.d.flat = true ∧ ∃ ky ds, (ρ.at i).dctT = some ds ∧ kyOf rk.d = some ky ∧ ds.length < maxTx ∧ (match lookD ds ky with
  | none => Q true (ρ.set i (.ownT (.dct (ds ++ [(ky, .prt (.lst []))]))))
  | some (.prt (.lst ys)) => ys.all D.flat = true ∧ Q (!(ys.any fun y => D.eqv y r.d)) ρ
  | _ => False)) noE) noE
end DL
namespace DL
def lcLP (vs : List Nat) (g : DG) (t : DT) (e : DE) (Q : List D → Env → Prop) : List D → List D → Env → Prop
  | [], acc, ρ => Q acc ρ
  | x :: xs, acc, ρ => g x ρ fun ρ1 => t ρ1 (fun b ρ2 => if b = true then e ρ2 (fun r ρ3 => ∃ d, r.kid = some d ∧ acc.length < maxTx ∧ lcLP vs g t e Q xs (acc ++ [d]) (wipeE vs ρ3)) noE
    else lcLP vs g t e Q xs acc (wipeE vs ρ2)) noE
/-- [e for ..], the items' new things its parts -/
def dLcP (vs : List Nat) (it : DI) (g : DG) (t : DT) (e : DE) : DE := fun ρ Q E => it ρ (fun xs ρ1 => (∀ i ∈ vs, ∀ d, ρ1.at i ≠ .own d) ∧
  lcLP vs g t e (fun acc ρ2 => Q (.ft (.lst acc)) (backE vs ρ1 ρ2)) xs [] (wipeE vs ρ1)) E
end DL
namespace DL
/-- a new dict: its entries, once its parts are settled -/
def R.dctN : R → Option (List (Ky × D))
  | .fr (.dct ds) => some ds
  | .ft (.dct ds) => some (ds.map fun p => (p.1, p.2.unm))
  | _ => none
/-- [e for .. in .. for .. in f().items()], the inner dict a new one -/
def lc2L (vs vs1 : List Nat) (g : DG) (t : DT) (f : DE) (xf : List (Ky × D) → List D) (g1 : DG) (t1 : DT) (e : DE) (Q : List D → Env → Prop) : List D → List D → Env → Prop
  | [], acc, ρ => Q acc ρ
  | x :: xs, acc, ρ => g x ρ fun ρ1 => t ρ1 (fun b ρ2 => if b = true then f ρ2 (fun r ρ3 => ∃ ds, r.dctN = some ds ∧
      lcL vs1 g1 t1 e (fun acc' ρ4 => lc2L vs vs1 g t f xf g1 t1 e Q xs acc' (wipeE vs ρ4)) (xf ds) acc (wipeE vs1 ρ3)) noE
    else lc2L vs vs1 g t f xf g1 t1 e Q xs acc (wipeE vs ρ2)) noE
def dLc2 (vs vs1 : List Nat) (it : DI) (g : DG) (t : DT) (f : DE) (xf : List (Ky × D) → List D) (g1 : DG) (t1 : DT) (e : DE) : DE := fun ρ Q E => it ρ (fun xs ρ1 => (∀ i ∈ vs, ∀ d, ρ1.at i ≠ .own d) ∧
  lc2L vs vs1 g t f xf g1 t1 e (fun acc ρ2 => Q (.fr (.lst acc)) (backE vs ρ1 ρ2)) xs [] (wipeE vs ρ1)) E
end DL
namespace DL
/-- x[k] op= e, x the name's own dict -/
def sAugK (i : Nat) (op : D → D → (R → Prop) → Prop) (g f : DE) : DS := fun D ρ E => ownK (ρ.at i) = true ∧ g ρ (fun s ρ1 => match ρ1.at i with
  | .own (.dct ds) => ∃ ky d, kyOf s.d = some ky ∧ lookD ds ky = some d ∧ ds.length < maxTx ∧ f ρ1 (fun r ρ2 => ρ2.at i = .own (.dct ds) ∧ op d r.d fun t => D.nx (ρ2.set i (.own (.dct (putD ds ky t.d))))) E
  | _ => False) E
/-- sorted(d, reverse=True), the keys texts -/
def dSrtRev (f : DE) : DE := fun ρ Q E => f ρ (fun r ρ1 => match r.d with
  | .dct ds => (ds.all (fun p => p.1.isT) = true ∧ ds.length ≤ maxTx) ∧ Q (.fr (.lst ((srtT (ds.map fun p => kyT p.1)).reverse.map D.str))) ρ1
  | _ => False) E
end DL
namespace DL
/-- return of an own dict, its lists its parts -/
def sRetTK (i : Nat) (M : List Nat) : DS := fun D ρ _ => (M.all fun k => (ρ.at k).isOwn) = true ∧ ∃ ds, (ρ.at i).dctT = some ds ∧ D.rt (.ft (.dct ds)) (ρ.set i .no)
end DL
namespace DL
/-- sorted(d), the keys ints -/
def sortedKIF : List D → (R → Prop) → Prop
  | [.dct ds], k => ∃ ns : List Int, ds.map (·.1) = ns.map Ky.int ∧ ns.length < 64 ∧ k (.fr (.lst ((srtI ns).map D.int)))
  | _, _ => False
end DL

set_option linter.all false
set_option autoImplicit false
set_option maxRecDepth 100000
/-! DLV: texts cut at a sign, read as numbers; every second item; an own list moved into another; what is never reached. -/
namespace DL
/-- the pieces between the signs s -/
def splT (s : Nat) : Tx → Tx → List Tx
  | acc, [] => [acc]
  | acc, c :: r => if c = s then acc :: splT s [] r else splT s (acc ++ [c]) r
def splitM (a : Tx) : List D → (R → Prop) → Prop
  | [.str [s]], k => a.length + 2 ≤ maxTx ∧ s < 256 ∧ k (.fr (.lst ((splT s [] a).map .str)))
  | _, _ => False
/-- what stands ahead of the first s, and behind it -/
def parT (s : Nat) : Tx → Tx → Option (Tx × Tx)
  | _, [] => none
  | acc, c :: r => if c = s then some (acc, r) else parT s (acc ++ [c]) r
def partL (s : Nat) (a : Tx) : List Tx := match parT s [] a with
  | some (p, r) => [p, [s], r]
  | none => [a, [], []]
def partM (a : Tx) : List D → (R → Prop) → Prop
  | [.str [s]], k => a.length ≤ maxTx ∧ s < 256 ∧ k (.fr (.tup ((partL s a).map .str)))
  | _, _ => False
def digV (x : Tx) : Nat := x.foldl (fun a c => a * 10 + (c - 48)) 0
/-- int(x) of a text of digits -/
def intTF : List D → (R → Prop) → Prop
  | [.str x], k => (x ≠ [] ∧ (∀ c ∈ x, 48 ≤ c ∧ c ≤ 57) ∧ x.length ≤ 640) ∧ k (.fz (.int (digV x : Int)))
  | _, _ => False
def evT {α : Type} : List α → List α
  | [] => []
  | [a] => [a]
  | a :: _ :: r => a :: evT r
/-- x[k::2] of a short list -/
def dStp (k : Nat) (f : DE) : DE := fun ρ Q E => f ρ (fun r ρ1 => match r.d with
  | .lst xs => xs.length ≤ 8 ∧ Q (.fr (.lst (evT (xs.drop k)))) ρ1
  | _ => False) E
/-- a name's own list leaves the name -/
def dTake (i : Nat) : DE := fun ρ Q _ => match ρ.at i with
  | .own d => Q (.fr d) (ρ.set i .no)
  | _ => False
def dNo : DE := fun _ _ _ => False
def sNo : DS := fun _ _ _ => False
/-- try: body / except c as the name at i: raise c2(n) from it -/
def sTryF (i c c2 : Nat) (n : Int) (fb : DS) : DS := fun D ρ E => fb D ρ (fun x ρ1 => if x.cls = c then i < ρ1.length ∧ E ⟨c2, .int n⟩ (ρ1.set i .no) else E x ρ1)
/-- every s becomes z -/
def repS (s : Nat) (z : Tx) : Tx → Tx
  | [] => []
  | c :: r => if c = s then z ++ repS s z r else c :: repS s z r
/-- x.replace(s, z), x a name -/
def dRep (i : Nat) (y z : Tx) : DE := fun ρ Q _ => match ρ.at i, y with
  | .fz (.str a), [s] => (a.length + (a.length + 1) * z.length ≤ maxTx ∧ s < 256 ∧ ∀ c ∈ z, c < 256) ∧ Q (.fz (.str (repS s z a))) ρ
  | _, _ => False
/-- x.update(d): dicts with tuples as keys -/
def mergeT (a b : List (List Ky × D)) : List (List Ky × D) := b.foldl (fun acc p => putT acc p.1 p.2) a
def sUpdT (i : Nat) (f : DE) : DS := fun D ρ E => ownKT (ρ.at i) = true ∧ f ρ (fun r ρ1 => match ρ1.at i, r.d with
  | .own (.dcT as), .dcT bs => (as ≠ [] ∨ bs.length ≤ 1) ∧ as.length + bs.length ≤ maxTx ∧ D.nx (ρ1.set i (.own (.dcT (mergeT as bs))))
  | _, _ => False) E
/-- {} as a dict with tuples as keys; d[k] of one's own -/
def dDct0T : DE := fun ρ Q _ => Q (.fr (.dcT [])) ρ
def dIxKT (i : Nat) (g : DE) : DE := fun ρ Q E => ownKT (ρ.at i) = true ∧ g ρ (fun s ρ1 => match ρ1.at i with
  | .own (.dcT ds) => ∃ xs ks, s.d = .tup xs ∧ kysOf xs = some ks ∧ ∃ d, lookT ds ks = some d ∧ Q (.fz d) ρ1
  | _ => False) E
/-- x * n of a tuple, n may be 0 -/
def repZD : D → D → (R → Prop) → Prop
  | .tup a, .int n, k => (a ≠ [] ∧ 0 ≤ n ∧ n ≤ 1000 ∧ a.length ≤ 1000) ∧ ∀ r : R, r.d = .tup (List.replicate n.toNat a).flatten → k r
  | _, _, _ => False
/-- d != {}, the keys tuples -/
def neEmp : D → D → (R → Prop) → Prop
  | .dcT a, .dct [], k => k (.fz (.bl (!a.isEmpty)))
  | _, _, _ => False
/-- d.items(), d itself, walked over: dicts with tuples as keys -/
def iWkT (f : DE) (xs : List (List Ky × D) → List D) : DI := fun ρ Q E => f ρ (fun r ρ1 => match r.d with
  | .dcT ds => Q (xs ds) ρ1
  | _ => False) E
def itmT (ds : List (List Ky × D)) : List D := ds.map fun p => .tup [.tup (p.1.map kyD), p.2]
def keyT (ds : List (List Ky × D)) : List D := ds.map fun p => .tup (p.1.map kyD)
/-- sorted(d) of a dict whose keys are tuples of ints: some order of them -/
def dSrtKT (f : DE) : DE := fun ρ Q E => f ρ (fun r ρ1 => match r.d with
  | .dcT ds => ∃ ns : List (List Int), ds.map (·.1) = ns.map (List.map Ky.int) ∧ (∀ n ∈ ns, n ≠ []) ∧ ∀ L : List (List Int), L.Perm ns → Q (.fr (.lst (L.map fun n => .tup (n.map .int)))) ρ1
  | _ => False) E
end DL

set_option linter.all false
set_option autoImplicit false
set_option maxRecDepth 100000
namespace DL
/-- x.pop() of one's own list -/
def dPopN (i : Nat) : DE := fun ρ Q _ => match ρ.at i with
  | .own (.lst xs) => ∃ ys y, xs = ys ++ [y] ∧ Q (.fz y) (ρ.set i (.own (.lst ys)))
  | _ => False
/-- x.f[k] = e, the part x.f a dict with tuples as keys, k a name -/
def sPutFT (i c j kx : Nat) (f : DE) : DS := fun D ρ E => f ρ (fun r ρ1 => match ρ1.at i, ρ1.at kx with
  | .ownT (.obj c' fs), .fz (.tup xs) => c' = c ∧ ∃ ds ks, fs[j]? = some (.prt (.dcT ds)) ∧ kysOf xs = some ks ∧ ds.length < maxTx ∧ D.nx (ρ1.set i (.ownT (.obj c (putL fs j (.prt (.dcT (putT ds ks r.d)))))))
  | _, _ => False) E
/-- x.f, x a name that keeps its own object with parts, the field no part -/
def dFldP (i c j : Nat) : DE := fun ρ Q _ => match ρ.at i with
  | .ownT (.obj c' fs) => c' = c ∧ ∃ d, fs[j]? = some d ∧ d.isPrt = false ∧ Q (.fz d) ρ
  | .own (.obj c' fs) => c' = c ∧ ∃ d, fs[j]? = some d ∧ Q (.fz d) ρ
  | .fz (.obj c' fs) => c' = c ∧ ∃ d, fs[j]? = some d ∧ Q (.fz d) ρ
  | _ => False
/-- x.f[k], x.f a dict with tuples as keys, its object's part or settled, k a name -/
def dIxFT (i c j kx : Nat) : DE := fun ρ Q _ => match ρ.at i, ρ.at kx with
  | .ownT (.obj c' fs), .fz (.tup xs) => c' = c ∧ ∃ ds ks d, fs[j]? = some (.prt (.dcT ds)) ∧ kysOf xs = some ks ∧ lookT ds ks = some d ∧ Q (.fz d) ρ
  | .fz (.obj c' fs), .fz (.tup xs) => c' = c ∧ ∃ ds ks d, fs[j]? = some (.dcT ds) ∧ kysOf xs = some ks ∧ lookT ds ks = some d ∧ Q (.fz d) ρ
  | _, _ => False
/-- sorted(x.f, key=lambda k: (sum(k), k)), x.f a part, its keys tuples of ints -/
def dSrtFS (i c j : Nat) : DE := fun ρ Q _ => match ρ.at i with
  | .ownT (.obj c' fs) => c' = c ∧ ∃ ds, ∃ ns : List (List Int), fs[j]? = some (.prt (.dcT ds)) ∧ ds.map (·.1) = ns.map (List.map Ky.int) ∧
      ∀ L : List (List Int), L.Perm ns → L.Pairwise (fun a b => a.sum ≤ b.sum) → Q (.fr (.lst (L.map fun n => .tup (n.map .int)))) ρ
  | _ => False
/-- sorted(list of lists of ints) -/
def sortedLLF : List D → (R → Prop) → Prop
  | [.lst xs], k => ∃ ns : List (List Int), xs = ns.map (fun n => .lst (n.map .int)) ∧ xs.length ≤ maxTx ∧
      ∀ L : List (List Int), L.Perm ns → L.Pairwise (fun a b => a ≤ b) → k (.fr (.lst (L.map fun n => .lst (n.map .int))))
  | _, _ => False
/-- [e for g in it for g1 in it1 ..], both walks over lists -/
def lc2LI (vs vs1 : List Nat) (g : DG) (t : DT) (it1 : DI) (g1 : DG) (t1 : DT) (e : DE) (Q : List D → Env → Prop) : List D → List D → Env → Prop
  | [], acc, ρ => Q acc ρ
  | x :: xs, acc, ρ => g x ρ fun ρ1 => t ρ1 (fun b ρ2 => if b = true then it1 ρ2 (fun ys ρ3 =>
      lcL vs1 g1 t1 e (fun acc' ρ4 => lc2LI vs vs1 g t it1 g1 t1 e Q xs acc' (wipeE vs ρ4)) ys acc (wipeE vs1 ρ3)) noE
    else lc2LI vs vs1 g t it1 g1 t1 e Q xs acc (wipeE vs ρ2)) noE
def dLc2I (vs vs1 : List Nat) (it : DI) (g : DG) (t : DT) (it1 : DI) (g1 : DG) (t1 : DT) (e : DE) : DE := fun ρ Q E => it ρ (fun xs ρ1 => (∀ i ∈ vs, ∀ d, ρ1.at i ≠ .own d) ∧
  lc2LI vs vs1 g t it1 g1 t1 e (fun acc ρ2 => Q (.fr (.lst acc)) (backE vs ρ1 ρ2)) xs [] (wipeE vs ρ1)) E
/-- {k: e for x in ..}, the keys tuples -/
def dcLT (vs : List Nat) (g : DG) (t : DT) (ek e : DE) (Q : List (List Ky × D) → Env → Prop) : List D → List (List Ky × D) → Env → Prop
  | [], acc, ρ => Q acc ρ
  | x :: xs, acc, ρ => g x ρ fun ρ1 => t ρ1 (fun b ρ2 => if b = true then ek ρ2 (fun rk ρ3 => e ρ3 (fun r ρ4 => ∃ ys k, rk.d = .tup ys ∧ kysOf ys = some k ∧ acc.length < maxTx ∧ dcLT vs g t ek e Q xs (putT acc k r.d) (wipeE vs ρ4)) noE) noE
    else dcLT vs g t ek e Q xs acc (wipeE vs ρ2)) noE
def dDcT (vs : List Nat) (it : DI) (g : DG) (t : DT) (ek e : DE) : DE := fun ρ Q E => it ρ (fun xs ρ1 => (∀ i ∈ vs, ∀ d, ρ1.at i ≠ .own d) ∧
  dcLT vs g t ek e (fun acc ρ2 => Q (.fr (.dcT acc)) (backE vs ρ1 ρ2)) xs [] (wipeE vs ρ1)) E
/-- x.get(k, e) of one's own dict with tuples as keys -/
def dGetNT (i : Nat) (g h : DE) : DE := fun ρ Q E => ownKT (ρ.at i) = true ∧ g ρ (fun s ρ1 => h ρ1 (fun t ρ2 => match ρ2.at i with
  | .own (.dcT ds) => ∃ xs k, s.d = .tup xs ∧ kysOf xs = some k ∧ Q (.fz ((lookT ds k).getD t.d)) ρ2
  | _ => False) E) E
/-- list(d), the keys of d tuples -/
def dLstKT (f : DE) : DE := fun ρ Q E => f ρ (fun r ρ1 => match r.d with
  | .dcT ds => Q (.fr (.lst (ds.map fun p => .tup (p.1.map kyD)))) ρ1
  | _ => False) E
/-- x.update(pairs) of one's own dict -/
def sUpdP (i : Nat) (f : DE) : DS := fun J ρ E => ownK (ρ.at i) = true ∧ f ρ (fun r ρ1 => match ρ1.at i, r.d with
  | .own (.dct a), .lst xs => ∃ ps : List (Ky × D), xs.map prD = ps.map some ∧ a.length + ps.length ≤ maxTx ∧ J.nx (ρ1.set i (.own (.dct (ps.foldl (fun acc p => putD acc p.1 p.2) a))))
  | _, _ => False) E
end DL

set_option linter.all false
set_option autoImplicit false
set_option maxRecDepth 100000
/-! DGDT: generators, what their parts do (data alone). -/
namespace DL
/-- a generator def by its arguments: what it hands out; what it handed out and then raised -/
abbrev GCon := List Slot → (List D → List Slot → Prop) → (List D → Exc → List Slot → Prop) → Prop
abbrev EKG := List D → Exc → Env → Prop
structure GD where
  nx : List D → Env → Prop
  rt : List D → R → Env → Prop
  bk : List D → Env → Prop := fun _ _ => False
  ct : List D → Env → Prop := fun _ _ => False
def GD.at (J : GD) (ds : List D) : DEnds := ⟨J.nx ds, J.rt ds, J.bk ds, J.ct ds⟩
abbrev DGn := GD → List D → Env → EKG → Prop
def gPlain (f : DS) : DGn := fun J ds ρ Ex => f (J.at ds) ρ (Ex ds)
def gNil : DGn := fun J ds ρ _ => J.nx ds ρ
def gThen (f g : DGn) : DGn := fun J ds ρ Ex => f { J with nx := fun ds' ρ' => g J ds' ρ' Ex } ds ρ Ex
def gYield (f : DE) : DGn := fun J ds ρ Ex => ds.length < maxTx ∧ f ρ (fun r ρ1 => (∃ d, r = .fz d) ∧ J.nx (ds ++ [r.d]) ρ1) (Ex ds)
/-- yield of a new list that is given for good -/
def gYieldR (f : DE) : DGn := fun J ds ρ Ex => ds.length < maxTx ∧ f ρ (fun r ρ1 => (∃ xs, r = .fr (.lst xs)) ∧ J.nx (ds ++ [r.d]) ρ1) (Ex ds)
def gIf (c : DT) (f g : DGn) : DGn := fun J ds ρ Ex => c ρ (fun b ρ1 => if b = true then f J ds ρ1 Ex else g J ds ρ1 Ex) (Ex ds)
def forG (G : DG) (u : DGn) (J : GD) (Ex : EKG) : List D → List D → Env → Prop
  | [], ds, ρ => J.nx ds ρ
  | x :: xs, ds, ρ => G x ρ fun ρ1 => u { nx := fun ds' ρ' => forG G u J Ex xs ds' ρ', ct := fun ds' ρ' => forG G u J Ex xs ds' ρ', bk := J.nx, rt := J.rt } ds ρ1 Ex
def gFor (it : DI) (G : DG) (u : DGn) : DGn := fun J ds ρ Ex => it ρ (fun xs ρ1 => forG G u J Ex xs ds ρ1) (Ex ds)
/-- the body of a generator def, by its arguments -/
def runG (n : Nat) (body : DGn) (args : List Slot) (Q : List D → List Slot → Prop) (E : List D → Exc → List Slot → Prop) : Prop :=
  body { nx := fun ds ρ => Q ds (outsE args.length ρ), rt := fun ds r ρ => r = .fz .non ∧ Q ds (outsE args.length ρ) } [] (startE n args) fun ds x ρ => E ds x (outsE args.length ρ)
/-- for x in g(..): y.append(x) -/
def sForGen (con : GCon) (as : List DA) (i j : Nat) : DS := fun D ρ E => ρ.at j = .own (.lst []) ∧ dAVs as (ρ.set j .no) (fun bs ρ1 => bs.all (AV.ok ρ1) = true ∧
  con (bs.map (avSlot ρ1)) (fun ds outs => D.nx (((backA bs outs ρ1).set i .no).set j (.own (.lst ds)))) (fun ds x outs => E x (((backA bs outs ρ1).set i .no).set j (.own (.lst ds))))) noE
/-- [x for x in g(..)]: the generator raises nothing -/
def dLcGen (con : GCon) (as : List DA) : DE := fun ρ Q E => dAVs as ρ (fun bs ρ1 => bs.all (AV.ok ρ1) = true ∧ con (bs.map (avSlot ρ1)) (fun ds outs => Q (.fr (.lst ds)) (backA bs outs ρ1)) (fun _ _ _ => False)) E
end DL

set_option Elab.async false
set_option linter.all false
set_option autoImplicit false
set_option maxRecDepth 100000
/-! DGA: a generator whose consumer changes its own frame (at L) and its own list (at S) between two items: contexts at other heaps. -/
namespace L2
open PySem PySem.Spec PyProof.Rows GenW
/-- the heap at a call anew: the frame at L has got other names, the list at S may be another -/
structure Reb (φ : Obj → Prop) (L S : Addr) (s0 s1 : Shared) : Prop where
  os : s1.os = s0.os
  gens : s1.gens = s0.gens
  size : s1.heap.objs.size = s0.heap.objs.size
  keep : ∀ b, b ≠ L → b ≠ S → s1.heap.get? b = s0.heap.get? b
  mid : ∃ o, s1.heap.get? L = some o ∧ φ o
  nf : ∀ o, φ o → ∀ vs, o.data ≠ .fields vs
  was : ∃ o, s0.heap.get? L = some o
theorem Reb.trans {φ : Obj → Prop} {L S : Addr} {s0 s1 s2 : Shared} (a : Reb φ L S s0 s1) (b : Reb φ L S s1 s2) : Reb φ L S s0 s2 where
  os := b.os.trans a.os
  gens := b.gens.trans a.gens
  size := b.size.trans a.size
  keep := fun c hc hd => (b.keep c hc hd).trans (a.keep c hc hd)
  mid := b.mid
  nf := b.nf
  was := a.was
theorem Reb.laid {φ : Obj → Prop} {L S : Addr} {s0 : Shared} {o o' : Obj} (u : Obj) (hLS : S ≠ L) (e : s0.heap.get? L = some o) (hf : o'.isFreed = false) (hd : φ o') (nf : ∀ o, φ o → ∀ vs, o.data ≠ .fields vs) : Reb φ L S s0 { s0 with heap := (s0.heap.update L (fun _ => o')).update S (fun _ => u) } where
  os := rfl
  gens := rfl
  size := (Heap.size_update ..).trans (Heap.size_update ..)
  keep := fun b hb hc => (Heap.get?_update_other _ _ (Ne.symm hc)).trans (Heap.get?_update_other _ _ (Ne.symm hb))
  mid := ⟨o', (Heap.get?_update_other _ _ hLS).trans (Heap.get?_update_self (fun _ => o') e hf), hd⟩
  nf := nf
  was := ⟨o, e⟩
theorem Reb.funs {φ : Obj → Prop} {L S : Addr} {s0 s1 : Shared} {base : Heap} (r : Reb φ L S s0 s1) : ∀ {l : List Env}, S ∉ frs l → s0.heap.FunFrames base l → s1.heap.FunFrames base l
  | [], _, _ => trivial
  | env :: rest, hS, h => by
    obtain ⟨hk, ⟨L', o, hf, hn, ho, hd⟩, hr⟩ := h
    have hS2 : S ∉ frs rest ∧ L' ≠ S := by
      unfold frs at hS
      rw [List.filterMap_cons, hf] at hS
      exact ⟨fun z => hS (List.mem_cons_of_mem _ z), fun z => hS (by rw [z]; exact List.mem_cons_self)⟩
    refine ⟨hk, ?_, r.funs hS2.1 hr⟩
    by_cases e : L' = L
    · obtain ⟨o', ho', hd'⟩ := r.mid
      exact ⟨L', o', hf, hn, by rw [e]; exact ho', r.nf o' hd'⟩
    · exact ⟨L', o, hf, hn, (r.keep L' e hS2.2).trans ho, hd⟩
/-- the context at another such heap -/
def Cx.re (X : Cx) (s0 : Shared) (pn : List (Addr × Obj)) (xe : Value → Shared → Prop) : Cx := { X with s_0 := s0, pn := pn, xe := xe }
/-- the consumer's frame and list, for the generator's context -/
structure Away (X : Cx) (L S : Addr) : Prop where
  mid : L ∈ X.fs
  cellL : ∀ x c, X.env.cells.lookup x = some c → c ≠ L
  base : X.base.get? S = none
  fs : S ∉ X.fs
  loc : S ≠ X.env.locals
  cellS : ∀ x c, X.env.cells.lookup x = some c → c ≠ S
theorem Away.ne {X : Cx} {L S : Addr} (w : Away X L S) : S ≠ L := fun z => w.fs (by rw [z]; exact w.mid)
theorem Cx.Ok.re {φ : Obj → Prop} {X : Cx} {s0 : Shared} {L S : Addr} {pn : List (Addr × Obj)} {xe : Value → Shared → Prop} (ok : X.Ok) (r : Reb φ L S X.s_0 s0) (w : Away X L S) : (X.re s0 pn xe).Ok where
  mod := ok.mod
  kind := ok.kind
  glob := ok.glob
  blt := ok.blt
  above := by show s0.heap.objs.size ≤ _; rw [r.size]; exact ok.above
  inj := ok.inj
  has := ok.has
  cab := fun x c h e => by show s0.heap.objs.size ≤ _; rw [r.size]; exact ok.cab x c h e
  hd := ok.hd
  frames := ok.frames
  stk := ok.stk
  exf := ok.exf
  bs := fun b o e => by
    have e : X.base.get? b = some o := e
    have hb : b ≠ L := fun z => by
      have h := (ok.funs.mem w.mid).1
      rw [← z, e] at h
      cases h
    have hb2 : b ≠ S := fun z => by
      have h := w.base
      rw [← z, e] at h
      cases h
    exact ⟨(r.keep b hb hb2).trans (ok.bs b o e).1, (ok.bs b o e).2⟩
  bsz := by show _ ≤ s0.heap.objs.size; rw [r.size]; exact ok.bsz
  noex := ok.noex
  exfs := ok.exfs
  funs := r.funs w.fs ok.funs
  frf := ok.frf
theorem Inv.midFree {X : Cx} {pins : List (Addr × Obj)} {σ : L2.St} {H : Hp} {s : Shared} (I : Inv X pins σ H s) {L : Addr} (hL : L ∈ X.fs) : H L = none ∧ L ≠ X.env.locals ∧ ∃ o, X.s_0.heap.get? L = some o := by
  obtain ⟨_, o, ho, _⟩ := I.ok.funs.mem hL
  refine ⟨I.base.free L o ho (I.ok.frf L hL) fun z => I.ok.exfs L z hL, fun z => ?_, o, ho⟩
  have h1 := Heap.lt_size ho
  have h2 := I.ok.above
  rw [← z] at h2
  exact absurd (Nat.lt_of_lt_of_le h1 h2) (Nat.lt_irrefl _)
/-- the same at another heap: the consumer's frame and list have changed, and what is the consumer's own (cs) -/
theorem Inv.reb {φ : Obj → Prop} {X : Cx} {pins : List (Addr × Obj)} {σ : L2.St} {H : Hp} {s s' : Shared} {s0 : Shared} {L S : Addr} {xe : Value → Shared → Prop} {cs : Addr → Prop} (I : Inv X pins σ H s) (w : Away X L S) (hS : H S = none) (hpS : ∀ p ∈ X.pn ++ pins, p.1 ≠ S ∧ ¬ cs p.1) (r : Reb φ L S X.s_0 s0)
    (hcs : ∀ c, cs c → (X.s_0.heap.get? c = none ∧ c ≠ S) ∧ H c = none ∧ c ≠ X.env.locals ∧ ∀ x k, X.env.cells.lookup x = some k → k ≠ c)
    (os : s'.os = s.os) (bare : AllBare s'.gens) (keep : ∀ b o, b ≠ L → b ≠ S → ¬ cs b → s.heap.get? b = some o → s'.heap.get? b = some o) (mid : s'.heap.get? L = s0.heap.get? L) (lst : ∀ o, s0.heap.get? S = some o → s'.heap.get? S = some o)
    (there : ∀ o, X.s_0.heap.get? S = some o → ∃ o', s0.heap.get? S = some o') : Inv (X.re s0 X.pn xe) pins σ H s' := by
  have hL := w.mid
  obtain ⟨hH, hne, oL, hoL⟩ := I.midFree hL
  have old : ∀ {b : Addr} {o : Obj}, s0.heap.get? b = some o → ¬ cs b := fun {b o} e z => by
    obtain ⟨⟨h1, h2⟩, _⟩ := hcs b z
    by_cases hbL : b = L
    · rw [hbL, hoL] at h1; cases h1
    · rw [r.keep b hbL h2, h1] at e; cases e
  refine ⟨I.ok.re r w, os.trans (I.os.trans r.os.symm), bare, ⟨fun b o e n hb hx => ?_, fun b o e n hb hx => ?_, fun b o e n hx => ?_, fun b o e hx => ?_, I.base.tups, I.base.frzs, I.base.tbls⟩, ?_, fun x c e => ?_, I.free, I.freeC, fun p hp => ?_, fun b u q => ?_, I.len⟩
  · have hbL : b ≠ L := fun z => hb (by rw [z]; exact hL)
    have e : s0.heap.get? b = some o := e
    have hbc := old e
    by_cases hbS : b = S
    · subst hbS; exact lst o e
    · rw [r.keep b hbL hbS] at e
      exact keep b o hbL hbS hbc (I.base.keep b o e n hb hx)
  · have e : s0.heap.get? b = some o := e
    have hbS : b ≠ S := fun z => w.fs (by rw [← z]; exact hb)
    have hbc := old e
    by_cases hbL : b = L
    · subst hbL
      exact ⟨o.slots, by rw [mid, e]⟩
    · rw [r.keep b hbL hbS] at e
      obtain ⟨sl, z⟩ := I.base.slot b o e n hb hx
      exact ⟨sl, keep b _ hbL hbS hbc z⟩
  · have e : s0.heap.get? b = some o := e
    by_cases hbL : b = L
    · rw [hbL]; exact hH
    · by_cases hbS : b = S
      · rw [hbS]; exact hS
      · rw [r.keep b hbL hbS] at e
        exact I.base.free b o e n hx
  · have e : s0.heap.get? b = some o := e
    have hbc := old e
    by_cases hbL : b = L
    · subst hbL
      exact ⟨o, by rw [mid, e]⟩
    · by_cases hbS : b = S
      · subst hbS; exact ⟨o, lst o e⟩
      · rw [r.keep b hbL hbS] at e
        obtain ⟨o', z⟩ := I.base.there b o e hx
        exact ⟨o', keep b o' hbL hbS hbc z⟩
  · obtain ⟨m, ⟨o, es, ep, ho, rest⟩, hl⟩ := I.loc
    refine ⟨m, ⟨o, es, ep, keep _ o (Ne.symm hne) (Ne.symm w.loc) (fun z => (hcs _ z).2.2.1 rfl) ho, rest⟩, fun i x v e1 e2 e3 => ?_⟩
    obtain ⟨u, rv, l⟩ := hl i x v e1 e2 e3
    refine ⟨u, rv, ?_⟩
    rcases l with l | ⟨k, c, e, oc, hoc, hdc⟩
    · exact .inl l
    · exact .inr ⟨k, c, e, oc, keep c oc (w.cellL x c e) (w.cellS x c e) (fun z => (hcs _ z).2.2.2 x c e rfl) hoc, hdc⟩
  · obtain ⟨v, oc, hoc, hdc⟩ := I.cell x c e
    exact ⟨v, oc, keep c oc (w.cellL x c e) (w.cellS x c e) (fun z => (hcs _ z).2.2.2 x c e rfl) hoc, hdc⟩
  · obtain ⟨h1, h2, h3, h4, h5⟩ := I.pin p hp
    exact ⟨keep p.1 p.2 (fun z => h4 (by rw [z]; exact hL)) (hpS p hp).1 (hpS p hp).2 h1, h2, h3, h4, h5⟩
  · have tr : ∀ c, (c = b ∨ H c ≠ none) → c ≠ L ∧ c ≠ S ∧ ¬ cs c := fun c hcc => by
      have hn : H c ≠ none := hcc.elim (fun z => by rw [z, q]; exact fun z => nomatch z) id
      exact ⟨fun z => hn (by rw [z]; exact hH), fun z => hn (by rw [z]; exact hS), fun z => hn (hcs c z).2.1⟩
    refine (I.hok b u q).stay (fun c v hcc y => ?_) (fun _ y => y) fun _ _ y => y
    have hcc' : c = b ∨ H c ≠ none := by
      rcases hcc with y | y
      · exact .inl y
      · exact .inr (by rw [y]; exact fun z => nomatch z)
    exact keep c v (tr c hcc').1 (tr c hcc').2.1 (tr c hcc').2.2 y
/-- other pins, if they are some of these -/
theorem Inv.repin {X : Cx} {s0 : Shared} {pn pn' pins pins' : List (Addr × Obj)} {xe xe' : Value → Shared → Prop} {σ : L2.St} {H : Hp} {s : Shared} (I : Inv (X.re s0 pn xe) pins σ H s) (h : ∀ p ∈ pn' ++ pins', p ∈ pn ++ pins ∨ (s.heap.get? p.1 = some p.2 ∧ H p.1 = none ∧ p.1 ≠ X.env.locals ∧ p.1 ∉ X.fs ∧ ∀ v, p.2.data ≠ .cell v)) : Inv (X.re s0 pn' xe') pins' σ H s :=
  ⟨⟨I.ok.mod, I.ok.kind, I.ok.glob, I.ok.blt, I.ok.above, I.ok.inj, I.ok.has, I.ok.cab, I.ok.hd, I.ok.frames, I.ok.stk, I.ok.exf, I.ok.bs, I.ok.bsz, I.ok.noex, I.ok.exfs, I.ok.funs, I.ok.frf⟩, I.os, I.bare, I.base, I.loc, I.cell, I.free, I.freeC, fun p hp => (h p hp).elim (I.pin p) id, I.hok, I.len⟩
/-- the abstract heap without S -/
def Hm (H : Hp) (S : Addr) : Hp := fun b => if b = S then none else H b
theorem Hm_self (H : Hp) (S : Addr) : Hm H S S = none := if_pos rfl
theorem Hm_ne {H : Hp} {S b : Addr} (h : b ≠ S) : Hm H S b = H b := if_neg h
/-- what S is to a context: nothing of the entry's, or tracked there -/
def Mine (X : Cx) (S : Addr) : Prop := ∀ o, X.s_0.heap.get? S = some o → X.H_0 S = none → S ∈ X.ex
end L2

set_option Elab.async false
set_option linter.all false
set_option autoImplicit false
set_option maxRecDepth 100000
/-! DGB: statements of a generator whose consumer's own frame (at L), its list (at S) and what else is its own (ps) change between two items. -/
namespace L2
open PySem PySem.Spec PyProof.Rows GenW
/-- an item: a value; with what is in it, where it is a list that is handed over for good -/
abbrev Itm := V × Option (List V)
def frI (y : Itm) (b : Addr) : Prop := y.2.isSome = true ∧ y.1 = V.ref b
/-- what the consumer has made of the items so far: its list, its own objects -/
abbrev Ghost := List Itm → Array Value → List (Addr × Obj) → Prop
/-- between two items the consumer changes the list at S, its own frame's names at L, its own objects, and what it was given for good; it may make others -/
structure Slept2 (φ : Obj → Prop) (S L : Addr) (fr : Addr → Prop) (ps ps' : List (Addr × Obj)) (acc' : Array Value) (c' : Nat) (s s' : Shared) : Prop where
  os : s'.os = s.os
  bare : AllBare s'.gens
  keep : ∀ b o, b ≠ S → b ≠ L → (∀ p ∈ ps, p.1 ≠ b) → ¬ fr b → s.heap.get? b = some o → s'.heap.get? b = some o
  lst : s'.heap.get? S = some (lstObj acc' c')
  mid : ∃ o, s'.heap.get? L = some o ∧ φ o
  pins : ∀ p ∈ ps', s'.heap.get? p.1 = some p.2 ∧ ∀ v, p.2.data ≠ .cell v
  adr : ∀ p ∈ ps', (∃ q ∈ ps, q.1 = p.1) ∨ s.heap.objs.size ≤ p.1 ∨ fr p.1
abbrev XF := Shared → List (Addr × Obj) → Value → Shared → Prop
/-- the context at such a heap, the consumer's list being o -/
def Cx.gx (X : Cx) (xf : XF) (S : Addr) (s0 : Shared) (o : Obj) (ps : List (Addr × Obj)) : Cx := X.re s0 ((S, o) :: (ps ++ X.pn)) (xf s0 ((S, o) :: (ps ++ X.pn)))
/-- where it was woken: the consumer's frame and list as they stood -/
def At0 (X : Cx) (L S : Addr) (s₀ s0 : Shared) (o : Obj) (ps : List (Addr × Obj)) : Prop := s0.heap.get? L = s₀.heap.get? L ∧ s₀.heap.get? S = some o ∧ ((∃ u, X.s_0.heap.get? S = some u) → s0.heap.get? S = some o) ∧ ∀ p ∈ ps, s₀.heap.get? p.1 = some p.2
/-- what is the consumer's own -/
structure Own0 (X : Cx) (S : Addr) (ip : List (Addr × Obj)) (s0 : Shared) (o : Obj) (ps : List (Addr × Obj)) : Prop where
  lst : ∀ u, s0.heap.get? S = some u → u = o
  yng : ∀ q ∈ ps, X.s_0.heap.get? q.1 = none ∧ q.1 ≠ S
  apt : ∀ q ∈ ps, ∀ p ∈ X.pn ++ ip, p.1 ≠ q.1
/-- the generator runs, in one of its contexts; s₀: where it was woken -/
structure FJ (φ : Obj → Prop) (Gh : Ghost) (X : Cx) (xf : XF) (L S : Addr) (ip : List (Addr × Obj)) (ys : List Itm) (σ : L2.St) (H : Hp) (s₀ s s0 : Shared) (acc : Array Value) (c : Nat) (ps : List (Addr × Obj)) : Prop where
  r : Reb φ L S X.s_0 s0
  gh : Gh ys acc ps
  inv : Inv (X.gx xf S s0 (lstObj acc c) ps) ip σ H s
  own : Own0 X S ip s0 (lstObj acc c) ps
  at0 : At0 X L S s₀ s0 (lstObj acc c) ps
def FI (φ : Obj → Prop) (Gh : Ghost) (X : Cx) (xf : XF) (L S : Addr) (ip : List (Addr × Obj)) (ys : List Itm) (σ : L2.St) (H : Hp) (s₀ s : Shared) : Prop :=
  ∃ s0 acc c ps, FJ φ Gh X xf L S ip ys σ H s₀ s s0 acc c ps
section
variable {φ : Obj → Prop} {Gh : Ghost} {X : Cx} {xf : XF} {L S : Addr} {ip : List (Addr × Obj)} {ys : List Itm} {σ : L2.St} {H : Hp} {s₀ s s' s0 : Shared} {y : Itm} {acc acc' : Array Value} {c c' : Nat} {ps ps' : List (Addr × Obj)}
/-- what was given for good is the generator's no longer -/
structure Given (X : Cx) (S : Addr) (ip : List (Addr × Obj)) (H : Hp) (b : Addr) : Prop where
  yng : X.s_0.heap.get? b = none ∧ b ≠ S
  free : H b = none
  loc : b ≠ X.env.locals
  cell : ∀ x k, X.env.cells.lookup x = some k → k ≠ b
  apt : ∀ p ∈ X.pn ++ ip, p.1 ≠ b
theorem FJ.woken (w : Away X L S) (hpn : ∀ p ∈ X.pn, p.1 ≠ S) (hip : ∀ p ∈ ip, p.1 ≠ S) (h : FJ φ Gh X xf L S ip ys σ H s₀ s s0 acc c ps) (hfr : ∀ b, frI y b → Given X S ip H b) (z : Slept2 φ S L (frI y) ps ps' acc' c' s s') (gh : Gh (ys ++ [y]) acc' ps') : FI φ Gh X xf L S ip (ys ++ [y]) σ H s' s' := by
  obtain ⟨r, _, I0, ow, hL0⟩ := h
  obtain ⟨eS, hS, hSl, hSf, hSc⟩ := I0.pin (S, lstObj acc c) (List.mem_append_left _ List.mem_cons_self)
  have pinP : ∀ p ∈ ps, s.heap.get? p.1 = some p.2 ∧ H p.1 = none ∧ p.1 ≠ X.env.locals ∧ p.1 ∉ X.fs ∧ ∀ v, p.2.data ≠ .cell v := fun p hp => I0.pin p (List.mem_append_left _ (List.mem_cons_of_mem _ (List.mem_append_left _ hp)))
  have I : Inv (X.re s0 X.pn fun _ _ => False) ip σ H s := I0.repin fun p hp => .inl ((List.mem_append.mp hp).elim (fun q => List.mem_append_left _ (List.mem_cons_of_mem _ (List.mem_append_right _ q))) fun q => List.mem_append_right _ q)
  have w' : Away (X.re s0 X.pn fun _ _ => False) L S := ⟨w.mid, w.cellL, w.base, w.fs, w.loc, w.cellS⟩
  obtain ⟨_, _, oL0, hoL0⟩ := I.midFree w'.mid
  have hoL0 : s0.heap.get? L = some oL0 := hoL0
  obtain ⟨o', ho', hd'⟩ := z.mid
  have f' : o'.isFreed = false := (Heap.get?_some_iff.mp ho').2
  have eS' := z.lst
  have rr : Reb φ L S s0 { s0 with heap := (s0.heap.update L (fun _ => o')).update S (fun _ => lstObj acc' c') } := Reb.laid _ w.ne hoL0 f' hd' r.nf
  have gS : ∀ o, s0.heap.get? S = some o → ((s0.heap.update L (fun _ => o')).update S (fun _ => lstObj acc' c')).get? S = some (lstObj acc' c') := fun o e =>
    Heap.get?_update_self (fun _ => lstObj acc' c') ((Heap.get?_update_other _ _ (Ne.symm w.ne)).trans e) rfl
  have gN : ∀ o, ((s0.heap.update L (fun _ => o')).update S (fun _ => lstObj acc' c')).get? S = some o → o = lstObj acc' c' := fun o e => by
    cases hq : s0.heap.get? S with
    | some q =>
      rw [gS q hq] at e
      injection e with e
      exact e.symm
    | none =>
      obtain ⟨e1, e2⟩ := Heap.get?_some_iff.mp e
      have e3 : (s0.heap.update L (fun _ => o')).get? S = none := (Heap.get?_update_other _ _ (Ne.symm w.ne)).trans hq
      generalize s0.heap.update L (fun _ => o') = h1 at e1 e3
      obtain ⟨objs, life⟩ := h1
      simp only [Heap.update, Array.getElem?_modify, if_true] at e1
      cases hx : objs[S]? with
      | none => rw [hx] at e1; cases e1
      | some y =>
        rw [hx] at e1
        injection e1 with e1
        exact e1.symm
  have cellP : ∀ p ∈ ps, ∀ x k, X.env.cells.lookup x = some k → k ≠ p.1 := fun p hp x k e q => by
    obtain ⟨v, oc, hoc, hdc⟩ := I.cell x k e
    have := (pinP p hp).1
    rw [← q, hoc] at this
    injection this with this
    exact (pinP p hp).2.2.2.2 _ (by rw [← this]; exact hdc)
  have offs : ∀ b, X.s_0.heap.get? b = none → b ∉ X.fs := fun b h1 z => by
    have z : b ∈ (X.re s0 X.pn fun _ _ => False).fs := z
    obtain ⟨_, o, ho, _⟩ := I.ok.funs.mem z
    have ho : s0.heap.get? b = some o := ho
    by_cases hbL : b = L
    · have wL := w.mid
      obtain ⟨oL', hoL'⟩ : ∃ o, X.s_0.heap.get? L = some o := r.was
      rw [hbL, hoL'] at h1; cases h1
    · rw [r.keep b hbL (fun q => w.fs (by rw [← q]; exact z)), h1] at ho; cases ho
  have gone : ∀ b, X.s_0.heap.get? b = none ∧ b ≠ S → b ∉ X.fs → s0.heap.get? b = none ∧ b ≠ S := fun b h1 h2 => ⟨by rw [r.keep b (fun q => h2 (by rw [q]; exact w.mid)) h1.2]; exact h1.1, h1.2⟩
  have szX : s0.heap.objs.size = X.s_0.heap.objs.size := r.size
  have I3 := Inv.reb (X := X.re s0 X.pn fun _ _ => False) I (s0 := { s0 with heap := (s0.heap.update L (fun _ => o')).update S (fun _ => lstObj acc' c') }) (s' := s') (xe := fun _ _ => False) (cs := fun b => (∃ q ∈ ps, q.1 = b) ∨ frI y b) w' hS
    (fun p hp => ⟨(List.mem_append.mp hp).elim (hpn p) (hip p), fun hc => by
      rcases hc with ⟨q, hq, e⟩ | hc
      · exact ow.apt q hq p hp e.symm
      · exact (hfr _ hc).apt p hp rfl⟩) rr (fun b hc => by
      show (s0.heap.get? b = none ∧ b ≠ S) ∧ _
      rcases hc with ⟨q, hq, e⟩ | hc
      · subst e
        exact ⟨gone _ (ow.yng q hq) (pinP q hq).2.2.2.1, (pinP q hq).2.1, (pinP q hq).2.2.1, cellP q hq⟩
      · exact ⟨gone _ (hfr _ hc).yng (offs _ (hfr _ hc).yng.1), (hfr _ hc).free, (hfr _ hc).loc, (hfr _ hc).cell⟩)
    z.os z.bare (fun b o hb hc hcs e => z.keep b o hc hb (fun p hp q => hcs (.inl ⟨p, hp, q⟩)) (fun q => hcs (.inr q)) e) (by
      rw [ho']
      exact ((Heap.get?_update_other _ _ w.ne).trans (Heap.get?_update_self (fun _ => o') hoL0 f')).symm) (fun o e => by rw [gN o e]; exact eS') fun o e => ⟨_, gS o e⟩
  have szs : X.s_0.heap.objs.size ≤ s.heap.objs.size := by
    have := I.sz
    have : s0.heap.objs.size ≤ s.heap.objs.size := this
    rw [szX] at this
    exact this
  refine ⟨_, acc', c', ps', ⟨r.trans rr, gh, Inv.repin (X := X) (pn := X.pn) (xe := fun _ _ => False) I3 fun p hp => ?_, ⟨gN, fun q hq => ?_, fun q hq p hp => ?_⟩, ?_, eS', fun q => gS _ (hL0.2.2.1 q), fun p hp => (z.pins p hp).1⟩⟩
  · rcases List.mem_append.mp hp with q | q
    · rcases List.mem_cons.mp q with q | q
      · exact .inr (by rw [q]; exact ⟨eS', hS, hSl, hSf, fun v q => by cases q⟩)
      · rcases List.mem_append.mp q with q | q
        · refine .inr ⟨(z.pins p q).1, ?_⟩
          rcases z.adr p q with ⟨q', hq', e⟩ | e | e
          · have := pinP q' hq'
            rw [e] at this
            exact ⟨this.2.1, this.2.2.1, this.2.2.2.1, (z.pins p q).2⟩
          · refine ⟨I.hok.fresh e, fun u => ?_, fun u => ?_, (z.pins p q).2⟩
            · obtain ⟨m, ⟨o, es, ep, ho, _⟩, _⟩ := I.loc
              have h1 := Heap.lt_size ho
              have u : p.1 = X.env.locals := u
              have h1 : X.env.locals < s.heap.objs.size := h1
              rw [← u] at h1
              exact Nat.not_lt_of_le e h1
            · have u : p.1 ∈ X.fs := u
              obtain ⟨_, o, ho, _⟩ := I.ok.funs.mem u
              have h1 := Heap.lt_size ho
              have h1 : p.1 < s0.heap.objs.size := h1
              rw [szX] at h1
              exact Nat.not_lt_of_le (Nat.le_trans szs e) h1
          · have g := hfr _ e
            exact ⟨g.free, g.loc, offs _ g.yng.1, (z.pins p q).2⟩
        · exact .inl (List.mem_append_left _ q)
    · exact .inl (List.mem_append_right _ q)
  · rcases z.adr q hq with ⟨q', hq', e⟩ | e | e
    · rw [← e]; exact ow.yng q' hq'
    · refine ⟨?_, fun u => ?_⟩
      · cases hq : X.s_0.heap.get? q.1 with
        | none => rfl
        | some o => exact absurd (Nat.lt_of_lt_of_le (Heap.lt_size hq) (Nat.le_trans szs e)) (Nat.lt_irrefl _)
      · have h1 := Heap.lt_size eS
        rw [← u] at h1
        exact Nat.not_lt_of_le e h1
    · exact (hfr _ e).yng
  · rcases z.adr q hq with ⟨q', hq', e⟩ | e | e
    · rw [← e]; exact ow.apt q' hq' p hp
    · intro u
      have h1 := Heap.lt_size (I.pin p hp).1
      rw [u] at h1
      exact Nat.not_lt_of_le e h1
    · exact (hfr _ e).apt p hp
  · rw [ho']
    exact (Heap.get?_update_other _ _ w.ne).trans (Heap.get?_update_self (fun _ => o') hoL0 f')
/-! ### the protocol -/
/-- an item that is a list given for good -/
def Handed (z : Shared) (y : Itm) (H : Hp) (h : Heap) (S : Addr) (ps : List (Addr × Obj)) : Prop := ∀ vs, y.2 = some vs → ∃ p its c, y.1 = .ref p ∧ z.heap.get? p = none ∧ h.get? p = some (lstObj its c) ∧ Vals vs its.toList ∧ H p = none ∧ p ≠ S ∧ ∀ q ∈ ps, q.1 ≠ p
def FY (φ : Obj → Prop) (Gh : Ghost) (X : Cx) (xf : XF) (L S : Addr) : Protocol := fun n s₀ v s kap =>
  ∃ ys y ip σ H s0 acc c ps, n + 1 + ys.length = sizeLine ∧ RelV y.1 v ∧ Handed X.s_0 y H s.heap S ps ∧ FJ φ Gh X xf L S ip ys σ H s₀ s s0 acc c ps ∧ ∀ s' acc' c' ps', Slept2 φ S L (frI y) ps ps' acc' c' s s' → Gh (ys ++ [y]) acc' ps' → kap (.send .none) s'
structure GEndsI where
  nx : List Itm → L2.St → Hp → Prop
  rt : List Itm → VK
  bk : List Itm → L2.St → Hp → Prop := fun _ _ _ => False
  ct : List Itm → L2.St → Hp → Prop := fun _ _ _ => False
abbrev TGi := GEndsI → List Itm → L2.St → Hp → Prop
def GEndsI.at (D : GEndsI) (ys : List Itm) : Ends := { nx := D.nx ys, rt := D.rt ys, bk := D.bk ys, ct := D.ct ys }
def FSP (φ : Obj → Prop) (Gh : Ghost) (X : Cx) (xf : XF) (L S : Addr) (ip : List (Addr × Obj)) (D : GEndsI) (ys : List Itm) (f : Flow) (s₀ s : Shared) : Prop :=
  match f with
  | .next => ∃ σ H, FI φ Gh X xf L S ip ys σ H s₀ s ∧ D.nx ys σ H
  | .brk => ∃ σ H, FI φ Gh X xf L S ip ys σ H s₀ s ∧ D.bk ys σ H
  | .cont => ∃ σ H, FI φ Gh X xf L S ip ys σ H s₀ s ∧ D.ct ys σ H
  | .ret u => ∃ v σ H, FI φ Gh X xf L S ip ys σ H s₀ s ∧ RelV v u ∧ D.rt ys v H
/-- what follows -/
structure FK (φ : Obj → Prop) (Gh : Ghost) (X : Cx) (xf : XF) (L S : Addr) (ip : List (Addr × Obj)) (A : Around) (R : GenEnd) (c : Code) (fs : List Frame) (K : Flow → Sem PySem.Fin) (J : Value → Sem PySem.Fin) (D : GEndsI) : Prop where
  ok : ∀ (n : Nat) (ys : List Itm) (s₀ s : Shared) (f : Flow), n + ys.length = sizeLine → FSP φ Gh X xf L S ip D ys f s₀ s → Seg (model X.prog X.w) A R (FY φ Gh X xf L S) n s₀ c (K f) fs s
  exc : ∀ (n : Nat) (ys : List Itm) (s₀ s0 : Shared) (acc : Array Value) (cc : Nat) (ps : List (Addr × Obj)) (e : Value) (s : Shared), Reb φ L S X.s_0 s0 → At0 X L S s₀ s0 (lstObj acc cc) ps → n + ys.length = sizeLine → Gh ys acc ps → xf s0 ((S, lstObj acc cc) :: (ps ++ X.pn)) e s → Seg (model X.prog X.w) A R (FY φ Gh X xf L S) n s₀ c (J e) fs s
end
end L2

set_option Elab.async false
set_option linter.all false
set_option autoImplicit false
set_option maxRecDepth 100000
set_option maxHeartbeats 1000000
/-! DGC: the rules. -/
namespace L2
open PySem PySem.Spec PyProof.Rows GenW
/-! ### a for loop in a generator -/
section
variable {prog : Program} {w : World} {A : Around} {R : GenEnd} {Y : Protocol} {n : Nat} {s₀ s : Shared} {c : Code} {fs : List Frame} {env : Env}
theorem segF_For {tg iter : Expr} {body : List Stmt} {pos : Pos} {K : Flow → Sem PySem.Fin} {J : Value → Sem PySem.Fin} {gd : Bool → Bool} {lv : List Value → List Value}
    (hs : ∀ x, foldedSetIterable iter env x = pure x)
    (h : wpAny (model prog w) (A.over c fs) (eval iter env) (fun v s₁ => wpAny (model prog w) (A.over c fs) (pyIter v) (fun it s₂ => ∀ p,
        Seg (model prog w) A R Y n s₀ (.forLoop tg it body [] env) ((model prog w).den (.forLoop tg it body [] env))
          (.ret (fun r => ((match r with | .ok f => (.pure f : Sem Flow) | .error e => .raise e).onRaise (cameBack env)).wrap K J gd lv) none (gd false) (lv []) c p [] :: fs) s₂)
      (fun x s' => Seg (model prog w) A R Y n s₀ c (J x) fs s') s₁) (fun x s' => Seg (model prog w) A R Y n s₀ c (J x) fs s') s) :
    Seg (model prog w) A R Y n s₀ c ((exec (.For tg iter body [] pos) env).wrap K J gd lv) fs s := by
  rw [exec_For]
  show Seg _ A R Y n s₀ c (.at pos fun _ => (eval iter env >>= fun v => foldedSetIterable iter env v >>= fun x => standAt iter.pos >>= fun _ => holding [x] (pyIter x) >>= fun it => runOwn (.forLoop tg it body [] env) env).wrap K J gd lv) fs s
  refine seg_at ?_
  refine seg_bind_wrap (wpAny_mono h (fun v s₁ h₁ => ?_) fun _ _ h' => h')
  refine seg_bind_wrap (wpAny_of_eq (hs v) ?_)
  refine seg_at ?_
  refine seg_bind_wrap (wpAny_pure ?_)
  refine seg_bind_wrap (wpAny_holding (wpAny_mono h₁ (fun it s₂ h₂ => ?_) fun _ _ h' => h'))
  exact seg_call h₂
/-- what an exception in a loop's turn meets -/
abbrev notedTree (x : Value) (env : Env) : Sem PySem.Fin := (do noteFrame x env; theTreesLotGoes x : Sem Unit).wrap (fun _ => .raise x) .raise id id
theorem segF_forLoop {tg : Expr} {it : Value} {body : List Stmt}
    (h : wpAny (model prog w) (A.over (.forLoop tg it body [] env) fs) (pyNext it) (fun r s₁ => match r with
        | none => Seg (model prog w) A R Y n s₀ (.block [] env) (.pure (.done .next)) fs s₁
        | some v => wpAny (model prog w) (A.over (.forLoop tg it body [] env) fs) (letOwnedTupleGo tg it v) (fun _ s₂ => wpAny (model prog w) (A.over (.forLoop tg it body [] env) fs) (assign tg env v) (fun _ s₃ =>
            Seg (model prog w) A R Y n s₀ (.forLoop tg it body [] env) ((execs body env).wrap (fun f => match f with
              | .next | .cont => .pure (.again (.forLoop tg it body [] env))
              | .brk => .pure (.done .next)
              | .ret v => .pure (.done (.ret v))) (fun e => notedTree e env) id id) fs s₃)
          (fun x s' => Seg (model prog w) A R Y n s₀ (.forLoop tg it body [] env) (notedTree x env) fs s') s₂) (fun x s' => Seg (model prog w) A R Y n s₀ (.forLoop tg it body [] env) (notedTree x env) fs s') s₁)
      (fun x s' => Seg (model prog w) A R Y n s₀ (.forLoop tg it body [] env) (notedTree x env) fs s') s) :
    Seg (model prog w) A R Y n s₀ (.forLoop tg it body [] env) ((model prog w).den (.forLoop tg it body [] env)) fs s := by
  show Seg _ A R Y n s₀ _ ((forTurn tg it body [] env).onRaise (fun x => do noteFrame x env; theTreesLotGoes x)) fs s
  unfold forTurn
  rw [Sem.onRaise_eq_wrap]
  show Seg _ A R Y n s₀ _ (.at tg.pos fun _ => (((pyNext it).onRaise (fun _ => standAt { tg.pos with line := 0 }) >>= _).wrap _ _ _ _)) fs s
  refine seg_at ?_
  refine seg_bind_wrap (wpAny_onRaise (wpAny_mono h (fun r s₁ h₁ => ?_) fun x s' h' => wpAny_standAt ?_))
  · cases r with
    | none =>
      refine seg_again rfl ?_
      exact h₁
    | some v =>
      refine seg_bind_wrap (wpAny_mono h₁ (fun _ s₂ h₂ => ?_) fun x s' h' => ?_)
      · refine seg_bind_wrap (wpAny_mono h₂ (fun _ s₃ h₃ => ?_) fun x s' h' => ?_)
        · rw [Sem.bind_eq_wrap', Sem.wrap_wrap]
          rw [Sem.wrap_congr (execs body env) _ _ (K' := fun f => match f with
              | .next | .cont => .pure (.again (.forLoop tg it body [] env))
              | .brk => .pure (.done .next)
              | .ret v => .pure (.done (.ret v))) (H' := fun e => notedTree e env) (fun f => by cases f <;> rfl)
            (fun e => by show (do noteFrame e env; theTreesLotGoes e : Sem Unit).bind (fun _ => .raise e) = _; rw [Sem.bind_eq_wrap])]
          exact h₃
        · show Seg _ A R Y n s₀ _ ((do noteFrame x env; theTreesLotGoes x : Sem Unit).bind fun _ => .raise x) fs s'
          rw [Sem.bind_eq_wrap]
          exact h'
      · show Seg _ A R Y n s₀ _ ((do noteFrame x env; theTreesLotGoes x : Sem Unit).bind fun _ => .raise x) fs s'
        rw [Sem.bind_eq_wrap]
        exact h'
  · show Seg _ A R Y n s₀ _ ((do noteFrame x env; theTreesLotGoes x : Sem Unit).bind fun _ => .raise x) fs s'
    rw [Sem.bind_eq_wrap]
    exact h'
end
/-! ### statements, in all contexts of the generator -/
/-- where the generator's code stands -/
structure FC (X : Cx) (L S : Addr) (ip : List (Addr × Obj)) (A : Around) (c : Code) (fs : List Frame) (gd : Bool → Bool) : Prop where
  pn : ∀ p ∈ X.pn, p.1 ≠ S
  ip : ∀ p ∈ ip, p.1 ≠ S
  away : Away X L S
  over : A.over c fs = X.A
  split : splitAtGen fs = none
  guard : fs.any Frame.guarded = false
  gd : gd false = false
structure FS (φ : Obj → Prop) (Gh : Ghost) (X : Cx) (xf : XF) (L : Addr) (st : Stmt) (t : TGi) : Prop where
  run : ∀ (A : Around) (S : Addr) (ip : List (Addr × Obj)) (R : GenEnd) (n : Nat) (ys : List Itm) (s₀ : Shared) (c : Code) (fs : List Frame) (K : Flow → Sem PySem.Fin) (J : Value → Sem PySem.Fin) (gd : Bool → Bool) (lv : List Value → List Value) (s : Shared) (σ : L2.St) (H : Hp) (D : GEndsI),
    FC X L S ip A c fs gd → n + ys.length = sizeLine → FK φ Gh X xf L S ip A R c fs K J D → FI φ Gh X xf L S ip ys σ H s₀ s → t D ys σ H →
    Seg (model X.prog X.w) A R (FY φ Gh X xf L S) n s₀ c ((exec st X.env).wrap K J gd lv) fs s
structure FSs (φ : Obj → Prop) (Gh : Ghost) (X : Cx) (xf : XF) (L : Addr) (st : List Stmt) (t : TGi) : Prop where
  run : ∀ (A : Around) (S : Addr) (ip : List (Addr × Obj)) (R : GenEnd) (n : Nat) (ys : List Itm) (s₀ : Shared) (c : Code) (fs : List Frame) (K : Flow → Sem PySem.Fin) (J : Value → Sem PySem.Fin) (gd : Bool → Bool) (lv : List Value → List Value) (s : Shared) (σ : L2.St) (H : Hp) (D : GEndsI),
    FC X L S ip A c fs gd → n + ys.length = sizeLine → FK φ Gh X xf L S ip A R c fs K J D → FI φ Gh X xf L S ip ys σ H s₀ s → t D ys σ H →
    Seg (model X.prog X.w) A R (FY φ Gh X xf L S) n s₀ c ((execs st X.env).wrap K J gd lv) fs s
section
variable {φ : Obj → Prop} {Gh : Ghost} {X : Cx} {xf : XF} {L : Addr} {st : Stmt} {rest : List Stmt} {e : Expr} {yp pos : Pos}
/-- a plain run, of what is fixed in it -/
theorem FJ.next {S : Addr} {s0 : Shared} {acc : Array Value} {c : Nat} {ps ip : List (Addr × Obj)} {s₀ s s' : Shared} {ys : List Itm} {σ σ' : L2.St} {H H' : Hp} (h : FJ φ Gh X xf L S ip ys σ H s₀ s s0 acc c ps) (I : Inv (X.gx xf S s0 (lstObj acc c) ps) ip σ' H' s') : FJ φ Gh X xf L S ip ys σ' H' s₀ s' s0 acc c ps := ⟨h.r, h.gh, I, h.own, h.at0⟩
theorem sp_fsp {S : Addr} {s0 : Shared} {acc : Array Value} {c : Nat} {ps ip : List (Addr × Obj)} {s₀ s s1 : Shared} {D : GEndsI} {ys : List Itm} {f : Flow} {σ1 : L2.St} {H1 : Hp} (j : FJ φ Gh X xf L S ip ys σ1 H1 s₀ s1 s0 acc c ps) (h : SP (X.gx xf S s0 (lstObj acc c) ps) ip (D.at ys) f s) : FSP φ Gh X xf L S ip D ys f s₀ s := by
  cases f with
  | next => obtain ⟨σ, H, I, q⟩ := h; exact ⟨σ, H, ⟨s0, acc, c, ps, j.next I⟩, q⟩
  | brk => obtain ⟨σ, H, I, q⟩ := h; exact ⟨σ, H, ⟨s0, acc, c, ps, j.next I⟩, q⟩
  | cont => obtain ⟨σ, H, I, q⟩ := h; exact ⟨σ, H, ⟨s0, acc, c, ps, j.next I⟩, q⟩
  | ret u => obtain ⟨v, σ, H, I, r1, q⟩ := h; exact ⟨v, σ, H, ⟨s0, acc, c, ps, j.next I⟩, r1, q⟩
/-- a statement that hands out nothing -/
def tPlainF (t : List Itm → TS) : TGi := fun D ys σ H => t ys (D.at ys) σ H
theorem fs_ps {t : List Itm → TS} (h : ∀ S s0 acc c ps ys, Reb φ L S X.s_0 s0 → Gh ys acc ps → PS (X.gx xf S s0 (lstObj acc c) ps) st (t ys)) : FS φ Gh X xf L st (tPlainF t) := by
  refine ⟨fun A S ip R n ys s₀ c fs K J gd lv s σ H D g hn k hI ht => ?_⟩
  obtain ⟨s0, acc, cc, ps, j⟩ := hI
  refine seg_wrap ?_
  rw [g.over]
  exact wpAny_mono ((h S s0 acc cc ps ys j.r j.gh).run _ s σ H (D.at ys) j.inv ht) (fun f s' hs => k.ok n ys s₀ s' f hn (sp_fsp j hs)) fun x s' hx => k.exc n ys s₀ s0 acc cc ps x s' j.r j.at0 hn j.gh hx
def tI0 : TGi := fun D ys σ H => D.nx ys σ H
def tIThen (t u : TGi) : TGi := fun D ys σ H => t { D with nx := fun ys' σ' H' => u D ys' σ' H' } ys σ H
theorem fss_nil : FSs φ Gh X xf L [] tI0 :=
  ⟨fun A S ip R n ys s₀ c fs K J gd lv s σ H D g hn k hI ht => seg_execs_nil (k.ok n ys s₀ s .next hn ⟨σ, H, hI, ht⟩)⟩
theorem fss_cons {t u : TGi} (a : FS φ Gh X xf L st t) (b : FSs φ Gh X xf L rest u) : FSs φ Gh X xf L (st :: rest) (tIThen t u) := by
  refine ⟨fun A S ip R n ys s₀ c fs K J gd lv s σ H D g hn k hI ht => seg_execs_cons ?_⟩
  refine a.run A S ip R n ys s₀ c fs _ J gd lv s σ H { D with nx := fun ys' σ' H' => u D ys' σ' H' } g hn ⟨fun n' ys' s₀' s' f hn' hs => ?_, k.exc⟩ hI ht
  cases f with
  | next =>
    obtain ⟨σ', H', I', q⟩ := hs
    exact b.run A S ip R n' ys' s₀' c fs K J gd lv s' σ' H' D g hn' k I' q
  | brk => exact k.ok n' ys' s₀' s' .brk hn' hs
  | cont => exact k.ok n' ys' s₀' s' .cont hn' hs
  | ret u => exact k.ok n' ys' s₀' s' (.ret u) hn' hs
/-- yield e -/
def tIYield (te : List Itm → TE) : TGi := fun D ys σ H => ys.length < sizeLine ∧ te ys σ H fun x H1 => D.nx (ys ++ [(x, none)]) σ H1
theorem fs_yield {te : List Itm → TE} (he : ∀ S s0 acc c ps ys, Reb φ L S X.s_0 s0 → Gh ys acc ps → PE (X.gx xf S s0 (lstObj acc c) ps) e (te ys)) (hco : X.env.scope.isCoroutine = false := by rfl) (hi : interactive X.env = false := by rfl) : FS φ Gh X xf L (.Expr (.Yield (some e) yp) pos) (tIYield te) := by
  refine ⟨fun A S ip R n ys s₀ c fs K J gd lv s σ H D g hn k hI ht => ?_⟩
  obtain ⟨hlt, ht⟩ := ht
  obtain ⟨n, rfl⟩ : ∃ m, n = m + 1 := ⟨n - 1, by omega⟩
  obtain ⟨s0, acc, cc, ps, j⟩ := hI
  refine seg_Expr_Yield g.split g.gd g.guard ?_ hco hi
  rw [g.over]
  refine wpAny_mono ((he S s0 acc cc ps ys j.r j.gh).run _ s σ H _ j.inv ht) (fun v s' hv => ?_) fun x s' hx => k.exc _ ys s₀ s0 acc cc ps x s' j.r j.at0 hn j.gh hx
  obtain ⟨x, H1, I1, rv, q⟩ := hv
  have G1 := j.next I1
  intro kap hk
  refine ⟨ys, (x, none), ip, σ, H1, s0, acc, cc, ps, hn, rv, (fun vs e => nomatch e), G1, fun s'' acc' c' ps' z gh => hk .none s'' ?_⟩
  refine k.ok n (ys ++ [(x, none)]) s'' s'' .next ?_ ⟨σ, H1, G1.woken g.away g.pn g.ip (fun b hb => absurd hb.1 Bool.false_ne_true) z gh, q⟩
  rw [List.length_append, List.length_singleton]; omega
/-- yield e, where its value is a new list that is given for good -/
def tIYieldR (X : Cx) (te : List Itm → TE) : TGi := fun D ys σ H => ys.length < sizeLine ∧ te ys σ H fun x H1 => ∃ p vs, x = .ref p ∧ H1 p = some (.lst vs) ∧ X.H_0 p = none ∧ X.ex = [] ∧ D.nx (ys ++ [(x, some vs)]) σ (Hm H1 p)
end
end L2

set_option Elab.async false
set_option linter.all false
set_option autoImplicit false
set_option maxRecDepth 100000
set_option maxHeartbeats 1000000
/-! DGD: for and if within such a generator. -/
namespace L2
open PySem PySem.Spec PyProof.Rows GenW
section
variable {φ : Obj → Prop} {Gh : Ghost} {X : Cx} {xf : XF} {L : Addr} {pos : Pos}
/-- exceptions pass the generator's own frame, in all contexts -/
def PassF (φ : Obj → Prop) (X : Cx) (xf : XF) (L : Addr) : Prop := ∀ S s0 o ps, Reb φ L S X.s_0 s0 → PassesOwn (model X.prog X.w) X.A X.env (xf s0 ((S, o) :: (ps ++ X.pn)))
theorem FC.loop {S : Addr} {ip ip' : List (Addr × Obj)} {A : Around} {c c' : Code} {fs : List Frame} {gd : Bool → Bool} {k : Result → Sem PySem.Fin} {l kp : List Value} {p : Pos} (g : FC X L S ip A c fs gd) (hw : c'.weight = 0) (hu : c'.cUnits = 0) (hip : ∀ p ∈ ip', p.1 ≠ S) :
    FC X L S ip' A c' (.ret k none (gd false) l c p kp :: fs) id where
  pn := g.pn
  ip := hip
  away := g.away
  over := (over_loop hw hu).trans g.over
  split := by
    show (splitAtGen fs).map _ = none
    rw [g.split]; rfl
  guard := by
    show (gd false || fs.any Frame.guarded) = false
    rw [g.gd, g.guard]; rfl
  gd := rfl
theorem segF_cameBack {S : Addr} {ip : List (Addr × Obj)} {A : Around} {R : GenEnd} {c : Code} {fs : List Frame} {K : Flow → Sem PySem.Fin} {J : Value → Sem PySem.Fin} {gd : Bool → Bool} {lv : List Value → List Value} {D : GEndsI} {n : Nat} {ys : List Itm} {s₀ s0 s : Shared} {acc : Array Value} {cc : Nat} {ps : List (Addr × Obj)} {e : Value}
    (g : FC X L S ip A c fs gd) (k : FK φ Gh X xf L S ip A R c fs K J D) (r : Reb φ L S X.s_0 s0) (h1 : At0 X L S s₀ s0 (lstObj acc cc) ps) (hn : n + ys.length = sizeLine) (ra : Gh ys acc ps) (h : cameBackBy (model X.prog X.w) X.A X.env (xf s0 ((S, lstObj acc cc) :: (ps ++ X.pn))) e s) :
    Seg (model X.prog X.w) A R (FY φ Gh X xf L S) n s₀ c (((Sem.raise e : Sem Flow).onRaise (cameBack X.env)).wrap K J gd lv) fs s := by
  show Seg _ _ _ _ _ _ _ (((cameBack X.env e).bind fun _ => (Sem.raise e : Sem Flow)).wrap K J gd lv) _ _
  rw [Sem.bind_eq_wrap, Sem.wrap_wrap]
  refine seg_wrap ?_
  rw [g.over]
  exact wpAny_mono h (fun _ s' hx => k.exc n ys s₀ s0 acc cc ps e s' r h1 hn ra hx) fun x s' hx => k.exc n ys s₀ s0 acc cc ps x s' r h1 hn ra hx
def tIFor (wi : List Itm → TI) (g : List Itm → TG) (tb : TGi) : TGi := fun D ys σ H => wi ys σ H fun J H1 => ∃ W : Nat → Nat → List Itm → L2.St → Hp → Prop, (∃ m, W 0 m ys σ H1) ∧ ∀ i m ys σ H, W i m ys σ H →
  (J.stop i H ∧ D.nx ys σ H) ∨ (J.go i H ∧ ∃ N : List Itm → L2.St → Hp → Prop, (∀ ys' σ' H', N ys' σ' H' → ∃ m', m' < m ∧ W (i + 1) m' ys' σ' H') ∧ ∀ x H', J.yld i H x H' → g ys x σ H' fun σ2 H2 => tb { D with nx := N, ct := N, bk := D.nx } ys σ2 H2)
theorem FJ.pinned {S : Addr} {s0 : Shared} {acc : Array Value} {c : Nat} {ps ip ip' : List (Addr × Obj)} {s₀ s s' : Shared} {ys : List Itm} {σ σ' : L2.St} {H H' : Hp} (h : FJ φ Gh X xf L S ip ys σ H s₀ s s0 acc c ps) (I : Inv (X.gx xf S s0 (lstObj acc c) ps) ip' σ' H' s') (hi : ∀ q ∈ ps, ∀ p ∈ ip', p.1 ≠ q.1) : FJ φ Gh X xf L S ip' ys σ' H' s₀ s' s0 acc c ps :=
  ⟨h.r, h.gh, I, ⟨h.own.lst, h.own.yng, fun q hq p hp => (List.mem_append.mp hp).elim (fun z => h.own.apt q hq p (List.mem_append_left _ z)) (hi q hq p)⟩, h.at0⟩
theorem fs_for {tg iter : Expr} {body : List Stmt} {wi : List Itm → TI} {g : List Itm → TG} {tb : TGi} (hp : PassF φ X xf L) (hc : X.calm = true) (hi : ∀ S s0 acc c ps ys, Reb φ L S X.s_0 s0 → Gh ys acc ps → PI (X.gx xf S s0 (lstObj acc c) ps) tg iter (wi ys)) (hg : ∀ S s0 acc c ps ys, Reb φ L S X.s_0 s0 → Gh ys acc ps → PG (X.gx xf S s0 (lstObj acc c) ps) tg (g ys)) (hb : FSs φ Gh X xf L body tb)
    (hs : ∀ x, foldedSetIterable iter X.env x = pure x := by intro _; rfl) : FS φ Gh X xf L (.For tg iter body [] pos) (tIFor wi g tb) := by
  refine ⟨fun A S ip R n ys s₀ c fs K J gd lv s σ H D gc hn k hI ht => ?_⟩
  obtain ⟨s0, acc, cc, ps, j⟩ := hI
  have r := j.r
  refine segF_For hs ?_
  rw [gc.over]
  refine wpAny_mono ((hi S s0 acc cc ps ys j.r j.gh).run ip s σ H _ j.inv ht) (fun v s1 hv1 => ?_) fun x s' hx => k.exc n ys s₀ s0 acc cc ps x s' j.r j.at0 hn j.gh hx
  refine wpAny_mono hv1 (fun itv s2 h2 => ?_) fun x s' hx => k.exc n ys s₀ s0 acc cc ps x s' j.r j.at0 hn j.gh hx
  obtain ⟨it, fp, tn, J', H2, rfl, I2, T, st2, f2, W, ⟨m0, w0⟩, turn⟩ := h2
  intro p
  have T : Turn X.prog X.w X.K tg J' fp it tn := T
  -- the places of the iterator
  have stat : ∀ {s0' : Shared} {o' : Obj} {ps' : List (Addr × Obj)} {H' : Hp}, Reb φ L S X.s_0 s0' → (∀ q ∈ ps', ∀ b ∈ fp, q.1 ≠ b) → (∀ b ∈ fp, H' b = none) → ∀ b ∈ fp, FpOk (X.gx xf S s0' o' ps') ip H' b := fun {s0' o' ps' H'} r' hap hn' b hb => by
    obtain ⟨_, q1, q2, q3, q4, q5⟩ := f2 b hb
    refine ⟨hn' b hb, q1, q2, q3.imp id fun z => ?_, q4, fun p hp => ?_⟩
    · have z : s0.heap.objs.size ≤ b := z
      show s0'.heap.objs.size ≤ b
      rw [r.size] at z
      rw [r'.size]; exact z
    · rcases List.mem_append.mp hp with y | y
      · rcases List.mem_cons.mp y with y | y
        · rw [y]
          exact q5 (S, lstObj acc cc) (List.mem_append_left _ List.mem_cons_self)
        · rcases List.mem_append.mp y with y | y
          · exact hap p y b hb
          · exact q5 p (List.mem_append_left _ (List.mem_cons_of_mem _ (List.mem_append_right _ y)))
      · exact q5 p (List.mem_append_right _ y)
  have fpS : ∀ b ∈ fp, b ≠ S := fun b hb z => (f2 b hb).2.2.2.2.2 (S, lstObj acc cc) (List.mem_append_left _ List.mem_cons_self) z.symm
  have ap0 : ∀ q ∈ ps, ∀ b ∈ fp, q.1 ≠ b := fun q hq b hb => (f2 b hb).2.2.2.2.2 q (List.mem_append_left _ (List.mem_cons_of_mem _ (List.mem_append_left _ hq)))
  have ipS : ∀ h : Heap, ∀ p ∈ ip ++ pinsAt fp h, p.1 ≠ S := fun h p hp => (List.mem_append.mp hp).elim (gc.ip p) fun z => fpS _ (of_pinsAt z).1
  have gl := fun (ip' : List (Addr × Obj)) (h' : ∀ p ∈ ip', p.1 ≠ S) (kk : Result → Sem PySem.Fin) => FC.loop (k := kk) (c' := .forLoop tg (.ref it) body [] X.env) (l := lv []) (kp := []) (p := p) gc rfl rfl h'
  have loop : ∀ (m i n : Nat) (ys : List Itm) (s₀ s s0' : Shared) (acc' : Array Value) (cc' : Nat) (ps' : List (Addr × Obj)) (σ : L2.St) (H : Hp), n + ys.length = sizeLine → W i m ys σ H → FJ φ Gh X xf L S ip ys σ H s₀ s s0' acc' cc' ps' → (∀ q ∈ ps', ∀ b ∈ fp, q.1 ≠ b) → tn i s.heap → (∀ b ∈ fp, H b = none) →
      Seg (model X.prog X.w) A R (FY φ Gh X xf L S) n s₀ (.forLoop tg (.ref it) body [] X.env) ((model X.prog X.w).den (.forLoop tg (.ref it) body [] X.env))
        (.ret (fun r => ((match r with | .ok f => (.pure f : Sem Flow) | .error e => .raise e).onRaise (cameBack X.env)).wrap K J gd lv) none (gd false) (lv []) c p [] :: fs) s := by
    intro m
    induction m using Nat.strongRecOn with
    | ind m ih =>
      intro i n ys s₀ s3 s0' acc' cc' ps' σ3 H3 hn w3 j3 ap3 st3 fr3
      have ee : ∀ (n : Nat) (ys : List Itm) (s₀ s0' : Shared) (acc' : Array Value) (cc' : Nat) (ps' : List (Addr × Obj)) (x : Value) (s' : Shared), Reb φ L S X.s_0 s0' → At0 X L S s₀ s0' (lstObj acc' cc') ps' → n + ys.length = sizeLine → Gh ys acc' ps' → xf s0' ((S, lstObj acc' cc') :: (ps' ++ X.pn)) x s' →
          Seg (model X.prog X.w) A R (FY φ Gh X xf L S) n s₀ (.forLoop tg (.ref it) body [] X.env) (notedTree x X.env)
          (.ret (fun r => ((match r with | .ok f => (.pure f : Sem Flow) | .error e => .raise e).onRaise (cameBack X.env)).wrap K J gd lv) none (gd false) (lv []) c p [] :: fs) s' := fun n ys s₀ s0' acc' cc' ps' x s' r' h1' hn ra' hx => by
        refine seg_wrap ?_
        rw [(gl ip gc.ip _).over]
        refine wpAny_bind (wpAny_mono (hp S s0' (lstObj acc' cc') ps' r' x s' hx) (fun _ s'' hcb => wpAny_theTreesLotGoes ?_) fun y s'' hcb => ?_)
        · exact seg_leaf (.error x) (segF_cameBack gc k r' h1' hn ra' hcb)
        · exact seg_leaf (.error y) (segF_cameBack gc k r' h1' hn ra' hcb)
      refine segF_forLoop ?_
      rw [(gl ip gc.ip _).over]
      rcases turn i m ys σ3 H3 w3 with ⟨stop, qn⟩ | ⟨go, N, hN, step⟩
      · refine wpAny_mono (T.done (X.gx xf S s0' (lstObj acc' cc') ps') rfl rfl rfl hc i ip s3 σ3 H3 _ j3.inv (stat j3.r ap3 fr3) st3 stop) (fun r4 s4 h4 => ?_) fun x s' hx => ee n ys s₀ s0' acc' cc' ps' x s' j3.r j3.at0 hn j3.gh hx
        obtain ⟨hr4, I4⟩ := h4
        subst hr4
        exact seg_leaf (.ok .next) (k.ok n ys s₀ s4 .next hn ⟨σ3, H3, ⟨s0', acc', cc', ps', j3.next I4⟩, qn⟩)
      · refine wpAny_mono (T.item (X.gx xf S s0' (lstObj acc' cc') ps') rfl rfl rfl hc i ip s3 σ3 H3 (xf s0' ((S, lstObj acc' cc') :: (ps' ++ X.pn))) j3.inv (stat j3.r ap3 fr3) st3 go) (fun r4 s4 h4 => ?_) fun x s' hx => ee n ys s₀ s0' acc' cc' ps' x s' j3.r j3.at0 hn j3.gh hx
        obtain ⟨u, hr4, h4⟩ := h4
        subst hr4
        refine wpAny_mono h4 (fun _ s5 h5 => ?_) fun x s' hx => ee n ys s₀ s0' acc' cc' ps' x s' j3.r j3.at0 hn j3.gh hx
        obtain ⟨x, H5, I5, r5, y5, st5, fr5⟩ := h5
        have I5' := I5.pinned (stat j3.r ap3 fr5) (T.obj _ _ st5)
        refine wpAny_mono ((hg S s0' acc' cc' ps' ys j3.r j3.gh).run _ s5 σ3 H5 x u _ I5' r5 (step x H5 y5)) (fun _ s6 h6 => ?_) fun x s' hx => ee n ys s₀ s0' acc' cc' ps' x s' j3.r j3.at0 hn j3.gh hx
        obtain ⟨σ6, H6, I6, q6⟩ := h6
        have pinI : ∀ b ∈ fp, ∃ o, (b, o) ∈ ip ++ pinsAt fp s5.heap := fun b hb => by
          obtain ⟨o, e, d⟩ := T.obj _ _ st5 b hb
          exact ⟨o, List.mem_append_right _ (mem_pinsAt hb e)⟩
        have again : ∀ {n' : Nat} {ys' : List Itm} {s₀' s7 : Shared} {σ7 : L2.St} {H7 : Hp}, n' + ys'.length = sizeLine → FI φ Gh X xf L S (ip ++ pinsAt fp s5.heap) ys' σ7 H7 s₀' s7 → N ys' σ7 H7 →
            Seg (model X.prog X.w) A R (FY φ Gh X xf L S) n' s₀' (.forLoop tg (.ref it) body [] X.env) ((model X.prog X.w).den (.forLoop tg (.ref it) body [] X.env))
              (.ret (fun r => ((match r with | .ok f => (.pure f : Sem Flow) | .error e => .raise e).onRaise (cameBack X.env)).wrap K J gd lv) none (gd false) (lv []) c p [] :: fs) s7 := fun {n' ys' s₀' s7 σ7 H7} hn' hI7 n7 => by
          obtain ⟨m', hm, w7⟩ := hN ys' σ7 H7 n7
          obtain ⟨s0'', acc'', cc'', ps'', j7⟩ := hI7
          refine ih m' hm (i + 1) n' ys' s₀' s7 s0'' acc'' cc'' ps'' σ7 H7 hn' w7 (j7.pinned j7.inv.unpinned fun q hq p hp => j7.own.apt q hq p (List.mem_append_right _ (List.mem_append_left _ hp))) (fun q hq b hb => ?_) (T.keep _ _ _ st5 fun b hb o e => (j7.inv.pin (b, o) (List.mem_append_right _ (List.mem_append_right _ (mem_pinsAt hb e)))).1) fun b hb => ?_
          · obtain ⟨o, z⟩ := pinI b hb
            exact fun e => j7.own.apt q hq (b, o) (List.mem_append_right _ z) e.symm
          · obtain ⟨o, e, d⟩ := T.obj _ _ st5 b hb
            exact (j7.inv.pin (b, o) (List.mem_append_right _ (List.mem_append_right _ (mem_pinsAt hb e)))).2.1
        have unp : ∀ {ys' : List Itm} {σ7 : L2.St} {H7 : Hp} {s₀' s7 : Shared}, FI φ Gh X xf L S (ip ++ pinsAt fp s5.heap) ys' σ7 H7 s₀' s7 → FI φ Gh X xf L S ip ys' σ7 H7 s₀' s7 := fun {ys' σ7 H7 s₀' s7} ⟨a, b, c, d, z⟩ => ⟨a, b, c, d, z.pinned z.inv.unpinned fun q hq p hp => z.own.apt q hq p (List.mem_append_right _ (List.mem_append_left _ hp))⟩
        refine hb.run A S (ip ++ pinsAt fp s5.heap) R n ys s₀ _ _ _ _ id id s6 σ6 H6 { D with nx := N, ct := N, bk := D.nx } (gl _ (ipS s5.heap) _) hn ⟨fun n' ys' s₀' s7 f hn' hs => ?_, fun n' ys' s₀' s0'' acc'' cc'' ps'' x s7 r'' h1'' hn' ra'' hx => ee n' ys' s₀' s0'' acc'' cc'' ps'' x s7 r'' h1'' hn' ra'' hx⟩ ⟨s0', acc', cc', ps', j3.pinned I6 fun q hq p hp => ?_⟩ q6
        · cases f with
          | next =>
            obtain ⟨σ7, H7, I7, n7⟩ := hs
            exact seg_again rfl (again hn' I7 n7)
          | cont =>
            obtain ⟨σ7, H7, I7, n7⟩ := hs
            exact seg_again rfl (again hn' I7 n7)
          | brk =>
            obtain ⟨σ7, H7, I7, n7⟩ := hs
            exact seg_leaf (.ok .next) (k.ok n' ys' s₀' s7 .next hn' ⟨σ7, H7, unp I7, n7⟩)
          | ret v =>
            obtain ⟨x7, σ7, H7, I7, r7, q7⟩ := hs
            exact seg_leaf (.ok (.ret v)) (k.ok n' ys' s₀' s7 (.ret v) hn' ⟨x7, σ7, H7, unp I7, r7, q7⟩)
        · rcases List.mem_append.mp hp with z | z
          · exact j3.own.apt q hq p (List.mem_append_right _ z)
          · exact fun e => ap3 q hq p.1 (of_pinsAt z).1 e.symm
  exact loop m0 0 n ys s₀ s2 s0 acc cc ps σ H2 hn w0 (j.next I2) ap0 st2 fun b hb => (f2 b hb).1
/-- if c: .. else: .. -/
def tIIf (c : List Itm → TT) (t u : TGi) : TGi := fun D ys σ H => c ys σ H fun b H1 => if b = true then t D ys σ H1 else u D ys σ H1
theorem fs_if {c : Expr} {p q : List Stmt} {tc : List Itm → TT} {t u : TGi} (hc : ∀ S s0 acc cc ps ys, Reb φ L S X.s_0 s0 → Gh ys acc ps → PT (X.gx xf S s0 (lstObj acc cc) ps) c (tc ys)) (ha : FSs φ Gh X xf L p t) (hb : FSs φ Gh X xf L q u) : FS φ Gh X xf L (.If c p q pos) (tIIf tc t u) := by
  refine ⟨fun A S ip R n ys s₀ c' fs K J gd lv s σ H D gc hn k hI ht => ?_⟩
  obtain ⟨s0, acc, cc, ps, j⟩ := hI
  show Seg _ A R _ n s₀ c' (.at pos fun _ => (isTrue c X.env (eval c X.env) >>= fun b => if b = true then execs p X.env else execs q X.env).wrap K J gd lv) fs s
  refine seg_at ?_
  refine seg_bind_wrap ?_
  rw [gc.over]
  refine wpAny_mono ((hc S s0 acc cc ps ys j.r j.gh).run _ s σ H _ j.inv ht) (fun b s' hb' => ?_) fun x s' hx => k.exc n ys s₀ s0 acc cc ps x s' j.r j.at0 hn j.gh hx
  obtain ⟨H2, I2, q2⟩ := hb'
  cases b with
  | true => exact ha.run A S ip R n ys s₀ c' fs K J gd lv s' σ H2 D gc hn k ⟨s0, acc, cc, ps, j.next I2⟩ q2
  | false => exact hb.run A S ip R n ys s₀ c' fs K J gd lv s' σ H2 D gc hn k ⟨s0, acc, cc, ps, j.next I2⟩ q2
end
end L2

set_option Elab.async false
set_option linter.all false
set_option autoImplicit false
set_option maxRecDepth 100000
set_option maxHeartbeats 1000000
/-! DGE: the promise of a generator def whose consumer's frame and list change between two items. -/
namespace L2
open PySem PySem.Spec PyProof.Rows GenW
/-- the consumer's frame and list as they stood when the generator was woken -/
def AtW (s : Shared) (L S : Addr) (s₀ s0 : Shared) (o : Obj) (ps : List (Addr × Obj)) : Prop := s0.heap.get? L = s₀.heap.get? L ∧ s₀.heap.get? S = some o ∧ ((∃ u, s.heap.get? S = some u) → s0.heap.get? S = some o) ∧ ∀ p ∈ ps, s₀.heap.get? p.1 = some p.2
/-- what an exception is, by what the consumer has made of the items -/
def EEf (Gh : Ghost) (E : List Itm → XK) (pn : List (Addr × Obj)) : XK := fun cls d H' => ∃ ys S acc c ps rest, pn = (S, lstObj acc c) :: (ps ++ rest) ∧ Gh ys acc ps ∧ E ys cls d H'
def REndF (PX : CXT) (φ : Obj → Prop) (Gh : Ghost) (P : Program) (w : World) (outer : List Env) (H : Hp) (s : Shared) (L S a : Addr) (g : Nat) (Q : List Itm → Hp → Prop) (E : List Itm → XK) : GenEnd := fun n s₀ r s1 =>
  ((r = .ok (.ret .none) ∨ r = .ok .next) ∧ ∃ s0 H' ys acc c ps, Reb φ L S s s0 ∧ AtW s L S s₀ s0 (lstObj acc c) ps ∧ s1.os = s.os ∧ AllBare s1.gens ∧ Un (frs outer) [] H H' s0.heap s1.heap ∧ HOk P w H' s1.heap ∧ H' S = none ∧ s1.heap.get? S = some (lstObj acc c) ∧ (∀ p ∈ ps, s1.heap.get? p.1 = some p.2 ∧ H' p.1 = none) ∧ Gh ys acc ps ∧ ys.length ≤ sizeLine ∧ Q ys H') ∨
  ∃ e s0 acc c ps rest, r = .error e ∧ Reb φ L S s s0 ∧ AtW s L S s₀ s0 (lstObj acc c) ps ∧ PX outer H s0 (EEf Gh E ((S, lstObj acc c) :: (ps ++ rest))) e s1 ∧ s1.heap.IsGen a g ∧ s1.heap.get? S = some (lstObj acc c) ∧ (∀ p ∈ ps, s1.heap.get? p.1 = some p.2) ∧ ∃ ys, Gh ys acc ps ∧ ys.length ≤ sizeLine
def YItemF (φ : Obj → Prop) (Gh : Ghost) (P : Program) (w : World) (outer : List Env) (H : Hp) (s : Shared) (L S a : Addr) (g : Nat) : Protocol := fun n s₀ v s1 kap =>
  s1.os = s.os ∧ AllBare s1.gens ∧ s1.heap.NoLimit ∧ s1.heap.IsGen a g ∧ ∃ s0 H' ys y acc c ps, RelV y.1 v ∧ Reb φ L S s s0 ∧ AtW s L S s₀ s0 (lstObj acc c) ps ∧ Un (frs outer) [] H H' s0.heap s1.heap ∧ HOk P w H' s1.heap ∧ H' S = none ∧ s1.heap.get? S = some (lstObj acc c) ∧ (∀ p ∈ ps, s1.heap.get? p.1 = some p.2 ∧ H' p.1 = none) ∧ Gh ys acc ps ∧ n + 1 + ys.length = sizeLine ∧ Handed s y H' s1.heap S ps ∧
    ∀ s' acc' c' ps', Slept2 φ S L (frI y) ps ps' acc' c' s1 s' → Gh (ys ++ [y]) acc' ps' → kap (.send .none) s'
section
variable {PX : CXT} {P : Program} {w : World} {K : PySem.W.Frag} {mg : Str → Option Value} {base : Heap} {N : List Str} {qual : Str} {scope : Scope} {f : Addr} {cd : Value} {A : Around} {outer : List Env} {s s0 : Shared} {H : Hp} {Gh : Ghost} {E : List Itm → XK} {E0 : XK} {ps : List (Addr × Obj)} {pn : List (Addr × Obj)} {L S : Addr} {φ : Obj → Prop}
/-- the context of a generator's body, whose exceptions are PX -/
def gcxP (PX : CXT) (P : Program) (w : World) (K : PySem.W.Frag) (mg : Str → Option Value) (base : Heap) (N : List Str) (qual : Str) (scope : Scope) (f : Addr) (cd : Value) (A : Around) (outer : List Env) (s : Shared) (H : Hp) (E : XK) (pn : List (Addr × Obj)) : Cx :=
  { gcxOf P w K mg base N qual scope f cd A outer s H E pn with
    xe := fun e s' => wpAny (model P w) (A.deeper (envOfC qual scope s.heap.objs.size f cd)) (leaving (envOfC qual scope s.heap.objs.size f cd) e) (fun _ s'' => PX outer H s E e s'' ∧ ∀ p ∈ pn, s''.heap.get? p.1 = some p.2) (fun _ _ => False) s' }
/-- the exceptions' way, at another heap -/
def xfOf (PX : CXT) (P : Program) (w : World) (qual : Str) (scope : Scope) (f : Addr) (cd : Value) (A : Around) (outer : List Env) (s : Shared) (H : Hp) (Gh : Ghost) (E : List Itm → XK) : XF := fun s0 pn e s' =>
  wpAny (model P w) (A.deeper (envOfC qual scope s.heap.objs.size f cd)) (leaving (envOfC qual scope s.heap.objs.size f cd) e) (fun _ s'' => PX outer H s0 (EEf Gh E pn) e s'' ∧ ∀ p ∈ pn, s''.heap.get? p.1 = some p.2) (fun _ _ => False) s'
theorem gx_eq (o : Obj) (r : Reb φ L S s s0) : (gcxOf P w K mg base N qual scope f cd A outer s H E0 pn).gx (xfOf PX P w qual scope f cd A outer s H Gh E) S s0 o ps = gcxP PX P w K mg base N qual scope f cd A outer s0 H (EEf Gh E ((S, o) :: (ps ++ pn))) ((S, o) :: (ps ++ pn)) := by
  have e := r.size
  unfold Cx.gx Cx.re xfOf gcxP gcxOf cxOf
  simp only [e]
theorem passF_of : PassF φ (gcxOf P w K mg base N qual scope f cd A outer s H E0 pn) (xfOf PX P w qual scope f cd A outer s H Gh E) L := fun S s0 o ps r => by
  have := passes_of (X := gcxP PX P w K mg base N qual scope f cd A outer s0 H (EEf Gh E ((S, o) :: (ps ++ pn))) ((S, o) :: (ps ++ pn))) (K := fun e s'' => PX outer H s0 (EEf Gh E ((S, o) :: (ps ++ pn))) e s'' ∧ ∀ p ∈ (S, o) :: (ps ++ pn), s''.heap.get? p.1 = some p.2) (E₁ := fun _ _ => False) rfl
  rw [← gx_eq (PX := PX) (E0 := E0) o r] at this
  exact this
/-- what a call gives: a generator that has not begun; woken by a consumer whose frame is L and whose list is S -/
def GMadeF (PX : CXT) (P : Program) (w : World) (base : Heap) (k : Nat) (outer : List Env) (H : Hp) (s : Shared) (Q : List Itm → Hp → Prop) (E : List Itm → XK) (u : Value) (s' : Shared) : Prop :=
  ∃ (a : Addr) (g : Nat) (c : Code), u = .ref a ∧ s.heap.objs.size ≤ a ∧ a < s'.heap.objs.size ∧ s'.heap.IsGen a g ∧ s'.gens[g]? = some (.fresh c) ∧ s'.os = s.os ∧ AllBare s'.gens ∧ s'.heap.NoLimit ∧ (∀ b o, s.heap.get? b = some o → s'.heap.get? b = some o) ∧
    ∀ (φ : Obj → Prop) (Gh : Ghost) (A : Around) (L S : Addr) (s2 : Shared) (acc : Array Value) (cS : Nat) (ps : List (Addr × Obj)), (∀ o, φ o → ∀ vs, o.data ≠ .fields vs) → (∃ o, s.heap.get? L = some o ∧ φ o) → DL.RoomG k A → A.frames = some outer → L ∈ frs outer → base.get? S = none → S ∉ frs outer → H S = none → (S < s.heap.objs.size ∨ s'.heap.objs.size ≤ S) → (∀ b o, s'.heap.get? b = some o → s2.heap.get? b = some o) →
      s2.heap.get? S = some (lstObj acc cS) → (S < s.heap.objs.size → ∃ o, s.heap.get? S = some o) → s2.os = s.os → AllBare s2.gens → Gh [] acc ps → (∀ p ∈ ps, s2.heap.get? p.1 = some p.2 ∧ s'.heap.objs.size ≤ p.1 ∧ p.1 ≠ S ∧ ∀ v, p.2.data ≠ .cell v) →
      Seg (model P w) A (REndF PX φ Gh P w outer H s L S a g Q E) (YItemF φ Gh P w outer H s L S a g) sizeLine s2 c ((model P w).den c) [] s2
/-- a generator def's promise -/
abbrev SpF := List V → Hp → (List Itm → Hp → Prop) → (List Itm → XK) → Prop
structure GFnF (PX : CXT) (P : Program) (w : World) (K : PySem.W.Frag) (mg : Str → Option Value) (base : Heap) (k : Nat) (f : Addr) (fd : FuncData) (ps : List Str) (sp : SpF) : Prop where
  len : ∀ vs H Q E, sp vs H Q E → vs.length = ps.length
  run : ∀ (A : Around) (outer : List Env) (s : Shared) (H : Hp) (args : Args) (us : List Value) (vs : List V) (Q : List Itm → Hp → Prop) (E : List Itm → XK), DL.RoomG k A → Env0 P w K mg base A outer s H → BindsTo s fd args (ps.zip us) → Vals vs us → sp vs H Q E →
    codeAny (model P w) A (.call (.ref f) args) (fun r s' => match r with | .ok (.ret u) => GMadeF PX P w base k outer H s Q E u s' | _ => False) s
theorem gfnF_of {k : Nat} {name : Str} {params : Arguments} {body : List Stmt} {dV kV doc pm cdv ct oc : Value} {an od : Option Addr} {osl : Array (Option Value)} {ps : List Str} {sp : SpF}
    (lk : K.lookup f = some ⟨oc, od, .func (PySem.W.fnOf name qual params body scope dV kV doc pm an cdv ct), osl⟩) (hcd : PySem.W.codeIn K cdv qual = true) (Sc : GScope N ps scope)
    (len : ∀ vs H Q E, sp vs H Q E → vs.length = ps.length)
    (hbody : ∀ (A : Around) (outer : List Env) (s : Shared) (H : Hp) (vs : List V) (Q : List Itm → Hp → Prop) (E : List Itm → XK) (pn : List (Addr × Obj)), DL.RoomG k (A.deeper (envOfC qual scope s.heap.objs.size f cdv)) → sp vs H Q E →
      ∃ t, (∀ φ Gh L, FSs φ Gh (gcxOf P w K mg base N qual scope f cdv A outer s H (fun _ _ _ => False) pn) (xfOf PX P w qual scope f cdv A outer s H Gh E) L body t) ∧ t { nx := fun ys _ H' => Q ys H', rt := fun ys v H' => v = .non ∧ Q ys H' } [] (start N vs) H) :
    GFnF PX P w K mg base (k + 1) f (PySem.W.fnOf name qual params body scope dV kV doc pm an cdv ct) ps sp := by
  refine ⟨len, fun A outer s H args us vs Q E hr e0 hb r hsp => ?_⟩
  have hl := len _ _ _ _ hsp
  have KX : K.In s.heap := e0.mod.kin.keeps fun b o e => (e0.bs b o e).1
  have lim : s.heap.NoLimit := e0.mod.nolimit.keeps fun b o e => (e0.bs b o e).1
  have hkind : ∀ y ∈ ps.zip us, scope.names.lookup y.1 = some .local ∨ (scope.names.lookup y.1 = some .cell ∧ ((cellsFrom (s.heap.objs.size + 1) scope.names []).lookup y.1).isSome = true) := fun ⟨n, v⟩ hy => by
    rcases Sc.par n (List.of_mem_zip hy).1 with q | q
    · exact .inl q
    · exact .inr ⟨q, PySem.W.cellsFrom_some _ _ _ (.inl q)⟩
  refine codeAny_call_generator hr.rn.depth (KX _ _ lk) rfl Sc.co Sc.gen rfl (PySem.W.codeRec_of KX hcd) (hb _ _ _ _ ?_)
  refine wpAny_newFunctionEnv_cells Sc.kind hkind fun env he s1 x => ?_
  subst he
  have lim1 : s1.heap.NoLimit := lim.keeps x.toInCall.keep
  refine ⟨lim1, ?_⟩
  obtain ⟨h1, tk, es1, hk1⟩ := x.done
  have os1 : s1.os = s.os := by rw [es1]
  have gen1 : s1.gens = s.gens := by rw [es1]
  have lt1 : s.heap.objs.size < s1.heap.objs.size := x.toInCall.ns.lt
  have sz1 : s.heap.objs.size ≤ s1.heap.objs.size := Nat.le_of_lt lt1
  have kp1 : ∀ b o, s.heap.get? b = some o → s1.heap.get? b = some o := x.toInCall.keep
  have main : ∀ (go : Obj) (nm qn : Value) (tk2 : Nat), go.cls = .type "generator" → go.data = .fields #[.int s1.gens.size 0, nm, qn] → go.slots = #[] → (∀ h : Heap, (h.push go).get? h.objs.size = some go) →
      GMadeF PX P w base (k + 1) outer H s Q E (.ref s1.heap.objs.size) { s1 with gens := s1.gens.push (.fresh (.func body (envOfC qual scope s.heap.objs.size f cdv))), toks := tk2, heap := s1.heap.push go } := by
    intro go nm qn tk2 hgc hgd0 hgs hgp
    have hgen : ∀ h : Heap, h.get? s1.heap.objs.size = some go → h.IsGen s1.heap.objs.size s1.gens.size := fun h e => ⟨go, nm, qn, e, hgc, hgd0, hgs⟩
    have hpushed : (s1.heap.push go).get? s1.heap.objs.size = some go := hgp _
    refine ⟨s1.heap.objs.size, s1.gens.size, _, rfl, sz1, ?_, hgen _ hpushed, Array.getElem?_push_size .., os1, ?_, lim1.keeps fun b o e => Heap.get?_push_of_some _ e, fun b o e => Heap.get?_push_of_some _ (kp1 b o e), ?_⟩
    · show _ < (s1.heap.push _).objs.size
      rw [Heap.size_push]; exact Nat.lt_succ_self _
    · exact AllBare.push (by rw [gen1]; exact e0.bare) rfl
    intro φ Gh Aw L Sx s2 acc cS ps0 hnf hmid hrw hfr hL hbS hfS hHS hSx hk2 heS hSo hos hba hgh0 hps0
    have e0w : Env0 P w K mg base Aw outer s H := ⟨hfr, e0.mod, e0.bs, e0.bsz, e0.funs, e0.frf, e0.hok, e0.bare⟩
    obtain ⟨t, ht, hq⟩ := hbody Aw outer s H vs Q E [(s1.heap.objs.size, go)] (hrw.deeper _) hsp
    have I1 : Inv (gcxOf P w K mg base N qual scope f cdv Aw outer s H (fun _ _ _ => False) []) [] (start N vs) H s1 := inv_startG Sc hrw.rn.hd e0w hl r x
    have kp2 : ∀ b o, s1.heap.get? b = some o → s2.heap.get? b = some o := fun b o e => hk2 b o (Heap.get?_push_of_some _ e)
    have I2 : Inv (gcxOf P w K mg base N qual scope f cdv Aw outer s H (fun _ _ _ => False) []) [] (start N vs) H s2 :=
      I1.call' (ch := []) (hos.trans os1.symm) (Un.kept kp2) (I1.hok.kept kp2) hba fun b z => by simp at z
    have hea : s2.heap.get? s1.heap.objs.size = some go := hk2 s1.heap.objs.size go hpushed
    have hgd : ∀ v, go.data ≠ .cell v := fun v q => by rw [hgd0] at q; cases q
    have szp : (s1.heap.push go).objs.size = s1.heap.objs.size + 1 := Heap.size_push ..
    have hSz : Sx < s.heap.objs.size ∨ s1.heap.objs.size < Sx := hSx.imp id fun z => by
      have z : (s1.heap.push go).objs.size ≤ Sx := z
      rw [szp] at z
      exact z
    have hPz : ∀ p ∈ ps0, s1.heap.objs.size < p.1 := fun p hp => by
      have z : (s1.heap.push go).objs.size ≤ p.1 := (hps0 p hp).2.1
      rw [szp] at z
      exact z
    have hSa : s1.heap.objs.size ≠ Sx := fun z => hSz.elim (fun y => Nat.not_lt_of_le sz1 (by rw [← z] at y; exact y)) fun y => Nat.lt_irrefl _ (by rw [← z] at y; exact y)
    have young : ∀ b, s1.heap.objs.size ≤ b → H b = none ∧ b ≠ s.heap.objs.size ∧ b ∉ frs outer := fun b hb => ⟨I1.hok.fresh hb, Nat.ne_of_gt (Nat.lt_of_lt_of_le lt1 hb), I1.nofs hb⟩
    have cellLt : ∀ y c, (cellsFrom (s.heap.objs.size + 1) scope.names []).lookup y = some c → s.heap.objs.size ≤ c ∧ c < s1.heap.objs.size := fun y c e => by
      obtain ⟨v, ob, ho, _⟩ := I1.cell y c e
      exact ⟨Nat.le_of_lt (x.above y c (PySem.mem_of_lookup e)), Heap.lt_size ho⟩
    obtain ⟨hbL, oL, hoL, hdL⟩ := e0.funs.mem hL
    have ltL : L < s.heap.objs.size := Heap.lt_size hoL
    have aw : Away (gcxOf P w K mg base N qual scope f cdv Aw outer s H (fun _ _ _ => False) [(s1.heap.objs.size, go)]) L Sx := by
      refine ⟨hL, fun y c e z => ?_, hbS, hfS, fun z => ?_, fun y c e z => ?_⟩
      · have q := (cellLt y c e).1
        rw [z] at q
        exact Nat.not_lt_of_le q ltL
      · have z : Sx = s.heap.objs.size := z
        rcases hSz with q | q
        · rw [z] at q; exact Nat.lt_irrefl _ q
        · rw [z] at q; exact Nat.not_lt_of_le sz1 (Nat.le_of_lt q |> fun h => Nat.lt_of_lt_of_le q (Nat.le_refl _))
      · have y2 := cellLt y c e
        rw [z] at y2
        rcases hSz with q | q
        · exact Nat.not_lt_of_le y2.1 q
        · exact Nat.not_lt_of_le (Nat.le_of_lt y2.2) q
    have r0 : Reb φ L Sx s s := ⟨rfl, rfl, rfl, fun _ _ _ => rfl, hmid, hnf, ⟨oL, hoL⟩⟩
    have h0 : ∀ o, s.heap.get? Sx = some o → o = lstObj acc cS := fun o e => by
      have := kp2 Sx o (kp1 Sx o e)
      rw [heS] at this
      injection this with this
      exact this.symm
    have hLs : s.heap.get? L = s2.heap.get? L := hoL.trans (kp2 L oL (kp1 L oL hoL)).symm
    have hG : FI φ Gh (gcxOf P w K mg base N qual scope f cdv Aw outer s H (fun _ _ _ => False) [(s1.heap.objs.size, go)]) (xfOf PX P w qual scope f cdv Aw outer s H Gh E) L Sx [] [] (start N vs) H s2 s2 := by
      refine ⟨s, acc, cS, ps0, r0, hgh0, ?_, ⟨h0, fun q hq => ⟨?_, (hps0 q hq).2.2.1⟩, fun q hq p hp z => ?_⟩, hLs, heS, fun ⟨u, hu⟩ => by
        have hu : s.heap.get? Sx = some u := hu
        rw [hu, h0 u hu], fun p hp => (hps0 p hp).1⟩
      · refine Inv.repin (X := gcxOf P w K mg base N qual scope f cdv Aw outer s H (fun _ _ _ => False) [(s1.heap.objs.size, go)]) (s0 := s) (pn := []) (pins := []) (xe := (gcxOf P w K mg base N qual scope f cdv Aw outer s H (fun _ _ _ => False) []).xe) I2 fun p hp => ?_
        rw [List.append_nil] at hp
        rcases List.mem_cons.mp hp with q | q
        · rw [q]
          exact .inr ⟨heS, hHS, aw.loc, hfS, fun v q => by cases q⟩
        · rcases List.mem_append.mp q with q | q
          · obtain ⟨y1, y2, y3⟩ := young p.1 (Nat.le_of_lt (hPz p q))
            exact .inr ⟨(hps0 p q).1, y1, y2, y3, (hps0 p q).2.2.2⟩
          · rw [List.mem_singleton.mp q]
            obtain ⟨y1, y2, y3⟩ := young s1.heap.objs.size (Nat.le_refl _)
            exact .inr ⟨hea, y1, y2, y3, hgd⟩
      · show s.heap.get? q.1 = none
        cases e : s.heap.get? q.1 with
        | none => rfl
        | some o => exact absurd (Nat.lt_of_lt_of_le (Heap.lt_size e) (Nat.le_trans sz1 (Nat.le_of_lt (hPz q hq)))) (Nat.lt_irrefl _)
      · rw [List.append_nil] at hp
        rw [List.mem_singleton.mp hp] at z
        exact absurd (hPz q hq) (by rw [← z]; exact Nat.lt_irrefl _)
    have hpn : ∀ p ∈ [(s1.heap.objs.size, go)], p.1 ≠ Sx := fun p hp => by
      rw [List.mem_singleton.mp hp]
      exact hSa
    have pinned : ∀ {s0 : Shared} {o : Obj} {ps ip : List (Addr × Obj)} {s' : Shared} {σ' : L2.St} {H' : Hp}, Inv ((gcxOf P w K mg base N qual scope f cdv Aw outer s H (fun _ _ _ => False) [(s1.heap.objs.size, go)]).gx (xfOf PX P w qual scope f cdv Aw outer s H Gh E) Sx s0 o ps) ip σ' H' s' → s'.heap.IsGen s1.heap.objs.size s1.gens.size := fun {s0 o ps ip s' σ' H'} J =>
      hgen _ (J.pin (s1.heap.objs.size, go) (List.mem_append_left _ (List.mem_cons_of_mem _ (List.mem_append_right _ (List.mem_singleton.mpr rfl))))).1
    have pinS : ∀ {s0 : Shared} {acc : Array Value} {c : Nat} {ps ip : List (Addr × Obj)} {s' : Shared} {σ' : L2.St} {H' : Hp}, Inv ((gcxOf P w K mg base N qual scope f cdv Aw outer s H (fun _ _ _ => False) [(s1.heap.objs.size, go)]).gx (xfOf PX P w qual scope f cdv Aw outer s H Gh E) Sx s0 (lstObj acc c) ps) ip σ' H' s' → (s'.heap.get? Sx = some (lstObj acc c) ∧ H' Sx = none) ∧ ∀ p ∈ ps, s'.heap.get? p.1 = some p.2 ∧ H' p.1 = none := fun {s0 acc c ps ip s' σ' H'} J => by
      obtain ⟨y1, y2, _⟩ := J.pin (Sx, lstObj acc c) (List.mem_append_left _ List.mem_cons_self)
      refine ⟨⟨y1, y2⟩, fun p hp => ?_⟩
      obtain ⟨z1, z2, _⟩ := J.pin p (List.mem_append_left _ (List.mem_cons_of_mem _ (List.mem_append_left _ hp)))
      exact ⟨z1, z2⟩
    refine seg_func ?_
    refine seg_imp (R := fun n s₀ r s' => match r with
        | .ok (.ret u) => u = .none ∧ ∃ s0 H' ys acc c ps, Reb φ L Sx s s0 ∧ AtW s L Sx s₀ s0 (lstObj acc c) ps ∧ s'.os = s.os ∧ AllBare s'.gens ∧ Un (frs outer) [] H H' s0.heap s'.heap ∧ HOk P w H' s'.heap ∧ H' Sx = none ∧ s'.heap.get? Sx = some (lstObj acc c) ∧ (∀ p ∈ ps, s'.heap.get? p.1 = some p.2 ∧ H' p.1 = none) ∧ Gh ys acc ps ∧ ys.length ≤ sizeLine ∧ Q ys H'
        | .ok _ => False
        | .error e => ∃ s0 acc c ps rest, Reb φ L Sx s s0 ∧ AtW s L Sx s₀ s0 (lstObj acc c) ps ∧ PX outer H s0 (EEf Gh E ((Sx, lstObj acc c) :: (ps ++ rest))) e s' ∧ s'.heap.IsGen s1.heap.objs.size s1.gens.size ∧ s'.heap.get? Sx = some (lstObj acc c) ∧ (∀ p ∈ ps, s'.heap.get? p.1 = some p.2) ∧ ∃ ys, Gh ys acc ps ∧ ys.length ≤ sizeLine)
      (Y := FY φ Gh (gcxOf P w K mg base N qual scope f cdv Aw outer s H (fun _ _ _ => False) [(s1.heap.objs.size, go)]) (xfOf PX P w qual scope f cdv Aw outer s H Gh E) L Sx) (fun n s₀ r s1' hR => ?_) (fun n s₀ v s1' kap kap' hkk hY => ?_) sizeLine ?_
    · cases r with
      | error e =>
        obtain ⟨s0, acc, c, ps, rest, q1, q0, q2, q3, q4, q5⟩ := hR
        exact .inr ⟨e, s0, acc, c, ps, rest, rfl, q1, q0, q2, q3, q4, q5⟩
      | ok fl =>
        cases fl with
        | next => exact False.elim hR
        | brk => exact False.elim hR
        | cont => exact False.elim hR
        | ret u =>
          obtain ⟨rfl, q⟩ := hR
          exact .inl ⟨.inl rfl, q⟩
    · obtain ⟨ys, y, ip, σ', H', s0, acc', c', ps', hn, h2, hh, j, h3⟩ := hY
      obtain ⟨⟨e1, e2⟩, e3⟩ := pinS j.inv
      exact ⟨j.inv.os.trans j.r.os, j.inv.bare, j.inv.nolimit, pinned j.inv, s0, H', ys, y, acc', c', ps', h2, j.r, j.at0, j.inv.base, j.inv.hok, e2, e1, e3, j.gh, hn, hh, fun s' acc2 c2 ps2 z gh => hkk _ _ (h3 s' acc2 c2 ps2 z gh)⟩
    · refine (ht φ Gh L).run Aw Sx [] _ sizeLine [] s2 _ [] _ _ id id s2 (start N vs) H _ ⟨hpn, fun p hp => (by simp at hp), aw, over_func, rfl, rfl, rfl⟩ (Nat.add_zero _) ⟨fun n ys s₀ s' fl hn hs => ?_, fun n ys s₀ s0 acc' cc' ps' e s' r' h1' hn ra' hx => ?_⟩ hG hq
      · have fin : ∀ {H' : Hp} {σ' : L2.St}, FI φ Gh (gcxOf P w K mg base N qual scope f cdv Aw outer s H (fun _ _ _ => False) [(s1.heap.objs.size, go)]) (xfOf PX P w qual scope f cdv Aw outer s H Gh E) L Sx [] ys σ' H' s₀ s' → Q ys H' →
            ∃ s0 H' ys acc c ps, Reb φ L Sx s s0 ∧ AtW s L Sx s₀ s0 (lstObj acc c) ps ∧ s'.os = s.os ∧ AllBare s'.gens ∧ Un (frs outer) [] H H' s0.heap s'.heap ∧ HOk P w H' s'.heap ∧ H' Sx = none ∧ s'.heap.get? Sx = some (lstObj acc c) ∧ (∀ p ∈ ps, s'.heap.get? p.1 = some p.2 ∧ H' p.1 = none) ∧ Gh ys acc ps ∧ ys.length ≤ sizeLine ∧ Q ys H' := fun {H' σ'} hI hQ => by
          obtain ⟨s0, acc', c', ps', j⟩ := hI
          obtain ⟨⟨e1, e2⟩, e3⟩ := pinS j.inv
          exact ⟨s0, H', ys, acc', c', ps', j.r, j.at0, j.inv.os.trans j.r.os, j.inv.bare, j.inv.base, j.inv.hok, e2, e1, e3, j.gh, by omega, hQ⟩
        cases fl with
        | next =>
          obtain ⟨σ', H', hI, hQ⟩ := hs
          exact seg_end (.ok (.ret .none)) ⟨rfl, fin hI hQ⟩
        | brk => obtain ⟨_, _, _, q⟩ := hs; exact False.elim q
        | cont => obtain ⟨_, _, _, q⟩ := hs; exact False.elim q
        | ret u =>
          obtain ⟨v, σ', H', hI, rv, ev, hQ⟩ := hs
          have eu : u = Value.none := by rw [ev] at rv; exact rv
          exact seg_end (.ok (.ret u)) ⟨eu, fin hI hQ⟩
      · refine seg_wrap ?_
        rw [over_func]
        refine wpAny_mono (show wpAny (model P w) (Aw.deeper (envOfC qual scope s.heap.objs.size f cdv)) (leaving (envOfC qual scope s.heap.objs.size f cdv) e) (fun _ s'' => PX outer H s0 (EEf Gh E ((Sx, lstObj acc' cc') :: (ps' ++ [(s1.heap.objs.size, go)]))) e s'' ∧ ∀ p ∈ (Sx, lstObj acc' cc') :: (ps' ++ [(s1.heap.objs.size, go)]), s''.heap.get? p.1 = some p.2) (fun _ _ => False) s' from hx) (fun _ s'' q => ?_) fun _ s'' q => q.elim
        exact seg_end (.error e) ⟨s0, acc', cc', ps', _, r', h1', q.1, hgen _ (q.2 (s1.heap.objs.size, go) (List.mem_cons_of_mem _ (List.mem_append_right _ (List.mem_singleton.mpr rfl)))), q.2 (Sx, lstObj acc' cc') List.mem_cons_self, fun p hp => q.2 p (List.mem_cons_of_mem _ (List.mem_append_left _ hp)), ys, ra', by omega⟩
  exact main _ _ _ _ rfl rfl rfl fun h => Heap.get?_push_size _ rfl
end
end L2

set_option Elab.async false
set_option linter.all false
set_option autoImplicit false
set_option maxRecDepth 100000
set_option maxHeartbeats 1000000
/-! DGF: the consumer's own list, out of sight and back. -/
namespace L2
open PySem PySem.Spec PyProof.Rows GenW
theorem Inv.retrack {X : Cx} {pins : List (Addr × Obj)} {σ : L2.St} {H : Hp} {s : Shared} {S : Addr} {acc : Array Value} {c : Nat} {ys : List V} (I : Inv X ((S, lstObj acc c) :: pins) σ H s) (hm : Mine X S) (hp : ∀ p ∈ X.pn ++ pins, p.1 ≠ S) (hcell : ∀ x c, X.env.cells.lookup x = some c → c ≠ S) (rv : Vals ys acc.toList) (hl : ys.length ≤ sizeLine) : Inv X pins σ (upd H S (.lst ys)) s := by
  obtain ⟨hg, hS, h2, h1, _⟩ := I.pin (S, lstObj acc c) (List.mem_append_right _ List.mem_cons_self)
  have un : ∀ {b : Addr} {u : HO}, H b = some u → upd H S (.lst ys) b = some u := fun {b u} q => by
    rw [upd_ne (fun w => by rw [w, hS] at q; cases q)]; exact q
  refine ⟨I.ok, I.os, I.bare, ⟨I.base.keep, I.base.slot, fun b o q n hx => ?_, I.base.there, fun b xs q => un (I.base.tups b xs q), fun b o u q => un (I.base.frzs b o u q), fun b ps q => ?_⟩, I.loc, I.cell, ?_, fun x c q => ?_, fun p hpp => ?_, fun b u q => ?_, I.len⟩
  · have hb : b ≠ S := fun w => hx (by rw [w] at q n ⊢; exact hm o q n)
    rw [upd_ne hb]
    exact I.base.free b o q n hx
  · obtain ⟨more, z⟩ := I.base.tbls b ps q
    exact ⟨more, un z⟩
  · rw [upd_ne (Ne.symm h2)]; exact I.free
  · rw [upd_ne (hcell x c q)]; exact I.freeC x c q
  · obtain ⟨y1, y2, y3⟩ := I.pin p ((List.mem_append.mp hpp).elim (fun w => List.mem_append_left _ w) fun w => List.mem_append_right _ (List.mem_cons_of_mem _ w))
    exact ⟨y1, by rw [upd_ne (hp p hpp)]; exact y2, y3⟩
  · by_cases hb : b = S
    · subst hb
      rw [upd_same] at q
      cases q
      exact ⟨hl, acc.toList, c, rv, by rw [hg]⟩
    · rw [upd_ne hb] at q
      exact (I.hok b u q).stay (fun _ _ _ z => z) (fun d z => un z) fun d xs z => un z
end L2

set_option Elab.async false
set_option linter.all false
set_option autoImplicit false
set_option maxRecDepth 100000
set_option maxHeartbeats 1000000
/-! DGG: the consumer's turn: for x in g(..): y.append(x). -/
namespace L2
open PySem PySem.Spec PyProof.Rows GenW
end L2

set_option Elab.async false
set_option linter.all false
set_option autoImplicit false
set_option maxRecDepth 100000
set_option maxHeartbeats 1000000
/-! DGH: the consumer's loop. -/
namespace L2
open PySem PySem.Spec PyProof.Rows GenW
/-- the consumer's frame: the names that sigma knows stand there -/
def FrameGood (X : Cx) (σ : L2.St) (o : Obj) : Prop := ∃ es ep, o.data = .dict es ep ∧ StrKeys es ∧ ∀ (j : Nat) (x : Str) (v : V), X.N[j]? = some x → σ[j]? = some (some v) → Vis X.env.scope x → ∃ u, RelV v u ∧ X.env.kindOf x = some .local ∧ nsFind es x = some u
theorem FrameGood.nf {X : Cx} {σ : L2.St} : ∀ o, FrameGood X σ o → ∀ vs, o.data ≠ .fields vs := fun o ⟨es, ep, h, _⟩ vs z => by rw [h] at z; cases z
theorem FrameGood.slots {X : Cx} {σ : L2.St} {o : Obj} {sl : Array (Option Value)} (h : FrameGood X σ o) : FrameGood X σ { o with slots := sl } := h
theorem FrameGood.of {X : Cx} {pins : List (Addr × Obj)} {σ σ1 : L2.St} {H : Hp} {s : Shared} (I : Inv X pins σ H s) (nc : X.env.cells = []) (h : ∀ (j : Nat) (v : V), σ1[j]? = some (some v) → σ[j]? = some (some v)) : ∃ o, s.heap.get? X.env.locals = some o ∧ FrameGood X σ1 o := by
  obtain ⟨m, ⟨o, es, ep, ho, hd, hk, hf⟩, hl⟩ := I.loc
  refine ⟨o, ho, es, ep, hd, hk, fun j x v e1 e2 e3 => ?_⟩
  obtain ⟨u, rv, l⟩ := hl j x v e1 (h j v e2) e3
  rcases l with ⟨k, e⟩ | ⟨_, c, e, _⟩
  · exact ⟨u, rv, k, (hf x).trans e⟩
  · rw [nc] at e; cases e
theorem FrameGood.ns {X : Cx} {σ : L2.St} {o : Obj} {s : Shared} (h : FrameGood X σ o) (e : s.heap.get? X.env.locals = some o) : ∃ m, s.heap.Ns X.env.locals m ∧ ∀ (j : Nat) (x : Str) (v : V), X.N[j]? = some x → σ[j]? = some (some v) → Vis X.env.scope x → ∃ u, RelV v u ∧ X.env.kindOf x = some .local ∧ m x = some u := by
  obtain ⟨es, ep, hd, hk, hf⟩ := h
  exact ⟨nsFind es, ⟨o, es, ep, e, hd, hk, fun _ => rfl⟩, hf⟩
theorem FrameGood.store {X : Cx} {σ : L2.St} {m : Str → Option Value} {h' : Heap} {i : Nat} {x : Str} {v : Value} (nd : X.N.Nodup) (hi : X.N[i]? = some x) (hσ : ∀ w, σ[i]? ≠ some (some w)) (hm : ∀ (j : Nat) (x : Str) (v : V), X.N[j]? = some x → σ[j]? = some (some v) → Vis X.env.scope x → ∃ u, RelV v u ∧ X.env.kindOf x = some .local ∧ m x = some u)
    (hn : h'.Ns X.env.locals (fun y => if y = x then some v else m y)) : ∃ o, h'.get? X.env.locals = some o ∧ FrameGood X σ o := by
  obtain ⟨o, es, ep, ho, hd, hk, hf⟩ := hn
  refine ⟨o, ho, es, ep, hd, hk, fun j y w e1 e2 e3 => ?_⟩
  obtain ⟨u, rv, k, e⟩ := hm j y w e1 e2 e3
  refine ⟨u, rv, k, ?_⟩
  have hne : y ≠ x := fun z => by
    have hij : j = i := by
      obtain ⟨a1, a2⟩ := List.getElem?_eq_some_iff.mp e1
      obtain ⟨b1, b2⟩ := List.getElem?_eq_some_iff.mp hi
      by_cases q : j < i
      · exact absurd (a2.trans (z.trans b2.symm)) (List.pairwise_iff_getElem.mp nd j i a1 b1 q)
      · by_cases q2 : i < j
        · exact absurd (b2.trans (z.symm.trans a2.symm)) (List.pairwise_iff_getElem.mp nd i j b1 a1 q2)
        · omega
    rw [hij] at e2
    exact hσ w e2
  rw [hf y]
  show (if y = x then some v else m y) = some u
  rw [if_neg hne, e]
section
variable {PX : CXT} {X : Cx} {σ1 : L2.St} {H1 : Hp} {sc : Shared} {S a : Addr} {g : Nat} {cont : List Itm → Hp → Prop} {EX : List Itm → XK}
/-- the consumer's list holds the items; it has nothing else -/
def GhA : Ghost := fun ys acc ps => Vals (ys.map (·.1)) acc.toList ∧ ps = []
theorem GhA.len {ys : List Itm} {acc : Array Value} {ps : List (Addr × Obj)} (h : GhA ys acc ps) : acc.size = ys.length := by
  have e1 := h.1.length
  have e2 : acc.toList.length = acc.size := by simp
  rw [List.length_map] at e1
  omega
def FEnd (X : Cx) (σ1 : L2.St) (H1 : Hp) (sc : Shared) (S : Addr) (cont : List Itm → Hp → Prop) : Nat → Shared → Shared → Prop := fun n s₀ s1 => ∃ s0 H' ys acc c, Reb (FrameGood X σ1) X.env.locals S sc s0 ∧ AtW sc X.env.locals S s₀ s0 (lstObj acc c) [] ∧ s1.os = sc.os ∧ AllBare s1.gens ∧ Un (frs X.stack) [] H1 H' s0.heap s1.heap ∧ HOk X.prog X.w H' s1.heap ∧ H' S = none ∧ s1.heap.get? S = some (lstObj acc c) ∧ Vals (ys.map (·.1)) acc.toList ∧ ys.length ≤ sizeLine ∧ cont ys H'
def ErEnd (PX : CXT) (X : Cx) (σ1 : L2.St) (H1 : Hp) (sc : Shared) (S a : Addr) (g : Nat) (EX : List Itm → XK) : Value → Shared → Prop := fun e s1 => ∃ s0 acc c, Reb (FrameGood X σ1) X.env.locals S sc s0 ∧ s0.heap.get? S = some (lstObj acc c) ∧ (∃ rest, PX X.stack H1 s0 (EEf GhA EX ((S, lstObj acc c) :: rest)) e s1) ∧ s1.heap.IsGen a g ∧ s1.heap.get? S = some (lstObj acc c) ∧ acc.size ≤ sizeLine
/-- at the loop's head -/
def HD (PX : CXT) (X : Cx) (σ1 : L2.St) (H1 : Hp) (sc : Shared) (S a : Addr) (g : Nat) (cont : List Itm → Hp → Prop) (EX : List Itm → XK) (n : Nat) (s : Shared) : Prop :=
  ∃ gs acc c o, n + acc.size = sizeLine ∧ s.os = sc.os ∧ AllBare s.gens ∧ s.heap.NoLimit ∧ s.heap.IsGen a g ∧ s.gens[g]? = some gs ∧
    gs.Goes (model X.prog X.w) X.A.in1 (fun n s₀ r s₁ => ((r = .ok (.ret .none) ∨ r = .ok .next) ∧ FEnd X σ1 H1 sc S cont n s₀ s₁) ∨ ∃ e, r = .error e ∧ ErEnd PX X σ1 H1 sc S a g EX e s₁) (YItemF (FrameGood X σ1) GhA X.prog X.w X.stack H1 sc X.env.locals S a g) n (.send .none) (s.setGen g .running) ∧
    s.heap.get? S = some (lstObj acc c) ∧ s.heap.get? X.env.locals = some o ∧ FrameGood X σ1 o
end
end L2

set_option Elab.async false
set_option linter.all false
set_option autoImplicit false
set_option maxRecDepth 100000
set_option maxHeartbeats 1000000
/-! DGI: for x in g(..): y.append(x), as a statement. -/
namespace L2
open PySem PySem.Spec PyProof.Rows GenW
abbrev TGenF := L2.St → Hp → (List Itm → Hp → Prop) → (List Itm → XK) → Prop
/-- an expression whose value is a generator that has not begun -/
structure PGenF (PX : CXT) (X : Cx) (k : Nat) (e : Expr) (tg : TGenF) : Prop where
  run : ∀ (pins : List (Addr × Obj)) (s : Shared) (σ : L2.St) (H : Hp) (cont : List Itm → Hp → Prop) (EX : List Itm → XK), Inv X pins σ H s → tg σ H cont EX →
    wpAny (model X.prog X.w) X.A (eval e X.env) (fun u s' => ∃ H1 sc, Inv X pins σ H1 sc ∧ GMadeF PX X.prog X.w X.base k X.stack H1 sc cont EX u s') X.xe s
/-- an exception of a generator, for its consumer -/
def PassG (PX : CXT) (X : Cx) (W : WX) : Prop := ∀ (S : Addr) (σ' : L2.St) (pins : List (Addr × Obj)) (H1 : Hp) (s0 s2 : Shared) (acc : Array Value) (c g : Nat) (rest : List (Addr × Obj)) (EX : List Itm → XK) (e : Value), Inv X ((S, lstObj acc c) :: pins) σ' H1 s0 → Mine X S → (∀ p ∈ X.pn ++ pins, p.1 ≠ S) → (∀ x c, X.env.cells.lookup x = some c → c ≠ S) →
  PX X.stack H1 s0 (EEf GhA EX ((S, lstObj acc c) :: rest)) e s2 → s2.heap.get? S = some (lstObj acc c) → acc.size ≤ sizeLine → (∀ ys cls d H', EX ys cls d H' → H' S = none → PySem.W.subIn X.K cls (.type "StopIteration") = some false ∧ W cls d σ' (upd H' S (.lst (ys.map (·.1))))) → NotStop (model X.prog X.w) e s2.heap ∧ X.xe e (s2.setGen g .finished)
def tForGen (K : PySem.W.Frag) (i j : Nat) (tg : TGenF) (W : WX) : TS := fun D σ H => ∃ S, σ[j]? = some (some (.ref S)) ∧ H S = some (.lst []) ∧ ∃ EX, tg σ (Hm H S) (fun ys H' => H' S = none → D.nx (σ.set i none) (upd H' S (.lst (ys.map (·.1))))) EX ∧ ∀ ys cls d H', EX ys cls d H' → H' S = none → PySem.W.subIn K cls (.type "StopIteration") = some false ∧ W cls d (σ.set i none) (upd H' S (.lst (ys.map (·.1))))
end L2

set_option Elab.async false
set_option linter.all false
set_option autoImplicit false
set_option maxRecDepth 100000
/-! DGJ: the call of a generator def; what its exceptions are to the consumer. -/
namespace L2
open PySem PySem.Spec PyProof.Rows GenW
section
variable {PX : CXT} {X : Cx} {k : Nat} {f : Addr} {fd : FuncData} {ps : List Str} {sp : SpF} {x : Str} {p pos : Pos} {e : Expr} {es : List Expr} {t : TA}
def tCallF (sp : SpF) (t : TA) : TGenF := fun σ H cont EX => t σ H fun vs H1 => sp vs H1 cont EX
theorem run_fnF {pins : List (Addr × Obj)} {σ : L2.St} {H : Hp} {s : Shared} {us : List Value} {vs : List V} {cont : List Itm → Hp → Prop} {EX : List Itm → XK} {E1 : Value → Shared → Prop} (F : GFnF PX X.prog X.w X.K X.mg X.base k f fd ps sp) (hr : DL.RoomG k X.A) (hb : Binds X.K fd ps [])
    (I : Inv X pins σ H s) (r : Vals vs us) (h : sp vs H cont EX) : wpAny (model X.prog X.w) X.A (call (.ref f) us) (fun u s' => ∃ H1 sc, Inv X pins σ H1 sc ∧ GMadeF PX X.prog X.w X.base k X.stack H1 sc cont EX u s') E1 s := by
  have hl : us.length = ps.length := by rw [← r.length]; exact F.len _ _ _ _ h
  have b := hb s us I.kIn (by rw [List.append_nil]; exact hl)
  rw [List.append_nil] at b
  refine wpAny_call (codeAny_mono (F.run X.A X.stack s H ⟨us, []⟩ us vs cont EX hr I.env0 b r h) fun r s' hq => ?_)
  cases r with
  | error e => exact False.elim hq
  | ok fl =>
    cases fl with
    | ret u => exact ⟨H, s, I, hq⟩
    | next => exact False.elim hq
    | brk => exact False.elim hq
    | cont => exact False.elim hq
theorem pgenF_call (F : GFnF PX X.prog X.w X.K X.mg X.base k f fd ps sp) (hr : DL.RoomG k X.A) (hg : Gl X x) (hm : X.mg x = some (.ref f)) (hk : PySem.W.keepIn X.K (.ref f) = true) (hb : Binds X.K fd ps [])
    (ha : PA X (e :: es) t) (hdb : (x == ("__debug__" : Str)) = false := by decide) (he : starEach (e :: es) X.env = (false, eval e X.env) :: starEach es X.env := by rfl) (hpl : (backTo pos (starEach es X.env)).any (·.1) = false := by rfl) :
    PGenF PX X k (.Call (.Name x p) (e :: es) [] pos) (tCallF sp t) := by
  refine ⟨fun pins s σ H cont EX I h => ?_⟩
  refine wpAny_Call_Name_kw (ld_glob I hg hm ?_ hdb)
  refine PySem.W.callWith_K (h₀ := X.base) I.ok.mod.kin hk (thn (ha.run pos pins s σ H _ I h) fun us s1 ⟨vs, H1, I1, r, q⟩ => ⟨I1.kIn, ?_⟩) he hpl
  exact run_fnF F hr hb I1 r q
end
/-- what EEf says, with its list -/
theorem EEf.at_ {EX : List Itm → XK} {S : Addr} {acc : Array Value} {c : Nat} {rest : List (Addr × Obj)} {cls : Value} {d : Option Addr} {H' : Hp} (h : EEf GhA EX ((S, lstObj acc c) :: rest) cls d H') : ∃ ys, Vals (ys.map (·.1)) acc.toList ∧ EX ys cls d H' := by
  obtain ⟨ys, S', acc', c', ps, rest', hhd, rv, hE⟩ := h
  injection hhd with e _
  injection e with e1 e2
  injection e2 with _ _ e2 _
  injection e2 with e2 e3
  exact ⟨ys, by rw [e2]; exact rv.1, hE⟩
end L2

set_option Elab.async false
set_option linter.all false
set_option autoImplicit false
set_option maxRecDepth 100000
/-! DGK: the same for both of the kit's forms of exceptions (CZ). -/
namespace DL
open PySem PySem.Spec PyProof.Rows GenW L2
end DL

set_option Elab.async false
set_option linter.all false
set_option autoImplicit false
set_option maxRecDepth 100000
/-! DGL: what leaves a generator's body, in both of the kit's forms (CZ): its pins stay. -/
namespace DL
open PySem PySem.Spec PyProof.Rows GenW L2
theorem leaveN {X : Cx} {W : WX} {E : XK} {s' : Shared} (hs : X.stack = X.env :: X.outer) (hf : X.env.frame = some X.env.locals) (hex : X.ex = []) {E₁ : Value → Shared → Prop} (hW : ∀ cls d σ H, W cls d σ H → E cls d H) {u : Value} (x : L2N.XE X W u s') :
    wpAny (model X.prog X.w) X.A (leaving X.env u) (fun _ s'' => L2N.CX X.prog X.w X.outer X.H_0 X.s_0 E u s'' ∧ ∀ p ∈ X.pn, s''.heap.get? p.1 = some p.2) E₁ s' := by
  obtain ⟨a, B, sI, pins, σ, H, cls, d, rfl, I, nb, up, sky, na, os, ag, w⟩ := x
  have ng : ∀ b, b ∉ X.ex := fun b hb => by rw [hex] at hb; cases hb
  have far : ∀ b o, X.s_0.heap.get? b = some o → b ∉ X.fs → b ∉ frs X.stack := fun b o e hb hm => by
    rcases List.mem_cons.mp (I.stkSub b hm) with z | z
    · have h1 := Nat.lt_of_lt_of_le (Heap.lt_size e) I.ok.above
      rw [z] at h1
      exact Nat.lt_irrefl _ h1
    · exact hb z
  have pinB : ∀ p ∈ X.pn, B.get? p.1 = some p.2 := fun p hp => by
    obtain ⟨h1, _, h3, h4, _⟩ := I.pin p (List.mem_append_left _ hp)
    refine nb p.1 p.2 h1 fun hm => ?_
    rcases List.mem_cons.mp (I.stkSub p.1 hm) with z | z
    · exact h3 z
    · exact h4 z
  have fin : ∀ h', HandSPX.FlyingZ B X.outer a (L2N.Zn cls d) h' → s'.heap.UpToSlots h' → (L2N.CX X.prog X.w X.outer X.H_0 X.s_0 E (.ref a) { s' with heap := h' } ∧ ∀ p ∈ X.pn, ({ s' with heap := h' } : Shared).heap.get? p.1 = some p.2) := fun h' fl up' => by
    have ub : UB (frs X.outer) X.H_0 H X.s_0.heap B h' := by
      refine ⟨fun b o e n hb => nb b o (I.base.keep b o e n hb (ng b)) (far b o e hb), fun b o e hb => ?_, fun b o e n => I.base.free b o e n (ng b), fun b o e hb => ?_, I.base.tups, I.base.frzs, I.base.tbls⟩
      · obtain ⟨_, o₀, e₀, hnf⟩ := I.ok.funs.mem hb
        rw [e] at e₀; cases e₀
        obtain ⟨sl, e1⟩ := I.base.slot b o e (I.ok.frf b hb) hb (ng b)
        obtain ⟨sl2, e2⟩ := up b _ e1 hnf
        obtain ⟨sl3, e3⟩ := up' b _ e2 hnf
        exact ⟨sl3, e3⟩
      · obtain ⟨o', e1⟩ := I.base.there b o e (ng b)
        exact ⟨o', nb b o' e1 (far b o e hb)⟩
    exact ⟨⟨a, B, H, cls, d, rfl, fl, I.inGround nb, ub, na, os.trans I.os, ag, hW _ _ _ _ w⟩, fun p hp => fl.1 p.1 p.2 (pinB p hp)⟩
  have hfr : X.A.frames = some (X.env :: X.outer) := by rw [I.ok.frames, hs]
  rw [hs] at sky
  rcases sky with ⟨hB, hn, hl, oe, vs, he, hz, hd, h1⟩ | fl | hd
  · exact PXN.leaving_firstZ L2N.Zn.steady hfr hl hf he hB hn hd h1 hz fin
  · exact PXN.leaves_onZ L2N.Zn.steady hfr hf fl fin
  · exact HandSPX.leaves_heldZ hf hd fin
/-- a generator's body lets its exceptions out -/
theorem takes_gcz {P : Program} {w : World} {K : PySem.W.Frag} {mg : Str → Option Value} {base : Heap} {N : List Str} {qual : Str} {scope : Scope} {f : Addr} {cd : Value} {A : Around} {outer : List PySem.Env} {s : Shared} {H : Hp} {E : XK} {pn : List (Addr × Obj)} :
    Takes (gcxP (CZ K P w) P w K mg base N qual scope f cd A outer s H E pn) (fun cls d _ H' => E cls d H') := by
  refine ⟨fun u s' x => ?_, fun u s' x => ?_⟩
  · exact thn (leaveN (X := gcxP (CZ K P w) P w K mg base N qual scope f cd A outer s H E pn) (E := fun c d H' => coldK K c = true ∧ E c d H') (E₁ := fun _ _ => False) rfl rfl rfl (fun _ _ _ _ h => h) x) fun _ _ z => ⟨.inl z.1, z.2⟩
  · exact thn (XE.leaveG (X := gcxP (CZ K P w) P w K mg base N qual scope f cd A outer s H E pn) (E := fun c d H' => coldK K c = false ∧ E c d H') (E₁ := fun _ _ => False) rfl rfl rfl (fun _ _ _ _ h => h) x) fun _ _ z => ⟨.inr z.1, z.2⟩
end DL

set_option Elab.async false
set_option linter.all false
set_option autoImplicit false
set_option maxRecDepth 100000
/-! DGM: for x in g(..): y.append(x), over data. -/
namespace DL
open PySem PySem.Spec PyProof.Rows L2
section
variable {K : PySem.W.Frag} {T : Tb} {B : Bs} {M : List Nat} {W : EK} {F H : Hp} {ρ : Env} {σ : L2.St}
/-- the base where what is at S is not told of -/
def Bs.less (B : Bs) (S : Addr) : Bs := { B with H0 := Hm B.H0 S, O1 := fun i a => B.O1 i a ∧ a ≠ S }
theorem less_h {B : Bs} {S b : Addr} {o : HO} (h : (B.less S).H0 b = some o) : b ≠ S ∧ B.H0 b = some o := by
  have h : Hm B.H0 S b = some o := h
  by_cases e : b = S
  · rw [e, Hm_self] at h; cases h
  · rw [Hm_ne e] at h; exact ⟨e, h⟩
theorem less_n {B : Bs} {S b : Addr} (h : (B.less S).H0 b = none) (e : b ≠ S) : B.H0 b = none := by
  have h : Hm B.H0 S b = none := h
  rwa [Hm_ne e] at h
/-- .. and told of again, one's own -/
theorem SR.more {j : Nat} {S : Addr} (R : SR K T (B.less S) M F H ρ σ) (hin : S ∈ foot H (σ[j]?) (ρ.at j)) (hH : ∃ u, H S = some u) (hF : F S = none) (h0 : B.H0 S = none ∨ B.O1 j S) : SR K T B M F H ρ σ := by
  have neF : ∀ {b o}, F b = some o → b ≠ S := fun {b o} q z => by rw [z, hF] at q; cases q
  refine ⟨⟨⟨R.sub.w⟩, fun a od u e z => ?_⟩, fun b o e n m => ?_, fun b o e => ?_, R.f0, fun b o e => ?_, R.len, R.slot, fun i a ha => ?_, R.injF, R.pin, R.tabs⟩
  · obtain ⟨q1, q2⟩ := R.sub.lk a od u e z
    exact ⟨(less_h q1).2, fun ⟨i, y⟩ => q2 ⟨i, y, neF e⟩⟩
  · by_cases hb : b = S
    · rcases h0 with q | q
      · rw [hb, q] at e; cases e
      · exact absurd ⟨j, by rw [hb]; exact q⟩ n
    · exact R.keep b o ((Hm_ne hb).trans e) (fun ⟨i, y⟩ => n ⟨i, y.1⟩) m
  · by_cases hb : b = S
    · rw [hb]; exact hH
    · exact R.live b o ((Hm_ne hb).trans e)
  · rcases R.fnew b o e with q | q | ⟨i, q⟩ | q
    · exact .inl q
    · exact .inr (.inl (less_n q (neF e)))
    · exact .inr (.inr (.inl ⟨i, q.1⟩))
    · exact .inr (.inr (.inr q))
  · by_cases hb : a = S
    · subst hb
      have := R.injF i j a ha hin
      subst this
      exact h0
    · rcases R.newF i a ha with q | q
      · exact .inl (less_n q hb)
      · exact .inr q.1
/-- an item over data: a value that is settled, or (b) a list that is given for good -/
def RepI (K : PySem.W.Frag) (T : Tb) (F : Hp) (b : Bool) (y : Itm) (d : D) : Prop := match b with
  | false => y.2 = none ∧ Rep K T F y.1 d
  | true => ∃ vs ds, y.2 = some vs ∧ d = .lst ds ∧ RepL K T F vs ds
inductive RepIs (K : PySem.W.Frag) (T : Tb) (F : Hp) (b : Bool) : List Itm → List D → Prop
  | nil : RepIs K T F b [] []
  | cons {y : Itm} {d : D} {ys : List Itm} {ds : List D} : RepI K T F b y d → RepIs K T F b ys ds → RepIs K T F b (y :: ys) (d :: ds)
theorem RepI.mono {K : PySem.W.Frag} {F' : Hp} {b : Bool} {y : Itm} {d : D} (h : RepI K T F b y d) (e : Same F F') : RepI K T F' b y d := by
  cases b with
  | false => exact ⟨h.1, h.2.mono e⟩
  | true => obtain ⟨vs, ds, e1, e2, r⟩ := h; exact ⟨vs, ds, e1, e2, r.mono e⟩
theorem RepIs.mono {K : PySem.W.Frag} {F' : Hp} {b : Bool} {ys : List Itm} {ds : List D} (h : RepIs K T F b ys ds) (e : Same F F') : RepIs K T F' b ys ds := by
  induction h with
  | nil => exact .nil
  | cons a r ih => exact .cons (a.mono e) ih
theorem RepIs.len {K : PySem.W.Frag} {b : Bool} {ys : List Itm} {ds : List D} (h : RepIs K T F b ys ds) : ys.length = ds.length := by
  induction h with
  | nil => rfl
  | cons a r ih => simp only [List.length_cons, ih]
theorem RepIs.snoc {K : PySem.W.Frag} {b : Bool} {y : Itm} {d : D} {ys : List Itm} {ds : List D} (h : RepIs K T F b ys ds) (a : RepI K T F b y d) : RepIs K T F b (ys ++ [y]) (ds ++ [d]) := by
  induction h with
  | nil => exact .cons a .nil
  | cons a' r ih => exact .cons a' ih
theorem RepIs.plain {K : PySem.W.Frag} {ys : List Itm} {ds : List D} (h : RepIs K T F false ys ds) : RepL K T F (ys.map (·.1)) ds := by
  generalize hb : false = b at h
  induction h with
  | nil => exact .nil
  | cons a r ih => subst hb; exact .cons a.2 ih
def spCG (b : Bool) (K : PySem.W.Frag) (T : Tb) (n : Nat) (M : List Nat) (con : GCon) : SpF := fun vs H Q E => ∃ F args Qc Ec, vs.length = n ∧ args.length = n ∧ (SmW F H ∧ TabsF T.tabs F H) ∧ (∀ (i : Nat) (v : V) (s : Slot), vs[i]? = some v → args[i]? = some s → ArgOk K T F H v s) ∧
  (∀ (i j : Nat) (p : Addr), OwnI H vs args i p → OwnI H vs args j p → i = j) ∧ (∀ (i : Nat) (p : Addr), OwnI H vs args i p → i ∈ M) ∧ con args Qc Ec ∧
  (∀ F' H' ys ds outs, Aft K T M F H vs args F' H' outs → RepIs K T F' b ys ds → Qc ds outs → Q ys H') ∧
  (∀ F' H' ys ds cls d x outs, Aft K T M F H vs args F' H' outs → RepIs K T F' b ys ds → ExR K T F' cls d x → Ec ds x outs → E ys cls d H')
theorem callG_of {X : Cx} {con : GCon} {as : List DA} {n : Nat} {Mc : List Nat} {Qn : List D → Env → Prop} {Ex : List D → Exc → Env → Prop} {b : Bool} {cont : List Itm → Hp → Prop} {EX : List Itm → XK} (hn : as.length = n) (hf : fitA as Mc = true) (S : SR X.K T B M F H ρ σ)
    (h : dAVs as ρ (fun bs ρ1 => bs.all (AV.ok ρ1) = true ∧ con (bs.map (avSlot ρ1)) (fun ds outs => Qn ds (backA bs outs ρ1)) (fun ds x outs => Ex ds x (backA bs outs ρ1))) W)
    (k : ∀ F' H' ρ' ys ds, Same F F' → SR X.K T B M F' H' ρ' σ → RepIs X.K T F' b ys ds → Qn ds ρ' → cont ys H')
    (kx : ∀ F' H' ρ' ys ds cls d x, Same F F' → SR X.K T B M F' H' ρ' σ → RepIs X.K T F' b ys ds → ExR X.K T F' cls d x → Ex ds x ρ' → EX ys cls d H') :
    lAV X.K T B M W as σ H fun vs H1 => spCG b X.K T n Mc con vs H1 cont EX := by
  refine ⟨F, ρ, _, S, h, fun F1 H1 ρ1 vs bs e1 S1 R1 mt q => ?_⟩
  obtain ⟨ok, q⟩ := q
  obtain ⟨nd, hm⟩ := fitA_of hf mt
  have hlen : vs.length = n := by rw [R1.len, ← mt.len, hn]
  have argAt : ∀ (i : Nat), (bs.map (avSlot ρ1))[i]? = (bs[i]?).map (avSlot ρ1) := fun i => by rw [List.getElem?_map]
  refine ⟨F1, bs.map (avSlot ρ1), _, _, hlen, by rw [List.length_map, ← mt.len, hn], ⟨S1.sub.toSmW, S1.tabs⟩, fun i v s h1 h2 => ?_, fun i j p h1 h2 => ?_, fun i p h1 => ?_, q, fun F2 H2 ys ds outs A r q2 => ?_, fun F2 H2 ys ds cls d x outs A r ex q2 => ?_⟩
  · rw [argAt] at h2
    cases e : bs[i]? with
    | none => rw [e] at h2; cases h2
    | some a =>
      rw [e] at h2
      cases h2
      cases a with
      | v d => exact R1.getV h1 e
      | m j =>
        have hs := S1.slot j
        rw [R1.getM h1 e] at hs
        exact ArgOk.of _ _ hs
  · obtain ⟨a, e1, f1⟩ := OwnI.arg R1 h1
    obtain ⟨b, e2, f2⟩ := OwnI.arg R1 h2
    have := S1.injF a b p f1 f2
    subst this
    exact nodup_m nd e1 e2
  · obtain ⟨a, e1, f1⟩ := OwnI.arg R1 h1
    exact hm i a e1
  · exact k F2 H2 _ ys ds (e1.trans A.same) (S1.after R1 hm A) r q2
  · exact kx F2 H2 _ ys ds cls d x (e1.trans A.same) (S1.after R1 hm A) r ex q2
/-- the arguments, whatever the base -/
def lAVn (K : PySem.W.Frag) (T : Tb) (M : List Nat) (as : List DA) : TA := fun σ H Q => ∃ B', lAV K T B' M noE as σ H Q
end
end DL

set_option Elab.async false
set_option linter.all false
set_option autoImplicit false
set_option maxRecDepth 100000
/-! DGN: the statements of a generator's body, over data. -/
namespace DL
open PySem PySem.Spec PyProof.Rows L2
/-- the same base, where F is what was settled -/
def Bs.re (B : Bs) (F : Hp) : Bs := { B with F0 := F }
section
variable {K : PySem.W.Frag} {T : Tb} {B : Bs} {M : List Nat} {F F2 H H2 : Hp} {ρ ρ2 : Env} {σ σ2 : L2.St}
theorem SR.re (S : SR K T B M F H ρ σ) : SR K T (B.re F) M F H ρ σ := ⟨S.sub, S.keep, S.live, Same.refl _, fun b o e => .inl e, S.len, S.slot, S.newF, S.injF, S.pin, S.tabs⟩
theorem SR.unre (S : SR K T B M F H ρ σ) (S2 : SR K T (B.re F) M F2 H2 ρ2 σ2) : SR K T B M F2 H2 ρ2 σ2 ∧ Same F F2 :=
  ⟨⟨S2.sub, S2.keep, S2.live, S.f0.trans S2.f0, fun b o e => (S2.fnew b o e).elim (S.fnew b o) .inr, S2.len, S2.slot, S2.newF, S2.injF, S2.pin, S2.tabs⟩, S2.f0⟩
end
def lGi (b : Bool) (K : PySem.W.Frag) (T : Tb) (B : Bs) (M : List Nat) (Ex : EKG) (f : DGn) : TGi := fun J ys σ H => ∃ F ρ ds Jd, SR K T B M F H ρ σ ∧ RepIs K T F b ys ds ∧ f Jd ds ρ Ex ∧
  (∀ F' H' ρ' σ' ys' ds', Same F F' → SR K T B M F' H' ρ' σ' → RepIs K T F' b ys' ds' → Jd.nx ds' ρ' → J.nx ys' σ' H') ∧
  (∀ F' H' ρ' σ' ys' ds' v r, Same F F' → SR K T B M F' H' ρ' σ' → RepIs K T F' b ys' ds' → RetV K T B F' H' ρ' σ' v r → Jd.rt ds' r ρ' → J.rt ys' v H') ∧
  (∀ F' H' ρ' σ' ys' ds', Same F F' → SR K T B M F' H' ρ' σ' → RepIs K T F' b ys' ds' → Jd.bk ds' ρ' → J.bk ys' σ' H') ∧
  (∀ F' H' ρ' σ' ys' ds', Same F F' → SR K T B M F' H' ρ' σ' → RepIs K T F' b ys' ds' → Jd.ct ds' ρ' → J.ct ys' σ' H')
/-- what an exception in the body means to the promise -/
def ExG (b : Bool) (K : PySem.W.Frag) (T : Tb) (B : Bs) (M : List Nat) (Ex : EKG) (E : List Itm → XK) : Prop := ∀ F' H' ρ' σ' ys ds cls d x, SR K T B M F' H' ρ' σ' → RepIs K T F' b ys ds → ExR K T F' cls d x → Ex ds x ρ' → E ys cls d H'
/-- the body's contexts take exceptions -/
def TakesG (φ : Obj → Prop) (Gh : Ghost) (X : Cx) (xf : XF) (L : Addr) (E : List Itm → XK) : Prop := ∀ S s0 acc c ps ys, Reb φ L S X.s_0 s0 → Gh ys acc ps → ∀ W : WX, (∀ cls d σ H, W cls d σ H → E ys cls d H) → Takes (X.gx xf S s0 (lstObj acc c) ps) W
section
variable {fl : Bool} {φ : Obj → Prop} {Gh : Ghost} {X : Cx} {xf : XF} {L : Addr} {E : List Itm → XK} {T : Tb} {B : Bs} {M : List Nat} {Ex : EKG} {st : Stmt} {rest p q : List Stmt} {e : Expr} {pos yp : Pos}
theorem exW (hE : ExG fl X.K T B M Ex E) {F H : Hp} {ρ : Env} {σ : L2.St} {ys : List Itm} {ds : List D} (S : SR X.K T B M F H ρ σ) (r : RepIs X.K T F fl ys ds) : ∀ cls d σ' H', lW X.K T (B.re F) M (Ex ds) cls d σ' H' → E ys cls d H' := fun cls d σ' H' ⟨F', ρ', x, S2, ex, w⟩ => by
  obtain ⟨S3, sm⟩ := S.unre S2
  exact hE F' H' ρ' σ' ys ds cls d x S3 (r.mono sm) ex w
theorem gs_plain {f : DS} (tk : TakesG φ Gh X xf L E) (hE : ExG fl X.K T B M Ex E) (hp : PassF φ X xf L) (h : ∀ S s0 o ps (B' : Bs) (W : EK), B'.O1 = B.O1 → Takes (X.gx xf S s0 o ps) (lW X.K T B' M W) → PassesOwn (model X.prog X.w) X.A X.env (X.gx xf S s0 o ps).xe → PDS (X.gx xf S s0 o ps) T B' M W st f) : FS φ Gh X xf L st (lGi fl X.K T B M Ex (gPlain f)) := by
  have := fs_ps (φ := φ) (Gh := Gh) (X := X) (xf := xf) (L := L) (st := st) (t := fun ys J σ H => ∃ F ρ ds, SR X.K T B M F H ρ σ ∧ RepIs X.K T F fl ys ds ∧ lS X.K T (B.re F) M (Ex ds) f J σ H)
    fun S s0 acc c ps ys rb rv => ⟨fun pins s σ H J I ⟨F, ρ, ds, R, r, q⟩ => (h S s0 _ ps (B.re F) (Ex ds) rfl (tk S s0 acc c ps ys rb rv _ (exW hE R r)) (hp S s0 _ ps rb)).run pins s σ H J I q⟩
  refine ⟨fun A S ip R n ys s₀ c fs Kf J gd lv s σ H D g hn k hI ⟨F, ρ, ds, Jd, S1, r, q, k1, k2, k3, k4⟩ => this.run A S ip R n ys s₀ c fs Kf J gd lv s σ H D g hn k hI ⟨F, ρ, ds, S1, r, F, ρ, Jd.at ds, S1.re, q, ?_, ?_, ?_, ?_⟩⟩
  · exact fun F' H' ρ' σ' sm S2 q => k1 F' H' ρ' σ' ys ds sm (S1.unre S2).1 (r.mono sm) q
  · exact fun F' H' ρ' σ' v rr sm S2 R2 q => k2 F' H' ρ' σ' ys ds v rr sm (S1.unre S2).1 (r.mono sm) (by cases rr <;> exact R2) q
  · exact fun F' H' ρ' σ' sm S2 q => k3 F' H' ρ' σ' ys ds sm (S1.unre S2).1 (r.mono sm) q
  · exact fun F' H' ρ' σ' sm S2 q => k4 F' H' ρ' σ' ys ds sm (S1.unre S2).1 (r.mono sm) q
theorem gs_imp {t t' : TGi} (h : FS φ Gh X xf L st t) (k : ∀ D ys σ H, t' D ys σ H → t D ys σ H) : FS φ Gh X xf L st t' := ⟨fun A S ip R n ys s₀ c fs Kf J gd lv s σ H D g hn kk hI q => h.run A S ip R n ys s₀ c fs Kf J gd lv s σ H D g hn kk hI (k _ _ _ _ q)⟩
theorem gss_imp {t t' : TGi} (h : FSs φ Gh X xf L rest t) (k : ∀ D ys σ H, t' D ys σ H → t D ys σ H) : FSs φ Gh X xf L rest t' := ⟨fun A S ip R n ys s₀ c fs Kf J gd lv s σ H D g hn kk hI q => h.run A S ip R n ys s₀ c fs Kf J gd lv s σ H D g hn kk hI (k _ _ _ _ q)⟩
theorem gss_nilD : FSs φ Gh X xf L [] (lGi fl X.K T B M Ex gNil) := gss_imp fss_nil fun D ys σ H ⟨F, ρ, ds, Jd, S, r, q, k1, _⟩ => k1 F H ρ σ ys ds (Same.refl _) S r q
theorem gss_consD {f g : DGn} (a : FS φ Gh X xf L st (lGi fl X.K T B M Ex f)) (b : FSs φ Gh X xf L rest (lGi fl X.K T B M Ex g)) : FSs φ Gh X xf L (st :: rest) (lGi fl X.K T B M Ex (gThen f g)) :=
  gss_imp (fss_cons a b) fun D ys σ H ⟨F, ρ, ds, Jd, S, r, q, k1, k2, k3, k4⟩ => ⟨F, ρ, ds, _, S, r, q, fun F' H' ρ' σ' ys' ds' sm S' r' q' => ⟨F', ρ', ds', Jd, S', r', q', fun F2 H2 ρ2 σ2 ys2 ds2 sm2 => k1 F2 H2 ρ2 σ2 ys2 ds2 (sm.trans sm2),
    fun F2 H2 ρ2 σ2 ys2 ds2 v rr sm2 => k2 F2 H2 ρ2 σ2 ys2 ds2 v rr (sm.trans sm2), fun F2 H2 ρ2 σ2 ys2 ds2 sm2 => k3 F2 H2 ρ2 σ2 ys2 ds2 (sm.trans sm2), fun F2 H2 ρ2 σ2 ys2 ds2 sm2 => k4 F2 H2 ρ2 σ2 ys2 ds2 (sm.trans sm2)⟩, k2, k3, k4⟩
end
end DL

set_option Elab.async false
set_option linter.all false
set_option autoImplicit false
set_option maxRecDepth 100000
/-! DGO: yield and if in a generator's body, over data. -/
namespace DL
open PySem PySem.Spec PyProof.Rows L2
section
variable {fl : Bool} {φ : Obj → Prop} {Gh : Ghost} {X : Cx} {xf : XF} {L : Addr} {E : List Itm → XK} {T : Tb} {B : Bs} {M : List Nat} {Ex : EKG} {st : Stmt} {rest p q : List Stmt} {e : Expr} {pos yp : Pos}
theorem gs_yield {f : DE} (tk : TakesG φ Gh X xf L E) (hE : ExG false X.K T B M Ex E) (h : ∀ S s0 o ps (B' : Bs) (W : EK), B'.O1 = B.O1 → Takes (X.gx xf S s0 o ps) (lW X.K T B' M W) → PD (X.gx xf S s0 o ps) T B' M W e f) (hco : X.env.scope.isCoroutine = false := by rfl) (hi : interactive X.env = false := by rfl) :
    FS φ Gh X xf L (.Expr (.Yield (some e) yp) pos) (lGi false X.K T B M Ex (gYield f)) := by
  have := fs_yield (φ := φ) (Gh := Gh) (X := X) (xf := xf) (L := L) (e := e) (yp := yp) (pos := pos) (te := fun ys σ H Q => ∃ F ρ ds, SR X.K T B M F H ρ σ ∧ RepIs X.K T F false ys ds ∧ lE X.K T (B.re F) M (Ex ds) f σ H Q)
    (fun S s0 acc c ps ys rb rv => ⟨fun pins s σ H Q I ⟨F, ρ, ds, R, r, q⟩ => (h S s0 _ ps (B.re F) (Ex ds) rfl (tk S s0 acc c ps ys rb rv _ (exW hE R r))).run pins s σ H Q I q⟩) hco hi
  refine gs_imp this fun D ys σ H ⟨F, ρ, ds, Jd, S1, r, ⟨hl, q⟩, k1, _⟩ => ⟨by rw [r.len]; exact hl, F, ρ, ds, S1, r, F, ρ, _, S1.re, q, fun F' H' ρ' v rr sm S2 R2 q2 => ?_⟩
  obtain ⟨⟨d, rfl⟩, q2⟩ := q2
  have S3 := (S1.unre S2).1
  exact k1 F' H' ρ' σ _ _ sm S3 ((r.mono sm).snoc ⟨rfl, R2⟩) q2
theorem gs_if {c : Expr} {t : DT} {f g : DGn} (tk : TakesG φ Gh X xf L E) (hE : ExG fl X.K T B M Ex E) (h : ∀ S s0 o ps (B' : Bs) (W : EK), B'.O1 = B.O1 → Takes (X.gx xf S s0 o ps) (lW X.K T B' M W) → PDT (X.gx xf S s0 o ps) T B' M W c t) (ha : FSs φ Gh X xf L p (lGi fl X.K T B M Ex f)) (hb : FSs φ Gh X xf L q (lGi fl X.K T B M Ex g)) :
    FS φ Gh X xf L (.If c p q pos) (lGi fl X.K T B M Ex (gIf t f g)) := by
  have := fs_if (φ := φ) (Gh := Gh) (X := X) (xf := xf) (L := L) (c := c) (pos := pos) (tc := fun ys σ H Q => ∃ F ρ ds, SR X.K T B M F H ρ σ ∧ RepIs X.K T F fl ys ds ∧ lT X.K T (B.re F) M (Ex ds) t σ H Q)
    (fun S s0 acc c ps ys rb rv => ⟨fun pins s σ H Q I ⟨F, ρ, ds, R, r, q⟩ => (h S s0 _ ps (B.re F) (Ex ds) rfl (tk S s0 acc c ps ys rb rv _ (exW hE R r))).run pins s σ H Q I q⟩) ha hb
  refine gs_imp this fun D ys σ H ⟨F, ρ, ds, Jd, S1, r, q, k1, k2, k3, k4⟩ => ⟨F, ρ, ds, S1, r, F, ρ, _, S1.re, q, fun F' H' ρ' b sm S2 q2 => ?_⟩
  have S3 := (S1.unre S2).1
  cases b with
  | true =>
    show lGi fl X.K T B M Ex f D ys σ H'
    have q2 : f Jd ds ρ' Ex := q2
    exact ⟨F', ρ', ds, Jd, S3, r.mono sm, q2, fun F2 H2 ρ2 σ2 ys2 ds2 sm2 => k1 F2 H2 ρ2 σ2 ys2 ds2 (sm.trans sm2), fun F2 H2 ρ2 σ2 ys2 ds2 v rr sm2 => k2 F2 H2 ρ2 σ2 ys2 ds2 v rr (sm.trans sm2), fun F2 H2 ρ2 σ2 ys2 ds2 sm2 => k3 F2 H2 ρ2 σ2 ys2 ds2 (sm.trans sm2), fun F2 H2 ρ2 σ2 ys2 ds2 sm2 => k4 F2 H2 ρ2 σ2 ys2 ds2 (sm.trans sm2)⟩
  | false =>
    show lGi fl X.K T B M Ex g D ys σ H'
    have q2 : g Jd ds ρ' Ex := by simpa using q2
    exact ⟨F', ρ', ds, Jd, S3, r.mono sm, q2, fun F2 H2 ρ2 σ2 ys2 ds2 sm2 => k1 F2 H2 ρ2 σ2 ys2 ds2 (sm.trans sm2), fun F2 H2 ρ2 σ2 ys2 ds2 v rr sm2 => k2 F2 H2 ρ2 σ2 ys2 ds2 v rr (sm.trans sm2), fun F2 H2 ρ2 σ2 ys2 ds2 sm2 => k3 F2 H2 ρ2 σ2 ys2 ds2 (sm.trans sm2), fun F2 H2 ρ2 σ2 ys2 ds2 sm2 => k4 F2 H2 ρ2 σ2 ys2 ds2 (sm.trans sm2)⟩
end
end DL

set_option Elab.async false
set_option linter.all false
set_option autoImplicit false
set_option maxRecDepth 100000
/-! DGP: a for loop in a generator's body, over data. -/
namespace DL
open PySem PySem.Spec PyProof.Rows L2
section
variable {fl : Bool} {φ : Obj → Prop} {Gh : Ghost} {X : Cx} {xf : XF} {L : Addr} {E : List Itm → XK} {T : Tb} {B : Bs} {M : List Nat} {Ex : EKG} {st : Stmt} {body : List Stmt} {tg iter : Expr} {pos : Pos}
theorem gs_for {it : DI} {G : DG} {u : DGn} (tk : TakesG φ Gh X xf L E) (hE : ExG fl X.K T B M Ex E) (hp : PassF φ X xf L) (hc : X.calm = true)
    (h : ∀ S s0 o ps (B' : Bs) (W : EK), B'.O1 = B.O1 → Takes (X.gx xf S s0 o ps) (lW X.K T B' M W) → PDI (X.gx xf S s0 o ps) T B' M W tg iter it) (hg : ∀ S s0 o ps, PDG (X.gx xf S s0 o ps) T B M tg G) (hb : FSs φ Gh X xf L body (lGi fl X.K T B M Ex u))
    (hs : ∀ x, foldedSetIterable iter X.env x = pure x := by intro _; rfl) : FS φ Gh X xf L (.For tg iter body [] pos) (lGi fl X.K T B M Ex (gFor it G u)) := by
  have := fs_for (φ := φ) (Gh := Gh) (X := X) (xf := xf) (L := L) (tg := tg) (iter := iter) (body := body) (pos := pos) (wi := fun ys σ H R => ∃ F ρ ds, SR X.K T B M F H ρ σ ∧ RepIs X.K T F fl ys ds ∧ lI X.K T (B.re F) M (Ex ds) it σ H R) (g := fun _ => lG X.K T B M G) hp hc
    (fun S s0 acc c ps ys rb rv => ⟨fun pins s σ H Q I ⟨F, ρ, ds, R, r, q⟩ => (h S s0 _ ps (B.re F) (Ex ds) rfl (tk S s0 acc c ps ys rb rv _ (exW hE R r))).run pins s σ H Q I q⟩) (fun S s0 acc c ps ys rb rv => hg S s0 _ ps) hb hs
  refine gs_imp this fun D ys σ H ⟨F, ρ, ds, Jd, S, r, q, k1, k2, k3, k4⟩ => ⟨F, ρ, ds, S, r, F, ρ, _, S.re, q, fun F1 H1 ρ1 xs It e1 S1 io q => ?_⟩
  have S1 := (S.unre S1).1
  refine ⟨fun i m ys' σ' H' => m = xs.length - i ∧ i ≤ xs.length ∧ ∃ F' ρ' ds', Same F1 F' ∧ SR X.K T B M F' H' ρ' σ' ∧ RepIs X.K T F' fl ys' ds' ∧ forG G u Jd Ex (xs.drop i) ds' ρ', ⟨xs.length, by simp, Nat.zero_le _, F1, ρ1, ds, Same.refl _, S1, r.mono e1, q⟩, ?_⟩
  rintro i m ys' σ' H' ⟨rfl, hi, F', ρ', ds', e2, S2, r2, q2⟩
  by_cases hlt : i < xs.length
  · obtain ⟨go, yl⟩ := (io i F' H' e2 S2.sub.toSmW).1 hlt
    refine .inr ⟨go, fun ys3 σ3 H3 => ∃ F3 ρ3 ds3, Same F1 F3 ∧ SR X.K T B M F3 H3 ρ3 σ3 ∧ RepIs X.K T F3 fl ys3 ds3 ∧ forG G u Jd Ex (xs.drop (i + 1)) ds3 ρ3, fun ys3 σ3 H3 hN => ⟨xs.length - (i + 1), by omega, rfl, hlt, hN⟩, fun x H'' hy => ?_⟩
    obtain ⟨rr, hx, n⟩ := yl x H'' hy
    obtain ⟨S3, RV⟩ := S2.new n
    obtain ⟨F3, e3, S3, R3⟩ := S3.fix RV
    rw [drop_at hx] at q2
    have q2 : G rr.d ρ' (fun ρ1 => u { nx := forG G u Jd Ex (xs.drop (i + 1)), ct := forG G u Jd Ex (xs.drop (i + 1)), bk := Jd.nx, rt := Jd.rt } ds' ρ1 Ex) := q2
    refine ⟨F3, ρ', rr.d, _, S3, R3, q2, fun F4 H4 ρ4 σ4 e4 S4 q4 => ?_⟩
    have e5 := e1.trans (e2.trans (e3.trans e4))
    exact ⟨F4, ρ4, ds', _, S4, r2.mono (e3.trans e4), q4, fun F5 H5 ρ5 σ5 y5 d5 e6 S5 r5 q5 => ⟨F5, ρ5, d5, e2.trans (e3.trans (e4.trans e6)), S5, r5, q5⟩, fun F5 H5 ρ5 σ5 y5 d5 v r e6 => k2 F5 H5 ρ5 σ5 y5 d5 v r (e5.trans e6),
      fun F5 H5 ρ5 σ5 y5 d5 e6 => k1 F5 H5 ρ5 σ5 y5 d5 (e5.trans e6), fun F5 H5 ρ5 σ5 y5 d5 e6 S5 r5 q5 => ⟨F5, ρ5, d5, e2.trans (e3.trans (e4.trans e6)), S5, r5, q5⟩⟩
  · have e : i = xs.length := by omega
    subst e
    rw [List.drop_length] at q2
    exact .inl ⟨(io _ F' H' e2 S2.sub.toSmW).2 (Nat.le_refl _), k1 F' H' ρ' σ' ys' ds' (e1.trans e2) S2 r2 q2⟩
end
end DL

set_option Elab.async false
set_option linter.all false
set_option autoImplicit false
set_option maxRecDepth 100000
/-! DGQ: a generator def by its body, over data. -/
namespace DL
open PySem PySem.Spec PyProof.Rows L2
section
variable {P : Program} {w : World} {K : PySem.W.Frag} {mg : Str → Option Value} {base : Heap} {T : Tb}
/-- the context of a generator def's body -/
abbrev GXC (P : Program) (w : World) (K : PySem.W.Frag) (mg : Str → Option Value) (base : Heap) (N : List Str) (qual : Str) (sc : Scope) (f : Addr) (cdv : Value) (A : Around) (outer : List PySem.Env) (s : Shared) (H : Hp) (pn : List (Addr × Obj)) : Cx := gcxOf P w K mg base N qual sc f cdv A outer s H (fun _ _ _ => False) pn
theorem takesG_of {φ : Obj → Prop} {Gh : Ghost} {N : List Str} {qual : Str} {sc : Scope} {f : Addr} {cdv : Value} {A : Around} {outer : List PySem.Env} {s : Shared} {H : Hp} {pn : List (Addr × Obj)} {L : Addr} {E : List Itm → XK} :
    TakesG φ Gh (GXC P w K mg base N qual sc f cdv A outer s H pn) (xfOf (CZ K P w) P w qual sc f cdv A outer s H Gh E) L E := fun S s0 acc c ps ys r gh W hW => by
  have r : Reb φ L S s s0 := r
  rw [show (GXC P w K mg base N qual sc f cdv A outer s H pn).gx (xfOf (CZ K P w) P w qual sc f cdv A outer s H Gh E) S s0 (lstObj acc c) ps = _ from gx_eq (PX := CZ K P w) (lstObj acc c) r]
  exact Takes.imp takes_gcz fun cls d σ' H' w => ⟨ys, S, acc, c, ps, pn, rfl, gh, hW cls d σ' H' w⟩
theorem bodyG {fl : Bool} {qual : Str} {st : Stmt} {f : Addr} {N ps : List Str} {M : List Nat} {k : Nat} {body : DGn} {con : GCon} {cdv : Value} (S : GScope N ps (defScope st)) (hM : (M.all fun i => decide (i < ps.length)) = true)
    (der : ∀ (A : Around) (outer : List PySem.Env) (s : Shared) (H : Hp) (E : List Itm → XK) (pn : List (Addr × Obj)) (φ : Obj → Prop) (Gh : Ghost) (L : Addr) (B : Bs) (Ex : EKG), RoomG k (A.deeper (envOfC qual (defScope st) s.heap.objs.size f cdv)) →
      TakesG φ Gh (GXC P w K mg base N qual (defScope st) f cdv A outer s H pn) (xfOf (CZ K P w) P w qual (defScope st) f cdv A outer s H Gh E) L E →
      ExG fl K T B M Ex E → PassF φ (GXC P w K mg base N qual (defScope st) f cdv A outer s H pn) (xfOf (CZ K P w) P w qual (defScope st) f cdv A outer s H Gh E) L → (∀ k p, B.O1 k p → k ∈ M) → B.H0 = H →
      FSs φ Gh (GXC P w K mg base N qual (defScope st) f cdv A outer s H pn) (xfOf (CZ K P w) P w qual (defScope st) f cdv A outer s H Gh E) L (defBody st) (lGi fl K T B M Ex body))
    (h : ∀ args Q E, args.length = ps.length → con args Q E → runG N.length body args Q E) :
    ∀ (A : Around) (outer : List PySem.Env) (s : Shared) (H : Hp) (vs : List V) (Q : List Itm → Hp → Prop) (E : List Itm → XK) (pn : List (Addr × Obj)), RoomG k (A.deeper (envOfC qual (defScope st) s.heap.objs.size f cdv)) → spCG fl K T ps.length M con vs H Q E →
      ∃ t, (∀ φ Gh L, FSs φ Gh (GXC P w K mg base N qual (defScope st) f cdv A outer s H pn) (xfOf (CZ K P w) P w qual (defScope st) f cdv A outer s H Gh E) L (defBody st) t) ∧ t { nx := fun ys _ H' => Q ys H', rt := fun ys v H' => v = .non ∧ Q ys H' } [] (start N vs) H := by
  intro A outer s H vs Q E pn hr hsp
  obtain ⟨F0, args, Qc, Ec, hl, hal, ⟨hsame, htabs⟩, hargs, hinj, hown, hcon, hQ, hE⟩ := hsp
  have hpl : ps.length ≤ N.length := by have := congrArg List.length S.pre; rw [List.length_take] at this; omega
  let B : Bs := ⟨F0, H, OwnI H vs args, fun i => (vs[i]?).getD .non⟩
  have ft : ∀ i a, a ∈ foot H ((L2.start N vs)[i]?) (Env.at (startE N.length args) i) → OwnI H vs args i a := fun i a ha => by
    rw [startE_at] at ha
    by_cases hi : i < args.length
    · have hv : i < vs.length := by omega
      rw [start_at (List.getElem?_eq_getElem hv), List.getElem?_eq_getElem hi] at ha
      exact ⟨_, _, List.getElem?_eq_getElem hv, List.getElem?_eq_getElem hi, ha⟩
    · have z : args[i]? = none := List.getElem?_eq_none (by omega)
      rw [z, show (none : Option Slot).getD .no = .no from rfl, foot_no] at ha
      simp at ha
  have S0 : SR K T B M F0 H (startE N.length args) (L2.start N vs) := by
    refine ⟨hsame.start (fun a o e ⟨i, v, s, h1, h2, h3⟩ => absurd ((((hargs i v s h1 h2).slot).priv a h3).1.symm.trans e) (fun y => nomatch y)), fun b o e _ _ => e, fun b o e => ⟨o, e⟩, Same.refl _, fun b o e => .inl e, ?_, fun i => ?_, fun i a ha => .inr (ft i a ha), fun i j a h1 h2 => hinj i j a (ft i a h1) (ft j a h2), fun i hi => ?_, htabs⟩
    · unfold startE L2.start
      rw [List.length_append, List.length_append, List.length_map, List.length_replicate, List.length_replicate, hal, hl]
    · rw [startE_at]
      by_cases hi : i < args.length
      · rw [List.getElem?_eq_getElem hi]
        have hv : i < vs.length := by omega
        rw [start_at (List.getElem?_eq_getElem hv)]
        exact (hargs i _ _ (List.getElem?_eq_getElem hv) (List.getElem?_eq_getElem hi)).slot
      · have z : args[i]? = none := List.getElem?_eq_none (by omega)
        rw [z]
        trivial
    · have hi' : i < ps.length := of_decide_eq_true (List.all_eq_true.mp hM i hi)
      have hv : i < vs.length := by omega
      rw [start_at (List.getElem?_eq_getElem hv)]
      show _ = some (some ((vs[i]?).getD .non))
      rw [List.getElem?_eq_getElem hv]
      rfl
  have outI : ∀ {F' H' : Hp} {ρ' : Env} {σ' : L2.St}, SR K T B M F' H' ρ' σ' → ∀ i ∈ M, ∀ b, OwnI H' vs (outsE args.length ρ') i b → b ∈ foot H' (σ'[i]?) (ρ'.at i) := fun {F' H' ρ' σ'} S' i hi b ⟨v, s, h1, h2, h3⟩ => by
    have hi' : i < args.length := by rw [hal]; exact of_decide_eq_true (List.all_eq_true.mp hM i hi)
    rw [outsE_at hi'] at h2
    have hp := S'.pin i hi
    have hP : B.P i = v := by show (vs[i]?).getD .non = v; rw [h1]; rfl
    rw [hP] at hp
    rw [hp, Option.some.inj h2]
    exact h3
  have aft : ∀ {F' H' : Hp} {ρ' : Env} {σ' : L2.St}, SR K T B M F' H' ρ' σ' → Aft K T M F0 H vs args F' H' (outsE args.length ρ') := fun {F' H' ρ' σ'} S' => by
    refine ⟨S'.f0, S'.sub, S'.keep, S'.live, S'.fnew, ?_, fun i hi v s hv hs => ?_, fun i hi b hb => S'.newF i b (outI S' i hi b hb), fun i hi j hj b h1 h2 => S'.injF i j b (outI S' i hi b h1) (outI S' j hj b h2), S'.tabs⟩
    · exact outsE_len _ _
    · have hi' : i < args.length := by rw [hal]; exact of_decide_eq_true (List.all_eq_true.mp hM i hi)
      rw [outsE_at hi'] at hs
      have hs' : ρ'.at i = s := Option.some.inj hs
      have hp := S'.pin i hi
      have hP : B.P i = v := by show (vs[i]?).getD .non = v; rw [hv]; rfl
      rw [hP] at hp
      have sl := S'.slot i
      rw [hs', hp] at sl
      exact ArgOk.of _ _ sl
  have hB : ∀ k p, B.O1 k p → k ∈ M := hown
  have body_ok := h args Qc Ec hal hcon
  have hx : ExG fl K T B M (fun ds x ρ => Ec ds x (outsE args.length ρ)) E := fun F' H' ρ' σ' ys ds cls d x S' r ex q => hE F' H' ys ds cls d x _ (aft S') r ex q
  refine ⟨_, fun φ Gh L => der A outer s H E pn φ Gh L B _ hr takesG_of hx passF_of hB rfl, F0, _, [], _, S0, .nil, body_ok, fun F' H' ρ' σ' ys' ds' _ S' r q => ?_, fun F' H' ρ' σ' ys' ds' v rr _ S' r R q => ?_, fun _ _ _ _ _ _ _ _ _ q => q, fun _ _ _ _ _ _ _ _ _ q => q⟩
  · exact hQ F' H' ys' ds' _ (aft S') r q
  · obtain ⟨rfl, q⟩ := q
    refine ⟨?_, hQ F' H' ys' ds' _ (aft S') r q⟩
    have R : Rep K T F' v .non := R
    cases R with
    | non => rfl
    | ref _ z => cases z
/-- a generator def as callers know it -/
structure DefG (P : Program) (w : World) (K : PySem.W.Frag) (mg : Str → Option Value) (base : Heap) (T : Tb) (k : Nat) (f : Addr) (fd : FuncData) (ps : List Str) (M : List Nat) (fl : Bool) (con : GCon) : Prop where
  ok : GFnF (CZ K P w) P w K mg base k f fd ps (spCG fl K T ps.length M con)
  kp : PySem.W.keepIn K (.ref f) = true
theorem gfnD {fl : Bool} {x qual : Str} {st : Stmt} {f : Addr} {fd : FuncData} {N ps : List Str} {M : List Nat} {k : Nat} {body : DGn} {con : GCon} (F : Fun K x qual st f fd) (S : GScope N ps (defScope st)) (hM : (M.all fun i => decide (i < ps.length)) = true)
    (der : ∀ (cdv : Value), fd.code = cdv → ∀ (A : Around) (outer : List PySem.Env) (s : Shared) (H : Hp) (E : List Itm → XK) (pn : List (Addr × Obj)) (φ : Obj → Prop) (Gh : Ghost) (L : Addr) (B : Bs) (Ex : EKG), RoomG k (A.deeper (envOfC qual (defScope st) s.heap.objs.size f cdv)) →
      TakesG φ Gh (GXC P w K mg base N qual (defScope st) f cdv A outer s H pn) (xfOf (CZ K P w) P w qual (defScope st) f cdv A outer s H Gh E) L E →
      ExG fl K T B M Ex E → PassF φ (GXC P w K mg base N qual (defScope st) f cdv A outer s H pn) (xfOf (CZ K P w) P w qual (defScope st) f cdv A outer s H Gh E) L → (∀ k p, B.O1 k p → k ∈ M) → B.H0 = H →
      FSs φ Gh (GXC P w K mg base N qual (defScope st) f cdv A outer s H pn) (xfOf (CZ K P w) P w qual (defScope st) f cdv A outer s H Gh E) L (defBody st) (lGi fl K T B M Ex body))
    (h : ∀ args Q E, args.length = ps.length → con args Q E → runG N.length body args Q E) : DefG P w K mg base T (k + 1) f fd ps M fl con := by
  obtain ⟨oc, od, kV, doc, pm, an, cdv, ct, osl, rfl, lk, hcd⟩ := F.ex
  exact ⟨gfnF_of lk hcd S (fun vs H Q E ⟨_, _, _, _, hl, _⟩ => hl) (bodyG S hM (der cdv rfl) h), F.kp⟩
end
end DL

set_option Elab.async false
set_option linter.all false
set_option autoImplicit false
set_option maxRecDepth 100000
set_option maxHeartbeats 1000000
/-! DGS: [x for x in g(..)], as a value; the generator raises nothing. -/
namespace L2
open PySem PySem.Spec PyProof.Rows GenW
/-- the consumer's frame as it was, but for its slots -/
def SameUp (o : Obj) : Obj → Prop := fun o' => ∃ sl, o' = { o with slots := sl }
/-- the new list holds the items; the block's names stand at C -/
def GhC (C : Addr) : Ghost := fun ys acc ps => Vals (ys.map (·.1)) acc.toList ∧ ∃ oC es ep, ps = [(C, oC)] ∧ oC.data = .dict es ep ∧ StrKeys es
theorem GhC.len {C : Addr} {ys : List Itm} {acc : Array Value} {ps : List (Addr × Obj)} (h : GhC C ys acc ps) : acc.size = ys.length := by
  have e1 := h.1.length
  have e2 : acc.toList.length = acc.size := by simp
  rw [List.length_map] at e1
  omega
theorem Inv.pinMore {X : Cx} {pins : List (Addr × Obj)} {σ : L2.St} {H : Hp} {s : Shared} {q : Addr × Obj} (I : Inv X pins σ H s) (h : s.heap.get? q.1 = some q.2 ∧ H q.1 = none ∧ q.1 ≠ X.env.locals ∧ q.1 ∉ X.fs ∧ ∀ v, q.2.data ≠ .cell v) : Inv X (q :: pins) σ H s :=
  ⟨I.ok, I.os, I.bare, I.base, I.loc, I.cell, I.free, I.freeC, fun p hp => (List.mem_append.mp hp).elim (fun z => I.pin p (List.mem_append_left _ z)) fun z => (List.mem_cons.mp z).elim (fun e => by rw [e]; exact h) fun z => I.pin p (List.mem_append_right _ z), I.hok, I.len⟩
section
variable {PX : CXT} {X : Cx} {H1 : Hp} {sc : Shared} {S C a L : Addr} {oL : Obj} {g : Nat} {cont : List Itm → Hp → Prop}
def CEnd (X : Cx) (oL : Obj) (H1 : Hp) (sc : Shared) (L S C : Addr) (cont : List Itm → Hp → Prop) : Shared → Prop := fun s1 => ∃ s0 H' ys acc c oC es ep, Reb (SameUp oL) L S sc s0 ∧ s1.os = sc.os ∧ AllBare s1.gens ∧ Un (frs X.stack) [] H1 H' s0.heap s1.heap ∧ HOk X.prog X.w H' s1.heap ∧ H' S = none ∧ H' C = none ∧ s1.heap.get? S = some (lstObj acc c) ∧ s1.heap.get? C = some oC ∧ oC.data = .dict es ep ∧ StrKeys es ∧ Vals (ys.map (·.1)) acc.toList ∧ ys.length ≤ sizeLine ∧ cont ys H'
/-- at the loop's head -/
def HC (PX : CXT) (X : Cx) (oL : Obj) (H1 : Hp) (sc : Shared) (L S C a : Addr) (g : Nat) (cont : List Itm → Hp → Prop) (n : Nat) (s : Shared) : Prop :=
  ∃ gs acc c o oC es ep, n + acc.size = sizeLine ∧ s.os = sc.os ∧ AllBare s.gens ∧ s.heap.NoLimit ∧ s.heap.IsGen a g ∧ s.gens[g]? = some gs ∧
    gs.Goes (model X.prog X.w) X.A.in1 (fun n s₀ r s₁ => ((r = .ok (.ret .none) ∨ r = .ok .next) ∧ CEnd X oL H1 sc L S C cont s₁) ∨ ∃ e, r = .error e ∧ False) (YItemF (SameUp oL) (GhC C) X.prog X.w X.stack H1 sc L S a g) n (.send .none) (s.setGen g .running) ∧
    s.heap.get? S = some (lstObj acc c) ∧ s.heap.get? L = some o ∧ SameUp oL o ∧ s.heap.get? C = some oC ∧ oC.data = .dict es ep ∧ StrKeys es
theorem comp_appG {R : Result → Shared → Prop} {iter : Expr} {scope : Scope} {x : Str} {px px2 pos : Pos} {ce : PySem.Env} (kx : ce.kindOf x = some .local) (hk : ce.scope.kind = .function) (hCe : ce.locals = C)
    (hh : X.A.handled = none) (hd : X.A.depth < recursionLimit) (hL : L ∈ frs X.stack) (hHL : H1 L = none) (hSa : S ≠ a) (hSL : S ≠ L) (haL : a ≠ L) (hCa : C ≠ a) (hCS : C ≠ S) (hCL : C ≠ L) (hSc : S ≠ cStatics) (hLc : L ≠ cStatics) (hCc : C ≠ cStatics) (dx : (x == ("__debug__" : Str)) = false)
    (hend : ∀ s2, CEnd X oL H1 sc L S C cont s2 → R (.ok .next) s2)
    (n : Nat) (s : Shared) (h : HC PX X oL H1 sc L S C a g cont n s) :
    codeAny (model X.prog X.w) X.A (.compLoop (.ListComp (.Name x px2) [⟨.Name x px, iter, [], 0⟩] scope pos) 0 (.ref a) (.ref S) ce) R s := by
  refine compLoop_any (HC PX X oL H1 sc L S C a g cont) (fun n s hd1 => ?_) n h
  obtain ⟨gs, acc, c, o, oC, es, ep, hn, os, bare, nolim, isg, hgs, hgo, hS, hLo, hφ, hC, hCd, hCk⟩ := hd1
  have hgl : g < s.gens.size := (Array.getElem?_eq_some_iff.mp hgs).1
  refine wpAny_gsz (n := g + 1) hgl (next_genG (A := X.A) (F := fun _ _ s₁ => CEnd X oL H1 sc L S C cont s₁) (Er := fun _ _ => False) hh nolim hd isg hgs hgo (fun v s₁ gs' hbare hv => ?_) (fun s₁ hp h' hk' => ?_) fun e s₁ he => he.elim)
  · intro hsz
    obtain ⟨os1, hb1, hl1, hg1, s0, H', ys, y0, acc', c', ps', rv, r1, r2, un, hok, hS', hS1, hps', ra, hn1, hnd, hkap⟩ := hv
    have hlen := GhC.len ra
    obtain ⟨ra0, oC', es', ep', rfl, hCd', hCk'⟩ := ra
    have hS2 : s.heap.get? S = some (lstObj acc' c') := r2.2.1
    rw [hS] at hS2
    obtain ⟨rfl, rfl⟩ : acc = acc' ∧ c = c' := by
      injection hS2 with e
      injection e with _ _ e _
      injection e with e1 e2
      exact ⟨e1, e2⟩
    have hsz1 : g < s₁.gens.size := by
      have q : (s₁.setGen g gs').gens.size = s₁.gens.size := setGen_size _ _ _
      have z : g + 1 ≤ (s₁.setGen g gs').gens.size := hsz
      omega
    have hL0 : s0.heap.get? L = some o := r2.1.trans hLo
    obtain ⟨sl, hL1⟩ := un.slot L o hL0 hHL hL (by simp)
    have hC1 : s₁.heap.get? C = some oC' := (hps' (C, oC') List.mem_cons_self).1
    have hns : (s₁.setGen g gs').heap.Ns ce.locals (nsFind es') := by rw [hCe]; exact ⟨oC', es', ep', hC1, hCd', hCk', fun _ => rfl⟩
    have hcls : (ce.scope.kind == .class || (ce.scope.kind == .module && ce.locals != ce.globals)) = false := by rw [hk]; rfl
    refine wpAny_pure ?_
    refine wpAny_assign_Name (wpAny_storeName_local (s := s₁.setGen g gs') kx hns (fun h2 hn2 hs2 => ?_) hcls)
    rw [hCe] at hs2
    refine wpAny_tests_nil ?_
    rw [if_pos rfl]
    refine wpAny_Name (wpAny_loadName_local (v := v) hk kx hn2 (by show (if x = x then some v else nsFind es' x) = _; rw [if_pos rfl]) ?_) dx
    have hS3 : h2.get? S = some (lstObj acc c) := (hs2.2 S (Ne.symm hCS)).trans hS1
    refine append_at hS3 (fun h3 hs3 hS4 => ?_) (by omega)
    have keep : ∀ b ob, b ≠ S → b ≠ C → s₁.heap.get? b = some ob → h3.get? b = some ob := fun b ob hb hbC e => (hs3.2 b hb).trans ((hs2.2 b hbC).trans e)
    have hL3 : h3.get? L = some { o with slots := sl } := keep L _ (Ne.symm hSL) (Ne.symm hCL) hL1
    rw [hCe] at hn2
    obtain ⟨oC3, es3, ep3, hC2, hCd3, hCk3, _⟩ := hn2
    have hC3 : h3.get? C = some oC3 := (hs3.2 C hCS).trans hC2
    have hcc : ∀ v, oC3.data ≠ .cell v := fun v q => by rw [hCd3] at q; cases q
    have hφ3 : SameUp oL { o with slots := sl } := by
      obtain ⟨sl0, rfl⟩ := hφ
      exact ⟨sl, rfl⟩
    have sl2 : Slept2 (SameUp oL) S L (frI y0) [(C, oC')] [(C, oC3)] (acc.push v) (c + 1) s₁ (({ s₁.setGen g gs' with heap := h3, toks := (s₁.setGen g gs').toks + 1 } : Shared).setGen g .running) := by
      refine ⟨rfl, allBare_setGen (s := { s₁.setGen g gs' with heap := h3, toks := (s₁.setGen g gs').toks + 1 }) (allBare_setGen hb1 hbare) rfl, fun b ob hb hbL hp _ e => keep b ob hb (fun z => hp _ List.mem_cons_self z.symm) e, hS4, ⟨_, hL3, hφ3⟩, fun p hp => ?_, fun p hp => ?_⟩
      · rw [List.mem_singleton.mp hp]
        exact ⟨hC3, hcc⟩
      · rw [List.mem_singleton.mp hp]
        exact .inl ⟨_, List.mem_cons_self, rfl⟩
    have hgo' := hkap _ _ _ _ sl2 ⟨by rw [List.map_append, Array.toList_push]; exact ra0.append (.cons rv .nil), oC3, es3, ep3, rfl, hCd3, hCk3⟩
    cases n with
    | zero => exact hgo'.elim
    | succ n =>
      refine ⟨n, Nat.lt_succ_self n, gs', acc.push v, c + 1, _, oC3, es3, ep3, by rw [Array.size_push]; omega, os1, allBare_setGen hb1 hbare, ?_, ?_, setGen_at hsz1, hgo', hS4, hL3, hφ3, hC3, hCd3, hCk3⟩
      · obtain ⟨mc, hns', hnn⟩ := hl1
        exact ⟨mc, hns'.at' fun ob e => keep _ ob (Ne.symm hSc) (Ne.symm hCc) e, hnn⟩
      · obtain ⟨og, nm, qn, hog, r⟩ := hg1
        exact ⟨og, nm, qn, keep a og (Ne.symm hSa) (Ne.symm hCa) hog, r⟩
  · intro hsz
    obtain ⟨s0, H', ys, acc, c, oC, es, ep, r1, r3, r4, r5, r6, r7, r8, r9, r10, r11, r12, r13, r14, r15⟩ := hp
    exact hend _ ⟨s0, H', ys, acc, c, oC, es, ep, r1, r3, allBare_setGen r4 rfl, r5.trans (Un.kept hk'), r6.kept hk', r7, r8, hk' _ _ r9, hk' _ _ r10, r11, r12, r13, r14, r15⟩
end
end L2

set_option Elab.async false
set_option linter.all false
set_option autoImplicit false
set_option maxRecDepth 100000
set_option maxHeartbeats 1000000
/-! DGT: [x for x in g(..)] as an expression. -/
namespace L2
open PySem PySem.Spec PyProof.Rows GenW
def tLcGen (tg : TGenF) : TE := fun σ H Q => tg σ H (fun ys H' => ∀ D, H' D = none → Q (.ref D) (upd H' D (.lst (ys.map (·.1))))) (fun _ _ _ _ => False)
/-- a generator that raises nothing -/
def NoRaise (PX : CXT) : Prop := ∀ outer H s E e s', PX outer H s E e s' → ∃ cls d H', E cls d H'
theorem pe_lcGen {PX : CXT} {X : Cx} {k : Nat} {iter : Expr} {tg : TGenF} {x : Str} {px px2 pos : Pos} {scope : Scope} {own : List (Str × Nat)} (hgen : PGenF PX X k iter tg) (hpx : NoRaise PX) (ok : BlkOk X.N X.env.scope scope own) (hx : scope.names.lookup x = some .local)
    (hst : X.stack = X.env :: X.outer) (hfr : X.env.frame = some X.env.locals) (room : DL.RoomG (k + 1) X.A) (dx : (x == ("__debug__" : Str)) = false := by decide) (hs : ∀ x, foldedSetIterable iter X.env x = pure x := by intro _; rfl) :
    PE X (.ListComp (.Name x px2) [⟨.Name x px, iter, [], 0⟩] scope pos) (tLcGen tg) := by
  refine ⟨fun pins s σ H Q I h => ?_⟩
  rw [eval_ListComp]
  have hfree : ∀ y ∈ scope.names, y.2 = .free → ∃ c, X.env.cells.lookup y.1 = some c := fun y hy e => by
    rcases ok.free y hy e with k | k
    · exact I.ok.has _ (.inl k)
    · exact I.ok.has _ (.inr k)
  refine wpAny_comprehension_free (use := none) rfl hs (closure_ok hfree) ok.kind (fun y hy e => by rw [ok.uniq y hy, e])
    (wpAny_mono (hgen.run _ s σ H _ _ I h) (fun u s' hu => ?_) fun _ _ z => z)
  obtain ⟨H1, sc, I2, a, g, cd, rfl, ha1, ha2, hg, hfresh, hos, hbare, hnl, hkp, wake⟩ := hu
  refine wpAny_pyIter_gen hg ?_
  refine wpAny_newObj_type (newEnv_comp ?_) (by show 0 ≤ sizeLine; decide)
  have scz : sc.heap.objs.size ≤ s'.heap.objs.size := Nat.le_trans ha1 (Nat.le_of_lt ha2)
  generalize hS : s'.heap.objs.size = S at ha2 scz
  generalize hs3 : ({ s' with heap := s'.heap.push { cls := .type "list", data := .seq ([] : List Value).toArray } } : Shared) = s3
  have h3 : s3.heap = s'.heap.push { cls := .type "list", data := .seq ([] : List Value).toArray } := by rw [← hs3]
  have o3 : s3.os = s'.os := by rw [← hs3]
  have g3 : s3.gens = s'.gens := by rw [← hs3]
  have z3 : s3.heap.objs.size = S + 1 := by rw [h3, Heap.size_push, hS]
  have e3 : s3.heap.get? S = some (lstObj #[] 0) := by
    rw [h3, ← hS]
    exact Heap.get?_push_size _ rfl
  have k3 : ∀ b o, s'.heap.get? b = some o → s3.heap.get? b = some o := fun b o e => by rw [h3]; exact Heap.get?_push_of_some _ e
  generalize hC : s3.heap.objs.size = C at z3
  generalize hs4 : ({ s3 with heap := pushCells (s3.heap.push { cls := .type "dict", data := .dict #[] }) scope.names } : Shared) = s4
  have h4 : s4.heap = pushCells (s3.heap.push { cls := .type "dict", data := .dict #[] }) scope.names := by rw [← hs4]
  have o4 : s4.os = s'.os := by rw [← hs4]; exact o3
  have g4 : s4.gens = s'.gens := by rw [← hs4]; exact g3
  have k4 : ∀ b o, s3.heap.get? b = some o → s4.heap.get? b = some o := fun b o e => by rw [h4]; exact pushCells_keeps _ _ _ _ (Heap.get?_push_of_some _ e)
  have nsC : s4.heap.Ns C fun _ => none := by
    rw [h4, ← hC]
    exact Heap.Ns.keeps (Heap.Ns.new ..) fun b o e => pushCells_keeps _ _ _ _ e
  obtain ⟨oC, es, ep, eC, hCd, hCk, _⟩ := nsC
  have e4 : s4.heap.get? S = some (lstObj #[] 0) := k4 _ _ e3
  have k2 : ∀ b o, s'.heap.get? b = some o → s4.heap.get? b = some o := fun b o e => k4 b o (k3 b o e)
  generalize hce : compEnvC scope (cellsFrom (C + 1) scope.names (cloFrom X.env.cells scope.names [])) C X.env = ce
  have cL : ce.locals = C := by subst hce; rfl
  have kx : ce.kindOf x = some .local := by
    subst hce
    exact lookup_relabel_local hx
  have ck : ce.scope.kind = .function := by subst hce; exact ok.kind
  -- places
  have hL : X.env.locals ∈ frs X.stack := by
    rw [hst]
    unfold frs
    rw [List.filterMap_cons, hfr]
    exact List.mem_cons_self
  obtain ⟨oL, hoL⟩ : ∃ oL, sc.heap.get? X.env.locals = some oL := by
    obtain ⟨m, ⟨o, es, ep, ho, _⟩, _⟩ := I2.loc
    exact ⟨o, ho⟩
  have nfL : ∀ vs, oL.data ≠ .fields vs := fun vs z => by
    obtain ⟨m, ⟨o, es, ep, ho, hd, _⟩, _⟩ := I2.loc
    rw [hoL] at ho
    injection ho with ho
    rw [ho, hd] at z
    cases z
  have ltL : X.env.locals < sc.heap.objs.size := Heap.lt_size hoL
  have hcs : ∃ ob, X.base.get? cStatics = some ob := by
    obtain ⟨mc, ⟨ob, es, ep, hob, _⟩, _⟩ := I.ok.mod.nolimit
    exact ⟨ob, hob⟩
  have csLt : cStatics < X.s_0.heap.objs.size := by
    obtain ⟨ob, hob⟩ := hcs
    exact Nat.lt_of_lt_of_le (Heap.lt_size hob) I.ok.bsz
  have sc0 : X.s_0.heap.objs.size ≤ sc.heap.objs.size := I2.sz
  have hSa : S ≠ a := Nat.ne_of_gt ha2
  have hSL : S ≠ X.env.locals := Nat.ne_of_gt (Nat.lt_of_lt_of_le ltL scz)
  have haL : a ≠ X.env.locals := Nat.ne_of_gt (Nat.lt_of_lt_of_le ltL ha1)
  have hCa : C ≠ a := by rw [z3]; exact Nat.ne_of_gt (Nat.lt_succ_of_lt ha2)
  have hCS : C ≠ S := by rw [z3]; exact Nat.succ_ne_self S
  have scC : sc.heap.objs.size ≤ C := by rw [z3]; exact Nat.le_succ_of_le scz
  have hCL : C ≠ X.env.locals := Nat.ne_of_gt (Nat.lt_of_lt_of_le ltL scC)
  have hSc : S ≠ cStatics := Nat.ne_of_gt (Nat.lt_of_lt_of_le csLt (Nat.le_trans sc0 scz))
  have hLc : X.env.locals ≠ cStatics := Nat.ne_of_gt (Nat.lt_of_lt_of_le csLt I.ok.above)
  have hCc : C ≠ cStatics := Nat.ne_of_gt (Nat.lt_of_lt_of_le csLt (Nat.le_trans sc0 scC))
  have hSn : sc.heap.get? S = none := by
    cases e : sc.heap.get? S with
    | none => rfl
    | some o => exact absurd (Nat.lt_of_lt_of_le (Heap.lt_size e) scz) (Nat.lt_irrefl _)
  have hSb : X.base.get? S = none := by
    cases e : X.base.get? S with
    | none => rfl
    | some o => exact absurd (Nat.lt_of_lt_of_le (Heap.lt_size e) (Nat.le_trans I.ok.bsz (Nat.le_trans sc0 scz))) (Nat.lt_irrefl _)
  have hSfs : S ∉ frs X.stack := fun z => by
    rcases List.mem_cons.mp (I2.stkSub S z) with z | z
    · exact hSL z
    · exact I2.nofs scz z
  have HS : H1 S = none := I2.hok.fresh scz
  show codeAny _ _ (.compStart (.ListComp (.Name x px2) [⟨.Name x px, iter, [], 0⟩] scope pos) 0 (.ref a) (.ref S) (compEnvC scope (cellsFrom (C + 1) scope.names (cloFrom X.env.cells scope.names [])) C X.env)) (compPost (model X.prog X.w) X.A X.xe none (EP X pins σ Q) (.ref S) C) s4
  rw [hce]
  have hg4 : s4.heap.IsGen a g := by
    obtain ⟨og, nm, qn, hog, r⟩ := hg
    exact ⟨og, nm, qn, k2 _ _ hog, r⟩
  have loop : codeAny (model X.prog X.w) X.A (.compLoop (.ListComp (.Name x px2) [⟨.Name x px, iter, [], 0⟩] scope pos) 0 (.ref a) (.ref S) ce) (compPost (model X.prog X.w) X.A X.xe none (EP X pins σ Q) (.ref S) C) s4 := by
    refine comp_appG (PX := PX) (oL := oL) (H1 := H1) (sc := sc) (L := X.env.locals) (g := g) (cont := fun ys H' => ∀ D, H' D = none → Q (.ref D) (upd H' D (.lst (ys.map (·.1))))) kx ck cL room.rn.hd (by have := room.rn.dp; omega) hL I2.free hSa hSL haL hCa hCS hCL hSc hLc hCc dx (fun s2 hc => ?_) sizeLine s4 ?_
    · obtain ⟨s0, H', ys, acc, c, oC, es, ep, r, os, bare, un, hok, hS', hC', hS2, hC2, hCd, hCk, ra, hl, hq⟩ := hc
      have u0 : Un (frs X.stack) [] H1 H1 sc.heap s0.heap := by
        have kk : ∀ b o, sc.heap.get? b = some o → b ≠ X.env.locals → s0.heap.get? b = some o := fun b o e hb => (r.keep b hb (fun z => by rw [z, hSn] at e; cases e)).trans e
        obtain ⟨oL', hL', sl, rfl⟩ := r.mid
        refine ⟨fun b o e n hb _ => kk b o e fun z => hb (by rw [z]; exact hL), fun b o e n hb _ => ?_, fun b o e n _ => n, fun b o e _ => ?_, fun _ _ e => e, fun _ _ _ e => e, fun b ps e => ⟨#[], by rw [e]; simp⟩⟩
        · by_cases z : b = X.env.locals
          · subst z
            rw [hoL] at e
            cases e
            exact ⟨sl, hL'⟩
          · exact ⟨o.slots, kk b o e z⟩
        · by_cases z : b = X.env.locals
          · subst z
            exact ⟨_, hL'⟩
          · exact ⟨o, kk b o e z⟩
      have h0 : HOk X.prog X.w H1 s0.heap := fun b u q => by
        have hb : b ≠ X.env.locals := fun z => by rw [z, I2.free] at q; cases q
        refine (I2.hok b u q).stay (fun c v hcc y => ?_) (fun _ y => y) fun _ _ y => y
        have hn : H1 c ≠ none := by
          rcases hcc with z | z
          · rw [z, q]; exact fun z => nomatch z
          · rw [z]; exact fun z => nomatch z
        exact (r.keep c (fun z => hn (by rw [z]; exact I2.free)) (fun z => hn (by rw [z]; exact HS))).trans y
      have I0 : Inv X pins σ H1 s0 := I2.call' (ch := []) r.os u0 h0 (by rw [r.gens]; exact I2.bare) fun b z => by simp at z
      have z0 : s0.heap.objs.size = sc.heap.objs.size := r.size
      have Ic : Inv X pins σ H' s2 := I0.call' (ch := []) (os.trans r.os.symm) un hok bare fun b z => by simp at z
      have fS := I0.fpOk (b := S) (H' := H') (by rw [z0]; exact scz) hS'
      have fC := I0.fpOk (b := C) (H' := H') (by rw [z0]; exact scC) hC'
      have Ip : Inv X ((S, lstObj acc c) :: pins) σ H' s2 := Ic.pinMore ⟨hS2, hS', fS.2.1, fS.2.2.1, fun v q => by cases q⟩
      have hm : Mine X S := fun o e _ => absurd (Nat.lt_of_lt_of_le (Heap.lt_size e) (Nat.le_trans sc0 scz)) (Nat.lt_irrefl _)
      have It : Inv X pins σ (upd H' S (.lst (ys.map (·.1)))) s2 := Ip.retrack hm fS.2.2.2.2.2 fS.2.2.2.2.1 ra (by rw [List.length_map]; exact hl)
      refine ⟨nsFind es, ⟨oC, es, ep, hC2, hCd, hCk, fun _ => rfl⟩, fun h'' sb => ?_⟩
      obtain ⟨_, f1, f2, f3, f4, f5⟩ := fC
      exact ⟨.ref S, _, It.turned (t' := s2.toks) (fun b o hb e => (sb.2 b hb).trans e) (by rw [upd_ne hCS]; exact hC') f1 f3 f4 f5, rfl, hq S hS'⟩
    · refine ⟨.fresh cd, #[], 0, oL, oC, es, ep, rfl, o4.trans hos, by rw [g4]; exact hbare, hnl.keeps k2, hg4, by rw [g4]; exact hfresh, ?_, e4, k2 _ _ (hkp _ _ hoL), ⟨oL.slots, rfl⟩, eC, hCd, hCk⟩
      refine ⟨rfl, ?_⟩
      refine seg_imp (fun n s₀ r s1 hr => ?_) (fun n s₀ v s1 kap kap' hkk hy => ?_) sizeLine (wake (SameUp oL) (GhC C) X.A.in1 X.env.locals S (s4.setGen g .running) #[] 0 [(C, oC)] (fun o ho vs z => by obtain ⟨sl, rfl⟩ := ho; exact nfL vs z) ⟨oL, hoL, oL.slots, rfl⟩ ⟨room.rn.in1, room.gd⟩ I.ok.frames hL hSb hSfs HS (.inr (Nat.le_of_eq hS)) (fun b o e => k2 b o e) e4 (fun z => absurd (Nat.lt_of_lt_of_le z scz) (Nat.lt_irrefl _)) (o4.trans hos) (allBare_setGen (by rw [g4]; exact hbare) rfl) ⟨.nil, oC, es, ep, rfl, hCd, hCk⟩ fun p hp => ?_)
      · rcases hr with ⟨hr, s0, H', ys, acc, c, ps, r1, r2, r3, r4, r5, r6, r7, r8, r9, ⟨r10, oC', es', ep', rfl, q1, q2⟩, r11, r12⟩ | ⟨e, s0, acc, c, ps, rest, r1, r2, r3, r4, _⟩
        · exact .inl ⟨hr, s0, H', ys, acc, c, oC', es', ep', r1, r3, r4, r5, r6, r7, (r9 _ List.mem_cons_self).2, r8, (r9 _ List.mem_cons_self).1, q1, q2, r10, r11, r12⟩
        · obtain ⟨cls, d, H', ys, S', acc', c', ps', rest', _, _, hF⟩ := hpx _ _ _ _ _ _ r4
          exact hF.elim
      · obtain ⟨q1, q2, q3, q4, s0, H', ys, y, acc, c, ps, q5, q6, q7, q8, q9, q10, q11, q12, q13, q14, q15, q16⟩ := hy
        exact ⟨q1, q2, q3, q4, s0, H', ys, y, acc, c, ps, q5, q6, q7, q8, q9, q10, q11, q12, q13, q14, q15, fun s' a b d z gh => hkk _ _ (q16 s' a b d z gh)⟩
      · rw [List.mem_singleton.mp hp]
        exact ⟨eC, by rw [z3, hS]; exact Nat.le_succ S, hCS, fun v q => by rw [hCd] at q; cases q⟩
  exact codeAny_compStart_list loop (wpAny_pyIter_gen hg4 loop)
end L2

set_option Elab.async false
set_option linter.all false
set_option autoImplicit false
set_option maxRecDepth 100000
/-! DGU: [x for x in g(..)] over data; the rules as a law's walk names them. -/
namespace DL
open PySem PySem.Spec PyProof.Rows L2
theorem noRaise_cz {K : PySem.W.Frag} {P : Program} {w : World} : NoRaise (CZ K P w) := fun outer H s E e s' h => by
  rcases h with h | h
  · obtain ⟨a, B, H', cls, d, _, _, _, _, _, _, _, hE⟩ := h
    exact ⟨cls, d, H', hE.2⟩
  · obtain ⟨a, B, H', cls, d, _, _, _, _, _, _, _, hE⟩ := h
    exact ⟨cls, d, H', hE.2⟩
section
variable {X : Cx} {T : Tb} {B : Bs} {M : List Nat} {W : EK}
theorem pd_lcGenF {con : GCon} {as : List DA} {k : Nat} {Mc : List Nat} {ps : List Str} {fa : Addr} {fd : FuncData} {g x : Str} {e : Expr} {es : List Expr} {gp gpos px px2 pos : Pos} {scope : Scope} {own : List (Str × Nat)}
    (G : DefG X.prog X.w X.K X.mg X.base T k fa fd ps Mc false con) (room : RoomG (k + 1) X.A) (hg : Gl X g) (hm : X.mg g = some (.ref fa)) (hb : Binds X.K fd ps []) (ha : PDAV X T B M W (e :: es) as) (ok : BlkOk X.N X.env.scope scope own) (hx : scope.names.lookup x = some .local)
    (hst : X.stack = X.env :: X.outer) (hfr : X.env.frame = some X.env.locals) (hn : as.length = ps.length := by rfl) (hf : fitA as Mc = true := by rfl) (dg : (g == ("__debug__" : Str)) = false := by decide) (dx : (x == ("__debug__" : Str)) = false := by decide)
    (he : starEach (e :: es) X.env = (false, eval e X.env) :: starEach es X.env := by rfl) (hpl : (backTo gpos (starEach es X.env)).any (·.1) = false := by rfl) (hs : ∀ x, foldedSetIterable (.Call (.Name g gp) (e :: es) [] gpos) X.env x = pure x := by intro _; rfl) :
    PD X T B M W (.ListComp (.Name x px2) [⟨.Name x px, .Call (.Name g gp) (e :: es) [] gpos, [], 0⟩] scope pos) (dLcGen con as) :=
  pe_imp (pe_lcGen (pgenF_call G.ok (room.mono (Nat.le_succ k)) hg hm G.kp hb ha dg he hpl) noRaise_cz ok hx hst hfr room dx hs) fun σ H Q ⟨F, ρ, Qd, S, q, k⟩ => by
    refine callG_of (Qn := fun ds ρ' => Qd (.fr (.lst ds)) ρ') (Ex := fun _ _ _ => False) hn hf S q (fun F' H' ρ' ys ds sm S2 r q2 D hD => ?_) fun F' H' ρ' ys ds cls d x sm S2 r ex q2 => q2
    have h0 := S2.gone hD
    have hF' : F' D = none := by
      cases q : F' D with
      | none => rfl
      | some o => have := S2.sure q (.inl h0); rw [hD] at this; cases this
    exact k F' _ ρ' _ (.fr (.lst ds)) sm (S2.lay (o := .lst (ys.map (·.1))) hD) ⟨D, _, rfl, hF', upd_same, .lst r.plain, h0, S2.lay_new hD⟩ q2
end
/-- a generator def as the laws' walks name it -/
def CalG (P : Program) (w : World) (K : PySem.W.Frag) (mg : Str → Option Value) (base : Heap) (T : Tb) (x : Str) (k : Nat) (ps : List Str) (M : List Nat) (fl : Bool) (con : GCon) : Prop := ∃ fa fd, DefG P w K mg base T k fa fd ps M fl con ∧ Binds K fd ps [] ∧ mg x = some (.ref fa)
/-- no exception of the program's own is a StopIteration -/
def NoStopX (K : PySem.W.Frag) (T : Tb) : Prop := ∀ n ei, T.ex n = some ei → PySem.W.subIn K (.ref ei.addr) (.type "StopIteration") = some false
theorem NoStopX.at_ {K : PySem.W.Frag} {T : Tb} (h : NoStopX K T) : ∀ F cls d x, ExR K T F cls d x → PySem.W.subIn K cls (.type "StopIteration") = some false := fun F cls d x r => by
  obtain ⟨ei, e, v, h1, h2, _⟩ := r
  rw [h2]
  exact h _ ei h1
section
variable {X : Cx} {T : Tb} {B : Bs} {M : List Nat} {W : EK}
theorem pd_lcGen {con : GCon} {as : List DA} {k : Nat} {Mc : List Nat} {ps : List Str} {g x : Str} {e : Expr} {es : List Expr} {gp gpos px px2 pos : Pos} {scope : Scope} {own : List (Str × Nat)}
    (G : CalG X.prog X.w X.K X.mg X.base T g k ps Mc false con) (room : RoomG (k + 1) X.A) (hg : Gl X g) (ha : PDAV X T B M W (e :: es) as) (ok : BlkOk X.N X.env.scope scope own) (hx : scope.names.lookup x = some .local)
    (hst : X.stack = X.env :: X.outer := by rfl) (hfr : X.env.frame = some X.env.locals := by rfl) (hn : as.length = ps.length := by rfl) (hf : fitA as Mc = true := by rfl) (dg : (g == ("__debug__" : Str)) = false := by decide) (dx : (x == ("__debug__" : Str)) = false := by decide)
    (he : starEach (e :: es) X.env = (false, eval e X.env) :: starEach es X.env := by rfl) (hpl : (backTo gpos (starEach es X.env)).any (·.1) = false := by rfl) (hs : ∀ x, foldedSetIterable (.Call (.Name g gp) (e :: es) [] gpos) X.env x = pure x := by intro _; rfl) :
    PD X T B M W (.ListComp (.Name x px2) [⟨.Name x px, .Call (.Name g gp) (e :: es) [] gpos, [], 0⟩] scope pos) (dLcGen con as) := by
  obtain ⟨fa, fd, D, hb, hm⟩ := G
  exact pd_lcGenF D room hg hm hb ha ok hx hst hfr hn hf dg dx he hpl hs
end
end DL

set_option linter.all false
set_option autoImplicit false
set_option maxRecDepth 100000
/-! DLS: short words for proofs over data. -/
namespace DL
theorem bA_nil {outs : List Slot} {ρ : Env} : backA [] outs ρ = ρ := rfl
theorem bA_e {as : List AV} {ρ : Env} : backA as [] ρ = ρ := by
  cases as with
  | nil => rfl
  | cons a as => cases a <;> rfl
theorem bA_v {d : D} {as : List AV} {outs : List Slot} {ρ : Env} : backA (.v d :: as) outs ρ = backA as outs.tail ρ := by
  cases outs with
  | nil => rw [List.tail_nil, bA_e, bA_e]
  | cons s ss => rfl
theorem bA_m {i : Nat} {as : List AV} {s : Slot} {ss : List Slot} {ρ : Env} : backA (.m i :: as) (s :: ss) ρ = backA as ss (ρ.set i s) := rfl
theorem at_0 {s : Slot} {ρ : List Slot} : Env.at (s :: ρ) 0 = s := rfl
theorem at_s {s : Slot} {ρ : List Slot} {i : Nat} : Env.at (s :: ρ) (i + 1) = Env.at ρ i := rfl
theorem at_nil {i : Nat} : Env.at [] i = .no := rfl
theorem set_0 {s t : Slot} {ρ : List Slot} : (s :: ρ).set 0 t = t :: ρ := rfl
theorem set_s {s t : Slot} {ρ : List Slot} {i : Nat} : (s :: ρ).set (i + 1) t = s :: ρ.set i t := rfl
theorem outs_0 {ρ : Env} : outsE 0 ρ = [] := by cases ρ <;> rfl
theorem outs_s {n : Nat} {s : Slot} {ρ : Env} : outsE (n + 1) (s :: ρ) = s :: outsE n ρ := rfl
theorem fzd {d : D} : (R.fz d).d = d := rfl
theorem frd {d : D} : (R.fr d).d = d := rfl
theorem ftd {d : D} : (R.ft d).d = d.calm := rfl
theorem eqv_int {a b : Int} : D.eqv (.int a) (.int b) = (a == b) := by rw [D.eqv]
theorem eqv_str {a b : Tx} : D.eqv (.str a) (.str b) = (a == b) := by rw [D.eqv]
theorem eqv_bl {a b : Bool} : D.eqv (.bl a) (.bl b) = (a == b) := by rw [D.eqv]
theorem neD_str {a b : Tx} {k : R → Prop} : neD (.str a) (.str b) k = (eqC (.str a) (.str b) ∧ k (.fz (.bl (!(a == b))))) := by rw [← eqv_str]; rfl
theorem neD_int {a b : Int} {k : R → Prop} : neD (.int a) (.int b) k = (eqC (.int a) (.int b) ∧ k (.fz (.bl (!(a == b))))) := by rw [← eqv_int]; rfl
def dVarM (s : Slot) (i : Nat) (ρ : Env) (Q : R → Env → Prop) : Prop := match s with
  | .fz d => Q (.fz d) ρ
  | .own d => Q (.fz d) (ρ.set i (.fz d))
  | .ownT d => Q (.fz d.calm) (ρ.set i (.fz d.calm))
  | .no => False
theorem dVar_M {i : Nat} {ρ : Env} {Q : R → Env → Prop} {E : EK} : zaC i ρ Q E = dVarM (ρ.at i) i ρ Q := rfl
theorem dVarM_ownT {d : D} {i : Nat} {ρ : Env} {Q : R → Env → Prop} : dVarM (.ownT d) i ρ Q = Q (.fz d.calm) (ρ.set i (.fz d.calm)) := rfl
theorem dVarM_fz {d : D} {i : Nat} {ρ : Env} {Q : R → Env → Prop} : dVarM (.fz d) i ρ Q = Q (.fz d) ρ := rfl
theorem dVarM_own {d : D} {i : Nat} {ρ : Env} {Q : R → Env → Prop} : dVarM (.own d) i ρ Q = Q (.fz d) (ρ.set i (.fz d)) := rfl
def retOM (s : Slot) (i : Nat) (M : List Nat) (D : DEnds) (ρ : Env) : Prop := match s with
  | .own d => (M.all fun k => (ρ.at k).isOwn) = true ∧ D.rt (.fr d) (ρ.set i .no)
  | .fz d => D.rt (.fz d) ρ
  | _ => False
theorem sRetO_M {i : Nat} {M : List Nat} {D : DEnds} {ρ : Env} {E : EK} : sRetO i M D ρ E = retOM (ρ.at i) i M D ρ := rfl
theorem retOM_own {d : D} {i : Nat} {M : List Nat} {J : DEnds} {ρ : Env} : retOM (.own d) i M J ρ = ((M.all fun k => (ρ.at k).isOwn) = true ∧ J.rt (.fr d) (ρ.set i .no)) := rfl
theorem retOM_fz {d : D} {i : Nat} {M : List Nat} {J : DEnds} {ρ : Env} : retOM (.fz d) i M J ρ = J.rt (.fz d) ρ := rfl
def dIxM (s : Slot) (x : D) (k : R → Prop) : Prop := match s with
  | .own d => ixD d x k
  | .fz d => ixD d x k
  | _ => False
theorem dIxN_M {i : Nat} {g : DE} {ρ : Env} {Q : R → Env → Prop} {E : EK} : dIxN i g ρ Q E = ((ρ.at i).known = true ∧ g ρ (fun s ρ1 => dIxM (ρ1.at i) s.d fun t => Q t ρ1) E) := by
  unfold dIxN dIxM
  rfl
def dOpM (op : D → D → (R → Prop) → Prop) (s : Slot) (x : D) (k : R → Prop) : Prop := match s with
  | .own d => op d x fun t => t.d.flat = true ∧ k t
  | .fz d => op d x k
  | _ => False
theorem dOpN_M {op : D → D → (R → Prop) → Prop} {i : Nat} {g : DE} {ρ : Env} {Q : R → Env → Prop} {E : EK} : dOpN op i g ρ Q E = ((ρ.at i).known = true ∧ g ρ (fun s ρ1 => dOpM op (ρ1.at i) s.d fun t => Q t ρ1) E) := by
  unfold dOpN dOpM
  rfl
theorem dOpM_fz {op : D → D → (R → Prop) → Prop} {d x : D} {k : R → Prop} : dOpM op (.fz d) x k = op d x k := rfl
theorem dOpM_own {op : D → D → (R → Prop) → Prop} {d x : D} {k : R → Prop} : dOpM op (.own d) x k = op d x fun t => t.d.flat = true ∧ k t := rfl
def dFnM (op : List D → (R → Prop) → Prop) (s : Slot) (k : R → Prop) : Prop := match s with
  | .own d => op [d] fun t => t.d.flat = true ∧ k t
  | .fz d => op [d] k
  | _ => False
theorem dFnN_M {op : List D → (R → Prop) → Prop} {i : Nat} {ρ : Env} {Q : R → Env → Prop} {E : EK} : dFnN op i ρ Q E = dFnM op (ρ.at i) fun t => Q t ρ := by
  unfold dFnN dFnM
  cases ρ.at i <;> rfl
theorem dFnM_fz {op : List D → (R → Prop) → Prop} {d : D} {k : R → Prop} : dFnM op (.fz d) k = op [d] k := rfl
theorem dFnM_own {op : List D → (R → Prop) → Prop} {d : D} {k : R → Prop} : dFnM op (.own d) k = op [d] fun t => t.d.flat = true ∧ k t := rfl
theorem dIxM_fz {d x : D} {k : R → Prop} : dIxM (.fz d) x k = ixD d x k := rfl
theorem dIxM_own {d x : D} {k : R → Prop} : dIxM (.own d) x k = ixD d x k := rfl
/-! operations at what is known -/
section
variable {i j : Int} {a b : Tx} {xs ys : List D} {k : R → Prop} {x y : Bool} {lo hi : Option Int}
theorem addD_int : addD (.int i) (.int j) k = k (.fz (.int (i + j))) := rfl
theorem addD_str : addD (.str a) (.str b) k = (a.length + b.length ≤ maxTx ∧ k (.fz (.str (a ++ b)))) := rfl
theorem addD_lst : addD (.lst xs) (.lst ys) k = (xs.length + ys.length ≤ maxTx ∧ k (.fr (.lst (xs ++ ys)))) := rfl
theorem iaddD_int : iaddD (.int i) (.int j) k = k (.fz (.int (i + j))) := rfl
theorem iaddD_str : iaddD (.str a) (.str b) k = (a.length + b.length ≤ maxTx ∧ k (.fz (.str (a ++ b)))) := rfl
theorem subD_int : subD (.int i) (.int j) k = k (.fz (.int (i - j))) := rfl
theorem mulD_int : mulD (.int i) (.int j) k = (((-(2 ^ 64) < i ∧ i < 2 ^ 64) ∨ (-(2 ^ 64) < j ∧ j < 2 ^ 64)) ∧ k (.fz (.int (i * j)))) := rfl
theorem mulD_str : mulD (.str a) (.int j) k = ((-(2 ^ 62) ≤ j ∧ j < 2 ^ 62 ∧ a.length * j.toNat ≤ maxTx) ∧ k (.fz (.str (List.replicate j.toNat a).flatten))) := rfl
theorem mulD_lst : mulD (.lst xs) (.int j) k = ((-(2 ^ 62) ≤ j ∧ j < 2 ^ 62 ∧ xs.length * j.toNat ≤ maxTx) ∧ k (.fr (.lst (List.replicate j.toNat xs).flatten))) := rfl
theorem fdivD_int : fdivD (.int i) (.int j) k = ((0 < j ∧ j < 1180591620717411303424) ∧ k (.fz (.int (i / j)))) := rfl
theorem modD_int : modD (.int i) (.int j) k = (0 < j ∧ k (.fz (.int (i % j)))) := rfl
theorem powD_int : powD (.int i) (.int j) k = ((0 ≤ j ∧ j ≤ 1000000 ∧ i.natAbs < 2 ^ 64) ∧ k (.fz (.int (i ^ j.toNat)))) := rfl
theorem negD_int : negD (.int i) k = k (.fz (.int (-i))) := rfl
theorem ltD_int : ltD (.int i) (.int j) k = k (.fz (.bl (decide (i < j)))) := rfl
theorem leD_int : leD (.int i) (.int j) k = k (.fz (.bl (decide (i ≤ j)))) := rfl
theorem gtD_int : gtD (.int i) (.int j) k = k (.fz (.bl (decide (j < i)))) := rfl
theorem geD_int : geD (.int i) (.int j) k = k (.fz (.bl (decide (j ≤ i)))) := rfl
theorem ixD_lst : ixD (.lst xs) (.int i) k = (∃ j d, ixN xs.length i = some j ∧ xs[j]? = some d ∧ k (.fz d)) := rfl
theorem ixD_tup : ixD (.tup xs) (.int i) k = (∃ j d, ixN xs.length i = some j ∧ xs[j]? = some d ∧ k (.fz d)) := rfl
theorem ixD_str : ixD (.str a) (.int i) k = (∃ j c, ixN a.length i = some j ∧ a[j]? = some c ∧ k (.fz (.str [c]))) := rfl
theorem slD_lst : slD (.lst xs) lo hi k = k (.fr (.lst (cut xs lo hi))) := rfl
theorem slD_frl : slD (.frl xs) lo hi k = k (.fr (.lst (cut xs lo hi))) := rfl
theorem slD_str : slD (.str a) lo hi k = k (.fz (.str (cut a lo hi))) := rfl
theorem orKD_dct {a b : List (Ky × D)} {k : R → Prop} : orKD (.dct a) (.dct b) k = (a.length + b.length ≤ maxTx ∧ k (.fr (.dct (mergeD a b)))) := rfl
theorem fdivWD_int : fdivWD (.int i) (.int j) k = ((0 < j ∧ j < 2 ^ 1000) ∧ k (.fz (.int (i / j)))) := rfl
theorem mulWD_int : mulWD (.int i) (.int j) k = ((i.natAbs < 2 ^ 3000 ∧ j.natAbs < 2 ^ 3000) ∧ k (.fz (.int (i * j)))) := rfl
theorem imulD_int : imulD (.int i) (.int j) k = (((-(2 ^ 64) < i ∧ i < 2 ^ 64) ∨ (-(2 ^ 64) < j ∧ j < 2 ^ 64)) ∧ k (.fz (.int (i * j)))) := rfl
theorem isBD_bl : isBD (.bl x) (.bl y) k = k (.fz (.bl (x == y))) := rfl
theorem notBD_bl : notBD (.bl x) (.bl y) k = k (.fz (.bl (!(x == y)))) := rfl
theorem revD_lst : revD (.lst xs) k = k (.fr (.lst xs.reverse)) := rfl
theorem minPF_2 : minPF [.tup [.int i, .int j]] k = k (.fz (.int (if j < i then j else i))) := rfl
theorem revT_str : revT (.str a) k = k (.fz (.str a.reverse)) := rfl
end
theorem calm_nil {ρ : Env} : calmE [] ρ = ρ := rfl
theorem calm_cons {i : Nat} {is : List Nat} {ρ : Env} : calmE (i :: is) ρ = calmE is (match ρ.at i with
  | .own d => ρ.set i (.fz d)
  | .ownT d => ρ.set i (.fz d.calm)
  | _ => ρ) := rfl
theorem at_hs {s : Slot} {ρ : Env} {i : Nat} : Env.at (hideE (s :: ρ)) (i + 1) = Env.at (hideE ρ) i := rfl
theorem hide_nil : hideE [] = [] := rfl
theorem hide_fz {d : D} {ρ : Env} : hideE (.fz d :: ρ) = .fz d :: hideE ρ := rfl
theorem hide_own {d : D} {ρ : Env} : hideE (.own d :: ρ) = .no :: hideE ρ := rfl
theorem hide_ownT {d : D} {ρ : Env} : hideE (.ownT d :: ρ) = .no :: hideE ρ := rfl
theorem hide_no {ρ : Env} : hideE (.no :: ρ) = .no :: hideE ρ := rfl

local macro_rules | `(tactic| walk_at "dl") => `(tactic| simp -implicitDefEqProofs only [runD, startE, outsE, outs_0, outs_s, List.length_cons, List.length_nil, List.cons_append, List.nil_append, List.replicate, Nat.sub_zero, Nat.add_one_sub_one, Nat.reduceSub, Nat.reduceAdd, dC, dVar_M, dVarM_fz, dVarM_own, dIxN_M, dIxM_fz, dIxM_own, dOpN_M, dOpM_fz, dOpM_own, dFnN_M, dFnM_fz, dFnM_own, dOp, dUn, dArgs, dLst, dTup, dFn, dIsi, dMs, dPart, dSl, dIfE, Slot.known, tVal, tTru, tAnd, tOr, tNot, dAnd, dOr, dNot, dChain, iLst, iTup, iStr, iRng1, iRng2, iEnum, iZip, gN, gNs, gT, gL, Tgt.g, tYes, wipeE, backE, dAVs, zaK, avSlot, AV.ok, Slot.isOwn, bA_nil, bA_v, bA_m, D.isRef, List.all_cons, List.all_nil, List.map_cons, List.map_nil, Bool.and_true, Bool.true_and, List.tail_cons, List.tail_nil, List.head?_cons, sNx, sSeq, sRet, sRetN, sExp, sAsg, sAsgO, sIf, sAug, sFor, sWh, sBrk, sCnt, sRaise, sApp, sAppP, sRetT, dCatT, dMinKT, eqKN, listKF, listSF, sExt, sUpdT, mergeT, dDct0T, dIxKT, repZD, neEmp, iWkT, itmT, keyT, dSrtKT, Slot.ownL, sPut, sPut2, putAt, sPar, sParL, sFld, dFld, dMake, mkC, dMakeV, dCm, dObj, D.isObj, dCallV, dCallS, dEqO, dIsO, dDct0, isBD_bl, notBD_bl, revD_lst, sPar3, sTrys, catchD, DEnds.unname, repF, D.eqTo, at_0, at_s, at_nil, set_0, set_s, fzd, frd, ftd, Slot.noT, dVarM_ownT, hide_ownT, dMakeT, mkCT, D.calm, D.unm, dEqN, dProp, strF, sFldT, sAppF, sFldAugT, kidOf, putL, dMethM, Slot.isObj, if_true, if_false, Bool.not_true, Bool.not_false, true_and, and_true, Bool.false_eq_true, ↓reduceIte, lenF, lenD, allF, anyF, sumF, absF, intF, tupleF, swM, ewM, eqv_int, eqv_str, eqv_bl, D.isTy, Int.cast_ofNat_Int, addD_int, addD_str, addD_lst, fdivWD_int, orKD_dct, dMinK, dSumV, iaddD_int, iaddD_str, subD_int, mulD_int, mulD_str, mulD_lst, fdivD_int, modD_int, powD_int, negD_int, eqD, neD_str, neD_int, ltD_int, leD_int, gtD_int, geD_int, isD, isnD, D.isNon, inDv, ninDv, ixD_lst, ixD_tup, ixD_str, slD_lst, slD_frl, slD_str, dLc, dLook, Slot.calm, tLook, iRngD, iRngB', dNeT, revT_str, dDisp, iZipS, iZipK, minPF_2, sParF, dLenO, dRepO, dVals, putR, sParR, dFmt, dFmtR, fstL, dFst, mulWD_int, imulD_int, countM, lstRg, dLrg1, dLrg2, sRetO_M, retOM_own, retOM_fz, dLookL, dNeN, dLenSet, dSrtSet, sortedF, dTold, dToldB, dToldO, calm_nil, calm_cons, hide_nil, hide_fz, hide_own, hide_no, at_hs, dIsiO, gTG, gGs, gA, gAll, sAsgs, sClr, sAsgN, dFldN, iWk, itmX, valX, keyX, sForN, dDc, dDsp1, dGet, dGetN, sPutK, inKv, kyOf, ownK, dictF, dLitm, dIxK, eqKv, sortedIF, ltSD, dDspT, sPutT, ownKT, dTupK, giveE, R.raw, sAsgK, unpK, unpK1, ninKv, eqKg, catTD, repTD, dSlT, sAppAt, updD, sAppAtK, dPopAtK, tNinSet, Slot.dctT, dLcP, R.dctN, lc2L, dLc2, sAugK, dSrtRev, sRetTK, sortedKIF, splitM, partM, intTF, dStp, dTake, sTryF, dRep, dPopN, sPutFT, dFldP, dIxFT, dSrtFS, sortedLLF, dLc2I, dDcT, dGetNT, dLstKT, sUpdP, runG, gThen, gPlain, gNil, gYield, gYieldR, gIf, gFor, GD.at, sForGen, dLcGen])

/-! ### equality of a thing with itself -/
mutual
theorem eqv_refl : ∀ (n : Nat) (d : D), d.eqOk n = true → D.eqv d d = true
  | n, .non, _ => by rw [D.eqv]
  | n, .bl b, _ => by rw [D.eqv]; simp
  | n, .int b, _ => by rw [D.eqv]; simp
  | n, .str b, _ => by rw [D.eqv]; simp
  | 0, .lst xs, h => by cases h
  | n + 1, .lst xs, h => by rw [D.eqv]; exact eqvL_refl n xs h
  | 0, .tup xs, h => by cases h
  | n + 1, .tup xs, h => by rw [D.eqv]; exact eqvL_refl n xs h
  | n, .dct _, h => by cases n <;> cases h
  | n, .obj _ _, h => by cases n <;> cases h
  | n, .frl _, h => by cases n <;> cases h
  | n, .cls _, h => by cases n <;> cases h
  | n, .prt _, h => by cases n <;> cases h
theorem eqvL_refl : ∀ (n : Nat) (xs : List D), D.eqOkL n xs = true → D.eqvL xs xs = true
  | n, [], _ => by rw [D.eqvL]
  | n, x :: xs, h => by
    unfold D.eqOkL at h
    rw [Bool.and_eq_true] at h
    rw [D.eqvL, eqv_refl n x h.1, eqvL_refl n xs h.2]
    rfl
end
theorem ne_same {d : D} {k : R → Prop} (h : d.eqOk 60 = true) (hk : k (.fz (.bl false))) : neD d d k := ⟨.inr ⟨h, h⟩, by rw [eqv_refl 60 d h]; exact hk⟩
/-! ### loops -/
theorem forL_inv {g : DG} {body : DS} {J : DEnds} {E : EK} (I : List D → Env → Prop) (hn : ∀ ρ, I [] ρ → J.nx ρ)
    (hs : ∀ x xs ρ, I (x :: xs) ρ → ∀ k : Env → Prop, (∀ ρ', I xs ρ' → k ρ') → g x ρ fun ρ1 => body { nx := k, ct := k, bk := J.nx, rt := J.rt } ρ1 E) : ∀ xs ρ, I xs ρ → forL g body J E xs ρ
  | [], ρ, h => hn ρ h
  | x :: xs, ρ, h => hs x xs ρ h (forL g body J E xs) fun ρ' h' => forL_inv I hn hs xs ρ' h'
theorem forG_inv {g : DG} {u : DGn} {J : GD} {E : EKG} (I : List D → List D → Env → Prop) (hn : ∀ ds ρ, I [] ds ρ → J.nx ds ρ)
    (hs : ∀ x xs ds ρ, I (x :: xs) ds ρ → ∀ k : List D → Env → Prop, (∀ ds' ρ', I xs ds' ρ' → k ds' ρ') → g x ρ fun ρ1 => u { nx := k, ct := k, bk := J.nx, rt := J.rt } ds ρ1 E) : ∀ xs ds ρ, I xs ds ρ → forG g u J E xs ds ρ
  | [], ds, ρ, h => hn ds ρ h
  | x :: xs, ds, ρ, h => hs x xs ds ρ h (forG g u J E xs) fun ds' ρ' h' => forG_inv I hn hs xs ds' ρ' h'
theorem whL_inv {c : DT} {body : DS} {J : DEnds} {E : EK} (I : Nat → Env → Prop)
    (hs : ∀ n ρ, I n ρ → ∀ k : Env → Prop, (∀ m ρ', n = m + 1 → I m ρ' → k ρ') → c ρ (fun b ρ1 => if b = true then body { nx := k, ct := k, bk := J.nx, rt := J.rt } ρ1 E else J.nx ρ1) E) : ∀ n ρ, I n ρ → ∃ f, whL c body J E f ρ := by
  have h : ∀ n ρ, I n ρ → whL c body J E (n + 1) ρ := by
    intro n
    induction n with
    | zero => intro ρ h; exact hs 0 ρ h _ fun m ρ' e => absurd e (by omega)
    | succ n ih => intro ρ h; exact hs (n + 1) ρ h _ fun m ρ' e h' => by cases e; exact ih ρ' h'
  exact fun n ρ i => ⟨n + 1, h n ρ i⟩
theorem lcL_inv {vs : List Nat} {g : DG} {t : DT} {e : DE} {Q : List D → Env → Prop} (I : List D → List D → Env → Prop) (hn : ∀ acc ρ, I [] acc ρ → Q acc ρ)
    (hs : ∀ x xs acc ρ, I (x :: xs) acc ρ → ∀ (k1 : R → Env → Prop) (k2 : Env → Prop), (∀ r ρ', (acc.length < maxTx ∧ I xs (acc ++ [r.d]) (wipeE vs ρ')) → k1 r ρ') → (∀ ρ', I xs acc (wipeE vs ρ') → k2 ρ') →
      g x ρ fun ρ1 => t ρ1 (fun b ρ2 => if b = true then e ρ2 k1 noE else k2 ρ2) noE) : ∀ xs acc ρ, I xs acc ρ → lcL vs g t e Q xs acc ρ
  | [], acc, ρ, h => hn acc ρ h
  | x :: xs, acc, ρ, h => hs x xs acc ρ h _ _ (fun r ρ' h' => ⟨h'.1, lcL_inv I hn hs xs _ _ h'.2⟩) fun ρ' h' => lcL_inv I hn hs xs _ _ h'
/-- nothing but data: items kept by p, mapped by f -/
theorem lcL_pure {vs : List Nat} {g : DG} {t : DT} {e : DE} {Q : List D → Env → Prop} (ρ : Env) (p : D → Bool) (f : D → D) (xs : List D)
    (hs : ∀ x ∈ xs, ∀ (k1 : R → Env → Prop) (k2 : Env → Prop), (p x = true → ∀ r ρ', r.d = f x → wipeE vs ρ' = ρ → k1 r ρ') → (p x = false → ∀ ρ', wipeE vs ρ' = ρ → k2 ρ') →
      g x ρ fun ρ1 => t ρ1 (fun b ρ2 => if b = true then e ρ2 k1 noE else k2 ρ2) noE) : ∀ acc, acc.length + xs.length ≤ maxTx → Q (acc ++ (xs.filter p).map f) ρ → lcL vs g t e Q xs acc ρ := by
  induction xs with
  | nil => intro acc _ h; simpa [lcL] using h
  | cons x xs ih =>
    intro acc hl h
    have ih := ih fun y hy => hs y (List.mem_cons_of_mem _ hy)
    simp only [List.length_cons] at hl
    refine hs x List.mem_cons_self _ _ (fun hp r ρ' hr hw => ⟨by omega, ?_⟩) fun hp ρ' hw => ?_
    · rw [hw, hr]
      refine ih _ (by simp; omega) ?_
      simpa [List.filter_cons, hp] using h
    · rw [hw]
      refine ih _ (by omega) ?_
      simpa [List.filter_cons, hp] using h
end DL

set_option linter.all false
set_option autoImplicit false
set_option maxRecDepth 100000
namespace DL
local macro_rules | `(tactic| walk_at "dl") => `(tactic| simp -implicitDefEqProofs only [runD, startE, outsE, outs_0, outs_s, List.length_cons, List.length_nil, List.cons_append, List.nil_append, List.replicate, Nat.sub_zero, Nat.add_one_sub_one, Nat.reduceSub, Nat.reduceAdd, dC, dVar_M, dVarM_fz, dVarM_own, dIxN_M, dIxM_fz, dIxM_own, dOpN_M, dOpM_fz, dOpM_own, dFnN_M, dFnM_fz, dFnM_own, dOp, dUn, dArgs, dLst, dTup, dFn, dIsi, dMs, dPart, dSl, dIfE, Slot.known, tVal, tTru, tAnd, tOr, tNot, dAnd, dOr, dNot, dChain, iLst, iTup, iStr, iRng1, iRng2, iEnum, iZip, gN, gNs, gT, gL, Tgt.g, tYes, wipeE, backE, dAVs, zaK, avSlot, AV.ok, Slot.isOwn, bA_nil, bA_v, bA_m, D.isRef, List.all_cons, List.all_nil, List.map_cons, List.map_nil, Bool.and_true, Bool.true_and, List.tail_cons, List.tail_nil, List.head?_cons, sNx, sSeq, sRet, sRetN, sExp, sAsg, sAsgO, sIf, sAug, sFor, sWh, sBrk, sCnt, sRaise, sApp, sAppP, sRetT, dCatT, dMinKT, eqKN, listKF, listSF, sExt, sUpdT, mergeT, dDct0T, dIxKT, repZD, neEmp, iWkT, itmT, keyT, dSrtKT, Slot.ownL, sPut, sPut2, putAt, sPar, sParL, sFld, dFld, dMake, mkC, dMakeV, dCm, dObj, D.isObj, dCallV, dCallS, dEqO, dIsO, dDct0, isBD_bl, notBD_bl, revD_lst, sPar3, sTrys, catchD, DEnds.unname, repF, D.eqTo, at_0, at_s, at_nil, set_0, set_s, fzd, frd, ftd, Slot.noT, dVarM_ownT, hide_ownT, dMakeT, mkCT, D.calm, D.unm, dEqN, dProp, strF, sFldT, sAppF, sFldAugT, kidOf, putL, dMethM, Slot.isObj, if_true, if_false, Bool.not_true, Bool.not_false, true_and, and_true, Bool.false_eq_true, ↓reduceIte, lenF, lenD, allF, anyF, sumF, absF, intF, tupleF, swM, ewM, eqv_int, eqv_str, eqv_bl, D.isTy, Int.cast_ofNat_Int, addD_int, addD_str, addD_lst, fdivWD_int, orKD_dct, dMinK, dSumV, iaddD_int, iaddD_str, subD_int, mulD_int, mulD_str, mulD_lst, fdivD_int, modD_int, powD_int, negD_int, eqD, neD_str, neD_int, ltD_int, leD_int, gtD_int, geD_int, isD, isnD, D.isNon, inDv, ninDv, ixD_lst, ixD_tup, ixD_str, slD_lst, slD_frl, slD_str, dLc, dLook, Slot.calm, tLook, iRngD, iRngB', dNeT, revT_str, dDisp, iZipS, iZipK, minPF_2, sParF, dLenO, dRepO, dVals, putR, sParR, dFmt, dFmtR, fstL, dFst, mulWD_int, imulD_int, countM, lstRg, dLrg1, dLrg2, sRetO_M, retOM_own, retOM_fz, dLookL, dNeN, dLenSet, dSrtSet, sortedF, dTold, dToldB, dToldO, calm_nil, calm_cons, hide_nil, hide_fz, hide_own, hide_no, at_hs, dIsiO, gTG, gGs, gA, gAll, sAsgs, sClr, sAsgN, dFldN, iWk, itmX, valX, keyX, sForN, dDc, dDsp1, dGet, dGetN, sPutK, inKv, kyOf, ownK, dictF, dLitm, dIxK, eqKv, sortedIF, ltSD, dDspT, sPutT, ownKT, dTupK, giveE, R.raw, sAsgK, unpK, unpK1, ninKv, eqKg, catTD, repTD, dSlT, sAppAt, updD, sAppAtK, dPopAtK, tNinSet, Slot.dctT, dLcP, R.dctN, lc2L, dLc2, sAugK, dSrtRev, sRetTK, sortedKIF, splitM, partM, intTF, dStp, dTake, sTryF, dRep, dPopN, sPutFT, dFldP, dIxFT, dSrtFS, sortedLLF, dLc2I, dDcT, dGetNT, dLstKT, sUpdP, runG, gThen, gPlain, gNil, gYield, gYieldR, gIf, gFor, GD.at, sForGen, dLcGen])
def D.plain (d : D) : Prop := d.isTy .str ≠ none
def isItem (c : Nat) : Bool := decide (97 ≤ c ∧ c ≤ 104)
theorem mem_items {c : Nat} : decide (c ∈ ([97, 98, 99, 100, 101, 102, 103, 104] : List Nat)) = isItem c := by
  unfold isItem
  rw [decide_eq_decide]
  simp only [List.mem_cons, List.not_mem_nil, or_false]
  omega
theorem mem_signs {c : Nat} : decide (c ∈ ([43, 45] : List Nat)) = (c == 43 || c == 45) := by
  rw [Bool.eq_iff_iff]
  simp
theorem in_sign {c : Nat} {t : Tx} {k : Bool → Prop} : inD (.str [c]) (.str t) k = k (decide (c ∈ t)) := rfl
def isStep : D → Bool
  | .str [a, b] => (a == 43 || a == 45) && isItem b
  | _ => false
/-- is_step: 0 value -/
def b_is_step : DS := sRet (dAnd (dIsi .str (zaC 0)) (dAnd (dOp eqD (dFn lenF [zaC 0]) (dC (.int 2))) (dAnd (dOp inDv (dOp ixD (zaC 0) (dC (.int 0))) (dC (.str [43, 45]))) (dOp inDv (dOp ixD (zaC 0) (dC (.int 1))) (dC (.str [97, 98, 99, 100, 101, 102, 103, 104]))))))
def C_is_step : Con := fun args Q _ => ∃ d, args = [.fz d] ∧ d.plain ∧ ∀ outs, Q (.fz (.bl (isStep d))) outs
theorem p_is_step : ∀ args Q E, args.length = 1 → C_is_step args Q E → runD 1 b_is_step args Q E := by
  intro args Q E _ h
  obtain ⟨d, rfl, hp, hq⟩ := h
  unfold b_is_step
  cases d with
  | str x =>
    match x, hq with
    | [], hq => walk_at "dl"; exact ⟨true, rfl, (if_pos rfl).mpr ⟨.inl rfl, hq _⟩⟩
    | [_], hq => walk_at "dl"; exact ⟨true, rfl, (if_pos rfl).mpr ⟨.inl rfl, hq _⟩⟩
    | [a, b], hq =>
      have hq2 : ∀ outs, Q (.fz (.bl ((a == 43 || a == 45) && isItem b))) outs := hq
      walk_at "dl"
      refine ⟨true, rfl, (if_pos rfl).mpr ⟨.inl rfl, ?_⟩⟩
      refine (if_pos rfl).mpr ⟨0, a, rfl, rfl, ?_⟩
      rw [in_sign, mem_signs]
      cases hs : (a == 43 || a == 45) with
      | false => rw [hs] at hq2; exact hq2 _
      | true =>
        rw [hs] at hq2
        refine (if_pos rfl).mpr ⟨1, b, rfl, rfl, ?_⟩
        rw [in_sign, mem_items]
        exact hq2 _
    | _ :: _ :: _ :: l, hq =>
      have : ((((l.length + 1 + 1 + 1 : Nat) : Int)) == 2) = false := by
        rw [beq_eq_false_iff_ne]; omega
      walk_at "dl"
      refine ⟨true, rfl, (if_pos rfl).mpr ⟨.inl rfl, ?_⟩⟩
      rw [this]
      exact hq _
  | obj c x => exact absurd rfl hp
  | cls c => exact absurd rfl hp
  | _ => walk_at "dl"; exact ⟨false, rfl, hq _⟩
/-! first_invalid, check_sequence -/
/-- the place of the first that is no step -/
def badAt : List D → Nat → Option Nat
  | [], _ => none
  | d :: ds, i => if isStep d = true then badAt ds (i + 1) else some i
def firstInv : D → D
  | .lst xs => if xs.length ≤ 400 then (match badAt xs 0 with | none => .non | some i => .tup [.int i]) else .tup [.non]
  | _ => .tup [.non]
def D.plainL : D → Prop
  | .lst xs => ∀ d ∈ xs, d.plain
  | .frl _ => False
  | d => d.plain
/-- first_invalid: 0 value, 1 position, 2 step -/
def b_first_invalid : DS := sSeq (sIf (tOr (tNot (tVal (dIsi .list (zaC 0)))) (tVal (dOp gtD (dFn lenF [zaC 0]) (dC (.int 400))))) (sRet (dTup [dC .non])) (sNx)) (sSeq (sFor (iEnum (zaC 0)) (gT [1, 2]) (sIf (tNot (tVal (zaK C_is_step [.v (zaC 2)]))) (sRet (dTup [zaC 1])) (sNx))) (sRet (dC .non)))
def C_first_invalid : Con := fun args Q _ => ∃ d, args = [.fz d] ∧ d.plainL ∧ ∀ r outs, r.d = firstInv d → Q r outs
def enumFrom (n : Nat) : List D → List D
  | [] => []
  | x :: xs => .tup [.int (n : Int), x] :: enumFrom (n + 1) xs
theorem enumD_from (xs : List D) : enumD xs = enumFrom 0 xs := by
  unfold enumD
  have : ∀ (n : Nat) (xs : List D), (List.range' n xs.length).zipWith (fun (i : Nat) x => D.tup [.int (i : Int), x]) xs = enumFrom n xs := by
    intro n xs
    induction xs generalizing n with
    | nil => rfl
    | cons x xs ih => rw [List.length_cons, List.range'_succ, List.zipWith_cons_cons, ih]; rfl
  rw [List.range_eq_range', this]
theorem p_first_invalid : ∀ args Q E, args.length = 1 → C_first_invalid args Q E → runD 3 b_first_invalid args Q E := by
  intro args Q E _ h
  obtain ⟨d, rfl, hp, hq⟩ := h
  unfold b_first_invalid
  cases d with
  | lst xs =>
    walk_at "dl"
    refine ⟨true, rfl, ?_⟩
    walk_at "dl"
    by_cases hl : xs.length ≤ 400
    · have : decide ((400 : Int) < xs.length) = false := decide_eq_false (by omega)
      rw [this]
      walk_at "dl"
      rw [enumD_from]
      have q1 : badAt xs 0 = none → ∀ r outs, r.d = .non → Q r outs := fun h r outs e => hq r outs (by rw [e]; simp [firstInv, hl, h])
      have q2 : ∀ i : Nat, badAt xs 0 = some i → ∀ r outs, r.d = .tup [.int i] → Q r outs := fun i h r outs e => hq r outs (by rw [e]; simp [firstInv, hl, h])
      refine forL_inv (I := fun es ρ => ∃ ys n s1 s2, es = enumFrom n ys ∧ (∀ d ∈ ys, d.plain) ∧ badAt ys n = badAt xs 0 ∧ ρ = [.fz (.lst xs), s1, s2]) (fun ρ h => ?_) (fun x es ρ h k hk => ?_) _ _ ⟨xs, 0, .no, .no, rfl, hp, rfl, rfl⟩
      · obtain ⟨ys, n, s1, s2, h1, h2, h3, rfl⟩ := h
        cases ys with
        | nil => exact q1 h3.symm _ _ rfl
        | cons y ys => cases h1
      · obtain ⟨ys, n, s1, s2, h1, h2, h3, rfl⟩ := h
        cases ys with
        | nil => cases h1
        | cons y ys =>
          cases h1
          walk_at "dl"
          refine ⟨y, rfl, h2 y List.mem_cons_self, fun outs => ?_⟩
          walk_at "dl"
          cases hs : isStep y with
          | true => exact hk _ ⟨ys, n + 1, _, _, rfl, fun d hd => h2 d (List.mem_cons_of_mem _ hd), by rw [← h3]; simp [badAt, hs], rfl⟩
          | false => exact ⟨by decide, q2 n (by rw [← h3]; simp [badAt, hs]) _ _ rfl⟩
    · have : decide ((400 : Int) < xs.length) = true := decide_eq_true (by omega)
      rw [this]
      exact ⟨by decide, hq _ _ (by simp [firstInv, hl, R.d])⟩
  | obj c x => exact absurd rfl hp
  | cls c => exact absurd rfl hp
  | frl x => exact hp.elim
  | _ => walk_at "dl"; exact ⟨false, rfl, ⟨by decide, hq _ _ rfl⟩⟩
/-- check_sequence: 0 steps, 1 problem -/
def b_check_sequence : DS := sSeq (sAsg (gN 1) (zaK C_first_invalid [.v (zaC 0)])) (sIf (tVal (dUn isnD (zaC 1))) (sRaise 1 (dOp ixD (zaC 1) (dC (.int 0)))) (sNx))
def C_check_sequence : Con := fun args Q E => ∃ d, args = [.fz d] ∧ d.plainL ∧ (firstInv d = .non → ∀ r outs, r.d = .non → Q r outs) ∧ ∀ v, firstInv d = .tup [v] → ∀ outs, E ⟨1, v⟩ outs
theorem firstInv_cases (d : D) : firstInv d = .non ∨ ∃ v, firstInv d = .tup [v] := by
  unfold firstInv
  split
  · split
    · split
      · exact .inl rfl
      · exact .inr ⟨_, rfl⟩
    · exact .inr ⟨_, rfl⟩
  · exact .inr ⟨_, rfl⟩
theorem p_check_sequence : ∀ args Q E, args.length = 1 → C_check_sequence args Q E → runD 2 b_check_sequence args Q E := by
  intro args Q E _ h
  obtain ⟨d, rfl, hp, h1, h2⟩ := h
  unfold b_check_sequence
  walk_at "dl"
  refine ⟨d, rfl, hp, fun r outs hr => ?_⟩
  rcases firstInv_cases d with e | ⟨v, e⟩
  · rw [hr, e]
    walk_at "dl"
    exact h1 e _ _ rfl
  · rw [hr, e]
    walk_at "dl"
    exact ⟨0, v, rfl, rfl, h2 v e _⟩
/-! sequences -/
abbrev St2 := Nat × Nat
def stepD (s : St2) : D := .str [s.1, s.2]
def seqD (ss : List St2) : D := .lst (ss.map stepD)
def okSt (s : St2) : Bool := (s.1 == 43 || s.1 == 45) && isItem s.2
def okSeq (ss : List St2) : Prop := ss.length ≤ 400 ∧ ∀ s ∈ ss, okSt s = true
theorem firstInv_seq {ss : List St2} (h : okSeq ss) : firstInv (seqD ss) = .non := by
  have : ∀ (ss : List St2) n, (∀ s ∈ ss, okSt s = true) → badAt (ss.map stepD) n = none := by
    intro ss
    induction ss with
    | nil => intros; rfl
    | cons s ss ih =>
      intro n h
      have e : isStep (stepD s) = true := h s List.mem_cons_self
      rw [List.map_cons, badAt, if_pos e]
      exact ih _ fun x hx => h x (List.mem_cons_of_mem _ hx)
  show (if (ss.map stepD).length ≤ 400 then (match badAt (ss.map stepD) 0 with | none => D.non | some i => .tup [.int i]) else .tup [.non]) = .non
  rw [List.length_map, if_pos h.1, this ss 0 h.2]
theorem plainL_seq (ss : List St2) : (seqD ss).plainL := fun d hd => by
  obtain ⟨s, _, rfl⟩ := List.mem_map.mp hd
  exact fun h => nomatch h
/-- the items of the steps of one sign -/
def zaD (sg : Nat) (ss : List St2) : Tx := (ss.filter fun s => s.1 == sg).map (·.2)
/-- chosen: 0 steps, 1 sign, 2 step -/
def b_chosen : DS := sRet (dMs joinM (dC (.str [])) [dLc [2] (iLst (zaC 0)) (Tgt.g (.one 2)) (tVal (dOp eqD (dOp ixD (zaC 2) (dC (.int 0))) (zaC 1))) (dOp ixD (zaC 2) (dC (.int 1)))])
def C_chosen : Con := fun args Q _ => ∃ ss sg, args = [.fz (seqD ss), .fz (.str [sg])] ∧ ss.length ≤ 1000000 ∧ ∀ outs, Q (.fz (.str (zaD sg ss))) outs
theorem joinT_nil : ∀ xs : List Tx, joinT [] xs = xs.flatten
  | [] => rfl
  | [p] => by simp [joinT]
  | p :: q :: r => by rw [joinT, joinT_nil (q :: r)]; simp
theorem flat_one : ∀ xs : List Nat, (xs.map fun c => [c]).flatten = xs
  | [] => rfl
  | x :: xs => by rw [List.map_cons, List.flatten_cons, flat_one xs]; rfl
theorem sum_one : ∀ xs : List Nat, ((xs.map fun c => [c]).map (·.length)).sum = xs.length
  | [] => rfl
  | x :: xs => by
    rw [List.map_cons, List.map_cons, List.sum_cons, sum_one xs]
    simp only [List.length_cons, List.length_nil]
    omega
theorem join_one {xs : List Nat} {k : R → Prop} (hl : xs.length ≤ maxTx) (h : k (.fz (.str xs))) : joinM [] [.lst (xs.map fun c => .str [c])] k := by
  refine ⟨xs.map fun c => [c], by rw [List.map_map]; rfl, ?_, ?_⟩
  · rw [sum_one, List.length_map]
    show xs.length + xs.length * 0 ≤ 16777216
    have : xs.length ≤ 16777216 := hl
    omega
  · rw [joinT_nil, flat_one]; exact h
theorem p_chosen : ∀ args Q E, args.length = 2 → C_chosen args Q E → runD 3 b_chosen args Q E := by
  intro args Q E _ h
  obtain ⟨ss, sg, rfl, hl, hq⟩ := h
  unfold b_chosen seqD
  walk_at "dl"
  refine ⟨fun i hi d => ?_, ?_⟩
  · simp only [List.mem_cons, List.not_mem_nil, or_false] at hi
    subst hi
    exact fun h => nomatch h
  · refine lcL_pure (p := fun x => match x with | .str [a, _] => a == sg | _ => false) (f := fun x => match x with | .str [_, b] => .str [b] | _ => .non) _ _ (fun x hx k1 k2 h1 h2 => ?_) [] ?_ ?_
    · obtain ⟨s, _, rfl⟩ := List.mem_map.mp hx
      unfold stepD
      walk_at "dl"
      refine ⟨0, s.1, rfl, rfl, .inl rfl, ?_⟩
      have hb : ([s.1] == [sg]) = (s.1 == sg) := by simp
      rw [hb]
      cases hs : (s.1 == sg) with
      | true => exact (if_pos rfl).mpr ⟨1, s.2, rfl, rfl, h1 hs _ _ rfl rfl⟩
      | false => exact h2 hs _ rfl
    · rw [List.length_map]; show 0 + ss.length ≤ 16777216; omega
    · have e : ((ss.map stepD).filter (fun x : D => match x with | .str [a, _] => a == sg | _ => false)).map (fun x : D => match x with | .str [_, b] => D.str [b] | _ => .non) = (zaD sg ss).map fun c => .str [c] := by
        unfold zaD
        rw [List.filter_map, List.map_map, List.map_map]
        rfl
      rw [List.nil_append, e]
      walk_at "dl"
      refine join_one (k := fun t => Q t _) ?_ (hq _)
      unfold zaD
      rw [List.length_map]
      have := List.length_filter_le (fun s : St2 => s.1 == sg) ss
      show _ ≤ 16777216
      omega
end DL

set_option linter.all false
set_option autoImplicit false
set_option maxRecDepth 100000
namespace DL
local macro_rules | `(tactic| walk_at "dl") => `(tactic| simp -implicitDefEqProofs only [runD, startE, outsE, outs_0, outs_s, List.length_cons, List.length_nil, List.cons_append, List.nil_append, List.replicate, Nat.sub_zero, Nat.add_one_sub_one, Nat.reduceSub, Nat.reduceAdd, dC, dVar_M, dVarM_fz, dVarM_own, dIxN_M, dIxM_fz, dIxM_own, dOpN_M, dOpM_fz, dOpM_own, dFnN_M, dFnM_fz, dFnM_own, dOp, dUn, dArgs, dLst, dTup, dFn, dIsi, dMs, dPart, dSl, dIfE, Slot.known, tVal, tTru, tAnd, tOr, tNot, dAnd, dOr, dNot, dChain, iLst, iTup, iStr, iRng1, iRng2, iEnum, iZip, gN, gNs, gT, gL, Tgt.g, tYes, wipeE, backE, dAVs, zaK, avSlot, AV.ok, Slot.isOwn, bA_nil, bA_v, bA_m, D.isRef, List.all_cons, List.all_nil, List.map_cons, List.map_nil, Bool.and_true, Bool.true_and, List.tail_cons, List.tail_nil, List.head?_cons, sNx, sSeq, sRet, sRetN, sExp, sAsg, sAsgO, sIf, sAug, sFor, sWh, sBrk, sCnt, sRaise, sApp, sAppP, sRetT, dCatT, dMinKT, eqKN, listKF, listSF, sExt, sUpdT, mergeT, dDct0T, dIxKT, repZD, neEmp, iWkT, itmT, keyT, dSrtKT, Slot.ownL, sPut, sPut2, putAt, sPar, sParL, sFld, dFld, dMake, mkC, dMakeV, dCm, dObj, D.isObj, dCallV, dCallS, dEqO, dIsO, dDct0, isBD_bl, notBD_bl, revD_lst, sPar3, sTrys, catchD, DEnds.unname, repF, D.eqTo, at_0, at_s, at_nil, set_0, set_s, fzd, frd, ftd, Slot.noT, dVarM_ownT, hide_ownT, dMakeT, mkCT, D.calm, D.unm, dEqN, dProp, strF, sFldT, sAppF, sFldAugT, kidOf, putL, dMethM, Slot.isObj, if_true, if_false, Bool.not_true, Bool.not_false, true_and, and_true, Bool.false_eq_true, ↓reduceIte, lenF, lenD, allF, anyF, sumF, absF, intF, tupleF, swM, ewM, eqv_int, eqv_str, eqv_bl, D.isTy, Int.cast_ofNat_Int, addD_int, addD_str, addD_lst, fdivWD_int, orKD_dct, dMinK, dSumV, iaddD_int, iaddD_str, subD_int, mulD_int, mulD_str, mulD_lst, fdivD_int, modD_int, powD_int, negD_int, eqD, neD_str, neD_int, ltD_int, leD_int, gtD_int, geD_int, isD, isnD, D.isNon, inDv, ninDv, ixD_lst, ixD_tup, ixD_str, slD_lst, slD_frl, slD_str, dLc, dLook, Slot.calm, tLook, iRngD, iRngB', dNeT, revT_str, dDisp, iZipS, iZipK, minPF_2, sParF, dLenO, dRepO, dVals, putR, sParR, dFmt, dFmtR, fstL, dFst, mulWD_int, imulD_int, countM, lstRg, dLrg1, dLrg2, sRetO_M, retOM_own, retOM_fz, dLookL, dNeN, dLenSet, dSrtSet, sortedF, dTold, dToldB, dToldO, calm_nil, calm_cons, hide_nil, hide_fz, hide_own, hide_no, at_hs, dIsiO, gTG, gGs, gA, gAll, sAsgs, sClr, sAsgN, dFldN, iWk, itmX, valX, keyX, sForN, dDc, dDsp1, dGet, dGetN, sPutK, inKv, kyOf, ownK, dictF, dLitm, dIxK, eqKv, sortedIF, ltSD, dDspT, sPutT, ownKT, dTupK, giveE, R.raw, sAsgK, unpK, unpK1, ninKv, eqKg, catTD, repTD, dSlT, sAppAt, updD, sAppAtK, dPopAtK, tNinSet, Slot.dctT, dLcP, R.dctN, lc2L, dLc2, sAugK, dSrtRev, sRetTK, sortedKIF, splitM, partM, intTF, dStp, dTake, sTryF, dRep, dPopN, sPutFT, dFldP, dIxFT, dSrtFS, sortedLLF, dLc2I, dDcT, dGetNT, dLstKT, sUpdP, runG, gThen, gPlain, gNil, gYield, gYieldR, gIf, gFor, GD.at, sForGen, dLcGen])
def isWord : D → Nat → Bool
  | .str x, n => decide (x.length ≤ n) && x.all isItem
  | _, _ => false
/-- is_word: 0 value, 1 most, 2 item -/
def b_is_word : DS := sRet (dAnd (dIsi .str (zaC 0)) (dAnd (dOp leD (dFn lenF [zaC 0]) (zaC 1)) (dFn allF [dLc [2] (iStr (zaC 0)) (Tgt.g (.one 2)) (tYes) (dOp inDv (zaC 2) (dC (.str [97, 98, 99, 100, 101, 102, 103, 104])))])))
def C_is_word : Con := fun args Q _ => ∃ (d : D) (n : Nat), args = [.fz d, .fz (.int n)] ∧ d.plain ∧ n ≤ 1000000 ∧ ∀ outs, Q (.fz (.bl (isWord d n))) outs
theorem map_filter_true {α β : Type} (f : α → β) (xs : List α) : (xs.filter fun _ => true).map f = xs.map f := by rw [List.filter_eq_self.mpr (fun _ _ => rfl)]
theorem p_is_word : ∀ args Q E, args.length = 2 → C_is_word args Q E → runD 3 b_is_word args Q E := by
  intro args Q E _ h
  obtain ⟨d, n, rfl, hp, hn, hq⟩ := h
  unfold b_is_word
  cases d with
  | str x =>
    walk_at "dl"
    refine ⟨true, rfl, (if_pos rfl).mpr ?_⟩
    have hq2 : ∀ outs, Q (.fz (.bl (decide (x.length ≤ n) && x.all isItem))) outs := hq
    have e : decide ((x.length : Int) ≤ (n : Int)) = decide (x.length ≤ n) := by rw [decide_eq_decide]; omega
    rw [e]
    by_cases hl : x.length ≤ n
    · rw [decide_eq_true hl] at hq2 ⊢
      refine (if_pos rfl).mpr ⟨fun i hi d => ?_, ?_⟩
      · simp only [List.mem_cons, List.not_mem_nil, or_false] at hi
        subst hi
        exact fun h => nomatch h
      · refine lcL_pure (p := fun _ => true) (f := fun x => match x with | .str [c] => D.bl (isItem c) | _ => .non) _ _ (fun y hy k1 k2 h1 h2 => ?_) [] ?_ ?_
        · obtain ⟨c, _, rfl⟩ := List.mem_map.mp hy
          walk_at "dl"
          rw [in_sign, mem_items]
          exact h1 rfl _ _ rfl rfl
        · rw [List.length_map]; show 0 + x.length ≤ 16777216; omega
        · rw [List.nil_append, map_filter_true, List.map_map]
          refine ⟨x.map isItem, by rw [List.map_map]; rfl, ?_⟩
          walk_at "dl"
          have : ((x.map isItem).all id) = x.all isItem := by rw [List.all_map]; rfl
          rw [this]
          exact hq2 _
    · rw [decide_eq_false hl] at hq2 ⊢
      exact hq2 _
  | obj c x => exact absurd rfl hp
  | cls c => exact absurd rfl hp
  | _ => walk_at "dl"; exact ⟨false, rfl, hq _⟩
def isInt : D → Bool
  | .int _ => true
  | _ => false
/-- is_integer: 0 value -/
def b_is_integer : DS := sRet (dAnd (dIsi .int (zaC 0)) (dNot (dIsi .bool (zaC 0))))
def C_is_integer : Con := fun args Q _ => ∃ d, args = [.fz d] ∧ d.plain ∧ ∀ outs, Q (.fz (.bl (isInt d))) outs
theorem p_is_integer : ∀ args Q E, args.length = 1 → C_is_integer args Q E → runD 1 b_is_integer args Q E := by
  intro args Q E _ h
  obtain ⟨d, rfl, hp, hq⟩ := h
  unfold b_is_integer
  cases d with
  | obj c x => exact absurd rfl hp
  | cls c => exact absurd rfl hp
  | int i => walk_at "dl"; exact ⟨true, rfl, (if_pos rfl).mpr ⟨false, rfl, hq _⟩⟩
  | bl b => walk_at "dl"; exact ⟨true, rfl, (if_pos rfl).mpr ⟨true, rfl, hq _⟩⟩
  | _ => walk_at "dl"; exact ⟨false, rfl, hq _⟩
def inRange : D → Int → Int → Bool
  | .int i, a, b => decide (a ≤ i) && decide (i ≤ b)
  | _, _, _ => false
/-- in_range: 0 value, 1 least, 2 most -/
def b_in_range : DS := sRet (dAnd (zaK C_is_integer [.v (zaC 0)]) (dChain leD leD (zaC 1) (zaC 0) (zaC 2)))
def C_in_range : Con := fun args Q _ => ∃ d a b, args = [.fz d, .fz (.int a), .fz (.int b)] ∧ d.plain ∧ ∀ outs, Q (.fz (.bl (inRange d a b))) outs
theorem p_in_range : ∀ args Q E, args.length = 3 → C_in_range args Q E → runD 3 b_in_range args Q E := by
  intro args Q E _ h
  obtain ⟨d, a, b, rfl, hp, hq⟩ := h
  unfold b_in_range
  walk_at "dl"
  refine ⟨d, rfl, hp, fun outs => ?_⟩
  cases d with
  | obj c x => exact absurd rfl hp
  | cls c => exact absurd rfl hp
  | int i =>
    have hq2 : ∀ outs, Q (.fz (.bl (decide (a ≤ i) && decide (i ≤ b)))) outs := hq
    show if true = true then _ else _
    refine (if_pos rfl).mpr ?_
    walk_at "dl"
    cases h1 : decide (a ≤ i) with
    | true => rw [h1] at hq2; exact (if_pos rfl).mpr (hq2 _)
    | false => rw [h1] at hq2; exact hq2 _
  | _ => exact hq _
def suit (t p : Tx) (n : Nat) : Bool := decide (t.length ≤ n) || (p.take (t.drop n).length == t.drop n)
theorem cut_from {x : Tx} {n : Nat} : cut x (some (n : Int)) none = x.drop n := by
  have this : ¬ ((n : Int) < 0) := by omega
  have e : sIx x.length 0 (some (n : Int)) = min n x.length := by
    show (if (n : Int) < 0 then ((n : Int) + (x.length : Int)).toNat else min (n : Int).toNat x.length) = _
    rw [if_neg this, Int.toNat_natCast]
  show (x.drop (sIx x.length 0 (some (n : Int)))).take (x.length - sIx x.length 0 (some (n : Int))) = _
  rw [e]
  by_cases h : n ≤ x.length
  · rw [Nat.min_eq_left h, ← List.length_drop, List.take_length]
  · rw [Nat.min_eq_right (by omega), List.drop_eq_nil_of_le (Nat.le_refl _), List.drop_eq_nil_of_le (by omega)]
    simp
/-- is_suitable: 0 takes, 1 puts, 2 number -/
def b_is_suitable : DS := sRet (dOr (dOp geD (zaC 2) (dFn lenF [zaC 0])) (dMs swM (zaC 1) [dSl (zaC 0) (some (zaC 2)) none]))
def C_is_suitable : Con := fun args Q _ => ∃ (t p : Tx) (n : Nat), args = [.fz (.str t), .fz (.str p), .fz (.int n)] ∧ ∀ outs, Q (.fz (.bl (suit t p n))) outs
theorem p_is_suitable : ∀ args Q E, args.length = 3 → C_is_suitable args Q E → runD 3 b_is_suitable args Q E := by
  intro args Q E _ h
  obtain ⟨t, p, n, rfl, hq⟩ := h
  unfold b_is_suitable
  walk_at "dl"
  have e : decide ((t.length : Int) ≤ (n : Int)) = decide (t.length ≤ n) := by rw [decide_eq_decide]; omega
  have hq2 : ∀ outs, Q (.fz (.bl (decide (t.length ≤ n) || (p.take (t.drop n).length == t.drop n)))) outs := hq
  rw [e]
  cases h1 : decide (t.length ≤ n) with
  | true => rw [h1] at hq2; exact hq2 _
  | false =>
    rw [h1] at hq2
    rw [cut_from]
    exact hq2 _
def validE (t p c : D) : Bool := isWord t 2000 && isWord p 2000 && (match t, p, c with
  | .str x, .str y, .int i => decide (0 ≤ i) && decide (i ≤ x.length) && suit x y i.toNat
  | _, _, _ => false)
theorem isWord_str {d : D} {n : Nat} (h : isWord d n = true) : ∃ x, d = .str x ∧ x.length ≤ n ∧ x.all isItem = true := by
  cases d with
  | str x =>
    have h : (decide (x.length ≤ n) && x.all isItem) = true := h
    rw [Bool.and_eq_true, decide_eq_true_eq] at h
    exact ⟨x, rfl, h.1, h.2⟩
  | _ => cases h
/-- Effect.is_valid: 0 takes, 1 puts, 2 core -/
def b_Effect_is_valid : DS := sSeq (sIf (tOr (tNot (tVal (zaK C_is_word [.v (zaC 0), .v (dC (.int 2000))]))) (tNot (tVal (zaK C_is_word [.v (zaC 1), .v (dC (.int 2000))])))) (sRet (dC (.bl false))) (sNx)) (sRet (dAnd (zaK C_in_range [.v (zaC 2), .v (dC (.int 0)), .v (dFn lenF [zaC 0])]) (zaK C_is_suitable [.v (zaC 0), .v (zaC 1), .v (zaC 2)])))
def C_Effect_is_valid : Con := fun args Q _ => ∃ t p c, args = [.fz t, .fz p, .fz c] ∧ t.plain ∧ p.plain ∧ c.plain ∧ ∀ outs, Q (.fz (.bl (validE t p c))) outs
theorem p_Effect_is_valid : ∀ args Q E, args.length = 3 → C_Effect_is_valid args Q E → runD 3 b_Effect_is_valid args Q E := by
  intro args Q E _ h
  obtain ⟨t, p, c, rfl, ht, hp, hc, hq⟩ := h
  unfold b_Effect_is_valid
  walk_at "dl"
  refine ⟨t, 2000, rfl, ht, by decide, fun outs => ?_⟩
  walk_at "dl"
  cases h1 : isWord t 2000 with
  | false =>
    walk_at "dl"
    have : validE t p c = false := by unfold validE; rw [h1]; rfl
    rw [this] at hq
    exact hq _
  | true =>
    walk_at "dl"
    refine ⟨p, 2000, rfl, hp, by decide, fun outs => ?_⟩
    walk_at "dl"
    cases h2 : isWord p 2000 with
    | false =>
      walk_at "dl"
      have : validE t p c = false := by unfold validE; rw [h1, h2]; rfl
      rw [this] at hq
      exact hq _
    | true =>
      obtain ⟨x, rfl, hx, _⟩ := isWord_str h1
      obtain ⟨y, rfl, hy, _⟩ := isWord_str h2
      walk_at "dl"
      refine ⟨c, 0, x.length, rfl, hc, fun outs => ?_⟩
      walk_at "dl"
      cases h3 : inRange c 0 x.length with
      | false =>
        have : validE (.str x) (.str y) c = false := by
          unfold validE
          rw [h1, h2]
          cases c with
          | int i =>
            have h3 : (decide (0 ≤ i) && decide (i ≤ (x.length : Int))) = false := h3
            show (true && true && (decide (0 ≤ i) && decide (i ≤ (x.length : Int)) && suit x y i.toNat)) = false
            rw [h3]
            rfl
          | _ => rfl
        rw [this] at hq
        exact hq _
      | true =>
        cases c with
        | int i =>
          have h3 : (decide (0 ≤ i) && decide (i ≤ (x.length : Int))) = true := h3
          have h4 := h3
          rw [Bool.and_eq_true, decide_eq_true_eq, decide_eq_true_eq] at h4
          have hi : (i.toNat : Int) = i := Int.toNat_of_nonneg h4.1
          have : validE (.str x) (.str y) (.int i) = suit x y i.toNat := by
            unfold validE
            rw [h1, h2]
            show (true && true && (decide (0 ≤ i) && decide (i ≤ (x.length : Int)) && suit x y i.toNat)) = _
            rw [h3]
            rfl
          rw [this] at hq
          exact (if_pos rfl).mpr ⟨x, y, i.toNat, by rw [hi], fun outs => hq _⟩
        | _ => cases h3
def badPart (t p c : D) : Option Tx := if isWord t 2000 = false then some [116, 97, 107, 101, 115] else if isWord p 2000 = false then some [112, 117, 116, 115] else if validE t p c = false then some [99, 111, 114, 101] else none
/-- Effect.__init__: 0 self, 1 takes, 2 puts, 3 core -/
def b_Effect___init__ : DS := sSeq (sIf (tNot (tVal (zaK C_is_word [.v (zaC 1), .v (dC (.int 2000))]))) (sRaise 3 (dC (.str [116, 97, 107, 101, 115]))) (sNx)) (sSeq (sIf (tNot (tVal (zaK C_is_word [.v (zaC 2), .v (dC (.int 2000))]))) (sRaise 3 (dC (.str [112, 117, 116, 115]))) (sNx)) (sSeq (sIf (tNot (tVal (zaK C_Effect_is_valid [.v (zaC 1), .v (zaC 2), .v (zaC 3)]))) (sRaise 3 (dC (.str [99, 111, 114, 101]))) (sNx)) (sSeq (sFld 0 0 0 (zaC 1)) (sSeq (sFld 0 0 1 (zaC 2)) (sFld 0 0 2 (zaC 3))))))
def C_Effect___init__ : Con := fun args Q E => ∃ t p c, args = [.own (.obj 0 []), .fz t, .fz p, .fz c] ∧ t.plain ∧ p.plain ∧ c.plain ∧
  (badPart t p c = none → ∀ r o1 o2 o3, r.d = .non → Q r [.own (.obj 0 [t, p, c]), o1, o2, o3]) ∧ ∀ x, badPart t p c = some x → ∀ outs, E ⟨3, .str x⟩ outs
theorem p_Effect___init__ : ∀ args Q E, args.length = 4 → C_Effect___init__ args Q E → runD 4 b_Effect___init__ args Q E := by
  intro args Q E _ h
  obtain ⟨t, p, c, rfl, ht, hp, hc, hq, he⟩ := h
  unfold b_Effect___init__
  walk_at "dl"
  refine ⟨t, 2000, rfl, ht, by decide, fun outs => ?_⟩
  walk_at "dl"
  cases h1 : isWord t 2000 with
  | false => exact he _ (by unfold badPart; rw [if_pos h1]) _
  | true =>
    walk_at "dl"
    refine ⟨p, 2000, rfl, hp, by decide, fun outs => ?_⟩
    walk_at "dl"
    cases h2 : isWord p 2000 with
    | false => exact he _ (by unfold badPart; rw [if_neg (by rw [h1]; decide), if_pos h2]) _
    | true =>
      walk_at "dl"
      refine ⟨t, p, c, rfl, ht, hp, hc, fun outs => ?_⟩
      walk_at "dl"
      cases h3 : validE t p c with
      | false => exact he _ (by unfold badPart; rw [if_neg (by rw [h1]; decide), if_neg (by rw [h2]; decide), if_pos h3]) _
      | true =>
        have hb : badPart t p c = none := by unfold badPart; rw [if_neg (by rw [h1]; decide), if_neg (by rw [h2]; decide), if_neg (by rw [h3]; decide)]
        exact ⟨Nat.le_refl 0, Nat.le_refl 1, Nat.le_refl 2, hq hb _ _ _ _ rfl⟩
/-- the least suitable number from n on, in f tries -/
def leastS (t p : Tx) : Nat → Nat → Nat
  | 0, n => n
  | f + 1, n => if suit t p n = true then n else leastS t p f (n + 1)
def leastOf (t p : Tx) (n : Nat) : Nat := leastS t p (t.length - n) n
theorem suit_big {t p : Tx} {n : Nat} (h : t.length ≤ n) : suit t p n = true := by unfold suit; rw [decide_eq_true h]; rfl
theorem leastOf_yes {t p : Tx} {n : Nat} (h : suit t p n = true) : leastOf t p n = n := by
  unfold leastOf
  cases e : t.length - n with
  | zero => rfl
  | succ f => rw [leastS, if_pos h]
theorem leastOf_no {t p : Tx} {n : Nat} (h : suit t p n = false) : leastOf t p n = leastOf t p (n + 1) := by
  unfold leastOf
  have hn : n < t.length := by
    by_cases q : t.length ≤ n
    · rw [suit_big q] at h; cases h
    · omega
  have e : t.length - n = (t.length - (n + 1)) + 1 := by omega
  rw [e, leastS, if_neg (by rw [h]; decide)]
/-- least_suitable: 0 takes, 1 puts, 2 least, 3 number -/
def b_least_suitable : DS := sSeq (sAsg (gN 3) (zaC 2)) (sSeq (sWh (tNot (tVal (zaK C_is_suitable [.v (zaC 0), .v (zaC 1), .v (zaC 3)]))) (sAug 3 iaddD (dC (.int 1)))) (sRet (zaC 3)))
def C_least_suitable : Con := fun args Q _ => ∃ (t p : Tx) (n : Nat), args = [.fz (.str t), .fz (.str p), .fz (.int n)] ∧ ∀ outs, Q (.fz (.int (leastOf t p n))) outs
theorem p_least_suitable : ∀ args Q E, args.length = 3 → C_least_suitable args Q E → runD 4 b_least_suitable args Q E := by
  intro args Q E _ h
  obtain ⟨t, p, n, rfl, hq⟩ := h
  unfold b_least_suitable
  walk_at "dl"
  refine whL_inv (I := fun m ρ => ∃ j : Nat, ρ = [.fz (.str t), .fz (.str p), .fz (.int n), .fz (.int j)] ∧ m = t.length - j ∧ leastOf t p j = leastOf t p n) (fun m ρ h k hk => ?_) (t.length - n) _ ⟨n, rfl, rfl, rfl⟩
  obtain ⟨j, rfl, hm, hj⟩ := h
  walk_at "dl"
  refine ⟨t, p, j, rfl, fun outs => ?_⟩
  walk_at "dl"
  cases h1 : suit t p j with
  | true =>
    walk_at "dl"
    rw [leastOf_yes h1] at hj
    rw [hj]
    exact hq _
  | false =>
    walk_at "dl"
    have hn : j < t.length := by
      by_cases q : t.length ≤ j
      · rw [suit_big q] at h1; cases h1
      · omega
    exact hk (t.length - (j + 1)) _ (by omega) ⟨j + 1, rfl, rfl, by rw [← leastOf_no h1]; exact hj⟩
/-- the depths at the takes -/
def depthsL : List St2 → Int → List Int
  | [], _ => []
  | s :: ss, d => if s.1 == 45 then (d + 1) :: depthsL ss (d + 1) else depthsL ss (d - 1)
/-- depths: 0 steps, 1 found, 2 depth, 3 step -/
def b_depths : DS := sSeq (sAsgO 1 (dLst [])) (sSeq (sAsg (gN 2) (dC (.int 0))) (sSeq (sFor (iLst (zaC 0)) (gN 3) (sSeq (sAug 2 iaddD (dIfE (tVal (dOp eqD (dOp ixD (zaC 3) (dC (.int 0))) (dC (.str [45])))) (dC (.int 1)) (dUn negD (dC (.int 1))))) (sIf (tVal (dOp eqD (dOp ixD (zaC 3) (dC (.int 0))) (dC (.str [45])))) (sApp 1 (zaC 2)) (sNx)))) (sRet (zaC 1))))
def C_depths : Con := fun args Q _ => ∃ ss, args = [.fz (seqD ss)] ∧ ss.length ≤ 1000000 ∧ ∀ r outs, r.d = .lst ((depthsL ss 0).map D.int) → Q r outs
theorem p_depths : ∀ args Q E, args.length = 1 → C_depths args Q E → runD 4 b_depths args Q E := by
  intro args Q E _ h
  obtain ⟨ss, rfl, hl, hq⟩ := h
  unfold b_depths
  walk_at "dl"
  refine ⟨by decide, ?_⟩
  unfold seqD
  walk_at "dl"
  refine forL_inv (I := fun es ρ => ∃ ts acc d s3, es = ts.map stepD ∧ ρ = [.fz (.lst (ss.map stepD)), .own (.lst (acc.map D.int)), .fz (.int d), s3] ∧ acc ++ depthsL ts d = depthsL ss 0 ∧ acc.length + ts.length ≤ 1000000) (fun ρ h => ?_) (fun x es ρ h k hk => ?_) _ _ ⟨ss, [], 0, .no, rfl, rfl, rfl, by simpa using hl⟩
  · obtain ⟨ts, acc, d, s3, h1, rfl, h2, h3⟩ := h
    cases ts with
    | nil =>
      walk_at "dl"
      refine hq _ _ ?_
      rw [depthsL, List.append_nil] at h2
      rw [← h2]
      rfl
    | cons t ts => cases h1
  · obtain ⟨ts, acc, d, s3, h1, rfl, h2, h3⟩ := h
    cases ts with
    | nil => cases h1
    | cons t ts =>
      cases h1
      obtain ⟨a, b⟩ := t
      unfold stepD
      walk_at "dl"
      refine ⟨0, a, rfl, rfl, .inl rfl, ?_⟩
      have hb : ([a] == [45]) = (a == 45) := by simp
      rw [hb]
      simp only [List.length_cons] at h3
      cases hs : (a == 45) with
      | true =>
        have e : depthsL ((a, b) :: ts) d = (d + 1) :: depthsL ts (d + 1) := by rw [depthsL]; exact if_pos hs
        walk_at "dl"
        refine ⟨0, a, rfl, rfl, .inl rfl, ?_⟩
        rw [hb, hs]
        walk_at "dl"
        refine ⟨?_, ?_⟩
        · rw [List.length_map]; show acc.length < 16777216; omega
        · refine hk _ ⟨ts, acc ++ [d + 1], d + 1, .fz (.str [a, b]), rfl, ?_, ?_, ?_⟩
          · rw [List.map_append]; rfl
          · rw [List.append_assoc, ← h2, e]; rfl
          · rw [List.length_append]; show acc.length + 1 + _ ≤ _; omega
      | false =>
        have e : depthsL ((a, b) :: ts) d = depthsL ts (d - 1) := by rw [depthsL]; exact if_neg (by show ¬ (a == 45) = true; rw [hs]; decide)
        walk_at "dl"
        refine ⟨0, a, rfl, rfl, .inl rfl, ?_⟩
        rw [hb, hs]
        walk_at "dl"
        exact hk _ ⟨ts, acc, d - 1, _, rfl, rfl, by rw [← h2, e], by omega⟩
end DL

set_option linter.all false
set_option autoImplicit false
set_option maxRecDepth 100000
namespace DL
local macro_rules | `(tactic| walk_at "dl") => `(tactic| simp -implicitDefEqProofs only [runD, startE, outsE, outs_0, outs_s, List.length_cons, List.length_nil, List.cons_append, List.nil_append, List.replicate, Nat.sub_zero, Nat.add_one_sub_one, Nat.reduceSub, Nat.reduceAdd, dC, dVar_M, dVarM_fz, dVarM_own, dIxN_M, dIxM_fz, dIxM_own, dOpN_M, dOpM_fz, dOpM_own, dFnN_M, dFnM_fz, dFnM_own, dOp, dUn, dArgs, dLst, dTup, dFn, dIsi, dMs, dPart, dSl, dIfE, Slot.known, tVal, tTru, tAnd, tOr, tNot, dAnd, dOr, dNot, dChain, iLst, iTup, iStr, iRng1, iRng2, iEnum, iZip, gN, gNs, gT, gL, Tgt.g, tYes, wipeE, backE, dAVs, zaK, avSlot, AV.ok, Slot.isOwn, bA_nil, bA_v, bA_m, D.isRef, List.all_cons, List.all_nil, List.map_cons, List.map_nil, Bool.and_true, Bool.true_and, List.tail_cons, List.tail_nil, List.head?_cons, sNx, sSeq, sRet, sRetN, sExp, sAsg, sAsgO, sIf, sAug, sFor, sWh, sBrk, sCnt, sRaise, sApp, sAppP, sRetT, dCatT, dMinKT, eqKN, listKF, listSF, sExt, sUpdT, mergeT, dDct0T, dIxKT, repZD, neEmp, iWkT, itmT, keyT, dSrtKT, Slot.ownL, sPut, sPut2, putAt, sPar, sParL, sFld, dFld, dMake, mkC, dMakeV, dCm, dObj, D.isObj, dCallV, dCallS, dEqO, dIsO, dDct0, isBD_bl, notBD_bl, revD_lst, sPar3, sTrys, catchD, DEnds.unname, repF, D.eqTo, at_0, at_s, at_nil, set_0, set_s, fzd, frd, ftd, Slot.noT, dVarM_ownT, hide_ownT, dMakeT, mkCT, D.calm, D.unm, dEqN, dProp, strF, sFldT, sAppF, sFldAugT, kidOf, putL, dMethM, Slot.isObj, if_true, if_false, Bool.not_true, Bool.not_false, true_and, and_true, Bool.false_eq_true, ↓reduceIte, lenF, lenD, allF, anyF, sumF, absF, intF, tupleF, swM, ewM, eqv_int, eqv_str, eqv_bl, D.isTy, Int.cast_ofNat_Int, addD_int, addD_str, addD_lst, fdivWD_int, orKD_dct, dMinK, dSumV, iaddD_int, iaddD_str, subD_int, mulD_int, mulD_str, mulD_lst, fdivD_int, modD_int, powD_int, negD_int, eqD, neD_str, neD_int, ltD_int, leD_int, gtD_int, geD_int, isD, isnD, D.isNon, inDv, ninDv, ixD_lst, ixD_tup, ixD_str, slD_lst, slD_frl, slD_str, dLc, dLook, Slot.calm, tLook, iRngD, iRngB', dNeT, revT_str, dDisp, iZipS, iZipK, minPF_2, sParF, dLenO, dRepO, dVals, putR, sParR, dFmt, dFmtR, fstL, dFst, mulWD_int, imulD_int, countM, lstRg, dLrg1, dLrg2, sRetO_M, retOM_own, retOM_fz, dLookL, dNeN, dLenSet, dSrtSet, sortedF, dTold, dToldB, dToldO, calm_nil, calm_cons, hide_nil, hide_fz, hide_own, hide_no, at_hs, dIsiO, gTG, gGs, gA, gAll, sAsgs, sClr, sAsgN, dFldN, iWk, itmX, valX, keyX, sForN, dDc, dDsp1, dGet, dGetN, sPutK, inKv, kyOf, ownK, dictF, dLitm, dIxK, eqKv, sortedIF, ltSD, dDspT, sPutT, ownKT, dTupK, giveE, R.raw, sAsgK, unpK, unpK1, ninKv, eqKg, catTD, repTD, dSlT, sAppAt, updD, sAppAtK, dPopAtK, tNinSet, Slot.dctT, dLcP, R.dctN, lc2L, dLc2, sAugK, dSrtRev, sRetTK, sortedKIF, splitM, partM, intTF, dStp, dTake, sTryF, dRep, dPopN, sPutFT, dFldP, dIxFT, dSrtFS, sortedLLF, dLc2I, dDcT, dGetNT, dLstKT, sUpdP, runG, gThen, gPlain, gNil, gYield, gYieldR, gIf, gFor, GD.at, sForGen, dLcGen])
/-! need, effect -/
def maxL (ds : List Int) : Int := ds.foldr max 0
theorem maxL_mem : ∀ ds : List Int, maxL ds ∈ (0 : Int) :: ds
  | [] => List.mem_cons_self
  | d :: ds => by
    show max d (maxL ds) ∈ _
    have h := maxL_mem ds
    by_cases q : d ≤ maxL ds
    · rw [Int.max_eq_right q]
      rcases List.mem_cons.mp h with e | e
      · rw [e]; exact List.mem_cons_self
      · exact List.mem_cons_of_mem _ (List.mem_cons_of_mem _ e)
    · rw [Int.max_eq_left (by omega)]
      exact List.mem_cons_of_mem _ List.mem_cons_self
theorem maxL_le : ∀ (ds : List Int) (y : Int), y ∈ (0 : Int) :: ds → y ≤ maxL ds
  | [], y, h => by
    simp only [List.mem_cons, List.not_mem_nil, or_false] at h
    rw [h]
    exact Int.le_refl _
  | d :: ds, y, h => by
    show y ≤ max d (maxL ds)
    rcases List.mem_cons.mp h with e | e
    · have := maxL_le ds 0 List.mem_cons_self
      omega
    · rcases List.mem_cons.mp e with e | e
      · omega
      · have := maxL_le ds y (List.mem_cons_of_mem _ e)
        omega
theorem maxL_nonneg (ds : List Int) : 0 ≤ maxL ds := maxL_le ds 0 List.mem_cons_self
theorem max_need {ds : List Int} {k : R → Prop} (h : k (.fz (.int (maxL ds)))) : maxF [.lst (D.int 0 :: ds.map D.int)] k := by
  refine ⟨0 :: ds, rfl, by simp, fun m hm hy => ?_⟩
  have h1 := maxL_le ds m hm
  have h2 := hy _ (maxL_mem ds)
  have : m = maxL ds := by omega
  rw [this]
  exact h
def needL (ss : List St2) : Int := maxL (depthsL ss 0)
theorem depths_le : ∀ (ss : List St2) (d y : Int), y ∈ depthsL ss d → y ≤ d + (zaD 45 ss).length
  | [], _, _, h => by cases h
  | s :: ss, d, y, h => by
    rw [depthsL] at h
    unfold zaD
    rw [List.filter_cons]
    cases hs : (s.1 == 45) with
    | true =>
      rw [hs, if_pos rfl] at h
      rw [if_pos rfl, List.map_cons, List.length_cons]
      rcases List.mem_cons.mp h with e | e
      · omega
      · have := depths_le ss (d + 1) y e
        unfold zaD at this
        omega
    | false =>
      rw [hs, if_neg (by decide)] at h
      rw [if_neg (by decide)]
      have := depths_le ss (d - 1) y h
      unfold zaD at this
      omega
theorem need_le (ss : List St2) : needL ss ≤ (zaD 45 ss).length := by
  rcases List.mem_cons.mp (maxL_mem (depthsL ss 0)) with e | e
  · show maxL _ ≤ _
    rw [e]
    omega
  · have := depths_le ss 0 _ e
    show maxL _ ≤ _
    omega
theorem leastOf_spec (t p : Tx) : ∀ n, n ≤ t.length → n ≤ leastOf t p n ∧ leastOf t p n ≤ t.length ∧ suit t p (leastOf t p n) = true := by
  have : ∀ f n, f = t.length - n → n ≤ t.length → n ≤ leastOf t p n ∧ leastOf t p n ≤ t.length ∧ suit t p (leastOf t p n) = true := by
    intro f
    induction f with
    | zero =>
      intro n hf hn
      have h : suit t p n = true := suit_big (by omega)
      rw [leastOf_yes h]
      exact ⟨Nat.le_refl _, hn, h⟩
    | succ f ih =>
      intro n hf hn
      cases h : suit t p n with
      | true => rw [leastOf_yes h]; exact ⟨Nat.le_refl _, hn, h⟩
      | false =>
        rw [leastOf_no h]
        have := ih (n + 1) (by omega) (by omega)
        exact ⟨by omega, this.2⟩
  exact fun n hn => this _ n rfl hn
/-- the core of a sequence's effect -/
def coreOf (ss : List St2) : Nat := leastOf (zaD 45 ss) (zaD 43 ss) (needL ss).toNat
theorem items_ok {sg : Nat} {ss : List St2} (h : okSeq ss) : (zaD sg ss).length ≤ 400 ∧ (zaD sg ss).all isItem = true := by
  unfold zaD
  refine ⟨?_, ?_⟩
  · rw [List.length_map]
    exact Nat.le_trans (List.length_filter_le _ _) h.1
  · rw [List.all_eq_true]
    intro c hc
    obtain ⟨s, hs, rfl⟩ := List.mem_map.mp hc
    have := h.2 s (List.mem_filter.mp hs).1
    unfold okSt at this
    rw [Bool.and_eq_true] at this
    exact this.2
theorem word_ok {x : Tx} {n : Nat} (h : x.length ≤ n) (h2 : x.all isItem = true) : isWord (.str x) n = true := by
  show (decide (x.length ≤ n) && x.all isItem) = true
  rw [decide_eq_true h, h2]
  rfl
def effD (ss : List St2) : D := .obj 0 [.str (zaD 45 ss), .str (zaD 43 ss), .int (coreOf ss)]
theorem badPart_of {x y : Tx} {n : Nat} (hx : x.length ≤ 2000) (hx2 : x.all isItem = true) (hy : y.length ≤ 2000) (hy2 : y.all isItem = true) (hn : n ≤ x.length) (hs : suit x y n = true) : badPart (.str x) (.str y) (.int n) = none := by
  have h1 := word_ok hx hx2
  have h2 := word_ok hy hy2
  have h3 : validE (.str x) (.str y) (.int n) = true := by
    unfold validE
    rw [h1, h2]
    show (true && true && (decide (0 ≤ (n : Int)) && decide ((n : Int) ≤ (x.length : Int)) && suit x y (n : Int).toNat)) = true
    rw [Int.toNat_natCast, hs, decide_eq_true (by omega), decide_eq_true (by omega)]
    rfl
  unfold badPart
  rw [if_neg (by rw [h1]; decide), if_neg (by rw [h2]; decide), if_neg (by rw [h3]; decide)]
theorem core_ok (ss : List St2) : coreOf ss ≤ (zaD 45 ss).length ∧ suit (zaD 45 ss) (zaD 43 ss) (coreOf ss) = true := by
  have h := need_le ss
  have h0 := maxL_nonneg (depthsL ss 0)
  have := leastOf_spec (zaD 45 ss) (zaD 43 ss) (needL ss).toNat (by omega)
  exact this.2
/-- Effect.of: 0 cls, 1 steps, 2 takes, 3 puts -/
def b_Effect_of : DS := sSeq (sExp (zaK C_check_sequence [.v (zaC 1)])) (sSeq (sPar 2 3 (zaK C_chosen [.v (zaC 1), .v (dC (.str [45]))]) (zaK C_chosen [.v (zaC 1), .v (dC (.str [43]))])) (sRet (dMakeV 0 0 C_Effect___init__ [zaC 2, zaC 3, zaK C_least_suitable [.v (zaC 2), .v (zaC 3), .v (dFn maxF [dOp addD (dLst [dC (.int 0)]) (zaK C_depths [.v (zaC 1)])])]])))
def C_Effect_of : Con := fun args Q E => ∃ d, args = [.fz (.cls 0), .fz d] ∧ d.plainL ∧ (firstInv d = .non → ∃ ss, d = seqD ss ∧ okSeq ss ∧ ∀ r outs, r.d = effD ss → Q r outs) ∧ ∀ v, firstInv d = .tup [v] → ∀ outs, E ⟨1, v⟩ outs
theorem p_Effect_of : ∀ args Q E, args.length = 2 → C_Effect_of args Q E → runD 4 b_Effect_of args Q E := by
  intro args Q E _ h
  obtain ⟨d, rfl, hp, h1, h2⟩ := h
  unfold b_Effect_of
  walk_at "dl"
  refine ⟨d, rfl, hp, fun e r outs hr => ?_, fun v e outs => h2 v e _⟩
  obtain ⟨ss, rfl, ok, hq⟩ := h1 e
  try walk_at "dl"
  have hlen : ss.length ≤ 1000000 := by have := ok.1; omega
  refine ⟨ss, 45, rfl, hlen, fun outs => ?_⟩
  walk_at "dl"
  refine ⟨ss, 43, rfl, hlen, fun outs => ?_⟩
  walk_at "dl"
  refine ⟨by decide, ss, rfl, hlen, fun r outs hr => ?_⟩
  simp only [hr]
  try walk_at "dl"
  refine ⟨?_, ?_⟩
  · have : (depthsL ss 0).length ≤ ss.length := by
      have : ∀ (ss : List St2) d, (depthsL ss d).length ≤ ss.length := by
        intro ss
        induction ss with
        | nil => intro d; exact Nat.le_refl _
        | cons s ss ih =>
          intro d
          rw [depthsL]
          split
          · have := ih (d + 1); simp only [List.length_cons]; omega
          · have := ih (d - 1); simp only [List.length_cons]; omega
      exact this ss 0
    simp only [List.length_map]
    show _ ≤ 16777216
    omega
  · refine max_need (k := fun t => _) ?_
    have hn : (0 : Int) ≤ maxL (depthsL ss 0) := maxL_nonneg _
    refine ⟨zaD 45 ss, zaD 43 ss, (needL ss).toNat, ?_, fun outs => ?_⟩
    · show _ = [_, _, Slot.fz (.int ((maxL (depthsL ss 0)).toNat : Int))]
      rw [Int.toNat_of_nonneg hn]
      rfl
    · walk_at "dl"
      have i1 := items_ok (sg := 45) ok
      have i2 := items_ok (sg := 43) ok
      have c := core_ok ss
      refine ⟨.str (zaD 45 ss), .str (zaD 43 ss), .int (coreOf ss), rfl, (fun h => nomatch h), (fun h => nomatch h), (fun h => nomatch h), fun _ r o1 o2 o3 hr => ⟨hr, _, rfl, hq _ _ rfl⟩, fun x hx => ?_⟩
      rw [badPart_of (by omega) i1.2 (by omega) i2.2 c.1 c.2] at hx
      cases hx
/-- effect_of: 0 steps -/
def b_effect_of : DS := sRet (dCm 0 C_Effect_of [zaC 0])
def C_effect_of : Con := fun args Q E => ∃ d, args = [.fz d] ∧ d.plainL ∧ (firstInv d = .non → ∃ ss, d = seqD ss ∧ okSeq ss ∧ ∀ r outs, r.d = effD ss → Q r outs) ∧ ∀ v, firstInv d = .tup [v] → ∀ outs, E ⟨1, v⟩ outs
theorem p_effect_of : ∀ args Q E, args.length = 1 → C_effect_of args Q E → runD 1 b_effect_of args Q E := by
  intro args Q E _ h
  obtain ⟨d, rfl, hp, h1, h2⟩ := h
  unfold b_effect_of
  walk_at "dl"
  refine ⟨d, rfl, hp, fun e => ?_, fun v e outs => h2 v e _⟩
  obtain ⟨ss, rfl, ok, hq⟩ := h1 e
  exact ⟨ss, rfl, ok, fun r outs hr => hq _ _ hr⟩
/-- what holds of functions that check their sequence first -/
def seqCon (d : D) (f : List St2 → D) (Q : R → List Slot → Prop) (E : Exc → List Slot → Prop) : Prop := d.plainL ∧ (firstInv d = .non → ∃ ss, d = seqD ss ∧ okSeq ss ∧ ∀ r outs, r.d = f ss → Q r outs) ∧ ∀ v, firstInv d = .tup [v] → ∀ outs, E ⟨1, v⟩ outs
def C_takes_of : Con := fun args Q E => ∃ d, args = [.fz d] ∧ seqCon d (fun ss => .str (zaD 45 ss)) Q E
def C_puts_of : Con := fun args Q E => ∃ d, args = [.fz d] ∧ seqCon d (fun ss => .str (zaD 43 ss)) Q E
def C_need_of : Con := fun args Q E => ∃ d, args = [.fz d] ∧ seqCon d (fun ss => .int (needL ss)) Q E
end DL

set_option linter.all false
set_option autoImplicit false
set_option maxRecDepth 100000
namespace DL
local macro_rules | `(tactic| walk_at "dl") => `(tactic| simp -implicitDefEqProofs only [runD, startE, outsE, outs_0, outs_s, List.length_cons, List.length_nil, List.cons_append, List.nil_append, List.replicate, Nat.sub_zero, Nat.add_one_sub_one, Nat.reduceSub, Nat.reduceAdd, dC, dVar_M, dVarM_fz, dVarM_own, dIxN_M, dIxM_fz, dIxM_own, dOpN_M, dOpM_fz, dOpM_own, dFnN_M, dFnM_fz, dFnM_own, dOp, dUn, dArgs, dLst, dTup, dFn, dIsi, dMs, dPart, dSl, dIfE, Slot.known, tVal, tTru, tAnd, tOr, tNot, dAnd, dOr, dNot, dChain, iLst, iTup, iStr, iRng1, iRng2, iEnum, iZip, gN, gNs, gT, gL, Tgt.g, tYes, wipeE, backE, dAVs, zaK, avSlot, AV.ok, Slot.isOwn, bA_nil, bA_v, bA_m, D.isRef, List.all_cons, List.all_nil, List.map_cons, List.map_nil, Bool.and_true, Bool.true_and, List.tail_cons, List.tail_nil, List.head?_cons, sNx, sSeq, sRet, sRetN, sExp, sAsg, sAsgO, sIf, sAug, sFor, sWh, sBrk, sCnt, sRaise, sApp, sAppP, sRetT, dCatT, dMinKT, eqKN, listKF, listSF, sExt, sUpdT, mergeT, dDct0T, dIxKT, repZD, neEmp, iWkT, itmT, keyT, dSrtKT, Slot.ownL, sPut, sPut2, putAt, sPar, sParL, sFld, dFld, dMake, mkC, dMakeV, dCm, dObj, D.isObj, dCallV, dCallS, dEqO, dIsO, dDct0, isBD_bl, notBD_bl, revD_lst, sPar3, sTrys, catchD, DEnds.unname, repF, D.eqTo, at_0, at_s, at_nil, set_0, set_s, fzd, frd, ftd, Slot.noT, dVarM_ownT, hide_ownT, dMakeT, mkCT, D.calm, D.unm, dEqN, dProp, strF, sFldT, sAppF, sFldAugT, kidOf, putL, dMethM, Slot.isObj, if_true, if_false, Bool.not_true, Bool.not_false, true_and, and_true, Bool.false_eq_true, ↓reduceIte, lenF, lenD, allF, anyF, sumF, absF, intF, tupleF, swM, ewM, eqv_int, eqv_str, eqv_bl, D.isTy, Int.cast_ofNat_Int, addD_int, addD_str, addD_lst, fdivWD_int, orKD_dct, dMinK, dSumV, iaddD_int, iaddD_str, subD_int, mulD_int, mulD_str, mulD_lst, fdivD_int, modD_int, powD_int, negD_int, eqD, neD_str, neD_int, ltD_int, leD_int, gtD_int, geD_int, isD, isnD, D.isNon, inDv, ninDv, ixD_lst, ixD_tup, ixD_str, slD_lst, slD_frl, slD_str, dLc, dLook, Slot.calm, tLook, iRngD, iRngB', dNeT, revT_str, dDisp, iZipS, iZipK, minPF_2, sParF, dLenO, dRepO, dVals, putR, sParR, dFmt, dFmtR, fstL, dFst, mulWD_int, imulD_int, countM, lstRg, dLrg1, dLrg2, sRetO_M, retOM_own, retOM_fz, dLookL, dNeN, dLenSet, dSrtSet, sortedF, dTold, dToldB, dToldO, calm_nil, calm_cons, hide_nil, hide_fz, hide_own, hide_no, at_hs, dIsiO, gTG, gGs, gA, gAll, sAsgs, sClr, sAsgN, dFldN, iWk, itmX, valX, keyX, sForN, dDc, dDsp1, dGet, dGetN, sPutK, inKv, kyOf, ownK, dictF, dLitm, dIxK, eqKv, sortedIF, ltSD, dDspT, sPutT, ownKT, dTupK, giveE, R.raw, sAsgK, unpK, unpK1, ninKv, eqKg, catTD, repTD, dSlT, sAppAt, updD, sAppAtK, dPopAtK, tNinSet, Slot.dctT, dLcP, R.dctN, lc2L, dLc2, sAugK, dSrtRev, sRetTK, sortedKIF, splitM, partM, intTF, dStp, dTake, sTryF, dRep, dPopN, sPutFT, dFldP, dIxFT, dSrtFS, sortedLLF, dLc2I, dDcT, dGetNT, dLstKT, sUpdP, runG, gThen, gPlain, gNil, gYield, gYieldR, gIf, gFor, GD.at, sForGen, dLcGen])
/-! the law's own helpers: the pool -/
def poolOk (s : Slot) : Prop := ∃ a b : Int, s = .own (.lst [.int a, .int b]) ∧ 0 ≤ b ∧ b < 2147483648
/-- _law_hand: 0 _law_script, 1 _law_k, 2 _law_cell, 3 _law_seed -/
def b__law_hand : DS := sSeq (sAsg (gN 2) (dOp ixD (dOp addD (dSl (zaC 0) (some (zaC 1)) (some (dOp addD (zaC 1) (dC (.int 1))))) (dLst [dC (.int 0)])) (dC (.int 0)))) (sSeq (sAsg (gN 3) (dOp modD (dOp mulD (dOp addD (dOp addD (dOp modD (zaC 2) (dC (.int 2147483647))) (dOp mulD (dC (.int 7919)) (zaC 1))) (dC (.int 1))) (dC (.int 48271))) (dC (.int 2147483629)))) (sRet (dLst [dOp mulD (dFn intF [dOp geD (zaC 2) (dOp powD (dC (.int 10)) (dC (.int 18)))]) (zaC 2), zaC 3])))
def C__law_hand : Con := fun args Q _ => ∃ (ns : List Int) (k : Nat), args = [.fz (.frl (ns.map .int)), .fz (.int k)] ∧ ns.length ≤ 63 ∧ k ≤ 1000 ∧ ∀ a b : Int, 0 ≤ b → b < 2147483648 → ∀ outs, Q (.fr (.lst [.int a, .int b])) outs
theorem cut_map {α β : Type} (f : α → β) (xs : List α) (lo hi : Option Int) : cut (xs.map f) lo hi = (cut xs lo hi).map f := by
  unfold cut
  rw [List.length_map, List.map_take, List.map_drop]
theorem cut_len {α : Type} (xs : List α) (lo hi : Option Int) : (cut xs lo hi).length ≤ xs.length := by
  unfold cut
  rw [List.length_take, List.length_drop]
  omega
theorem p__law_hand : ∀ args Q E, args.length = 2 → C__law_hand args Q E → runD 4 b__law_hand args Q E := by
  intro args Q E _ h
  obtain ⟨ns, k, rfl, hl, hk, hq⟩ := h
  unfold b__law_hand
  walk_at "dl"
  refine ⟨by decide, ?_, ?_⟩
  · have := cut_len (ns.map D.int) (some (k : Int)) (some ((k : Int) + 1))
    rw [List.length_map] at this
    show _ ≤ 16777216
    omega
  · obtain ⟨c, hc⟩ : ∃ c : Int, (cut (ns.map D.int) (some (k : Int)) (some ((k : Int) + 1)) ++ [.int 0])[0]? = some (.int c) := by
      rw [cut_map]
      cases cut ns (some (k : Int)) (some ((k : Int) + 1)) with
      | nil => exact ⟨0, rfl⟩
      | cons c cs => exact ⟨c, rfl⟩
    refine ⟨0, .int c, ?_, hc, ?_⟩
    · unfold ixN
      rw [if_pos (by decide), List.length_append, if_pos (by show (0 : Int) < ((_ + 1 : Nat) : Int); omega)]
      rfl
    · walk_at "dl"
      refine ⟨by decide, .inl ⟨by decide, by decide⟩, .inr ⟨by decide, by decide⟩, by decide, ⟨by decide, by decide, by decide⟩, ?_, by decide, ?_⟩
      · left
        split <;> exact ⟨by decide, by decide⟩
      · refine hq _ _ (Int.emod_nonneg _ (by decide)) ?_ _
        have := Int.emod_lt_of_pos ((c % 2147483647 + 7919 * (k : Int) + 1) * 48271) (b := 2147483629) (by decide)
        omega
/-- _law_draw: 0 _law_pool, 1 _law_size, 2 _law_found -/
def b__law_draw : DS := sSeq (sIf (tVal (dOp gtD (dIxN 0 (dC (.int 0))) (dC (.int 0)))) (sSeq (sAsg (gN 2) (dOp modD (dIxN 0 (dC (.int 0))) (zaC 1))) (sSeq (sPut 0 (dC (.int 0)) (dOp fdivD (dIxN 0 (dC (.int 0))) (zaC 1))) (sRet (zaC 2)))) (sNx)) (sSeq (sPut 0 (dC (.int 1)) (dOp modD (dOp addD (dOp mulD (dIxN 0 (dC (.int 1))) (dC (.int 48271))) (dC (.int 11))) (dC (.int 2147483647)))) (sRet (dOp modD (dOp fdivD (dOp modD (dOp mulD (dIxN 0 (dC (.int 1))) (dIxN 0 (dC (.int 1)))) (dC (.int 2147483629))) (dC (.int 64))) (zaC 1))))
def C__law_draw : Con := fun args Q _ => ∃ (p : Slot) (s : Int), args = [p, .fz (.int s)] ∧ poolOk p ∧ 0 < s ∧ s < 1180591620717411303424 ∧ ∀ (r : Int) (p' o : Slot), 0 ≤ r → r < s → poolOk p' → Q (.fz (.int r)) [p', o]
theorem p__law_draw : ∀ args Q E, args.length = 2 → C__law_draw args Q E → runD 3 b__law_draw args Q E := by
  intro args Q E _ h
  obtain ⟨p, s, rfl, ⟨a, b, rfl, hb1, hb2⟩, hs1, hs2, hq⟩ := h
  unfold b__law_draw
  walk_at "dl"
  refine ⟨0, .int a, rfl, rfl, ?_⟩
  walk_at "dl"
  by_cases ha : (0 : Int) < a
  · rw [decide_eq_true ha]
    refine (if_pos rfl).mpr ⟨0, .int a, rfl, rfl, ?_⟩
    walk_at "dl"
    refine ⟨hs1, 0, .int a, rfl, rfl, ?_⟩
    walk_at "dl"
    refine ⟨⟨hs1, hs2⟩, 0, rfl, ?_⟩
    exact hq _ _ _ (Int.emod_nonneg _ (by omega)) (Int.emod_lt_of_pos _ hs1) ⟨a / s, b, rfl, hb1, hb2⟩
  · rw [decide_eq_false ha]
    walk_at "dl"
    refine ⟨1, .int b, rfl, rfl, ?_⟩
    walk_at "dl"
    refine ⟨.inr ⟨by decide, by decide⟩, by decide, 1, rfl, ?_⟩
    have h0 : 0 ≤ (b * 48271 + 11) % 2147483647 := Int.emod_nonneg _ (by decide)
    have h1 : (b * 48271 + 11) % 2147483647 < 2147483647 := Int.emod_lt_of_pos _ (by decide)
    refine ⟨1, .int ((b * 48271 + 11) % 2147483647), rfl, rfl, 1, .int ((b * 48271 + 11) % 2147483647), rfl, rfl, ?_⟩
    walk_at "dl"
    refine ⟨.inl ⟨by omega, by omega⟩, by decide, ⟨by decide, by decide⟩, hs1, ?_⟩
    exact hq _ _ _ (Int.emod_nonneg _ (by omega)) (Int.emod_lt_of_pos _ hs1) ⟨a, _, rfl, h0, by omega⟩
def okLs (ls : Tx) : Prop := ls ≠ [] ∧ ls.length ≤ 8 ∧ ls.all isItem = true
theorem ix_nat {n : Nat} {r : Int} (h0 : 0 ≤ r) (h1 : r < n) : ixN n r = some r.toNat := by
  unfold ixN
  rw [if_pos h0, if_pos h1]
end DL

set_option linter.all false
set_option autoImplicit false
set_option maxRecDepth 100000
namespace DL
local macro_rules | `(tactic| walk_at "dl") => `(tactic| simp -implicitDefEqProofs only [runD, startE, outsE, outs_0, outs_s, List.length_cons, List.length_nil, List.cons_append, List.nil_append, List.replicate, Nat.sub_zero, Nat.add_one_sub_one, Nat.reduceSub, Nat.reduceAdd, dC, dVar_M, dVarM_fz, dVarM_own, dIxN_M, dIxM_fz, dIxM_own, dOpN_M, dOpM_fz, dOpM_own, dFnN_M, dFnM_fz, dFnM_own, dOp, dUn, dArgs, dLst, dTup, dFn, dIsi, dMs, dPart, dSl, dIfE, Slot.known, tVal, tTru, tAnd, tOr, tNot, dAnd, dOr, dNot, dChain, iLst, iTup, iStr, iRng1, iRng2, iEnum, iZip, gN, gNs, gT, gL, Tgt.g, tYes, wipeE, backE, dAVs, zaK, avSlot, AV.ok, Slot.isOwn, bA_nil, bA_v, bA_m, D.isRef, List.all_cons, List.all_nil, List.map_cons, List.map_nil, Bool.and_true, Bool.true_and, List.tail_cons, List.tail_nil, List.head?_cons, sNx, sSeq, sRet, sRetN, sExp, sAsg, sAsgO, sIf, sAug, sFor, sWh, sBrk, sCnt, sRaise, sApp, sAppP, sRetT, dCatT, dMinKT, eqKN, listKF, listSF, sExt, sUpdT, mergeT, dDct0T, dIxKT, repZD, neEmp, iWkT, itmT, keyT, dSrtKT, Slot.ownL, sPut, sPut2, putAt, sPar, sParL, sFld, dFld, dMake, mkC, dMakeV, dCm, dObj, D.isObj, dCallV, dCallS, dEqO, dIsO, dDct0, isBD_bl, notBD_bl, revD_lst, sPar3, sTrys, catchD, DEnds.unname, repF, D.eqTo, at_0, at_s, at_nil, set_0, set_s, fzd, frd, ftd, Slot.noT, dVarM_ownT, hide_ownT, dMakeT, mkCT, D.calm, D.unm, dEqN, dProp, strF, sFldT, sAppF, sFldAugT, kidOf, putL, dMethM, Slot.isObj, if_true, if_false, Bool.not_true, Bool.not_false, true_and, and_true, Bool.false_eq_true, ↓reduceIte, lenF, lenD, allF, anyF, sumF, absF, intF, tupleF, swM, ewM, eqv_int, eqv_str, eqv_bl, D.isTy, Int.cast_ofNat_Int, addD_int, addD_str, addD_lst, fdivWD_int, orKD_dct, dMinK, dSumV, iaddD_int, iaddD_str, subD_int, mulD_int, mulD_str, mulD_lst, fdivD_int, modD_int, powD_int, negD_int, eqD, neD_str, neD_int, ltD_int, leD_int, gtD_int, geD_int, isD, isnD, D.isNon, inDv, ninDv, ixD_lst, ixD_tup, ixD_str, slD_lst, slD_frl, slD_str, dLc, dLook, Slot.calm, tLook, iRngD, iRngB', dNeT, revT_str, dDisp, iZipS, iZipK, minPF_2, sParF, dLenO, dRepO, dVals, putR, sParR, dFmt, dFmtR, fstL, dFst, mulWD_int, imulD_int, countM, lstRg, dLrg1, dLrg2, sRetO_M, retOM_own, retOM_fz, dLookL, dNeN, dLenSet, dSrtSet, sortedF, dTold, dToldB, dToldO, calm_nil, calm_cons, hide_nil, hide_fz, hide_own, hide_no, at_hs, dIsiO, gTG, gGs, gA, gAll, sAsgs, sClr, sAsgN, dFldN, iWk, itmX, valX, keyX, sForN, dDc, dDsp1, dGet, dGetN, sPutK, inKv, kyOf, ownK, dictF, dLitm, dIxK, eqKv, sortedIF, ltSD, dDspT, sPutT, ownKT, dTupK, giveE, R.raw, sAsgK, unpK, unpK1, ninKv, eqKg, catTD, repTD, dSlT, sAppAt, updD, sAppAtK, dPopAtK, tNinSet, Slot.dctT, dLcP, R.dctN, lc2L, dLc2, sAugK, dSrtRev, sRetTK, sortedKIF, splitM, partM, intTF, dStp, dTake, sTryF, dRep, dPopN, sPutFT, dFldP, dIxFT, dSrtFS, sortedLLF, dLc2I, dDcT, dGetNT, dLstKT, sUpdP, runG, gThen, gPlain, gNil, gYield, gYieldR, gIf, gFor, GD.at, sForGen, dLcGen])
/-- _law_letters: 0 _law_pool -/
def b__law_letters : DS := sRet (dOp ixD (dLst [dC (.str [97, 98]), dC (.str [97, 98]), dC (.str [97]), dC (.str [97, 98, 99]), dC (.str [104, 103]), dC (.str [97, 98, 99, 100, 101, 102, 103, 104])]) (zaK C__law_draw [.m 0, .v (dC (.int 6))]))
def C__law_letters : Con := fun args Q _ => ∃ p, args = [p] ∧ poolOk p ∧ ∀ ls p', okLs ls → poolOk p' → Q (.fz (.str ls)) [p']
theorem p__law_letters : ∀ args Q E, args.length = 1 → C__law_letters args Q E → runD 1 b__law_letters args Q E := by
  intro args Q E _ h
  obtain ⟨p, rfl, ⟨a, b, rfl, h0, h1⟩, hq⟩ := h
  unfold b__law_letters
  walk_at "dl"
  refine ⟨by decide, ⟨_, _, rfl, ⟨a, b, rfl, h0, h1⟩, by decide, by decide, fun r p' o hr0 hr1 hp' => ?_⟩⟩
  walk_at "dl"
  have : r = 0 ∨ r = 1 ∨ r = 2 ∨ r = 3 ∨ r = 4 ∨ r = 5 := by omega
  rcases this with rfl | rfl | rfl | rfl | rfl | rfl <;> refine ⟨_, _, rfl, rfl, hq _ _ ⟨by decide, by decide, by decide⟩ hp'⟩
theorem rng_len (lo : Int) (n : Nat) : (rng lo n).length = n := by unfold rng; rw [List.length_map, List.length_range]
theorem rng_succ (lo : Int) (n : Nat) : rng lo (n + 1) = .int lo :: rng (lo + 1) n := by
  unfold rng
  rw [List.range_succ_eq_map, List.map_cons, List.map_map]
  refine congr (congrArg List.cons ?_) ?_
  · show D.int (lo + ((0 : Nat) : Int)) = _
    rw [show lo + ((0 : Nat) : Int) = lo from by omega]
  · refine List.map_congr_left fun k _ => ?_
    show D.int (lo + ((k + 1 : Nat) : Int)) = D.int (lo + 1 + (k : Int))
    rw [show lo + ((k + 1 : Nat) : Int) = lo + 1 + (k : Int) from by omega]
/-- one letter drawn -/
theorem ls_at {ls : Tx} {r : Int} (h0 : 0 ≤ r) (h1 : r < ls.length) : ∃ c, ls[r.toNat]? = some c ∧ (ls.all isItem = true → isItem c = true) := by
  have hi : r.toNat < ls.length := by omega
  refine ⟨ls[r.toNat], List.getElem?_eq_getElem hi, fun h => ?_⟩
  exact List.all_eq_true.mp h _ (List.getElem_mem hi)
theorem ls_pos {ls : Tx} (h : okLs ls) : 0 < ls.length := by
  obtain ⟨h1, _⟩ := h
  cases ls with
  | nil => exact absurd rfl h1
  | cons a l => simp
/-- _law_word: 0 _law_pool, 1 _law_letters_here, 2 _law_most, 3 _law_turn -/
def b__law_word : DS := sRet (dMs joinM (dC (.str [])) [dLc [3] (iRng1 (zaK C__law_draw [.m 0, .v (dOp addD (zaC 2) (dC (.int 1)))])) (Tgt.g (.one 3)) (tYes) (dOp ixD (zaC 1) (zaK C__law_draw [.m 0, .v (dFn lenF [zaC 1])]))])
def C__law_word : Con := fun args Q _ => ∃ (p : Slot) (ls : Tx) (n : Nat), args = [p, .fz (.str ls), .fz (.int n)] ∧ poolOk p ∧ okLs ls ∧ n ≤ 10000 ∧ ∀ (t : Tx) p' o1 o2, t.length ≤ n → t.all isItem = true → poolOk p' → Q (.fz (.str t)) [p', o1, o2]
theorem p__law_word : ∀ args Q E, args.length = 3 → C__law_word args Q E → runD 4 b__law_word args Q E := by
  intro args Q E _ h
  obtain ⟨p, ls, n, rfl, ⟨a, b, rfl, h0, h1⟩, hls, hn, hq⟩ := h
  unfold b__law_word
  walk_at "dl"
  refine ⟨_, _, rfl, ⟨a, b, rfl, h0, h1⟩, by omega, by omega, fun r p' o hr0 hr1 hp' => ?_⟩
  walk_at "dl"
  refine ⟨⟨by omega, by omega⟩, fun i hi d => ?_, ?_⟩
  · simp only [List.mem_cons, List.not_mem_nil, or_false] at hi
    subst hi
    exact fun h => nomatch h
  · refine lcL_inv (I := fun xs acc ρ => ∃ p' t, ρ = [p', .fz (.str ls), .fz (.int n), .no] ∧ poolOk p' ∧ acc = t.map (fun c => D.str [c]) ∧ t.all isItem = true ∧ acc.length + xs.length = r.toNat) (fun acc ρ h => ?_) (fun x xs acc ρ h k1 k2 hk1 hk2 => ?_) _ _ _ ⟨p', [], rfl, hp', rfl, rfl, by rw [rng_len]; simp⟩
    · obtain ⟨p2, t, rfl, hp2, rfl, ht, hl⟩ := h
      walk_at "dl"
      simp only [List.length_map, List.length_nil] at hl
      refine join_one (k := fun t => Q t _) ?_ (hq _ _ _ _ ?_ ht hp2)
      · show t.length ≤ 16777216; omega
      · omega
    · obtain ⟨p2, t, rfl, ⟨a2, b2, rfl, h20, h21⟩, rfl, ht, hl⟩ := h
      walk_at "dl"
      have hpos := ls_pos hls
      refine ⟨_, _, rfl, ⟨a2, b2, rfl, h20, h21⟩, by omega, by have := hls.2.1; omega, fun r2 p3 o2 hr20 hr21 hp3 => ?_⟩
      walk_at "dl"
      obtain ⟨c, hc, hit⟩ := ls_at hr20 hr21
      refine ⟨_, c, ix_nat hr20 hr21, hc, hk1 _ _ ⟨?_, p3, t ++ [c], rfl, hp3, ?_, ?_, ?_⟩⟩
      · simp only [List.length_map, List.length_cons] at hl ⊢
        show _ < 16777216
        omega
      · rw [List.map_append]; rfl
      · rw [List.all_append, ht]; simp [hit hls.2.2]
      · simp only [List.length_append, List.length_map, List.length_cons, List.length_nil] at hl ⊢
        omega
/-- _law_steps: 0 _law_pool, 1 _law_letters_here, 2 _law_most, 3 _law_size, 4 _law_turn -/
def b__law_steps : DS := sSeq (sAsg (gN 3) (zaK C__law_draw [.m 0, .v (dOp addD (zaC 2) (dC (.int 1)))])) (sRet (dLc [4] (iRng1 (zaC 3)) (Tgt.g (.one 4)) (tYes) (dOp addD (dOp ixD (dC (.str [43, 45])) (zaK C__law_draw [.m 0, .v (dC (.int 2))])) (dOp ixD (zaC 1) (zaK C__law_draw [.m 0, .v (dFn lenF [zaC 1])])))))
def C__law_steps : Con := fun args Q _ => ∃ (p : Slot) (ls : Tx) (n : Nat), args = [p, .fz (.str ls), .fz (.int n)] ∧ poolOk p ∧ okLs ls ∧ n ≤ 10000 ∧ ∀ (ss : List St2) r p' o1 o2, ss.length ≤ n → (∀ s ∈ ss, okSt s = true) → (∀ s ∈ ss, s.2 ∈ ls) → poolOk p' → r.d = seqD ss → Q r [p', o1, o2]
theorem p__law_steps : ∀ args Q E, args.length = 3 → C__law_steps args Q E → runD 5 b__law_steps args Q E := by
  intro args Q E _ h
  obtain ⟨p, ls, n, rfl, ⟨a, b, rfl, h0, h1⟩, hls, hn, hq⟩ := h
  unfold b__law_steps
  walk_at "dl"
  refine ⟨_, _, rfl, ⟨a, b, rfl, h0, h1⟩, by omega, by omega, fun r p' o hr0 hr1 hp' => ?_⟩
  walk_at "dl"
  refine ⟨⟨by omega, by omega⟩, fun i hi d => ?_, ?_⟩
  · simp only [List.mem_cons, List.not_mem_nil, or_false] at hi
    subst hi
    exact fun h => nomatch h
  · refine lcL_inv (I := fun xs acc ρ => ∃ p' ss, ρ = [p', .fz (.str ls), .fz (.int n), .fz (.int r), .no] ∧ poolOk p' ∧ acc = ss.map stepD ∧ (∀ s ∈ ss, okSt s = true ∧ s.2 ∈ ls) ∧ acc.length + xs.length = r.toNat) (fun acc ρ h => ?_) (fun x xs acc ρ h k1 k2 hk1 hk2 => ?_) _ _ _ ⟨p', [], rfl, hp', rfl, fun s hs => (nomatch hs), by rw [rng_len]; simp⟩
    · obtain ⟨p2, t, rfl, hp2, rfl, ht, hl⟩ := h
      walk_at "dl"
      simp only [List.length_map, List.length_nil] at hl
      exact hq t _ _ _ _ (by omega) (fun s hs => (ht s hs).1) (fun s hs => (ht s hs).2) hp2 rfl
    · obtain ⟨p2, t, rfl, ⟨a2, b2, rfl, h20, h21⟩, rfl, ht, hl⟩ := h
      walk_at "dl"
      refine ⟨_, _, rfl, ⟨a2, b2, rfl, h20, h21⟩, by omega, by omega, fun r2 p3 o2 hr20 hr21 hp3 => ?_⟩
      walk_at "dl"
      have hpos := ls_pos hls
      obtain ⟨a3, b3, rfl, h30, h31⟩ := hp3
      have hsg : ∃ sg : Nat, ([43, 45] : Tx)[r2.toNat]? = some sg ∧ (sg == 43 || sg == 45) = true := by
        have : r2 = 0 ∨ r2 = 1 := by omega
        rcases this with rfl | rfl
        · exact ⟨43, rfl, rfl⟩
        · exact ⟨45, rfl, rfl⟩
      obtain ⟨sg, hsg1, hsg2⟩ := hsg
      refine ⟨_, sg, ix_nat hr20 (by show r2 < 2; omega), hsg1, ?_⟩
      walk_at "dl"
      refine ⟨_, _, rfl, ⟨a3, b3, rfl, h30, h31⟩, by omega, by have := hls.2.1; omega, fun r4 p4 o4 hr40 hr41 hp4 => ?_⟩
      walk_at "dl"
      obtain ⟨c, hc, hit⟩ := ls_at hr40 hr41
      refine ⟨_, c, ix_nat hr40 hr41, hc, by decide, hk1 _ _ ⟨?_, p4, t ++ [(sg, c)], rfl, hp4, ?_, ?_, ?_⟩⟩
      · simp only [List.length_map, List.length_cons] at hl ⊢
        show _ < 16777216
        omega
      · rw [List.map_append]; rfl
      · intro s hs
        rcases List.mem_append.mp hs with h | h
        · exact ht s h
        · simp only [List.mem_cons, List.not_mem_nil, or_false] at h
          subst h
          refine ⟨?_, List.mem_of_getElem? hc⟩
          unfold okSt
          rw [hsg2, hit hls.2.2]
          rfl
      · simp only [List.length_append, List.length_map, List.length_cons, List.length_nil] at hl ⊢
        omega
end DL

set_option linter.all false
set_option autoImplicit false
set_option maxRecDepth 100000
namespace DL
local macro_rules | `(tactic| walk_at "dl") => `(tactic| simp -implicitDefEqProofs only [runD, startE, outsE, outs_0, outs_s, List.length_cons, List.length_nil, List.cons_append, List.nil_append, List.replicate, Nat.sub_zero, Nat.add_one_sub_one, Nat.reduceSub, Nat.reduceAdd, dC, dVar_M, dVarM_fz, dVarM_own, dIxN_M, dIxM_fz, dIxM_own, dOpN_M, dOpM_fz, dOpM_own, dFnN_M, dFnM_fz, dFnM_own, dOp, dUn, dArgs, dLst, dTup, dFn, dIsi, dMs, dPart, dSl, dIfE, Slot.known, tVal, tTru, tAnd, tOr, tNot, dAnd, dOr, dNot, dChain, iLst, iTup, iStr, iRng1, iRng2, iEnum, iZip, gN, gNs, gT, gL, Tgt.g, tYes, wipeE, backE, dAVs, zaK, avSlot, AV.ok, Slot.isOwn, bA_nil, bA_v, bA_m, D.isRef, List.all_cons, List.all_nil, List.map_cons, List.map_nil, Bool.and_true, Bool.true_and, List.tail_cons, List.tail_nil, List.head?_cons, sNx, sSeq, sRet, sRetN, sExp, sAsg, sAsgO, sIf, sAug, sFor, sWh, sBrk, sCnt, sRaise, sApp, sAppP, sRetT, dCatT, dMinKT, eqKN, listKF, listSF, sExt, sUpdT, mergeT, dDct0T, dIxKT, repZD, neEmp, iWkT, itmT, keyT, dSrtKT, Slot.ownL, sPut, sPut2, putAt, sPar, sParL, sFld, dFld, dMake, mkC, dMakeV, dCm, dObj, D.isObj, dCallV, dCallS, dEqO, dIsO, dDct0, isBD_bl, notBD_bl, revD_lst, sPar3, sTrys, catchD, DEnds.unname, repF, D.eqTo, at_0, at_s, at_nil, set_0, set_s, fzd, frd, ftd, Slot.noT, dVarM_ownT, hide_ownT, dMakeT, mkCT, D.calm, D.unm, dEqN, dProp, strF, sFldT, sAppF, sFldAugT, kidOf, putL, dMethM, Slot.isObj, if_true, if_false, Bool.not_true, Bool.not_false, true_and, and_true, Bool.false_eq_true, ↓reduceIte, lenF, lenD, allF, anyF, sumF, absF, intF, tupleF, swM, ewM, eqv_int, eqv_str, eqv_bl, D.isTy, Int.cast_ofNat_Int, addD_int, addD_str, addD_lst, fdivWD_int, orKD_dct, dMinK, dSumV, iaddD_int, iaddD_str, subD_int, mulD_int, mulD_str, mulD_lst, fdivD_int, modD_int, powD_int, negD_int, eqD, neD_str, neD_int, ltD_int, leD_int, gtD_int, geD_int, isD, isnD, D.isNon, inDv, ninDv, ixD_lst, ixD_tup, ixD_str, slD_lst, slD_frl, slD_str, dLc, dLook, Slot.calm, tLook, iRngD, iRngB', dNeT, revT_str, dDisp, iZipS, iZipK, minPF_2, sParF, dLenO, dRepO, dVals, putR, sParR, dFmt, dFmtR, fstL, dFst, mulWD_int, imulD_int, countM, lstRg, dLrg1, dLrg2, sRetO_M, retOM_own, retOM_fz, dLookL, dNeN, dLenSet, dSrtSet, sortedF, dTold, dToldB, dToldO, calm_nil, calm_cons, hide_nil, hide_fz, hide_own, hide_no, at_hs, dIsiO, gTG, gGs, gA, gAll, sAsgs, sClr, sAsgN, dFldN, iWk, itmX, valX, keyX, sForN, dDc, dDsp1, dGet, dGetN, sPutK, inKv, kyOf, ownK, dictF, dLitm, dIxK, eqKv, sortedIF, ltSD, dDspT, sPutT, ownKT, dTupK, giveE, R.raw, sAsgK, unpK, unpK1, ninKv, eqKg, catTD, repTD, dSlT, sAppAt, updD, sAppAtK, dPopAtK, tNinSet, Slot.dctT, dLcP, R.dctN, lc2L, dLc2, sAugK, dSrtRev, sRetTK, sortedKIF, splitM, partM, intTF, dStp, dTake, sTryF, dRep, dPopN, sPutFT, dFldP, dIxFT, dSrtFS, sortedLLF, dLc2I, dDcT, dGetNT, dLstKT, sUpdP, runG, gThen, gPlain, gNil, gYield, gYieldR, gIf, gFor, GD.at, sForGen, dLcGen])
/-- running -/
def exec : Tx → List St2 → Nat → Tx × Option Nat
  | q, [], _ => (q, none)
  | q, s :: ss, i => if s.1 == 43 then exec (q ++ [s.2]) ss (i + 1) else match q with
    | c :: q' => if c == s.2 then exec q' ss (i + 1) else (c :: q', some i)
    | [] => ([], some i)
theorem exec_cons {q : Tx} {s : St2} {ss : List St2} {i : Nat} : exec q (s :: ss) i = if s.1 == 43 then exec (q ++ [s.2]) ss (i + 1) else match q with
    | c :: q' => if c == s.2 then exec q' ss (i + 1) else (c :: q', some i)
    | [] => ([], some i) := rfl
theorem exec_on : ∀ (ss tt : List St2) (q : Tx) (i : Nat), (exec q ss i).2 = none → exec q (ss ++ tt) i = exec (exec q ss i).1 tt (i + ss.length)
  | [], tt, q, i, _ => rfl
  | s :: ss, tt, q, i, h => by
    have e : i + (s :: ss).length = i + 1 + ss.length := by rw [List.length_cons]; omega
    rw [exec_cons] at h
    rw [List.cons_append, e, exec_cons, exec_cons]
    split at h
    · rw [if_pos (by assumption), if_pos (by assumption)]
      exact exec_on ss tt _ _ h
    · rw [if_neg (by assumption), if_neg (by assumption)]
      split at h
      · split at h
        · rw [if_pos (by assumption), if_pos (by assumption)]
          exact exec_on ss tt _ _ h
        · cases h
      · cases h
theorem exec_put {x q : Tx} {ss : List St2} {c : Nat} (h : exec x ss 0 = (q, none)) : exec x (ss ++ [(43, c)]) 0 = (q ++ [c], none) := by
  rw [exec_on ss _ _ _ (by rw [h]), h]; rfl
theorem exec_take {x q : Tx} {ss : List St2} {c : Nat} (h : exec x ss 0 = (c :: q, none)) : exec x (ss ++ [(45, c)]) 0 = (q, none) := by
  rw [exec_on ss _ _ _ (by rw [h]), h]
  show (if c == c then (q, none) else (c :: q, some (0 + ss.length))) = _
  rw [if_pos (by simp)]
/-- _law_near: 0 _law_pool, 1 _law_letters_here, 2 _law_most, 3 _law_shorter, 4 _law_queue, 5 _law_steps_here, 6 _law_turn, 7 _law_item -/
def b__law_near : DS := sSeq (sAsg (gN 3) (zaK C__law_word [.m 0, .v (zaC 1), .v (zaC 2)])) (sSeq (sParL 4 5 (zaC 3)) (sSeq (sFor (iRng1 (zaK C__law_draw [.m 0, .v (dOp addD (dOp mulD (dC (.int 2)) (zaC 2)) (dC (.int 1)))])) (gN 6) (sIf (tAnd (tVal (dOp neD (zaC 4) (dC (.str [])))) (tVal (dOp eqD (zaK C__law_draw [.m 0, .v (dC (.int 2))]) (dC (.int 0))))) (sSeq (sApp 5 (dOp addD (dC (.str [45])) (dOp ixD (zaC 4) (dC (.int 0))))) (sAsg (gN 4) (dSl (zaC 4) (some (dC (.int 1))) none))) (sSeq (sAsg (gN 7) (dOp ixD (zaC 1) (zaK C__law_draw [.m 0, .v (dFn lenF [zaC 1])]))) (sSeq (sApp 5 (dOp addD (dC (.str [43])) (zaC 7))) (sAsg (gN 4) (dOp addD (zaC 4) (zaC 7))))))) (sRet (dTup [zaC 3, zaC 5, zaC 4]))))
def C__law_near : Con := fun args Q _ => ∃ (p : Slot) (ls : Tx) (n : Nat), args = [p, .fz (.str ls), .fz (.int n)] ∧ poolOk p ∧ okLs ls ∧ n ≤ 1000 ∧
  ∀ (x y : Tx) (ss : List St2) r p' o1 o2, x.length ≤ n → x.all isItem = true → y.length ≤ n + ss.length → y.all isItem = true → exec x ss 0 = (y, none) → ss.length ≤ 2 * n → (∀ s ∈ ss, okSt s = true) → poolOk p' → r.d = .tup [.str x, seqD ss, .str y] → Q r [p', o1, o2]
theorem p__law_near : ∀ args Q E, args.length = 3 → C__law_near args Q E → runD 8 b__law_near args Q E := by
  intro args Q E _ h
  obtain ⟨p, ls, n, rfl, ⟨a, b, rfl, h0, h1⟩, hls, hn, hq⟩ := h
  have hpos := ls_pos hls
  unfold b__law_near
  walk_at "dl"
  refine ⟨_, ls, n, rfl, ⟨a, b, rfl, h0, h1⟩, hls, by omega, fun x p1 o1 o2 hx1 hx2 hp1 => ?_⟩
  obtain ⟨a1, b1, rfl, h10, h11⟩ := hp1
  walk_at "dl"
  refine ⟨.inl ⟨by decide, by decide⟩, _, _, rfl, ⟨a1, b1, rfl, h10, h11⟩, by omega, by omega, fun r p2 o hr0 hr1 hp2 => ?_⟩
  walk_at "dl"
  refine ⟨⟨by omega, by omega⟩, ?_⟩
  refine forL_inv (I := fun es ρ => ∃ (p' : Slot) (q : Tx) (ss : List St2) (s6 s7 : Slot), ρ = [p', .fz (.str ls), .fz (.int n), .fz (.str x), .fz (.str q), .own (.lst (ss.map stepD)), s6, s7] ∧ poolOk p' ∧ q.all isItem = true ∧ (∀ s ∈ ss, okSt s = true) ∧ q.length ≤ n + ss.length ∧ ss.length + es.length = r.toNat ∧ exec x ss 0 = (q, none))
    (fun ρ h => ?_) (fun e es ρ h k hk => ?_) _ _ ⟨p2, x, [], .no, .no, rfl, hp2, hx2, fun s hs => (nomatch hs), by simp; omega, by rw [rng_len]; simp, rfl⟩
  · obtain ⟨p3, q, ss, s6, s7, rfl, hp3, hq1, hs1, hl1, hl2, hex⟩ := h
    walk_at "dl"
    simp only [List.length_nil] at hl2
    exact ⟨by decide, hq x q ss _ _ _ _ (by omega) hx2 hl1 hq1 hex (by omega) hs1 hp3 rfl⟩
  · obtain ⟨p3, q, ss, s6, s7, rfl, ⟨a3, b3, rfl, h30, h31⟩, hq1, hs1, hl1, hl2, hex⟩ := h
    simp only [List.length_cons] at hl2
    -- both ways of a step
    have put : ∀ (p4 : Slot) (c : Nat), poolOk p4 → isItem c = true → ∀ s6 s7, k [p4, .fz (.str ls), .fz (.int n), .fz (.str x), .fz (.str (q ++ [c])), .own (.lst (ss.map stepD ++ [.str [43, c]])), s6, s7] := fun p4 c hp4 hc s6 s7 => by
      refine hk _ ⟨p4, q ++ [c], ss ++ [(43, c)], s6, s7, by rw [List.map_append]; rfl, hp4, ?_, ?_, ?_, ?_, exec_put hex⟩
      · rw [List.all_append, hq1]; simp [hc]
      · intro s hs
        rcases List.mem_append.mp hs with h | h
        · exact hs1 s h
        · simp only [List.mem_cons, List.not_mem_nil, or_false] at h
          subst h
          unfold okSt
          rw [hc]
          rfl
      · simp only [List.length_append, List.length_cons, List.length_nil]; omega
      · simp only [List.length_append, List.length_cons, List.length_nil]; omega
    have app : (ss.map stepD).length < maxTx := by
      rw [List.length_map]
      show _ < 16777216
      omega
    walk_at "dl"
    refine ⟨.inl rfl, ?_⟩
    cases q with
    | nil =>
      rw [show (([] : Tx) == []) = true from rfl]
      walk_at "dl"
      refine ⟨_, _, rfl, ⟨a3, b3, rfl, h30, h31⟩, by omega, by have := hls.2.1; omega, fun r5 p5 o5 hr50 hr51 hp5 => ?_⟩
      walk_at "dl"
      obtain ⟨c, hc, hit⟩ := ls_at hr50 hr51
      refine ⟨_, c, ix_nat hr50 hr51, hc, by decide, app, by decide, ?_⟩
      exact put p5 c hp5 (hit hls.2.2) _ _
    | cons c0 q0 =>
      rw [show ((c0 :: q0 : Tx) == []) = false from rfl]
      walk_at "dl"
      refine ⟨_, _, rfl, ⟨a3, b3, rfl, h30, h31⟩, by omega, by omega, fun r4 p4 o4 hr40 hr41 hp4 => ?_⟩
      obtain ⟨a4, b4, rfl, h40, h41⟩ := hp4
      walk_at "dl"
      refine ⟨.inl rfl, ?_⟩
      have hc0 : isItem c0 = true := by
        have := List.all_eq_true.mp hq1 c0 List.mem_cons_self
        exact this
      cases h4 : (r4 == 0) with
      | true =>
        walk_at "dl"
        refine ⟨0, c0, ?_, rfl, by decide, app, ?_⟩
        · unfold ixN
          rw [if_pos (by decide), if_pos (by show (0 : Int) < ((q0.length + 1 : Nat) : Int); omega)]
          rfl
        · have hcut : cut (c0 :: q0) (some 1) none = q0 := cut_from (x := c0 :: q0) (n := 1)
          rw [hcut]
          refine hk _ ⟨_, q0, ss ++ [(45, c0)], _, _, by rw [List.map_append]; rfl, ⟨a4, b4, rfl, h40, h41⟩, ?_, ?_, ?_, ?_, exec_take hex⟩
          · rw [List.all_cons, Bool.and_eq_true] at hq1
            exact hq1.2
          · intro s hs
            rcases List.mem_append.mp hs with h | h
            · exact hs1 s h
            · simp only [List.mem_cons, List.not_mem_nil, or_false] at h
              subst h
              unfold okSt
              rw [hc0]
              rfl
          · simp only [List.length_append, List.length_cons, List.length_nil] at hl1 ⊢; omega
          · simp only [List.length_append, List.length_cons, List.length_nil]; omega
      | false =>
        walk_at "dl"
        refine ⟨_, _, rfl, ⟨a4, b4, rfl, h40, h41⟩, by omega, by have := hls.2.1; omega, fun r5 p5 o5 hr50 hr51 hp5 => ?_⟩
        walk_at "dl"
        obtain ⟨c, hc, hit⟩ := ls_at hr50 hr51
        refine ⟨_, c, ix_nat hr50 hr51, hc, by decide, app, ?_, ?_⟩
        · simp only [List.length_cons, List.length_nil] at hl1 ⊢; show _ ≤ 16777216; omega
        · exact put p5 c hp5 (hit hls.2.2) _ _
/-- _law_fit: 0 _law_takes, 1 _law_puts, 2 _law_number -/
def b__law_fit : DS := sRet (dOr (dOp geD (zaC 2) (dFn lenF [zaC 0])) (dOp eqD (dSl (zaC 0) (some (zaC 2)) none) (dSl (zaC 1) none (some (dOp subD (dFn lenF [zaC 0]) (zaC 2))))))
def C__law_fit : Con := fun args Q _ => ∃ (t p : Tx) (n : Nat), args = [.fz (.str t), .fz (.str p), .fz (.int n)] ∧ ∀ outs, Q (.fz (.bl (suit t p n))) outs
theorem cut_to {x : Tx} {n : Nat} : cut x none (some (n : Int)) = x.take n := by
  have e : sIx x.length x.length (some (n : Int)) = min n x.length := by
    show (if (n : Int) < 0 then ((n : Int) + (x.length : Int)).toNat else min (n : Int).toNat x.length) = _
    rw [if_neg (by omega), Int.toNat_natCast]
  show (x.drop 0).take (sIx x.length x.length (some (n : Int)) - 0) = _
  rw [e, List.drop_zero, Nat.sub_zero]
  by_cases h : n ≤ x.length
  · rw [Nat.min_eq_left h]
  · rw [Nat.min_eq_right (by omega), List.take_length, List.take_of_length_le (by omega)]
theorem p__law_fit : ∀ args Q E, args.length = 3 → C__law_fit args Q E → runD 3 b__law_fit args Q E := by
  intro args Q E _ h
  obtain ⟨t, p, n, rfl, hq⟩ := h
  unfold b__law_fit
  walk_at "dl"
  have e : decide ((t.length : Int) ≤ (n : Int)) = decide (t.length ≤ n) := by rw [decide_eq_decide]; omega
  have hq2 : ∀ outs, Q (.fz (.bl (decide (t.length ≤ n) || (p.take (t.drop n).length == t.drop n)))) outs := hq
  rw [e]
  by_cases hl : t.length ≤ n
  · rw [decide_eq_true hl] at hq2 ⊢
    exact hq2 _
  · rw [decide_eq_false hl] at hq2 ⊢
    walk_at "dl"
    have e2 : (t.length : Int) - (n : Int) = ((t.length - n : Nat) : Int) := by omega
    rw [e2, cut_from, cut_to]
    refine ⟨.inl rfl, ?_⟩
    rw [List.length_drop] at hq2
    have : (t.drop n == p.take (t.length - n)) = (p.take (t.length - n) == t.drop n) := BEq.comm
    rw [this]
    exact hq2 _
end DL

set_option linter.all false
set_option autoImplicit false
set_option maxRecDepth 100000
namespace DL
local macro_rules | `(tactic| walk_at "dl") => `(tactic| simp -implicitDefEqProofs only [runD, startE, outsE, outs_0, outs_s, List.length_cons, List.length_nil, List.cons_append, List.nil_append, List.replicate, Nat.sub_zero, Nat.add_one_sub_one, Nat.reduceSub, Nat.reduceAdd, dC, dVar_M, dVarM_fz, dVarM_own, dIxN_M, dIxM_fz, dIxM_own, dOpN_M, dOpM_fz, dOpM_own, dFnN_M, dFnM_fz, dFnM_own, dOp, dUn, dArgs, dLst, dTup, dFn, dIsi, dMs, dPart, dSl, dIfE, Slot.known, tVal, tTru, tAnd, tOr, tNot, dAnd, dOr, dNot, dChain, iLst, iTup, iStr, iRng1, iRng2, iEnum, iZip, gN, gNs, gT, gL, Tgt.g, tYes, wipeE, backE, dAVs, zaK, avSlot, AV.ok, Slot.isOwn, bA_nil, bA_v, bA_m, D.isRef, List.all_cons, List.all_nil, List.map_cons, List.map_nil, Bool.and_true, Bool.true_and, List.tail_cons, List.tail_nil, List.head?_cons, sNx, sSeq, sRet, sRetN, sExp, sAsg, sAsgO, sIf, sAug, sFor, sWh, sBrk, sCnt, sRaise, sApp, sAppP, sRetT, dCatT, dMinKT, eqKN, listKF, listSF, sExt, sUpdT, mergeT, dDct0T, dIxKT, repZD, neEmp, iWkT, itmT, keyT, dSrtKT, Slot.ownL, sPut, sPut2, putAt, sPar, sParL, sFld, dFld, dMake, mkC, dMakeV, dCm, dObj, D.isObj, dCallV, dCallS, dEqO, dIsO, dDct0, isBD_bl, notBD_bl, revD_lst, sPar3, sTrys, catchD, DEnds.unname, repF, D.eqTo, at_0, at_s, at_nil, set_0, set_s, fzd, frd, ftd, Slot.noT, dVarM_ownT, hide_ownT, dMakeT, mkCT, D.calm, D.unm, dEqN, dProp, strF, sFldT, sAppF, sFldAugT, kidOf, putL, dMethM, Slot.isObj, if_true, if_false, Bool.not_true, Bool.not_false, true_and, and_true, Bool.false_eq_true, ↓reduceIte, lenF, lenD, allF, anyF, sumF, absF, intF, tupleF, swM, ewM, eqv_int, eqv_str, eqv_bl, D.isTy, Int.cast_ofNat_Int, addD_int, addD_str, addD_lst, fdivWD_int, orKD_dct, dMinK, dSumV, iaddD_int, iaddD_str, subD_int, mulD_int, mulD_str, mulD_lst, fdivD_int, modD_int, powD_int, negD_int, eqD, neD_str, neD_int, ltD_int, leD_int, gtD_int, geD_int, isD, isnD, D.isNon, inDv, ninDv, ixD_lst, ixD_tup, ixD_str, slD_lst, slD_frl, slD_str, dLc, dLook, Slot.calm, tLook, iRngD, iRngB', dNeT, revT_str, dDisp, iZipS, iZipK, minPF_2, sParF, dLenO, dRepO, dVals, putR, sParR, dFmt, dFmtR, fstL, dFst, mulWD_int, imulD_int, countM, lstRg, dLrg1, dLrg2, sRetO_M, retOM_own, retOM_fz, dLookL, dNeN, dLenSet, dSrtSet, sortedF, dTold, dToldB, dToldO, calm_nil, calm_cons, hide_nil, hide_fz, hide_own, hide_no, at_hs, dIsiO, gTG, gGs, gA, gAll, sAsgs, sClr, sAsgN, dFldN, iWk, itmX, valX, keyX, sForN, dDc, dDsp1, dGet, dGetN, sPutK, inKv, kyOf, ownK, dictF, dLitm, dIxK, eqKv, sortedIF, ltSD, dDspT, sPutT, ownKT, dTupK, giveE, R.raw, sAsgK, unpK, unpK1, ninKv, eqKg, catTD, repTD, dSlT, sAppAt, updD, sAppAtK, dPopAtK, tNinSet, Slot.dctT, dLcP, R.dctN, lc2L, dLc2, sAugK, dSrtRev, sRetTK, sortedKIF, splitM, partM, intTF, dStp, dTake, sTryF, dRep, dPopN, sPutFT, dFldP, dIxFT, dSrtFS, sortedLLF, dLc2I, dDcT, dGetNT, dLstKT, sUpdP, runG, gThen, gPlain, gNil, gYield, gYieldR, gIf, gFor, GD.at, sForGen, dLcGen])
def stepV (s : St2) : Int := if (s.1 == 45) = true then 1 else -1
/-- the greatest depth so far, behind all steps -/
def coreLoop : List St2 → Int → Int → Int
  | [], _, c => c
  | s :: ss, d, c => coreLoop ss (d + stepV s) (max c (d + stepV s))
theorem coreLoop_eq : ∀ (ss : List St2) (d c : Int), d ≤ c → 0 ≤ c → coreLoop ss d c = max c (maxL (depthsL ss d))
  | [], d, c, _, h0 => by
    show c = max c 0
    omega
  | s :: ss, d, c, h, h0 => by
    rw [coreLoop, depthsL]
    unfold stepV
    cases hs : (s.1 == 45) with
    | true =>
      rw [if_pos rfl, if_pos rfl, coreLoop_eq ss _ _ (by omega) (by omega)]
      show _ = max c (max (d + 1) (maxL (depthsL ss (d + 1))))
      omega
    | false =>
      rw [if_neg (by decide), if_neg (by decide), coreLoop_eq ss _ _ (by omega) (by omega)]
      have : d + -1 = d - 1 := by omega
      rw [this]
      omega
theorem coreLoop_need (ss : List St2) : coreLoop ss 0 0 = needL ss := by
  rw [coreLoop_eq ss 0 0 (Int.le_refl _) (Int.le_refl _)]
  have := maxL_nonneg (depthsL ss 0)
  show max 0 (maxL (depthsL ss 0)) = maxL (depthsL ss 0)
  omega
theorem max_if (c d : Int) : (if d > c then d else c) = max c d := by
  by_cases h : d > c
  · rw [if_pos h]; omega
  · rw [if_neg h]; omega
theorem min_if (c d : Int) : (if d < c then d else c) = min c d := by
  by_cases h : d < c
  · rw [if_pos h]; omega
  · rw [if_neg h]; omega
/-- the comprehension of items of one sign -/
theorem items_comp {sg : Nat} {ss : List St2} {ρ : Env} {i : Nat} {Q : List D → Env → Prop} (hl : ss.length ≤ 1000000)
    (hs : ∀ s ∈ ss, ∀ (k1 : R → Env → Prop) (k2 : Env → Prop), ((s.1 == sg) = true → ∀ r ρ', r.d = .str [s.2] → wipeE [i] ρ' = ρ → k1 r ρ') → ((s.1 == sg) = false → ∀ ρ', wipeE [i] ρ' = ρ → k2 ρ') →
      gN i (stepD s) ρ fun ρ1 => tVal (dOp eqD (dOp ixD (zaC i) (dC (.int 0))) (dC (.str [sg]))) ρ1 (fun b ρ2 => if b = true then dOp ixD (zaC i) (dC (.int 1)) ρ2 k1 noE else k2 ρ2) noE)
    (hq : Q ((zaD sg ss).map fun c => .str [c]) ρ) : lcL [i] (gN i) (tVal (dOp eqD (dOp ixD (zaC i) (dC (.int 0))) (dC (.str [sg])))) (dOp ixD (zaC i) (dC (.int 1))) Q (ss.map stepD) [] ρ := by
  refine lcL_pure (p := fun x => match x with | .str [a, _] => a == sg | _ => false) (f := fun x => match x with | .str [_, b] => D.str [b] | _ => .non) _ _ (fun x hx k1 k2 h1 h2 => ?_) [] ?_ ?_
  · obtain ⟨s, hm, rfl⟩ := List.mem_map.mp hx
    exact hs s hm k1 k2 h1 h2
  · rw [List.length_map]; show 0 + ss.length ≤ 16777216; omega
  · have e : ((ss.map stepD).filter (fun x : D => match x with | .str [a, _] => a == sg | _ => false)).map (fun x : D => match x with | .str [_, b] => D.str [b] | _ => .non) = (zaD sg ss).map fun c => .str [c] := by
      unfold zaD
      rw [List.filter_map, List.map_map, List.map_map]
      rfl
    rw [List.nil_append, e]
    exact hq
theorem items_le {sg : Nat} {ss : List St2} (h : ss.length ≤ 1000000) : (zaD sg ss).length ≤ maxTx := by
  unfold zaD
  rw [List.length_map]
  have := List.length_filter_le (fun s : St2 => s.1 == sg) ss
  show _ ≤ 16777216
  omega
/-- _law_parts: 0 _law_steps_here, 1 _law_takes, 2 _law_step, 3 _law_puts, 4 _law_core, 5 _law_depth, 6 _law_number -/
def b__law_parts : DS := sSeq (sAsg (gN 1) (dMs joinM (dC (.str [])) [dLc [2] (iLst (zaC 0)) (Tgt.g (.one 2)) (tVal (dOp eqD (dOp ixD (zaC 2) (dC (.int 0))) (dC (.str [45])))) (dOp ixD (zaC 2) (dC (.int 1)))])) (sSeq (sAsg (gN 3) (dMs joinM (dC (.str [])) [dLc [2] (iLst (zaC 0)) (Tgt.g (.one 2)) (tVal (dOp eqD (dOp ixD (zaC 2) (dC (.int 0))) (dC (.str [43])))) (dOp ixD (zaC 2) (dC (.int 1)))])) (sSeq (sAsg (gT [4, 5]) (dTup [dC (.int 0), dC (.int 0)])) (sSeq (sFor (iLst (zaC 0)) (gN 2) (sSeq (sAsg (gN 5) (dOp addD (zaC 5) (dOp ixD (dLst [dUn negD (dC (.int 1)), dC (.int 1)]) (dFn intF [dOp eqD (dOp ixD (zaC 2) (dC (.int 0))) (dC (.str [45]))])))) (sAsg (gN 4) (dFn maxF [zaC 4, zaC 5])))) (sSeq (sFor (iRng2 (zaC 4) (dOp addD (dFn lenF [zaC 1]) (dC (.int 1)))) (gN 6) (sIf (tVal (zaK C__law_fit [.v (zaC 1), .v (zaC 3), .v (zaC 6)])) (sRet (dTup [zaC 1, zaC 3, zaC 6])) (sNx))) (sRet (dTup [zaC 1, zaC 3, dFn lenF [zaC 1]]))))))
def C__law_parts : Con := fun args Q _ => ∃ ss, args = [.fz (seqD ss)] ∧ ss.length ≤ 1000000 ∧ ∀ r outs, r.d = .tup [.str (zaD 45 ss), .str (zaD 43 ss), .int (coreOf ss)] → Q r outs
theorem maxF2 {i j : Int} {k : R → Prop} : maxF [.int i, .int j] k = k (.fz (.int (max i j))) := by
  show k (.fz (.int (if j > i then j else i))) = _
  rw [max_if]
theorem minF2 {i j : Int} {k : R → Prop} : minF [.int i, .int j] k = k (.fz (.int (min i j))) := by
  show k (.fz (.int (if j < i then j else i))) = _
  rw [min_if]
theorem own1 {n : Nat} {ρ : Env} (h : ∀ d, ρ.at n ≠ .own d) : ∀ i ∈ ([n] : List Nat), ∀ d, ρ.at i ≠ .own d := by
  intro i hi
  simp only [List.mem_cons, List.not_mem_nil, or_false] at hi
  subst hi
  exact h
theorem one_eq {a b : Nat} : (([a] : Tx) == [b]) = (a == b) := by simp
theorem p__law_parts : ∀ args Q E, args.length = 1 → C__law_parts args Q E → runD 7 b__law_parts args Q E := by
  intro args Q E _ h
  obtain ⟨ss, rfl, hl, hq⟩ := h
  have hcore := core_ok ss
  have hneed := need_le ss
  have hnn := maxL_nonneg (depthsL ss 0)
  have hlen : (zaD 45 ss).length ≤ 1000000 := by
    unfold zaD
    rw [List.length_map]
    have := List.length_filter_le (fun s : St2 => s.1 == 45) ss
    omega
  unfold b__law_parts seqD
  walk_at "dl"
  refine ⟨own1 (fun d h => nomatch h), items_comp hl (fun s hs k1 k2 h1 h2 => ?_) ?_⟩
  · unfold stepD
    walk_at "dl"
    refine ⟨0, s.1, rfl, rfl, .inl rfl, ?_⟩
    rw [one_eq]
    cases hs : (s.1 == 45) with
    | true => exact (if_pos rfl).mpr ⟨1, s.2, rfl, rfl, h1 hs _ _ rfl rfl⟩
    | false => exact h2 hs _ rfl
  walk_at "dl"
  refine join_one (items_le hl) ?_
  walk_at "dl"
  refine ⟨own1 (fun d h => nomatch h), items_comp hl (fun s hs k1 k2 h1 h2 => ?_) ?_⟩
  · unfold stepD
    walk_at "dl"
    refine ⟨0, s.1, rfl, rfl, .inl rfl, ?_⟩
    rw [one_eq]
    cases hs : (s.1 == 43) with
    | true => exact (if_pos rfl).mpr ⟨1, s.2, rfl, rfl, h1 hs _ _ rfl rfl⟩
    | false => exact h2 hs _ rfl
  walk_at "dl"
  refine join_one (items_le hl) ?_
  walk_at "dl"
  refine ⟨by decide, ?_⟩
  refine forL_inv (I := fun es ρ => ∃ (ts : List St2) (s2 : Slot) (c d : Int), es = ts.map stepD ∧ ρ = [.fz (.lst (ss.map stepD)), .fz (.str (zaD 45 ss)), s2, .fz (.str (zaD 43 ss)), .fz (.int c), .fz (.int d), .no] ∧ coreLoop ts d c = needL ss)
    (fun ρ h => ?_) (fun e es ρ h k hk => ?_) _ _ ⟨ss, .no, 0, 0, rfl, rfl, coreLoop_need ss⟩
  · obtain ⟨ts, s2, c, d, h1, rfl, h2⟩ := h
    cases ts with
    | cons t ts => cases h1
    | nil =>
      have hc : c = needL ss := h2
      subst hc
      walk_at "dl"
      have hn0 : (0 : Int) ≤ needL ss := hnn
      refine ⟨⟨by omega, by omega, by omega, by omega⟩, ?_⟩
      refine forL_inv (I := fun es ρ => ∃ (j : Nat) (s6 : Slot), es = rng (j : Int) ((zaD 45 ss).length + 1 - j) ∧ j ≤ (zaD 45 ss).length + 1 ∧ ρ = [.fz (.lst (ss.map stepD)), .fz (.str (zaD 45 ss)), s2, .fz (.str (zaD 43 ss)), .fz (.int (needL ss)), .fz (.int d), s6] ∧ leastOf (zaD 45 ss) (zaD 43 ss) j = coreOf ss)
        (fun ρ h => ?_) (fun e es ρ h k hk => ?_) _ _ ⟨(needL ss).toNat, .no, ?_, by omega, rfl, rfl⟩
      · obtain ⟨j, s6, h1, h2, rfl, h3⟩ := h
        have : (zaD 45 ss).length + 1 - j = 0 := by
          have := congrArg List.length h1
          rw [rng_len] at this
          exact this.symm
        rw [leastOf_yes (suit_big (by omega))] at h3
        omega
      · obtain ⟨j, s6, h1, h2, rfl, h3⟩ := h
        cases hj : (zaD 45 ss).length + 1 - j with
        | zero => rw [hj] at h1; cases h1
        | succ m =>
          rw [hj, rng_succ] at h1
          cases h1
          walk_at "dl"
          refine ⟨zaD 45 ss, zaD 43 ss, j, rfl, fun outs => ?_⟩
          walk_at "dl"
          cases hs : suit (zaD 45 ss) (zaD 43 ss) j with
          | true =>
            rw [leastOf_yes hs] at h3
            subst h3
            exact ⟨by decide, hq _ _ rfl⟩
          | false =>
            refine hk _ ⟨j + 1, _, ?_, by omega, rfl, by rw [← leastOf_no hs]; exact h3⟩
            have : (zaD 45 ss).length + 1 - (j + 1) = m := by omega
            rw [this]
            rfl
      · have e1 : ((needL ss).toNat : Int) = needL ss := Int.toNat_of_nonneg hn0
        rw [e1]
        congr 1
        omega
  · obtain ⟨ts, s2, c, d, h1, rfl, h2⟩ := h
    cases ts with
    | nil => cases h1
    | cons t ts =>
      cases h1
      unfold stepD
      walk_at "dl"
      refine ⟨by decide, 0, t.1, rfl, rfl, .inl rfl, ?_⟩
      rw [one_eq]
      rw [coreLoop] at h2
      unfold stepV at h2
      cases hs : (t.1 == 45) with
      | true =>
        rw [hs, if_pos rfl] at h2
        walk_at "dl"
        refine ⟨1, .int 1, rfl, rfl, ?_⟩
        walk_at "dl"
        rw [maxF2]
        exact hk _ ⟨ts, _, max c (d + 1), d + 1, rfl, rfl, h2⟩
      | false =>
        rw [hs, if_neg (by decide)] at h2
        walk_at "dl"
        refine ⟨0, .int (-1), rfl, rfl, ?_⟩
        walk_at "dl"
        rw [maxF2]
        exact hk _ ⟨ts, _, max c (d + -1), d + -1, rfl, rfl, h2⟩
def C__law_need : Con := fun args Q _ => ∃ ss, args = [.fz (seqD ss)] ∧ ∀ outs, Q (.fz (.int (needL ss))) outs
end DL

set_option linter.all false
set_option autoImplicit false
set_option maxRecDepth 100000
namespace DL
local macro_rules | `(tactic| walk_at "dl") => `(tactic| simp -implicitDefEqProofs only [runD, startE, outsE, outs_0, outs_s, List.length_cons, List.length_nil, List.cons_append, List.nil_append, List.replicate, Nat.sub_zero, Nat.add_one_sub_one, Nat.reduceSub, Nat.reduceAdd, dC, dVar_M, dVarM_fz, dVarM_own, dIxN_M, dIxM_fz, dIxM_own, dOpN_M, dOpM_fz, dOpM_own, dFnN_M, dFnM_fz, dFnM_own, dOp, dUn, dArgs, dLst, dTup, dFn, dIsi, dMs, dPart, dSl, dIfE, Slot.known, tVal, tTru, tAnd, tOr, tNot, dAnd, dOr, dNot, dChain, iLst, iTup, iStr, iRng1, iRng2, iEnum, iZip, gN, gNs, gT, gL, Tgt.g, tYes, wipeE, backE, dAVs, zaK, avSlot, AV.ok, Slot.isOwn, bA_nil, bA_v, bA_m, D.isRef, List.all_cons, List.all_nil, List.map_cons, List.map_nil, Bool.and_true, Bool.true_and, List.tail_cons, List.tail_nil, List.head?_cons, sNx, sSeq, sRet, sRetN, sExp, sAsg, sAsgO, sIf, sAug, sFor, sWh, sBrk, sCnt, sRaise, sApp, sAppP, sRetT, dCatT, dMinKT, eqKN, listKF, listSF, sExt, sUpdT, mergeT, dDct0T, dIxKT, repZD, neEmp, iWkT, itmT, keyT, dSrtKT, Slot.ownL, sPut, sPut2, putAt, sPar, sParL, sFld, dFld, dMake, mkC, dMakeV, dCm, dObj, D.isObj, dCallV, dCallS, dEqO, dIsO, dDct0, isBD_bl, notBD_bl, revD_lst, sPar3, sTrys, catchD, DEnds.unname, repF, D.eqTo, at_0, at_s, at_nil, set_0, set_s, fzd, frd, ftd, Slot.noT, dVarM_ownT, hide_ownT, dMakeT, mkCT, D.calm, D.unm, dEqN, dProp, strF, sFldT, sAppF, sFldAugT, kidOf, putL, dMethM, Slot.isObj, if_true, if_false, Bool.not_true, Bool.not_false, true_and, and_true, Bool.false_eq_true, ↓reduceIte, lenF, lenD, allF, anyF, sumF, absF, intF, tupleF, swM, ewM, eqv_int, eqv_str, eqv_bl, D.isTy, Int.cast_ofNat_Int, addD_int, addD_str, addD_lst, fdivWD_int, orKD_dct, dMinK, dSumV, iaddD_int, iaddD_str, subD_int, mulD_int, mulD_str, mulD_lst, fdivD_int, modD_int, powD_int, negD_int, eqD, neD_str, neD_int, ltD_int, leD_int, gtD_int, geD_int, isD, isnD, D.isNon, inDv, ninDv, ixD_lst, ixD_tup, ixD_str, slD_lst, slD_frl, slD_str, dLc, dLook, Slot.calm, tLook, iRngD, iRngB', dNeT, revT_str, dDisp, iZipS, iZipK, minPF_2, sParF, dLenO, dRepO, dVals, putR, sParR, dFmt, dFmtR, fstL, dFst, mulWD_int, imulD_int, countM, lstRg, dLrg1, dLrg2, sRetO_M, retOM_own, retOM_fz, dLookL, dNeN, dLenSet, dSrtSet, sortedF, dTold, dToldB, dToldO, calm_nil, calm_cons, hide_nil, hide_fz, hide_own, hide_no, at_hs, dIsiO, gTG, gGs, gA, gAll, sAsgs, sClr, sAsgN, dFldN, iWk, itmX, valX, keyX, sForN, dDc, dDsp1, dGet, dGetN, sPutK, inKv, kyOf, ownK, dictF, dLitm, dIxK, eqKv, sortedIF, ltSD, dDspT, sPutT, ownKT, dTupK, giveE, R.raw, sAsgK, unpK, unpK1, ninKv, eqKg, catTD, repTD, dSlT, sAppAt, updD, sAppAtK, dPopAtK, tNinSet, Slot.dctT, dLcP, R.dctN, lc2L, dLc2, sAugK, dSrtRev, sRetTK, sortedKIF, splitM, partM, intTF, dStp, dTake, sTryF, dRep, dPopN, sPutFT, dFldP, dIxFT, dSrtFS, sortedLLF, dLc2I, dDcT, dGetNT, dLstKT, sUpdP, runG, gThen, gPlain, gNil, gYield, gYieldR, gIf, gFor, GD.at, sForGen, dLcGen])
/-! what sequences do to queues: plain lists -/
/-- an effect, as data -/
structure Eff where
  t : Tx
  p : Tx
  c : Nat
def Eff.D (e : Eff) : D := .obj 0 [.str e.t, .str e.p, .int e.c]
/-- what it accepts -/
def Eff.Acc (e : Eff) (q : Tx) : Prop := e.c ≤ q.length ∧ e.t <+: q ++ e.p
instance (e : Eff) (q : Tx) : Decidable (e.Acc q) := by unfold Eff.Acc; exact inferInstance
def Eff.app (e : Eff) (q : Tx) : Tx := (q ++ e.p).drop e.t.length
def Eff.acc (e : Eff) (q : Tx) : Bool := decide (e.Acc q)
structure Eff.Ok (e : Eff) : Prop where
  core : e.c ≤ e.t.length
  suit : suit e.t e.p e.c = true
def effOf (ss : List St2) : Eff := ⟨zaD 45 ss, zaD 43 ss, coreOf ss⟩
def signs (ss : List St2) : Prop := ∀ s ∈ ss, s.1 = 43 ∨ s.1 = 45
/-! composition -/
def comp (a b : Eff) : Eff := ⟨a.t ++ b.t, a.p ++ b.p, leastOf (a.t ++ b.t) (a.p ++ b.p) (max a.c (b.c + a.t.length - a.p.length))⟩
def idE : Eff := ⟨[], [], 0⟩
end DL

set_option linter.all false
set_option autoImplicit false
set_option maxRecDepth 100000
namespace DL
local macro_rules | `(tactic| walk_at "dl") => `(tactic| simp -implicitDefEqProofs only [runD, startE, outsE, outs_0, outs_s, List.length_cons, List.length_nil, List.cons_append, List.nil_append, List.replicate, Nat.sub_zero, Nat.add_one_sub_one, Nat.reduceSub, Nat.reduceAdd, dC, dVar_M, dVarM_fz, dVarM_own, dIxN_M, dIxM_fz, dIxM_own, dOpN_M, dOpM_fz, dOpM_own, dFnN_M, dFnM_fz, dFnM_own, dOp, dUn, dArgs, dLst, dTup, dFn, dIsi, dMs, dPart, dSl, dIfE, Slot.known, tVal, tTru, tAnd, tOr, tNot, dAnd, dOr, dNot, dChain, iLst, iTup, iStr, iRng1, iRng2, iEnum, iZip, gN, gNs, gT, gL, Tgt.g, tYes, wipeE, backE, dAVs, zaK, avSlot, AV.ok, Slot.isOwn, bA_nil, bA_v, bA_m, D.isRef, List.all_cons, List.all_nil, List.map_cons, List.map_nil, Bool.and_true, Bool.true_and, List.tail_cons, List.tail_nil, List.head?_cons, sNx, sSeq, sRet, sRetN, sExp, sAsg, sAsgO, sIf, sAug, sFor, sWh, sBrk, sCnt, sRaise, sApp, sAppP, sRetT, dCatT, dMinKT, eqKN, listKF, listSF, sExt, sUpdT, mergeT, dDct0T, dIxKT, repZD, neEmp, iWkT, itmT, keyT, dSrtKT, Slot.ownL, sPut, sPut2, putAt, sPar, sParL, sFld, dFld, dMake, mkC, dMakeV, dCm, dObj, D.isObj, dCallV, dCallS, dEqO, dIsO, dDct0, isBD_bl, notBD_bl, revD_lst, sPar3, sTrys, catchD, DEnds.unname, repF, D.eqTo, at_0, at_s, at_nil, set_0, set_s, fzd, frd, ftd, Slot.noT, dVarM_ownT, hide_ownT, dMakeT, mkCT, D.calm, D.unm, dEqN, dProp, strF, sFldT, sAppF, sFldAugT, kidOf, putL, dMethM, Slot.isObj, if_true, if_false, Bool.not_true, Bool.not_false, true_and, and_true, Bool.false_eq_true, ↓reduceIte, lenF, lenD, allF, anyF, sumF, absF, intF, tupleF, swM, ewM, eqv_int, eqv_str, eqv_bl, D.isTy, Int.cast_ofNat_Int, addD_int, addD_str, addD_lst, fdivWD_int, orKD_dct, dMinK, dSumV, iaddD_int, iaddD_str, subD_int, mulD_int, mulD_str, mulD_lst, fdivD_int, modD_int, powD_int, negD_int, eqD, neD_str, neD_int, ltD_int, leD_int, gtD_int, geD_int, isD, isnD, D.isNon, inDv, ninDv, ixD_lst, ixD_tup, ixD_str, slD_lst, slD_frl, slD_str, dLc, dLook, Slot.calm, tLook, iRngD, iRngB', dNeT, revT_str, dDisp, iZipS, iZipK, minPF_2, sParF, dLenO, dRepO, dVals, putR, sParR, dFmt, dFmtR, fstL, dFst, mulWD_int, imulD_int, countM, lstRg, dLrg1, dLrg2, sRetO_M, retOM_own, retOM_fz, dLookL, dNeN, dLenSet, dSrtSet, sortedF, dTold, dToldB, dToldO, calm_nil, calm_cons, hide_nil, hide_fz, hide_own, hide_no, at_hs, dIsiO, gTG, gGs, gA, gAll, sAsgs, sClr, sAsgN, dFldN, iWk, itmX, valX, keyX, sForN, dDc, dDsp1, dGet, dGetN, sPutK, inKv, kyOf, ownK, dictF, dLitm, dIxK, eqKv, sortedIF, ltSD, dDspT, sPutT, ownKT, dTupK, giveE, R.raw, sAsgK, unpK, unpK1, ninKv, eqKg, catTD, repTD, dSlT, sAppAt, updD, sAppAtK, dPopAtK, tNinSet, Slot.dctT, dLcP, R.dctN, lc2L, dLc2, sAugK, dSrtRev, sRetTK, sortedKIF, splitM, partM, intTF, dStp, dTake, sTryF, dRep, dPopN, sPutFT, dFldP, dIxFT, dSrtFS, sortedLLF, dLc2I, dDcT, dGetNT, dLstKT, sUpdP, runG, gThen, gPlain, gNil, gYield, gYieldR, gIf, gFor, GD.at, sForGen, dLcGen])
/-! queues: running, accepting -/
def C_is_queue : Con := fun args Q _ => ∃ d, args = [.fz d] ∧ d.plain ∧ ∀ outs, Q (.fz (.bl (isWord d 2100))) outs
def C_check_queue : Con := fun args Q E => ∃ d, args = [.fz d] ∧ d.plain ∧ (isWord d 2100 = true → ∀ r outs, r.d = .non → Q r outs) ∧ (isWord d 2100 = false → ∀ outs, E ⟨0, d⟩ outs)
def posD : Option Nat → D
  | none => .non
  | some i => .int i
def execD (x : Tx × Option Nat) : D := .tup [.str x.1, posD x.2]
def C_execute : Con := fun args Q _ => ∃ (q : Tx) (ss : List St2), args = [.fz (.str q), .fz (seqD ss)] ∧ signs ss ∧ q.length + ss.length ≤ 1000000 ∧ ∀ r outs, r.d = execD (exec q ss 0) → Q r outs
/-- what holds of functions of a queue and a sequence -/
def runCon (dq ds : D) (Q : R → List Slot → Prop) (E : Exc → List Slot → Prop) (G : Tx → List St2 → Prop) : Prop := dq.plain ∧ ds.plainL ∧ (isWord dq 2100 = false → ∀ outs, E ⟨0, dq⟩ outs) ∧
  (isWord dq 2100 = true → (∀ v, firstInv ds = .tup [v] → ∀ outs, E ⟨1, v⟩ outs) ∧ (firstInv ds = .non → ∃ q ss, dq = .str q ∧ ds = seqD ss ∧ okSeq ss ∧ G q ss))
def C_run : Con := fun args Q E => ∃ dq ds, args = [.fz dq, .fz ds] ∧ runCon dq ds Q E fun q ss => (∀ i, (exec q ss 0).2 = some i → ∀ outs, E ⟨7, .int i⟩ outs) ∧ ((exec q ss 0).2 = none → ∀ r outs, r.d = .str (exec q ss 0).1 → Q r outs)
def C_failure : Con := fun args Q E => ∃ dq ds, args = [.fz dq, .fz ds] ∧ runCon dq ds Q E fun q ss => ∀ r outs, r.d = posD (exec q ss 0).2 → Q r outs
def C_Effect_accepts : Con := fun args Q E => ∃ (e : Eff) (d : D), args = [.fz e.D, .fz d] ∧ d.plain ∧ (isWord d 2100 = false → ∀ outs, E ⟨0, d⟩ outs) ∧ (isWord d 2100 = true → ∃ q, d = .str q ∧ ∀ outs, Q (.fz (.bl (e.acc q))) outs)
def C_Effect_apply : Con := fun args Q E => ∃ (e : Eff) (d : D), args = [.fz e.D, .fz d] ∧ d.plain ∧ e.p.length ≤ 1000000 ∧ (isWord d 2100 = false → ∀ outs, E ⟨0, d⟩ outs) ∧
  (isWord d 2100 = true → ∃ q, d = .str q ∧ (e.acc q = true → ∀ outs, Q (.fz (.str (e.app q))) outs) ∧ (e.acc q = false → ∀ outs, E ⟨8, .str q⟩ outs))
end DL

set_option linter.all false
set_option autoImplicit false
set_option maxRecDepth 100000
namespace DL
local macro_rules | `(tactic| walk_at "dl") => `(tactic| simp -implicitDefEqProofs only [runD, startE, outsE, outs_0, outs_s, List.length_cons, List.length_nil, List.cons_append, List.nil_append, List.replicate, Nat.sub_zero, Nat.add_one_sub_one, Nat.reduceSub, Nat.reduceAdd, dC, dVar_M, dVarM_fz, dVarM_own, dIxN_M, dIxM_fz, dIxM_own, dOpN_M, dOpM_fz, dOpM_own, dFnN_M, dFnM_fz, dFnM_own, dOp, dUn, dArgs, dLst, dTup, dFn, dIsi, dMs, dPart, dSl, dIfE, Slot.known, tVal, tTru, tAnd, tOr, tNot, dAnd, dOr, dNot, dChain, iLst, iTup, iStr, iRng1, iRng2, iEnum, iZip, gN, gNs, gT, gL, Tgt.g, tYes, wipeE, backE, dAVs, zaK, avSlot, AV.ok, Slot.isOwn, bA_nil, bA_v, bA_m, D.isRef, List.all_cons, List.all_nil, List.map_cons, List.map_nil, Bool.and_true, Bool.true_and, List.tail_cons, List.tail_nil, List.head?_cons, sNx, sSeq, sRet, sRetN, sExp, sAsg, sAsgO, sIf, sAug, sFor, sWh, sBrk, sCnt, sRaise, sApp, sAppP, sRetT, dCatT, dMinKT, eqKN, listKF, listSF, sExt, sUpdT, mergeT, dDct0T, dIxKT, repZD, neEmp, iWkT, itmT, keyT, dSrtKT, Slot.ownL, sPut, sPut2, putAt, sPar, sParL, sFld, dFld, dMake, mkC, dMakeV, dCm, dObj, D.isObj, dCallV, dCallS, dEqO, dIsO, dDct0, isBD_bl, notBD_bl, revD_lst, sPar3, sTrys, catchD, DEnds.unname, repF, D.eqTo, at_0, at_s, at_nil, set_0, set_s, fzd, frd, ftd, Slot.noT, dVarM_ownT, hide_ownT, dMakeT, mkCT, D.calm, D.unm, dEqN, dProp, strF, sFldT, sAppF, sFldAugT, kidOf, putL, dMethM, Slot.isObj, if_true, if_false, Bool.not_true, Bool.not_false, true_and, and_true, Bool.false_eq_true, ↓reduceIte, lenF, lenD, allF, anyF, sumF, absF, intF, tupleF, swM, ewM, eqv_int, eqv_str, eqv_bl, D.isTy, Int.cast_ofNat_Int, addD_int, addD_str, addD_lst, fdivWD_int, orKD_dct, dMinK, dSumV, iaddD_int, iaddD_str, subD_int, mulD_int, mulD_str, mulD_lst, fdivD_int, modD_int, powD_int, negD_int, eqD, neD_str, neD_int, ltD_int, leD_int, gtD_int, geD_int, isD, isnD, D.isNon, inDv, ninDv, ixD_lst, ixD_tup, ixD_str, slD_lst, slD_frl, slD_str, dLc, dLook, Slot.calm, tLook, iRngD, iRngB', dNeT, revT_str, dDisp, iZipS, iZipK, minPF_2, sParF, dLenO, dRepO, dVals, putR, sParR, dFmt, dFmtR, fstL, dFst, mulWD_int, imulD_int, countM, lstRg, dLrg1, dLrg2, sRetO_M, retOM_own, retOM_fz, dLookL, dNeN, dLenSet, dSrtSet, sortedF, dTold, dToldB, dToldO, calm_nil, calm_cons, hide_nil, hide_fz, hide_own, hide_no, at_hs, dIsiO, gTG, gGs, gA, gAll, sAsgs, sClr, sAsgN, dFldN, iWk, itmX, valX, keyX, sForN, dDc, dDsp1, dGet, dGetN, sPutK, inKv, kyOf, ownK, dictF, dLitm, dIxK, eqKv, sortedIF, ltSD, dDspT, sPutT, ownKT, dTupK, giveE, R.raw, sAsgK, unpK, unpK1, ninKv, eqKg, catTD, repTD, dSlT, sAppAt, updD, sAppAtK, dPopAtK, tNinSet, Slot.dctT, dLcP, R.dctN, lc2L, dLc2, sAugK, dSrtRev, sRetTK, sortedKIF, splitM, partM, intTF, dStp, dTake, sTryF, dRep, dPopN, sPutFT, dFldP, dIxFT, dSrtFS, sortedLLF, dLc2I, dDcT, dGetNT, dLstKT, sUpdP, runG, gThen, gPlain, gNil, gYield, gYieldR, gIf, gFor, GD.at, sForGen, dLcGen])
/-! effects: composition -/
structure Eff.Fit (e : Eff) : Prop where
  ok : e.Ok
  t1 : e.t.length ≤ 2000
  t2 : e.t.all isItem = true
  p1 : e.p.length ≤ 2000
  p2 : e.p.all isItem = true
abbrev effectT : Tx := [101, 102, 102, 101, 99, 116]
def C_check_effect : Con := fun args Q E => ∃ d b, args = [.fz d] ∧ d.isCls 0 = some b ∧ (b = true → ∀ r outs, r.d = .non → Q r outs) ∧ (b = false → ∀ outs, E ⟨3, .str effectT⟩ outs)
def Eff.parts (e : Eff) : DL.D := .tup [.str e.t, .str e.p, .int e.c]
/-- parts_of: 0 effect -/
def b_parts_of : DS := sRet (dTup [dFld 0 0 (zaC 0), dFld 0 1 (zaC 0), dFld 0 2 (zaC 0)])
def C_parts_of : Con := fun args Q _ => ∃ e : Eff, args = [.fz e.D] ∧ ∀ r outs, r.d = e.parts → Q r outs
theorem p_parts_of : ∀ args Q E, args.length = 1 → C_parts_of args Q E → runD 1 b_parts_of args Q E := by
  intro args Q E _ h
  obtain ⟨⟨t, p, c⟩, rfl, hq⟩ := h
  unfold b_parts_of Eff.D
  try walk_at "dl"
  refine ⟨_, rfl, _, rfl, _, rfl, by decide, hq _ _ rfl⟩
def C_Effect_identity : Con := fun args Q _ => args = [.fz (.cls 0)] ∧ ∀ r outs, r.d = idE.D → Q r outs
def C_composed : Con := fun args Q _ => ∃ a b : Eff, args = [.fz a.D, .fz b.D] ∧ a.t.length + b.t.length ≤ 1000000 ∧ a.p.length + b.p.length ≤ 1000000 ∧ ∀ r outs, r.d = (comp a b).parts → Q r outs
def over (e : Eff) : Bool := decide (2000 < e.t.length) || decide (2000 < e.p.length)
def C_compose_two : Con := fun args Q E => ∃ a b : Eff, args = [.fz a.D, .fz b.D] ∧ a.Fit ∧ b.Fit ∧ (over (comp a b) = false → ∀ r outs, r.d = (comp a b).D → Q r outs) ∧ (over (comp a b) = true → ∀ outs, E ⟨10, .int 2000⟩ outs)
/-- one behind the other, where no limit is passed -/
def compL : Eff → List Eff → Option Eff
  | a, [] => some a
  | a, b :: bs => if over (comp a b) = true then none else compL (comp a b) bs
def firstNo : List D → Bool
  | [] => false
  | d :: ds => d.isCls 0 == some false || firstNo ds
def composeCon (ds : List D) (Q : R → List Slot → Prop) (E : Exc → List Slot → Prop) : Prop := (∀ d ∈ ds, d.isCls 0 ≠ none) ∧ (firstNo ds = true → ∀ outs, E ⟨3, .str effectT⟩ outs) ∧
  (firstNo ds = false → ∃ es : List Eff, ds = es.map Eff.D ∧ (∀ e ∈ es, e.Fit) ∧ (compL idE es = none → ∀ outs, E ⟨10, .int 2000⟩ outs) ∧ ∀ e, compL idE es = some e → ∀ r outs, r.d = e.D → Q r outs)
theorem composeCon.imp {ds : List D} {Q Q' : R → List Slot → Prop} {E E' : Exc → List Slot → Prop} (h : composeCon ds Q E) (hq : ∀ r outs', (∀ outs, Q r outs) → Q' r outs') (he : ∀ x outs', (∀ outs, E x outs) → E' x outs' := by exact fun _ _ h => h _) : composeCon ds Q' E' :=
  ⟨h.1, fun z outs => he _ _ (h.2.1 z), fun z => let ⟨es, h1, h2, h3, h4⟩ := h.2.2 z; ⟨es, h1, h2, fun z outs => he _ _ (h3 z), fun e z r outs hr => hq _ _ (h4 e z r · hr)⟩⟩
def C_compose : Con := fun args Q E => ∃ ds, args = [.fz (.tup ds)] ∧ composeCon ds Q E
def C_single : Con := fun args Q E => ∃ d, args = [.fz d] ∧ d.plain ∧ (isStep d = false → ∀ outs, E ⟨2, d⟩ outs) ∧ (isStep d = true → ∃ s, d = stepD s ∧ ∀ r outs, r.d = (effOf [s]).D → Q r outs)
theorem parts_eqv (a b : Eff) : D.eqv a.parts b.parts = (a.t == b.t && (a.p == b.p && (a.c : Int) == (b.c : Int))) := by
  unfold Eff.parts
  simp only [D.eqv, D.eqvL, Bool.and_true]
theorem eqv_same {a b : Eff} : (a.t == b.t && (a.p == b.p && (a.c : Int) == (b.c : Int))) = true ↔ a = b := by
  obtain ⟨t, p, c⟩ := a
  obtain ⟨t', p', c'⟩ := b
  simp only [Bool.and_eq_true, beq_iff_eq, Eff.mk.injEq]
  constructor <;> rintro ⟨h1, h2, h3⟩ <;> exact ⟨h1, h2, by omega⟩
/-- Effect.__eq__: 0 self, 1 other -/
def b_Effect___eq__ : DS := sSeq (sIf (tNot (tVal (dIsO 0 (zaC 1)))) (sRet (dC (.bl false))) (sNx)) (sRet (dOp eqD (zaK C_parts_of [.v (zaC 0)]) (zaK C_parts_of [.v (zaC 1)])))
def C_Effect___eq__ : Con := fun args Q _ => ∃ (a : Eff) (d : D) (b : Bool), args = [.fz a.D, .fz d] ∧ d.isCls 0 = some b ∧ (b = false → ∀ outs, Q (.fz (.bl false)) outs) ∧ (b = true → ∃ e : Eff, d = e.D ∧ ∀ k outs, (k = true ↔ a = e) → Q (.fz (.bl k)) outs)
theorem p_Effect___eq__ : ∀ args Q E, args.length = 2 → C_Effect___eq__ args Q E → runD 2 b_Effect___eq__ args Q E := by
  intro args Q E _ h
  obtain ⟨a, d, b, rfl, hb, h1, h2⟩ := h
  unfold b_Effect___eq__
  try walk_at "dl"
  refine ⟨b, hb, ?_⟩
  try walk_at "dl"
  cases b with
  | false => exact h1 rfl _
  | true =>
    obtain ⟨e, rfl, hq⟩ := h2 rfl
    try walk_at "dl"
    refine ⟨a, rfl, fun r outs hr => ?_⟩
    simp only [hr]
    try walk_at "dl"
    refine ⟨e, rfl, fun r outs hr => ?_⟩
    simp only [hr]
    try walk_at "dl"
    refine ⟨.inr ⟨rfl, rfl⟩, ?_⟩
    refine hq _ _ ?_
    rw [parts_eqv]
    exact eqv_same
/-- ==, != of effects -/
theorem eq_use {a b : Eff} {G : Bool → Prop} {E : Exc → List Slot → Prop} (h : ∀ k, (k = true ↔ a = b) → G k) : C_Effect___eq__ [.fz a.D, .fz b.D] (fun t _ => ∃ k, t.d = .bl k ∧ G k) E :=
  ⟨a, b.D, true, rfl, rfl, fun z => (nomatch z), fun _ => ⟨b, rfl, fun k _ hk => ⟨k, rfl, h _ hk⟩⟩⟩
end DL

set_option linter.all false
set_option autoImplicit false
set_option maxRecDepth 100000
namespace DL
local macro_rules | `(tactic| walk_at "dl") => `(tactic| simp -implicitDefEqProofs only [runD, startE, outsE, outs_0, outs_s, List.length_cons, List.length_nil, List.cons_append, List.nil_append, List.replicate, Nat.sub_zero, Nat.add_one_sub_one, Nat.reduceSub, Nat.reduceAdd, dC, dVar_M, dVarM_fz, dVarM_own, dIxN_M, dIxM_fz, dIxM_own, dOpN_M, dOpM_fz, dOpM_own, dFnN_M, dFnM_fz, dFnM_own, dOp, dUn, dArgs, dLst, dTup, dFn, dIsi, dMs, dPart, dSl, dIfE, Slot.known, tVal, tTru, tAnd, tOr, tNot, dAnd, dOr, dNot, dChain, iLst, iTup, iStr, iRng1, iRng2, iEnum, iZip, gN, gNs, gT, gL, Tgt.g, tYes, wipeE, backE, dAVs, zaK, avSlot, AV.ok, Slot.isOwn, bA_nil, bA_v, bA_m, D.isRef, List.all_cons, List.all_nil, List.map_cons, List.map_nil, Bool.and_true, Bool.true_and, List.tail_cons, List.tail_nil, List.head?_cons, sNx, sSeq, sRet, sRetN, sExp, sAsg, sAsgO, sIf, sAug, sFor, sWh, sBrk, sCnt, sRaise, sApp, sAppP, sRetT, dCatT, dMinKT, eqKN, listKF, listSF, sExt, sUpdT, mergeT, dDct0T, dIxKT, repZD, neEmp, iWkT, itmT, keyT, dSrtKT, Slot.ownL, sPut, sPut2, putAt, sPar, sParL, sFld, dFld, dMake, mkC, dMakeV, dCm, dObj, D.isObj, dCallV, dCallS, dEqO, dIsO, dDct0, isBD_bl, notBD_bl, revD_lst, sPar3, sTrys, catchD, DEnds.unname, repF, D.eqTo, at_0, at_s, at_nil, set_0, set_s, fzd, frd, ftd, Slot.noT, dVarM_ownT, hide_ownT, dMakeT, mkCT, D.calm, D.unm, dEqN, dProp, strF, sFldT, sAppF, sFldAugT, kidOf, putL, dMethM, Slot.isObj, if_true, if_false, Bool.not_true, Bool.not_false, true_and, and_true, Bool.false_eq_true, ↓reduceIte, lenF, lenD, allF, anyF, sumF, absF, intF, tupleF, swM, ewM, eqv_int, eqv_str, eqv_bl, D.isTy, Int.cast_ofNat_Int, addD_int, addD_str, addD_lst, fdivWD_int, orKD_dct, dMinK, dSumV, iaddD_int, iaddD_str, subD_int, mulD_int, mulD_str, mulD_lst, fdivD_int, modD_int, powD_int, negD_int, eqD, neD_str, neD_int, ltD_int, leD_int, gtD_int, geD_int, isD, isnD, D.isNon, inDv, ninDv, ixD_lst, ixD_tup, ixD_str, slD_lst, slD_frl, slD_str, dLc, dLook, Slot.calm, tLook, iRngD, iRngB', dNeT, revT_str, dDisp, iZipS, iZipK, minPF_2, sParF, dLenO, dRepO, dVals, putR, sParR, dFmt, dFmtR, fstL, dFst, mulWD_int, imulD_int, countM, lstRg, dLrg1, dLrg2, sRetO_M, retOM_own, retOM_fz, dLookL, dNeN, dLenSet, dSrtSet, sortedF, dTold, dToldB, dToldO, calm_nil, calm_cons, hide_nil, hide_fz, hide_own, hide_no, at_hs, dIsiO, gTG, gGs, gA, gAll, sAsgs, sClr, sAsgN, dFldN, iWk, itmX, valX, keyX, sForN, dDc, dDsp1, dGet, dGetN, sPutK, inKv, kyOf, ownK, dictF, dLitm, dIxK, eqKv, sortedIF, ltSD, dDspT, sPutT, ownKT, dTupK, giveE, R.raw, sAsgK, unpK, unpK1, ninKv, eqKg, catTD, repTD, dSlT, sAppAt, updD, sAppAtK, dPopAtK, tNinSet, Slot.dctT, dLcP, R.dctN, lc2L, dLc2, sAugK, dSrtRev, sRetTK, sortedKIF, splitM, partM, intTF, dStp, dTake, sTryF, dRep, dPopN, sPutFT, dFldP, dIxFT, dSrtFS, sortedLLF, dLc2I, dDcT, dGetNT, dLstKT, sUpdP, runG, gThen, gPlain, gNil, gYield, gYieldR, gIf, gFor, GD.at, sForGen, dLcGen])
/-! short ways to use the contracts at sequences and effects of sequences -/
def lawConP : Con := fun args Q _ => ∃ ns : List Int, ns.length ≤ 63 ∧ args = [.fz (.frl (ns.map .int))] ∧ ∀ outs, Q (.fz (.bl true)) outs
section
variable {Q : R → List Slot → Prop} {E : Exc → List Slot → Prop} {k : R → Prop} {a b c ss : List St2} {q : Tx} {e : Eff}
theorem eff_use (ok : okSeq ss) (h : ∀ r outs, r.d = (effOf ss).D → Q r outs) : C_effect_of [.fz (seqD ss)] Q E :=
  ⟨seqD ss, rfl, plainL_seq ss, fun _ => ⟨ss, rfl, ok, h⟩, fun v e => by rw [firstInv_seq ok] at e; cases e⟩
end
end DL

set_option linter.all false
set_option autoImplicit false
set_option maxRecDepth 100000
namespace DL
local macro_rules | `(tactic| walk_at "dl") => `(tactic| simp -implicitDefEqProofs only [runD, startE, outsE, outs_0, outs_s, List.length_cons, List.length_nil, List.cons_append, List.nil_append, List.replicate, Nat.sub_zero, Nat.add_one_sub_one, Nat.reduceSub, Nat.reduceAdd, dC, dVar_M, dVarM_fz, dVarM_own, dIxN_M, dIxM_fz, dIxM_own, dOpN_M, dOpM_fz, dOpM_own, dFnN_M, dFnM_fz, dFnM_own, dOp, dUn, dArgs, dLst, dTup, dFn, dIsi, dMs, dPart, dSl, dIfE, Slot.known, tVal, tTru, tAnd, tOr, tNot, dAnd, dOr, dNot, dChain, iLst, iTup, iStr, iRng1, iRng2, iEnum, iZip, gN, gNs, gT, gL, Tgt.g, tYes, wipeE, backE, dAVs, zaK, avSlot, AV.ok, Slot.isOwn, bA_nil, bA_v, bA_m, D.isRef, List.all_cons, List.all_nil, List.map_cons, List.map_nil, Bool.and_true, Bool.true_and, List.tail_cons, List.tail_nil, List.head?_cons, sNx, sSeq, sRet, sRetN, sExp, sAsg, sAsgO, sIf, sAug, sFor, sWh, sBrk, sCnt, sRaise, sApp, sAppP, sRetT, dCatT, dMinKT, eqKN, listKF, listSF, sExt, sUpdT, mergeT, dDct0T, dIxKT, repZD, neEmp, iWkT, itmT, keyT, dSrtKT, Slot.ownL, sPut, sPut2, putAt, sPar, sParL, sFld, dFld, dMake, mkC, dMakeV, dCm, dObj, D.isObj, dCallV, dCallS, dEqO, dIsO, dDct0, isBD_bl, notBD_bl, revD_lst, sPar3, sTrys, catchD, DEnds.unname, repF, D.eqTo, at_0, at_s, at_nil, set_0, set_s, fzd, frd, ftd, Slot.noT, dVarM_ownT, hide_ownT, dMakeT, mkCT, D.calm, D.unm, dEqN, dProp, strF, sFldT, sAppF, sFldAugT, kidOf, putL, dMethM, Slot.isObj, if_true, if_false, Bool.not_true, Bool.not_false, true_and, and_true, Bool.false_eq_true, ↓reduceIte, lenF, lenD, allF, anyF, sumF, absF, intF, tupleF, swM, ewM, eqv_int, eqv_str, eqv_bl, D.isTy, Int.cast_ofNat_Int, addD_int, addD_str, addD_lst, fdivWD_int, orKD_dct, dMinK, dSumV, iaddD_int, iaddD_str, subD_int, mulD_int, mulD_str, mulD_lst, fdivD_int, modD_int, powD_int, negD_int, eqD, neD_str, neD_int, ltD_int, leD_int, gtD_int, geD_int, isD, isnD, D.isNon, inDv, ninDv, ixD_lst, ixD_tup, ixD_str, slD_lst, slD_frl, slD_str, dLc, dLook, Slot.calm, tLook, iRngD, iRngB', dNeT, revT_str, dDisp, iZipS, iZipK, minPF_2, sParF, dLenO, dRepO, dVals, putR, sParR, dFmt, dFmtR, fstL, dFst, mulWD_int, imulD_int, countM, lstRg, dLrg1, dLrg2, sRetO_M, retOM_own, retOM_fz, dLookL, dNeN, dLenSet, dSrtSet, sortedF, dTold, dToldB, dToldO, calm_nil, calm_cons, hide_nil, hide_fz, hide_own, hide_no, at_hs, dIsiO, gTG, gGs, gA, gAll, sAsgs, sClr, sAsgN, dFldN, iWk, itmX, valX, keyX, sForN, dDc, dDsp1, dGet, dGetN, sPutK, inKv, kyOf, ownK, dictF, dLitm, dIxK, eqKv, sortedIF, ltSD, dDspT, sPutT, ownKT, dTupK, giveE, R.raw, sAsgK, unpK, unpK1, ninKv, eqKg, catTD, repTD, dSlT, sAppAt, updD, sAppAtK, dPopAtK, tNinSet, Slot.dctT, dLcP, R.dctN, lc2L, dLc2, sAugK, dSrtRev, sRetTK, sortedKIF, splitM, partM, intTF, dStp, dTake, sTryF, dRep, dPopN, sPutFT, dFldP, dIxFT, dSrtFS, sortedLLF, dLc2I, dDcT, dGetNT, dLstKT, sUpdP, runG, gThen, gPlain, gNil, gYield, gYieldR, gIf, gFor, GD.at, sForGen, dLcGen])
/-! all short queues over some letters -/
def wordsD (qs : List Tx) : D := .lst (qs.map .str)
def C__law_queues : Con := fun args Q _ => ∃ (ls : Tx) (z : Int), args = [.fz (.str ls), .fz (.int z)] ∧ ls.length ≤ 3 ∧ ls.all isItem = true ∧ (-1 ≤ z ∧ z ≤ 7) ∧
  ∀ (qs : List Tx) r outs, (∀ q ∈ qs, q.length ≤ z.toNat ∧ q.all isItem = true) → qs.length ≤ 20000 → r.d = wordsD qs → Q r outs
end DL

set_option linter.all false
set_option autoImplicit false
set_option maxRecDepth 100000
namespace DL
local macro_rules | `(tactic| walk_at "dl") => `(tactic| simp -implicitDefEqProofs only [runD, startE, outsE, outs_0, outs_s, List.length_cons, List.length_nil, List.cons_append, List.nil_append, List.replicate, Nat.sub_zero, Nat.add_one_sub_one, Nat.reduceSub, Nat.reduceAdd, dC, dVar_M, dVarM_fz, dVarM_own, dIxN_M, dIxM_fz, dIxM_own, dOpN_M, dOpM_fz, dOpM_own, dFnN_M, dFnM_fz, dFnM_own, dOp, dUn, dArgs, dLst, dTup, dFn, dIsi, dMs, dPart, dSl, dIfE, Slot.known, tVal, tTru, tAnd, tOr, tNot, dAnd, dOr, dNot, dChain, iLst, iTup, iStr, iRng1, iRng2, iEnum, iZip, gN, gNs, gT, gL, Tgt.g, tYes, wipeE, backE, dAVs, zaK, avSlot, AV.ok, Slot.isOwn, bA_nil, bA_v, bA_m, D.isRef, List.all_cons, List.all_nil, List.map_cons, List.map_nil, Bool.and_true, Bool.true_and, List.tail_cons, List.tail_nil, List.head?_cons, sNx, sSeq, sRet, sRetN, sExp, sAsg, sAsgO, sIf, sAug, sFor, sWh, sBrk, sCnt, sRaise, sApp, sAppP, sRetT, dCatT, dMinKT, eqKN, listKF, listSF, sExt, sUpdT, mergeT, dDct0T, dIxKT, repZD, neEmp, iWkT, itmT, keyT, dSrtKT, Slot.ownL, sPut, sPut2, putAt, sPar, sParL, sFld, dFld, dMake, mkC, dMakeV, dCm, dObj, D.isObj, dCallV, dCallS, dEqO, dIsO, dDct0, isBD_bl, notBD_bl, revD_lst, sPar3, sTrys, catchD, DEnds.unname, repF, D.eqTo, at_0, at_s, at_nil, set_0, set_s, fzd, frd, ftd, Slot.noT, dVarM_ownT, hide_ownT, dMakeT, mkCT, D.calm, D.unm, dEqN, dProp, strF, sFldT, sAppF, sFldAugT, kidOf, putL, dMethM, Slot.isObj, if_true, if_false, Bool.not_true, Bool.not_false, true_and, and_true, Bool.false_eq_true, ↓reduceIte, lenF, lenD, allF, anyF, sumF, absF, intF, tupleF, swM, ewM, eqv_int, eqv_str, eqv_bl, D.isTy, Int.cast_ofNat_Int, addD_int, addD_str, addD_lst, fdivWD_int, orKD_dct, dMinK, dSumV, iaddD_int, iaddD_str, subD_int, mulD_int, mulD_str, mulD_lst, fdivD_int, modD_int, powD_int, negD_int, eqD, neD_str, neD_int, ltD_int, leD_int, gtD_int, geD_int, isD, isnD, D.isNon, inDv, ninDv, ixD_lst, ixD_tup, ixD_str, slD_lst, slD_frl, slD_str, dLc, dLook, Slot.calm, tLook, iRngD, iRngB', dNeT, revT_str, dDisp, iZipS, iZipK, minPF_2, sParF, dLenO, dRepO, dVals, putR, sParR, dFmt, dFmtR, fstL, dFst, mulWD_int, imulD_int, countM, lstRg, dLrg1, dLrg2, sRetO_M, retOM_own, retOM_fz, dLookL, dNeN, dLenSet, dSrtSet, sortedF, dTold, dToldB, dToldO, calm_nil, calm_cons, hide_nil, hide_fz, hide_own, hide_no, at_hs, dIsiO, gTG, gGs, gA, gAll, sAsgs, sClr, sAsgN, dFldN, iWk, itmX, valX, keyX, sForN, dDc, dDsp1, dGet, dGetN, sPutK, inKv, kyOf, ownK, dictF, dLitm, dIxK, eqKv, sortedIF, ltSD, dDspT, sPutT, ownKT, dTupK, giveE, R.raw, sAsgK, unpK, unpK1, ninKv, eqKg, catTD, repTD, dSlT, sAppAt, updD, sAppAtK, dPopAtK, tNinSet, Slot.dctT, dLcP, R.dctN, lc2L, dLc2, sAugK, dSrtRev, sRetTK, sortedKIF, splitM, partM, intTF, dStp, dTake, sTryF, dRep, dPopN, sPutFT, dFldP, dIxFT, dSrtFS, sortedLLF, dLc2I, dDcT, dGetNT, dLstKT, sUpdP, runG, gThen, gPlain, gNil, gYield, gYieldR, gIf, gFor, GD.at, sForGen, dLcGen])
/-! exchanges of neighbours -/
instance : DecidableEq Eff := fun a b => decidable_of_iff (a.t = b.t ∧ a.p = b.p ∧ a.c = b.c) ⟨fun ⟨h1, h2, h3⟩ => by cases a; cases b; cases h1; cases h2; cases h3; rfl, fun h => by rw [h]; exact ⟨rfl, rfl, rfl⟩⟩
def swp0 : List St2 → List St2
  | a :: b :: r => b :: a :: r
  | l => l
def swpN : Nat → List St2 → List St2
  | 0, l => swp0 l
  | i + 1, a :: r => a :: swpN i r
  | _ + 1, [] => []
def swp (ss : List St2) (i : Nat) : List St2 := swpN i ss
theorem swpN_len : ∀ (i : Nat) (ss : List St2), (swpN i ss).length = ss.length
  | 0, [] => rfl
  | 0, [_] => rfl
  | 0, _ :: _ :: _ => rfl
  | i + 1, [] => rfl
  | i + 1, a :: r => by show (swpN i r).length + 1 = r.length + 1; rw [swpN_len i r]
theorem swp_len (ss : List St2) (i : Nat) : (swp ss i).length = ss.length := swpN_len i ss
theorem swpN_mem : ∀ (i : Nat) (ss : List St2) (s : St2), s ∈ swpN i ss ↔ s ∈ ss
  | 0, [], s => Iff.rfl
  | 0, [_], s => Iff.rfl
  | 0, a :: b :: r, s => by
    show s ∈ b :: a :: r ↔ _
    simp only [List.mem_cons]
    exact ⟨fun h => by rcases h with h | h | h <;> simp [h], fun h => by rcases h with h | h | h <;> simp [h]⟩
  | i + 1, [], s => Iff.rfl
  | i + 1, a :: r, s => by
    show s ∈ a :: swpN i r ↔ _
    rw [List.mem_cons, List.mem_cons, swpN_mem i r s]
theorem swp_mem (ss : List St2) (i : Nat) (s : St2) : s ∈ swp ss i ↔ s ∈ ss := swpN_mem i ss s
theorem swpN_eq : ∀ (i : Nat) (ss : List St2) (x y : St2), ss[i]? = some x → ss[i + 1]? = some y → swpN i ss = ss.take i ++ [y, x] ++ ss.drop (i + 2)
  | 0, a :: b :: r, x, y, h1, h2 => by
    simp at h1 h2
    subst h1 h2
    rfl
  | i + 1, a :: r, x, y, h1, h2 => by
    show a :: swpN i r = _
    rw [swpN_eq i r x y (by simpa using h1) (by simpa using h2)]
    rfl
  | 0, [], _, _, h1, _ => by simp at h1
  | _ + 1, [], _, _, h1, _ => by simp at h1
  | 0, [a], _, _, _, h2 => by simp at h2
theorem swp_eq (ss : List St2) (i : Nat) (x y : St2) : ss[i]? = some x → ss[i + 1]? = some y → swp ss i = ss.take i ++ [y, x] ++ ss.drop (i + 2) := swpN_eq i ss x y
theorem swp_ok {ss : List St2} {i : Nat} (h : okSeq ss) : okSeq (swp ss i) := ⟨by rw [swp_len]; exact h.1, fun s hs => h.2 s ((swp_mem ss i s).mp hs)⟩
/-- the signs at i and i + 1 differ -/
def signAt (ss : List St2) (i : Nat) : Nat := (ss[i]?.map (·.1)).getD 0
def allow (ss : List St2) (i : Nat) : Bool := !(signAt ss i == signAt ss (i + 1)) && decide (effOf (swp ss i) = effOf ss)
theorem seq_at {ss : List St2} {i : Nat} {s : St2} (h : ss[i]? = some s) : (ss.map stepD)[i]? = some (stepD s) := by rw [List.getElem?_map, h]; rfl
theorem ixN_nat {n i : Nat} (h : i < n) : ixN n (i : Int) = some i := by
  unfold ixN
  rw [if_pos (by omega), if_pos (by omega), Int.toNat_natCast]
theorem cut_upto {α : Type} {x : List α} {n : Nat} : cut x none (some (n : Int)) = x.take n := by
  have e : sIx x.length x.length (some (n : Int)) = min n x.length := by
    show (if (n : Int) < 0 then ((n : Int) + (x.length : Int)).toNat else min (n : Int).toNat x.length) = _
    rw [if_neg (by omega), Int.toNat_natCast]
  show (x.drop (sIx x.length 0 none)).take (sIx x.length x.length (some (n : Int)) - sIx x.length 0 none) = _
  rw [e]
  show (x.drop 0).take (min n x.length - 0) = _
  rw [List.drop_zero, Nat.sub_zero]
  by_cases h : n ≤ x.length
  · rw [Nat.min_eq_left h]
  · rw [Nat.min_eq_right (by omega), List.take_of_length_le (Nat.le_refl _), List.take_of_length_le (by omega)]
theorem cut_off {α : Type} {x : List α} {n : Nat} : cut x (some (n : Int)) none = x.drop n := by
  have e : sIx x.length 0 (some (n : Int)) = min n x.length := by
    show (if (n : Int) < 0 then ((n : Int) + (x.length : Int)).toNat else min (n : Int).toNat x.length) = _
    rw [if_neg (by omega), Int.toNat_natCast]
  show (x.drop (sIx x.length 0 (some (n : Int)))).take (x.length - sIx x.length 0 (some (n : Int))) = _
  rw [e]
  by_cases h : n ≤ x.length
  · rw [Nat.min_eq_left h, ← List.length_drop, List.take_length]
  · rw [Nat.min_eq_right (by omega), List.drop_eq_nil_of_le (Nat.le_refl _), List.drop_eq_nil_of_le (by omega)]
    simp
/-- swapped: 0 steps, 1 position -/
def b_swapped : DS := sRet (dOp addD (dOp addD (dSl (zaC 0) none (some (zaC 1))) (dLst [dOp ixD (zaC 0) (dOp addD (zaC 1) (dC (.int 1))), dOp ixD (zaC 0) (zaC 1)])) (dSl (zaC 0) (some (dOp addD (zaC 1) (dC (.int 2)))) none))
def C_swapped : Con := fun args Q _ => ∃ (ss : List St2) (i : Nat), args = [.fz (seqD ss), .fz (.int i)] ∧ ss.length ≤ 1000000 ∧ i + 1 < ss.length ∧ ∀ r outs, r.d = seqD (swp ss i) → Q r outs
theorem swap_core {ss : List St2} {i : Nat} (h : i + 1 < ss.length) : cut (ss.map stepD) none (some (i : Int)) ++ [stepD (ss[i + 1]'h), stepD (ss[i]'(by omega))] ++ cut (ss.map stepD) (some ((i : Int) + 2)) none = (swp ss i).map stepD := by
  rw [swp_eq ss i _ _ (List.getElem?_eq_getElem (by omega)) (List.getElem?_eq_getElem h), cut_upto]
  have : ((i : Int) + 2) = ((i + 2 : Nat) : Int) := by omega
  rw [this, cut_off]
  simp
theorem p_swapped : ∀ args Q E, args.length = 2 → C_swapped args Q E → runD 2 b_swapped args Q E := by
  intro args Q E _ h
  obtain ⟨ss, i, rfl, hl, hi, hq⟩ := h
  have e2 : ((i : Int) + 1) = ((i + 1 : Nat) : Int) := by omega
  unfold b_swapped seqD
  try walk_at "dl"
  refine ⟨i + 1, _, ?_, seq_at (List.getElem?_eq_getElem hi), i, _, ?_, seq_at (List.getElem?_eq_getElem (by omega)), by decide, ?_, ?_, ?_⟩
  · rw [List.length_map, e2]; exact ixN_nat hi
  · rw [List.length_map]; exact ixN_nat (by omega)
  · rw [cut_upto]; show _ ≤ 16777216; simp; omega
  · rw [cut_upto]
    have : ((i : Int) + 2) = ((i + 2 : Nat) : Int) := by omega
    rw [this, cut_off]; show _ ≤ 16777216; simp; omega
  · rw [swap_core hi]
    exact hq _ _ rfl
/-- is_allowed: 0 steps, 1 position -/
def b_is_allowed : DS := sSeq (sIf (tVal (dOp eqD (dOp ixD (dOp ixD (zaC 0) (zaC 1)) (dC (.int 0))) (dOp ixD (dOp ixD (zaC 0) (dOp addD (zaC 1) (dC (.int 1)))) (dC (.int 0))))) (sRet (dC (.bl false))) (sNx)) (sRet (dEqO 0 C_Effect___eq__ false (zaK C_effect_of [.v (zaK C_swapped [.v (zaC 0), .v (zaC 1)])]) (zaK C_effect_of [.v (zaC 0)])))
def C_is_allowed : Con := fun args Q _ => ∃ (ss : List St2) (i : Nat), args = [.fz (seqD ss), .fz (.int i)] ∧ okSeq ss ∧ i + 1 < ss.length ∧ ∀ outs, Q (.fz (.bl (allow ss i))) outs
theorem swapped_use {ss : List St2} {i : Nat} {Q : R → List Slot → Prop} {E : Exc → List Slot → Prop} (ok : okSeq ss) (hi : i + 1 < ss.length) (h : ∀ r outs, r.d = seqD (swp ss i) → Q r outs) : C_swapped [.fz (seqD ss), .fz (.int i)] Q E :=
  ⟨ss, i, rfl, by have := ok.1; omega, hi, h⟩
theorem signAt_of {ss : List St2} {i : Nat} {s : St2} (h : ss[i]? = some s) : signAt ss i = s.1 := by unfold signAt; rw [h]; rfl
theorem p_is_allowed : ∀ args Q E, args.length = 2 → C_is_allowed args Q E → runD 2 b_is_allowed args Q E := by
  intro args Q E _ h
  obtain ⟨ss, i, rfl, ok, hi, hq⟩ := h
  have e2 : ((i : Int) + 1) = ((i + 1 : Nat) : Int) := by omega
  have hx := List.getElem?_eq_getElem (show i < ss.length by omega)
  have hy := List.getElem?_eq_getElem hi
  unfold b_is_allowed
  try walk_at "dl"
  unfold seqD
  try walk_at "dl"
  refine ⟨i, _, by rw [List.length_map]; exact ixN_nat (by omega), seq_at hx, ?_⟩
  unfold stepD
  try walk_at "dl"
  refine ⟨0, _, rfl, rfl, i + 1, _, by rw [List.length_map, e2]; exact ixN_nat hi, seq_at hy, ?_⟩
  unfold stepD
  try walk_at "dl"
  refine ⟨0, _, rfl, rfl, .inl rfl, ?_⟩
  have e1 : ([ss[i].fst] == [ss[i + 1].fst]) = (signAt ss i == signAt ss (i + 1)) := by
    rw [signAt_of hx, signAt_of hy]
    simp
  rw [e1]
  unfold allow at hq
  cases hs : (signAt ss i == signAt ss (i + 1)) with
  | true =>
    rw [hs] at hq
    try walk_at "dl"
    exact hq _
  | false =>
    rw [hs] at hq
    try walk_at "dl"
    refine swapped_use ok hi fun r o hr => ?_
    simp only [hr]
    refine eff_use (swp_ok ok) fun r o hr => ?_
    simp only [hr]
    refine eff_use ok fun r o hr => ?_
    simp only [hr]
    refine ⟨rfl, rfl, eq_use fun k hk => ?_⟩
    have : k = decide (effOf (swp ss i) = effOf ss) := by
      rw [Bool.eq_iff_iff, hk, decide_eq_true_eq]
    rw [this]
    exact hq _
/-! positions -/
def posCon (d p : D) (Q : R → List Slot → Prop) (E : Exc → List Slot → Prop) (G : List St2 → Nat → Prop) : Prop := d.plainL ∧ p.plain ∧ (∀ v, firstInv d = .tup [v] → ∀ outs, E ⟨1, v⟩ outs) ∧
  (firstInv d = .non → ∃ ss, d = seqD ss ∧ okSeq ss ∧ (inRange p 0 ((ss.length : Int) - 2) = false → ∀ outs, E ⟨4, p⟩ outs) ∧ (∀ i : Nat, p = .int i → i + 1 < ss.length → G ss i))
theorem inRange_nat {p : D} {n : Nat} (h : inRange p 0 ((n : Int) - 2) = true) : ∃ i : Nat, p = .int i ∧ i + 1 < n := by
  cases p with
  | int z =>
    have h : (decide (0 ≤ z) && decide (z ≤ (n : Int) - 2)) = true := h
    rw [Bool.and_eq_true, decide_eq_true_eq, decide_eq_true_eq] at h
    obtain ⟨i, rfl⟩ := Int.eq_ofNat_of_zero_le h.1
    exact ⟨i, rfl, by omega⟩
  | _ => cases h
theorem inRange_of {n i : Nat} (h : i + 1 < n) : inRange (.int i) 0 ((n : Int) - 2) = true := by
  show (decide (0 ≤ (i : Int)) && decide ((i : Int) ≤ (n : Int) - 2)) = true
  rw [decide_eq_true (by omega), decide_eq_true (by omega)]
  rfl
/-- check_position: 0 steps, 1 position -/
def b_check_position : DS := sSeq (sExp (zaK C_check_sequence [.v (zaC 0)])) (sIf (tNot (tVal (zaK C_in_range [.v (zaC 1), .v (dC (.int 0)), .v (dOp subD (dFn lenF [zaC 0]) (dC (.int 2)))]))) (sRaise 4 (zaC 1)) (sNx))
def C_check_position : Con := fun args Q E => ∃ d p, args = [.fz d, .fz p] ∧ posCon d p Q E fun _ _ => ∀ r outs, r.d = .non → Q r outs
theorem p_check_position : ∀ args Q E, args.length = 2 → C_check_position args Q E → runD 2 b_check_position args Q E := by
  intro args Q E _ h
  obtain ⟨d, p, rfl, h1, h2, h3, h4⟩ := h
  unfold b_check_position
  try walk_at "dl"
  refine ⟨d, rfl, h1, fun hf r o hr => ?_, fun v hv o => h3 v hv _⟩
  obtain ⟨ss, rfl, ok, h5, h6⟩ := h4 hf
  try walk_at "dl"
  unfold seqD
  try walk_at "dl"
  rw [List.length_map]
  refine ⟨_, _, _, rfl, h2, fun o => ?_⟩
  try walk_at "dl"
  cases hr : inRange p 0 ((ss.length : Int) - 2) with
  | true =>
    obtain ⟨i, rfl, hi⟩ := inRange_nat hr
    try walk_at "dl"
    exact h6 i rfl hi _ _ rfl
  | false =>
    try walk_at "dl"
    exact h5 hr _
/-- can_exchange: 0 steps, 1 position -/
def b_can_exchange : DS := sSeq (sExp (zaK C_check_position [.v (zaC 0), .v (zaC 1)])) (sRet (zaK C_is_allowed [.v (zaC 0), .v (zaC 1)]))
def zaJ : Con := fun args Q E => ∃ d p, args = [.fz d, .fz p] ∧ posCon d p Q E fun ss i => ∀ outs, Q (.fz (.bl (allow ss i))) outs
theorem checkpos_use {d p : D} {Q : R → List Slot → Prop} {E : Exc → List Slot → Prop} {G : List St2 → Nat → Prop} (h1 : d.plainL) (h2 : p.plain) (h3 : ∀ v, firstInv d = .tup [v] → ∀ outs, E ⟨1, v⟩ outs)
    (h4 : firstInv d = .non → ∃ ss, d = seqD ss ∧ okSeq ss ∧ (inRange p 0 ((ss.length : Int) - 2) = false → ∀ outs, E ⟨4, p⟩ outs) ∧ (∀ i : Nat, p = .int i → i + 1 < ss.length → G ss i)) (hq : ∀ (ss : List St2) (i : Nat), d = seqD ss → okSeq ss → p = .int i → i + 1 < ss.length → G ss i → ∀ r outs, r.d = .non → Q r outs) : C_check_position [.fz d, .fz p] Q E :=
  ⟨d, p, rfl, h1, h2, h3, fun hf => by
    obtain ⟨ss, e, ok, h5, h6⟩ := h4 hf
    exact ⟨ss, e, ok, h5, fun i hp hi => hq ss i e ok hp hi (h6 i hp hi)⟩⟩
theorem allow_use {ss : List St2} {i : Nat} {Q : R → List Slot → Prop} {E : Exc → List Slot → Prop} (ok : okSeq ss) (hi : i + 1 < ss.length) (h : ∀ outs, Q (.fz (.bl (allow ss i))) outs) : C_is_allowed [.fz (seqD ss), .fz (.int i)] Q E :=
  ⟨ss, i, rfl, ok, hi, h⟩
theorem p_can_exchange : ∀ args Q E, args.length = 2 → zaJ args Q E → runD 2 b_can_exchange args Q E := by
  intro args Q E _ h
  obtain ⟨d, p, rfl, h1, h2, h3, h4⟩ := h
  unfold b_can_exchange
  try walk_at "dl"
  refine checkpos_use (G := fun ss i => ∀ outs, Q (.fz (.bl (allow ss i))) outs) h1 h2 (fun v hv o => h3 v hv _) (fun hf => ?_) fun ss i e ok hp hi g r o hr => ?_
  · obtain ⟨ss, e, ok, h5, h6⟩ := h4 hf
    exact ⟨ss, e, ok, fun hr o => h5 hr _, h6⟩
  · subst e hp
    try walk_at "dl"
    exact allow_use ok hi fun o => g _
/-- exchange: 0 steps, 1 position -/
def b_exchange : DS := sSeq (sExp (zaK C_check_position [.v (zaC 0), .v (zaC 1)])) (sSeq (sIf (tNot (tVal (zaK C_is_allowed [.v (zaC 0), .v (zaC 1)]))) (sRaise 9 (zaC 1)) (sNx)) (sRet (zaK C_swapped [.v (zaC 0), .v (zaC 1)])))
def C_exchange : Con := fun args Q E => ∃ d p, args = [.fz d, .fz p] ∧ posCon d p Q E fun ss i => (allow ss i = false → ∀ outs, E ⟨9, .int i⟩ outs) ∧ (allow ss i = true → ∀ r outs, r.d = seqD (swp ss i) → Q r outs)
theorem p_exchange : ∀ args Q E, args.length = 2 → C_exchange args Q E → runD 2 b_exchange args Q E := by
  intro args Q E _ h
  obtain ⟨d, p, rfl, h1, h2, h3, h4⟩ := h
  unfold b_exchange
  try walk_at "dl"
  refine checkpos_use (G := fun ss i => (allow ss i = false → ∀ outs, E ⟨9, .int i⟩ outs) ∧ (allow ss i = true → ∀ r outs, r.d = seqD (swp ss i) → Q r outs)) h1 h2 (fun v hv o => h3 v hv _) (fun hf => ?_) fun ss i e ok hp hi g r o hr => ?_
  · obtain ⟨ss, e, ok, h5, h6⟩ := h4 hf
    exact ⟨ss, e, ok, fun hr o => h5 hr _, h6⟩
  · subst e hp
    try walk_at "dl"
    refine allow_use ok hi fun o => ?_
    cases ha : allow ss i with
    | true =>
      try walk_at "dl"
      exact swapped_use ok hi fun r o hr => g.2 ha _ _ hr
    | false =>
      try walk_at "dl"
      exact g.1 ha _
end DL

set_option linter.all false
set_option autoImplicit false
set_option maxRecDepth 100000
namespace DL
local macro_rules | `(tactic| walk_at "dl") => `(tactic| simp -implicitDefEqProofs only [runD, startE, outsE, outs_0, outs_s, List.length_cons, List.length_nil, List.cons_append, List.nil_append, List.replicate, Nat.sub_zero, Nat.add_one_sub_one, Nat.reduceSub, Nat.reduceAdd, dC, dVar_M, dVarM_fz, dVarM_own, dIxN_M, dIxM_fz, dIxM_own, dOpN_M, dOpM_fz, dOpM_own, dFnN_M, dFnM_fz, dFnM_own, dOp, dUn, dArgs, dLst, dTup, dFn, dIsi, dMs, dPart, dSl, dIfE, Slot.known, tVal, tTru, tAnd, tOr, tNot, dAnd, dOr, dNot, dChain, iLst, iTup, iStr, iRng1, iRng2, iEnum, iZip, gN, gNs, gT, gL, Tgt.g, tYes, wipeE, backE, dAVs, zaK, avSlot, AV.ok, Slot.isOwn, bA_nil, bA_v, bA_m, D.isRef, List.all_cons, List.all_nil, List.map_cons, List.map_nil, Bool.and_true, Bool.true_and, List.tail_cons, List.tail_nil, List.head?_cons, sNx, sSeq, sRet, sRetN, sExp, sAsg, sAsgO, sIf, sAug, sFor, sWh, sBrk, sCnt, sRaise, sApp, sAppP, sRetT, dCatT, dMinKT, eqKN, listKF, listSF, sExt, sUpdT, mergeT, dDct0T, dIxKT, repZD, neEmp, iWkT, itmT, keyT, dSrtKT, Slot.ownL, sPut, sPut2, putAt, sPar, sParL, sFld, dFld, dMake, mkC, dMakeV, dCm, dObj, D.isObj, dCallV, dCallS, dEqO, dIsO, dDct0, isBD_bl, notBD_bl, revD_lst, sPar3, sTrys, catchD, DEnds.unname, repF, D.eqTo, at_0, at_s, at_nil, set_0, set_s, fzd, frd, ftd, Slot.noT, dVarM_ownT, hide_ownT, dMakeT, mkCT, D.calm, D.unm, dEqN, dProp, strF, sFldT, sAppF, sFldAugT, kidOf, putL, dMethM, Slot.isObj, if_true, if_false, Bool.not_true, Bool.not_false, true_and, and_true, Bool.false_eq_true, ↓reduceIte, lenF, lenD, allF, anyF, sumF, absF, intF, tupleF, swM, ewM, eqv_int, eqv_str, eqv_bl, D.isTy, Int.cast_ofNat_Int, addD_int, addD_str, addD_lst, fdivWD_int, orKD_dct, dMinK, dSumV, iaddD_int, iaddD_str, subD_int, mulD_int, mulD_str, mulD_lst, fdivD_int, modD_int, powD_int, negD_int, eqD, neD_str, neD_int, ltD_int, leD_int, gtD_int, geD_int, isD, isnD, D.isNon, inDv, ninDv, ixD_lst, ixD_tup, ixD_str, slD_lst, slD_frl, slD_str, dLc, dLook, Slot.calm, tLook, iRngD, iRngB', dNeT, revT_str, dDisp, iZipS, iZipK, minPF_2, sParF, dLenO, dRepO, dVals, putR, sParR, dFmt, dFmtR, fstL, dFst, mulWD_int, imulD_int, countM, lstRg, dLrg1, dLrg2, sRetO_M, retOM_own, retOM_fz, dLookL, dNeN, dLenSet, dSrtSet, sortedF, dTold, dToldB, dToldO, calm_nil, calm_cons, hide_nil, hide_fz, hide_own, hide_no, at_hs, dIsiO, gTG, gGs, gA, gAll, sAsgs, sClr, sAsgN, dFldN, iWk, itmX, valX, keyX, sForN, dDc, dDsp1, dGet, dGetN, sPutK, inKv, kyOf, ownK, dictF, dLitm, dIxK, eqKv, sortedIF, ltSD, dDspT, sPutT, ownKT, dTupK, giveE, R.raw, sAsgK, unpK, unpK1, ninKv, eqKg, catTD, repTD, dSlT, sAppAt, updD, sAppAtK, dPopAtK, tNinSet, Slot.dctT, dLcP, R.dctN, lc2L, dLc2, sAugK, dSrtRev, sRetTK, sortedKIF, splitM, partM, intTF, dStp, dTake, sTryF, dRep, dPopN, sPutFT, dFldP, dIxFT, dSrtFS, sortedLLF, dLc2I, dDcT, dGetNT, dLstKT, sUpdP, runG, gThen, gPlain, gNil, gYield, gYieldR, gIf, gFor, GD.at, sForGen, dLcGen])
/-! exchanges: the places that may be exchanged -/
def exchL (ss : List St2) : List D := ((List.range (ss.length - 1)).filter (allow ss)).map fun (i : Nat) => .int i
/-- exchanges: 0 steps, 1 position -/
def b_exchanges : DGn := gThen (gPlain (sExp (zaK C_check_sequence [.v (zaC 0)]))) (gThen (gPlain (sAsg (gN 0) (dFn listF [zaC 0]))) (gThen (gFor (iRng1 (dOp subD (dFn lenF [zaC 0]) (dC (.int 1)))) (gN 1) (gThen (gIf (tVal (zaK C_is_allowed [.v (zaC 0), .v (zaC 1)])) (gThen (gYield (zaC 1)) (gNil)) (gNil)) (gNil))) (gNil)))
def C_exchanges : GCon := fun args Q E => ∃ d, args = [.fz d] ∧ d.plainL ∧ (∀ v, firstInv d = .tup [v] → ∀ outs, E [] ⟨1, v⟩ outs) ∧ (firstInv d = .non → ∃ ss, d = seqD ss ∧ okSeq ss ∧ ∀ outs, Q (exchL ss) outs)
theorem p_exchanges : ∀ args Q E, args.length = 1 → C_exchanges args Q E → runG 2 b_exchanges args Q E := by
  intro args Q E _ h
  obtain ⟨d, rfl, hp, h1, h2⟩ := h
  unfold b_exchanges
  try walk_at "dl"
  refine ⟨d, rfl, hp, fun hf r o hr => ?_, fun v hv o => h1 v hv _⟩
  obtain ⟨ss, rfl, ok, hq⟩ := h2 hf
  try walk_at "dl"
  simp only [seqD, listF, frd]
  try walk_at "dl"
  have hk := ok.1
  rw [List.length_map]
  refine ⟨⟨by omega, by omega⟩, ?_⟩
  have hN : ((ss.length : Int) - 1).toNat = ss.length - 1 := by omega
  rw [hN]
  refine forG_inv (I := fun es ds ρ => ∃ (n m : Nat) (s1 : Slot), es = rng (n : Int) m ∧ n + m = ss.length - 1 ∧ ds = ((List.range n).filter (allow ss)).map (fun (i : Nat) => D.int i) ∧ ρ = [.fz (.lst (ss.map stepD)), s1])
    (fun ds ρ h => ?_) (fun e es ds ρ h k hk => ?_) _ _ _ ⟨0, ss.length - 1, .no, rfl, by omega, rfl, rfl⟩
  · obtain ⟨n, m, s1, h3, h4, rfl, rfl⟩ := h
    have : m = 0 := by
      have := congrArg List.length h3
      rw [rng_len] at this
      exact this.symm
    have hn : n = ss.length - 1 := by omega
    subst hn
    exact hq _
  · obtain ⟨n, m, s1, h3, h4, rfl, rfl⟩ := h
    cases m with
    | zero => cases h3
    | succ m =>
      rw [rng_succ] at h3
      cases h3
      have e1 : List.range (n + 1) = List.range n ++ [n] := List.range_succ
      try walk_at "dl"
      refine ⟨ss, n, rfl, ok, by omega, fun o => ?_⟩
      try walk_at "dl"
      cases ha : allow ss n with
      | true =>
        refine (if_pos rfl).mpr ⟨?_, ⟨_, rfl⟩, hk _ _ ⟨n + 1, m, _, rfl, by omega, ?_, rfl⟩⟩
        · have := List.length_filter_le (allow ss) (List.range n)
          rw [List.length_range] at this
          rw [List.length_map]
          show _ < 16777216
          omega
        · rw [e1, List.filter_append, List.map_append, List.filter_cons_of_pos ha]; rfl
      | false =>
        refine (if_neg (by decide)).mpr (hk _ _ ⟨n + 1, m, _, rfl, by omega, ?_, rfl⟩)
        rw [e1, List.filter_append, List.filter_cons_of_neg (by rw [ha]; decide)]
        simp
end DL

set_option linter.all false
set_option autoImplicit false
set_option maxRecDepth 100000
namespace DL
local macro_rules | `(tactic| walk_at "dl") => `(tactic| simp -implicitDefEqProofs only [runD, startE, outsE, outs_0, outs_s, List.length_cons, List.length_nil, List.cons_append, List.nil_append, List.replicate, Nat.sub_zero, Nat.add_one_sub_one, Nat.reduceSub, Nat.reduceAdd, dC, dVar_M, dVarM_fz, dVarM_own, dIxN_M, dIxM_fz, dIxM_own, dOpN_M, dOpM_fz, dOpM_own, dFnN_M, dFnM_fz, dFnM_own, dOp, dUn, dArgs, dLst, dTup, dFn, dIsi, dMs, dPart, dSl, dIfE, Slot.known, tVal, tTru, tAnd, tOr, tNot, dAnd, dOr, dNot, dChain, iLst, iTup, iStr, iRng1, iRng2, iEnum, iZip, gN, gNs, gT, gL, Tgt.g, tYes, wipeE, backE, dAVs, zaK, avSlot, AV.ok, Slot.isOwn, bA_nil, bA_v, bA_m, D.isRef, List.all_cons, List.all_nil, List.map_cons, List.map_nil, Bool.and_true, Bool.true_and, List.tail_cons, List.tail_nil, List.head?_cons, sNx, sSeq, sRet, sRetN, sExp, sAsg, sAsgO, sIf, sAug, sFor, sWh, sBrk, sCnt, sRaise, sApp, sAppP, sRetT, dCatT, dMinKT, eqKN, listKF, listSF, sExt, sUpdT, mergeT, dDct0T, dIxKT, repZD, neEmp, iWkT, itmT, keyT, dSrtKT, Slot.ownL, sPut, sPut2, putAt, sPar, sParL, sFld, dFld, dMake, mkC, dMakeV, dCm, dObj, D.isObj, dCallV, dCallS, dEqO, dIsO, dDct0, isBD_bl, notBD_bl, revD_lst, sPar3, sTrys, catchD, DEnds.unname, repF, D.eqTo, at_0, at_s, at_nil, set_0, set_s, fzd, frd, ftd, Slot.noT, dVarM_ownT, hide_ownT, dMakeT, mkCT, D.calm, D.unm, dEqN, dProp, strF, sFldT, sAppF, sFldAugT, kidOf, putL, dMethM, Slot.isObj, if_true, if_false, Bool.not_true, Bool.not_false, true_and, and_true, Bool.false_eq_true, ↓reduceIte, lenF, lenD, allF, anyF, sumF, absF, intF, tupleF, swM, ewM, eqv_int, eqv_str, eqv_bl, D.isTy, Int.cast_ofNat_Int, addD_int, addD_str, addD_lst, fdivWD_int, orKD_dct, dMinK, dSumV, iaddD_int, iaddD_str, subD_int, mulD_int, mulD_str, mulD_lst, fdivD_int, modD_int, powD_int, negD_int, eqD, neD_str, neD_int, ltD_int, leD_int, gtD_int, geD_int, isD, isnD, D.isNon, inDv, ninDv, ixD_lst, ixD_tup, ixD_str, slD_lst, slD_frl, slD_str, dLc, dLook, Slot.calm, tLook, iRngD, iRngB', dNeT, revT_str, dDisp, iZipS, iZipK, minPF_2, sParF, dLenO, dRepO, dVals, putR, sParR, dFmt, dFmtR, fstL, dFst, mulWD_int, imulD_int, countM, lstRg, dLrg1, dLrg2, sRetO_M, retOM_own, retOM_fz, dLookL, dNeN, dLenSet, dSrtSet, sortedF, dTold, dToldB, dToldO, calm_nil, calm_cons, hide_nil, hide_fz, hide_own, hide_no, at_hs, dIsiO, gTG, gGs, gA, gAll, sAsgs, sClr, sAsgN, dFldN, iWk, itmX, valX, keyX, sForN, dDc, dDsp1, dGet, dGetN, sPutK, inKv, kyOf, ownK, dictF, dLitm, dIxK, eqKv, sortedIF, ltSD, dDspT, sPutT, ownKT, dTupK, giveE, R.raw, sAsgK, unpK, unpK1, ninKv, eqKg, catTD, repTD, dSlT, sAppAt, updD, sAppAtK, dPopAtK, tNinSet, Slot.dctT, dLcP, R.dctN, lc2L, dLc2, sAugK, dSrtRev, sRetTK, sortedKIF, splitM, partM, intTF, dStp, dTake, sTryF, dRep, dPopN, sPutFT, dFldP, dIxFT, dSrtFS, sortedLLF, dLc2I, dDcT, dGetNT, dLstKT, sUpdP, runG, gThen, gPlain, gNil, gYield, gYieldR, gIf, gFor, GD.at, sForGen, dLcGen])
/-- what is told -/
def told15 (ex : Bool) (ss : List St2) (p : D) : D := match p with
  | .int i => if inRange p 0 ((ss.length : Int) - 2) = true then
      (if ex = true then (if allow ss i.toNat = true then .lst [.str [116, 111, 108, 100], seqD (swp ss i.toNat)] else .lst [.str [99, 104, 97, 110, 103, 101, 100], .bl true, .int i]) else .lst [.str [116, 111, 108, 100], .bl (allow ss i.toNat)])
    else .lst [.str [112, 111, 115, 105, 116, 105, 111, 110], .bl true, .str p.rep]
  | _ => .lst [.str [112, 111, 115, 105, 116, 105, 111, 110], .bl true, .str p.rep]
/-- _law_told: 0 _law_asked, 1 _law_steps_here, 2 _law_position, 3 e -/
def b__law_told : DS := sTrys ((3, 9, fun y => sRet (dLst [dC (.str [99, 104, 97, 110, 103, 101, 100]), dC (.bl true), dC y.val])) :: (3, 4, fun y => sRet (dLst [dC (.str [112, 111, 115, 105, 116, 105, 111, 110]), dC (.bl true), dFn repF [dC y.val]])) :: []) (sRet (dLst [dC (.str [116, 111, 108, 100]), dCallF 0 [(1002, C_exchange), (1003, zaJ)] [.v (zaC 1), .v (zaC 2)]]))
def C__law_told : Con := fun args Q _ => ∃ (ex : Bool) (ss : List St2) (p : D), args = [.fz (.cls (if ex = true then 1002 else 1003)), .fz (seqD ss), .fz p] ∧ okSeq ss ∧ p.plain ∧ p.repOk 40 = true ∧ p.wt ≤ maxTx ∧ ∀ r outs, r.d = told15 ex ss p → Q r outs
theorem good15 {ex : Bool} {ss : List St2} {i : Nat} (h : i + 1 < ss.length) : told15 ex ss (.int i) = if ex = true then (if allow ss i = true then .lst [.str [116, 111, 108, 100], seqD (swp ss i)] else .lst [.str [99, 104, 97, 110, 103, 101, 100], .bl true, .int i]) else .lst [.str [116, 111, 108, 100], .bl (allow ss i)] := by
  show (if inRange (.int i) 0 ((ss.length : Int) - 2) = true then _ else _) = _
  rw [if_pos (inRange_of h), Int.toNat_natCast]
theorem call15a {as : List DA} {ρ : Env} {Q : R → Env → Prop} {E : EK} (h : ρ.at 0 = .fz (.cls 1002)) (k : zaK C_exchange as ρ Q E) : dCallF 0 [(1002, C_exchange), (1003, zaJ)] as ρ Q E := by
  unfold dCallF
  rw [h]
  exact k
theorem call15b {as : List DA} {ρ : Env} {Q : R → Env → Prop} {E : EK} (h : ρ.at 0 = .fz (.cls 1003)) (k : zaK zaJ as ρ Q E) : dCallF 0 [(1002, C_exchange), (1003, zaJ)] as ρ Q E := by
  unfold dCallF
  rw [h]
  exact k
theorem p__law_told : ∀ args Q E, args.length = 3 → C__law_told args Q E → runD 4 b__law_told args Q E := by
  intro args Q E _ h
  obtain ⟨ex, ss, p, rfl, ok, hp, hr1, hr2, hq⟩ := h
  unfold b__law_told
  try walk_at "dl"
  have noInv : ∀ {v : D} {P : Prop}, firstInv (seqD ss) = .tup [v] → P := fun z => by rw [firstInv_seq ok] at z; cases z
  have bad : inRange p 0 ((ss.length : Int) - 2) = false → told15 ex ss p = .lst [.str [112, 111, 115, 105, 116, 105, 111, 110], .bl true, .str p.rep] := fun h => by
    unfold told15
    split
    · rw [if_neg (by rw [h]; decide)]
    · rfl
  cases ex with
  | true =>
    refine call15a rfl ?_
    try walk_at "dl"
    refine ⟨seqD ss, p, rfl, plainL_seq ss, hp, fun v hv => noInv hv, fun hf => ⟨ss, rfl, ok, fun hr o => ?_, fun i hpi hi => ⟨fun ha o => ?_, fun ha r o hr => ?_⟩⟩⟩
    · refine (if_neg (show ¬ (4 : Nat) = 9 by decide)).mpr ((if_pos rfl).mpr ⟨by decide, .inl ⟨hr1, hr2⟩, by decide, hq _ _ ?_⟩)
      rw [bad hr]; rfl
    · refine (if_pos rfl).mpr ⟨by decide, by decide, hq _ _ ?_⟩
      subst hpi
      rw [good15 hi, if_pos rfl, ha]; rfl
    · refine ⟨by decide, hq _ _ ?_⟩
      subst hpi
      rw [good15 hi, if_pos rfl, ha]; show D.lst [_, r.d] = _; rw [hr]; rfl
  | false =>
    refine call15b rfl ?_
    try walk_at "dl"
    refine ⟨seqD ss, p, rfl, plainL_seq ss, hp, fun v hv => noInv hv, fun hf => ⟨ss, rfl, ok, fun hr o => ?_, fun i hpi hi o => ?_⟩⟩
    · refine (if_neg (show ¬ (4 : Nat) = 9 by decide)).mpr ((if_pos rfl).mpr ⟨by decide, .inl ⟨hr1, hr2⟩, by decide, hq _ _ ?_⟩)
      rw [bad hr]; rfl
    · refine ⟨by decide, hq _ _ ?_⟩
      subst hpi
      rw [good15 hi, if_neg (by decide)]; rfl
theorem seq_use15 {f g : DS} {dd : DEnds} {ρ : Env} {E : EK} (h : f { dd with nx := fun ρ1 => g dd ρ1 E } ρ E) : sSeq f g dd ρ E := h
theorem for_use15 {it : DI} {g : DG} {b : DS} {dd : DEnds} {ρ : Env} {E : EK} (h : it ρ (fun xs ρ1 => forL g b dd E xs ρ1) E) : sFor it g b dd ρ E := h
theorem eqOkL_all : ∀ (n : Nat) (xs : List D), (∀ x ∈ xs, D.eqOk n x = true) → D.eqOkL n xs = true
  | _, [], _ => by rw [D.eqOkL]
  | n, x :: xs, h => by
    rw [D.eqOkL, h x List.mem_cons_self, eqOkL_all n xs fun y hy => h y (List.mem_cons_of_mem _ hy)]
    rfl
/-- the places, as the law lists them -/
theorem partA {dd : DEnds} {E : EK} {ss : List St2} {s0 s1 s2 s3 s5 s6 s7 s8 s9 s10 s11 : Slot} (ok : okSeq ss) (h6 : ∀ d, s6 ≠ .own d) (k : ∀ s6, (∀ d, s6 ≠ .own d) → dd.nx [s0, s1, s2, s3, .fz (seqD ss), s5, s6, s7, s8, s9, s10, s11]) :
    sIf (tVal (dOp neD (dLcGen C_exchanges [.v (zaC 4)]) (dLc [6] (iRng1 (dOp subD (dFn lenF [zaC 4]) (dC (.int 1)))) (Tgt.g (.one 6)) (tVal (zaK zaJ [.v (zaC 4), .v (zaC 6)])) (zaC 6)))) (sRet (dC (.bl false))) (sNx) dd [s0, s1, s2, s3, .fz (seqD ss), s5, s6, s7, s8, s9, s10, s11] E := by
  have hk := ok.1
  try walk_at "dl"
  refine ⟨seqD ss, rfl, plainL_seq ss, (fun v hv => by rw [firstInv_seq ok] at hv; cases hv), fun _ => ⟨ss, rfl, ok, fun o => ?_⟩⟩
  simp only [seqD]
  try walk_at "dl"
  rw [List.length_map]
  refine ⟨⟨by omega, by omega⟩, own1 h6, ?_⟩
  have hN : ((ss.length : Int) - 1).toNat = ss.length - 1 := by omega
  rw [hN]
  refine lcL_inv (I := fun xs acc ρ => ∃ (n m : Nat), xs = rng (n : Int) m ∧ n + m = ss.length - 1 ∧ acc = ((List.range n).filter (allow ss)).map (fun (i : Nat) => D.int i) ∧ ρ = [s0, s1, s2, s3, .fz (.lst (ss.map stepD)), s5, .no, s7, s8, s9, s10, s11])
    (fun acc ρ h => ?_) (fun x xs acc ρ h k1 k2 hk1 hk2 => ?_) _ _ _ ⟨0, ss.length - 1, rfl, by omega, rfl, rfl⟩
  · obtain ⟨n, m, h3, h4, rfl, rfl⟩ := h
    have : m = 0 := by
      have := congrArg List.length h3
      rw [rng_len] at this
      exact this.symm
    have hn : n = ss.length - 1 := by omega
    subst hn
    show neD (.lst (exchL ss)) (.lst (exchL ss)) _
    refine ne_same ?_ ?_
    · rw [D.eqOk]
      exact eqOkL_all _ _ fun x hx => by
        obtain ⟨i, _, rfl⟩ := List.mem_map.mp hx
        rw [D.eqOk]
    try walk_at "dl"
    refine k _ fun d => ?_
    cases s6 with
    | own d => exact absurd rfl (h6 d)
    | _ => intro z; cases z
  · obtain ⟨n, m, h3, h4, rfl, rfl⟩ := h
    cases m with
    | zero => cases h3
    | succ m =>
      rw [rng_succ] at h3
      cases h3
      have e1 : List.range (n + 1) = List.range n ++ [n] := List.range_succ
      try walk_at "dl"
      refine ⟨seqD ss, .int n, rfl, plainL_seq ss, (fun z => nomatch z), (fun v hv => by rw [firstInv_seq ok] at hv; cases hv), fun _ => ⟨ss, rfl, ok, fun hr => ?_, fun i hpi hi o => ?_⟩⟩
      · rw [inRange_of (by omega)] at hr; cases hr
      · have hin : n = i := by injection hpi with e; omega
        subst hin
        try walk_at "dl"
        cases ha : allow ss n with
        | true =>
          refine (if_pos rfl).mpr (hk1 _ _ ⟨?_, n + 1, m, rfl, by omega, ?_, rfl⟩)
          · have := List.length_filter_le (allow ss) (List.range n)
            rw [List.length_range] at this
            rw [List.length_map]
            show _ < 16777216
            omega
          · rw [e1, List.filter_append, List.map_append, List.filter_cons_of_pos ha]; rfl
        | false =>
          refine (if_neg (by decide)).mpr (hk2 _ ⟨n + 1, m, rfl, by omega, ?_, rfl⟩)
          rw [e1, List.filter_append, List.filter_cons_of_neg (by rw [ha]; decide)]
          simp
theorem eff_dec {a b : Eff} : ((((D.tup [.str a.t, .str a.p, .int a.c]).eqv (.tup [.str b.t, .str b.p, .int b.c]))) = decide (a = b)) := by
  rw [Bool.eq_iff_iff, decide_eq_true_eq]
  simp only [D.eqv, D.eqvL, Bool.and_true, Bool.and_eq_true, beq_iff_eq]
  obtain ⟨t, p, c⟩ := a
  obtain ⟨t2, p2, c2⟩ := b
  simp only [Eff.mk.injEq]
  rw [show ((c : Int) = (c2 : Int)) = (c = c2) by rw [Int.natCast_inj]]
/-- one place: the sequence behind it, what the law says -/
theorem bodyB1 {g : DS} {dd : DEnds} {E : EK} {ss : List St2} {i : Nat} {s0 s1 s2 s3 s7 s8 s9 s10 s11 : Slot} (ok : okSeq ss) (hl : ss.length ≤ 30) (hi : i + 1 < ss.length) (k : g dd [s0, s1, s2, s3, .fz (seqD ss), .fz (seqD ss), .fz (.int i), s7, .fz (seqD (swp ss i)), .fz (.bl (allow ss i)), s10, s11] E) :
    sSeq (sAsg (gN 8) (dOp addD (dOp addD (dSl (zaC 4) none (some (zaC 6))) (dLst [dOp ixD (zaC 4) (dOp addD (zaC 6) (dC (.int 1))), dOp ixD (zaC 4) (zaC 6)])) (dSl (zaC 4) (some (dOp addD (zaC 6) (dC (.int 2)))) none))) (sSeq (sAsg (gN 9) (dAnd (dOp neD (dOp ixD (dOp ixD (zaC 4) (zaC 6)) (dC (.int 0))) (dOp ixD (dOp ixD (zaC 4) (dOp addD (zaC 6) (dC (.int 1)))) (dC (.int 0)))) (dOp eqD (zaK C__law_parts [.v (zaC 8)]) (zaK C__law_parts [.v (zaC 4)])))) g) dd [s0, s1, s2, s3, .fz (seqD ss), .fz (seqD ss), .fz (.int i), s7, s8, s9, s10, s11] E := by
  have e2 : ((i : Int) + 1) = ((i + 1 : Nat) : Int) := by omega
  have e3 : ((i : Int) + 2) = ((i + 2 : Nat) : Int) := by omega
  have hx := List.getElem?_eq_getElem (show i < ss.length by omega)
  have hy := List.getElem?_eq_getElem hi
  generalize ss[i] = x at hx
  generalize ss[i + 1] = y at hy
  refine seq_use15 ?_
  simp only [seqD]
  try walk_at "dl"
  refine ⟨i + 1, stepD y, by rw [List.length_map, e2]; exact ixN_nat hi, seq_at hy, i, stepD x, by rw [List.length_map]; exact ixN_nat (by omega), seq_at hx, by decide, ?_⟩
  rw [e3, cut_upto, cut_off]
  have e4 : (ss.map stepD).take i ++ [stepD y, stepD x] ++ (ss.map stepD).drop (i + 2) = (swp ss i).map stepD := by
    rw [swp_eq ss i x y hx hy, List.map_append, List.map_append, List.map_take, List.map_drop]; rfl
  refine ⟨by rw [List.length_take, List.length_map]; show _ ≤ 16777216; omega, by rw [List.length_append, List.length_take, List.length_drop, List.length_map]; simp only [List.length_cons, List.length_nil]; show _ ≤ 16777216; omega, ?_⟩
  rw [e4]
  refine ⟨i, stepD x, by rw [List.length_map]; exact ixN_nat (by omega), seq_at hx, ?_⟩
  unfold stepD
  try walk_at "dl"
  refine ⟨0, x.1, rfl, rfl, i + 1, _, by rw [List.length_map, e2]; exact ixN_nat hi, seq_at hy, ?_⟩
  unfold stepD
  try walk_at "dl"
  refine ⟨0, y.1, rfl, rfl, .inl rfl, ?_⟩
  have e1 : ([x.1] == [y.1]) = (signAt ss i == signAt ss (i + 1)) := by
    rw [signAt_of hx, signAt_of hy]
    simp
  rw [e1]
  unfold allow at k
  cases hs : (signAt ss i == signAt ss (i + 1)) with
  | true =>
    rw [hs] at k
    exact (if_neg (by decide)).mpr k
  | false =>
    rw [hs] at k
    refine (if_pos rfl).mpr ⟨swp ss i, rfl, by rw [swp_len]; omega, fun r outs hr => ⟨ss, rfl, by omega, fun r2 o2 hr2 => ?_⟩⟩
    simp only [hr, hr2]
    refine ⟨.inr ⟨by simp only [D.eqOk, D.eqOkL, Bool.and_true], by simp only [D.eqOk, D.eqOkL, Bool.and_true]⟩, ?_⟩
    have ee : (D.tup [.str (zaD 45 (swp ss i)), .str (zaD 43 (swp ss i)), .int (coreOf (swp ss i))]).eqv (.tup [.str (zaD 45 ss), .str (zaD 43 ss), .int (coreOf ss)]) = decide (effOf (swp ss i) = effOf ss) := eff_dec (a := effOf (swp ss i)) (b := effOf ss)
    rw [ee]
    exact k
theorem can_use {ss : List St2} {i : Nat} {Q : R → List Slot → Prop} {E : Exc → List Slot → Prop} (ok : okSeq ss) (hi : i + 1 < ss.length) (h : ∀ o, Q (.fz (.bl (allow ss i))) o) : zaJ [.fz (seqD ss), .fz (.int i)] Q E :=
  ⟨seqD ss, .int i, rfl, plainL_seq ss, (fun z => nomatch z), (fun v hv => by rw [firstInv_seq ok] at hv; cases hv), fun _ => ⟨ss, rfl, ok, (fun hr => by rw [inRange_of hi] at hr; cases hr), fun j hj _ o => by
    have : i = j := by injection hj with e; omega
    subst this
    exact h o⟩⟩
theorem eqOk_seq15 (n : Nat) (ss : List St2) : D.eqOk (n + 1) (seqD ss) = true := by
  unfold seqD; rw [D.eqOk]
  exact eqOkL_all _ _ fun x hx => by obtain ⟨s, _, rfl⟩ := List.mem_map.mp hx; unfold stepD; rw [D.eqOk]
theorem int_ok15 {i : Nat} (h : i ≤ 1000000) : D.repOk 40 (.int i) = true := by
  show decide _ = true
  refine decide_eq_true ?_
  have : ((i : Int)).natAbs = i := Int.natAbs_natCast i
  rw [this]
  omega
/-- what is asked of one place -/
theorem bodyB2 {dd : DEnds} {E : EK} {ss : List St2} {i : Nat} {s0 s1 s2 s3 s7 s10 s11 : Slot} (ok : okSeq ss) (hi : i + 1 < ss.length) (k : ∀ s10, dd.nx [s0, s1, s2, s3, .fz (seqD ss), .fz (seqD ss), .fz (.int i), s7, .fz (seqD (swp ss i)), .fz (.bl (allow ss i)), s10, s11]) :
    sSeq (sIf (tVal (dOp neD (dFn repF [zaK zaJ [.v (zaC 4), .v (zaC 6)]]) (dFn repF [zaC 9]))) (sRet (dC (.bl false))) (sNx)) (sSeq (sAsg (gN 10) (dIfE (tVal (zaC 9)) (dLst [dC (.str [116, 111, 108, 100]), zaC 8]) (dLst [dC (.str [99, 104, 97, 110, 103, 101, 100]), dC (.bl true), zaC 6]))) (sIf (tOr (tVal (dOp neD (zaK C__law_told [.v (dC (.cls 1002)), .v (zaC 4), .v (zaC 6)]) (zaC 10))) (tVal (dOp neD (zaC 4) (zaC 5)))) (sRet (dC (.bl false))) (sNx))) dd [s0, s1, s2, s3, .fz (seqD ss), .fz (seqD ss), .fz (.int i), s7, .fz (seqD (swp ss i)), .fz (.bl (allow ss i)), s10, s11] E := by
  have fin : ∀ b : Bool, allow ss i = b → sSeq (sIf (tVal (dOp neD (dFn repF [zaK zaJ [.v (zaC 4), .v (zaC 6)]]) (dFn repF [zaC 9]))) (sRet (dC (.bl false))) (sNx)) (sSeq (sAsg (gN 10) (dIfE (tVal (zaC 9)) (dLst [dC (.str [116, 111, 108, 100]), zaC 8]) (dLst [dC (.str [99, 104, 97, 110, 103, 101, 100]), dC (.bl true), zaC 6]))) (sIf (tOr (tVal (dOp neD (zaK C__law_told [.v (dC (.cls 1002)), .v (zaC 4), .v (zaC 6)]) (zaC 10))) (tVal (dOp neD (zaC 4) (zaC 5)))) (sRet (dC (.bl false))) (sNx))) dd [s0, s1, s2, s3, .fz (seqD ss), .fz (seqD ss), .fz (.int i), s7, .fz (seqD (swp ss i)), .fz (.bl b), s10, s11] E := by
    intro b hb
    rw [hb] at k
    cases b with
    | true =>
      try walk_at "dl"
      refine can_use ok hi fun o => ?_
      rw [hb]
      refine ⟨.inl ⟨rfl, by decide⟩, .inl ⟨rfl, by decide⟩, .inl rfl, ?_⟩
      refine (if_neg (show ¬ ((!(_ == _)) = true) by rw [fzd, beq_self_eq_true]; decide)).mpr ⟨by decide, true, ss, .int i, rfl, ok, (fun z => nomatch z), int_ok15 (by have := ok.1; omega), (by show 128 ≤ 16777216; decide), fun r outs hr => ?_⟩
      have he : told15 true ss (.int i) = .lst [.str [116, 111, 108, 100], seqD (swp ss i)] := by rw [good15 hi, if_pos rfl, hb]; rfl
      simp only [hr, he]
      refine ne_same (by simp only [D.eqOk, D.eqOkL, Bool.and_true]; exact eqOk_seq15 _ _) ?_
      try walk_at "dl"
      refine ne_same (eqOk_seq15 _ _) ?_
      try walk_at "dl"
      exact k _
    | false =>
      try walk_at "dl"
      refine can_use ok hi fun o => ?_
      rw [hb]
      refine ⟨.inl ⟨rfl, by decide⟩, .inl ⟨rfl, by decide⟩, .inl rfl, ?_⟩
      refine (if_neg (show ¬ ((!(_ == _)) = true) by rw [fzd, beq_self_eq_true]; decide)).mpr ⟨by decide, true, ss, .int i, rfl, ok, (fun z => nomatch z), int_ok15 (by have := ok.1; omega), (by show 128 ≤ 16777216; decide), fun r outs hr => ?_⟩
      have he : told15 true ss (.int i) = .lst [.str [99, 104, 97, 110, 103, 101, 100], .bl true, .int i] := by rw [good15 hi, if_pos rfl, hb]; rfl
      simp only [hr, he]
      refine ne_same (by simp only [D.eqOk, D.eqOkL, Bool.and_true]) ?_
      try walk_at "dl"
      refine ne_same (eqOk_seq15 _ _) ?_
      try walk_at "dl"
      exact k _
  exact fin _ rfl
theorem partB {dd : DEnds} {E : EK} {ss : List St2} {s0 s1 s2 s3 s6 s7 s8 s9 s10 s11 : Slot} (ok : okSeq ss) (hl : ss.length ≤ 30) (h6 : ∀ d, s6 ≠ .own d) (k : ∀ s6 s8 s9 s10, (∀ d, s6 ≠ .own d) → dd.nx [s0, s1, s2, s3, .fz (seqD ss), .fz (seqD ss), s6, s7, s8, s9, s10, s11]) :
    sFor (iRng1 (dOp subD (dFn lenF [zaC 4]) (dC (.int 1)))) (gN 6) (sSeq (sAsg (gN 8) (dOp addD (dOp addD (dSl (zaC 4) none (some (zaC 6))) (dLst [dOp ixD (zaC 4) (dOp addD (zaC 6) (dC (.int 1))), dOp ixD (zaC 4) (zaC 6)])) (dSl (zaC 4) (some (dOp addD (zaC 6) (dC (.int 2)))) none))) (sSeq (sAsg (gN 9) (dAnd (dOp neD (dOp ixD (dOp ixD (zaC 4) (zaC 6)) (dC (.int 0))) (dOp ixD (dOp ixD (zaC 4) (dOp addD (zaC 6) (dC (.int 1)))) (dC (.int 0)))) (dOp eqD (zaK C__law_parts [.v (zaC 8)]) (zaK C__law_parts [.v (zaC 4)])))) (sSeq (sIf (tVal (dOp neD (dFn repF [zaK zaJ [.v (zaC 4), .v (zaC 6)]]) (dFn repF [zaC 9]))) (sRet (dC (.bl false))) (sNx)) (sSeq (sAsg (gN 10) (dIfE (tVal (zaC 9)) (dLst [dC (.str [116, 111, 108, 100]), zaC 8]) (dLst [dC (.str [99, 104, 97, 110, 103, 101, 100]), dC (.bl true), zaC 6]))) (sIf (tOr (tVal (dOp neD (zaK C__law_told [.v (dC (.cls 1002)), .v (zaC 4), .v (zaC 6)]) (zaC 10))) (tVal (dOp neD (zaC 4) (zaC 5)))) (sRet (dC (.bl false))) (sNx)))))) dd [s0, s1, s2, s3, .fz (seqD ss), .fz (seqD ss), s6, s7, s8, s9, s10, s11] E := by
  refine for_use15 ?_
  try walk_at "dl"
  simp only [seqD]
  try walk_at "dl"
  rw [List.length_map]
  have hk := ok.1
  refine ⟨⟨by omega, by omega⟩, ?_⟩
  have hN : ((ss.length : Int) - 1).toNat = ss.length - 1 := by omega
  rw [hN]
  refine forL_inv (I := fun es ρ => ∃ (n m : Nat) (s6 s8 s9 s10 : Slot), es = rng (n : Int) m ∧ n + m = ss.length - 1 ∧ (∀ d, s6 ≠ .own d) ∧ ρ = [s0, s1, s2, s3, .fz (seqD ss), .fz (seqD ss), s6, s7, s8, s9, s10, s11])
    (fun ρ h => ?_) (fun e es ρ h k2 hk2 => ?_) _ _ ⟨0, ss.length - 1, s6, s8, s9, s10, rfl, by omega, h6, rfl⟩
  · obtain ⟨n, m, s6, s8, s9, s10, _, _, h, rfl⟩ := h
    exact k _ _ _ _ h
  · obtain ⟨n, m, s6, s8, s9, s10, h1, h2, _, rfl⟩ := h
    cases m with
    | zero => cases h1
    | succ m =>
      rw [rng_succ] at h1
      cases h1
      show (sSeq (sAsg (gN 8) (dOp addD (dOp addD (dSl (zaC 4) none (some (zaC 6))) (dLst [dOp ixD (zaC 4) (dOp addD (zaC 6) (dC (.int 1))), dOp ixD (zaC 4) (zaC 6)])) (dSl (zaC 4) (some (dOp addD (zaC 6) (dC (.int 2)))) none))) (sSeq (sAsg (gN 9) (dAnd (dOp neD (dOp ixD (dOp ixD (zaC 4) (zaC 6)) (dC (.int 0))) (dOp ixD (dOp ixD (zaC 4) (dOp addD (zaC 6) (dC (.int 1)))) (dC (.int 0)))) (dOp eqD (zaK C__law_parts [.v (zaC 8)]) (zaK C__law_parts [.v (zaC 4)])))) (sSeq (sIf (tVal (dOp neD (dFn repF [zaK zaJ [.v (zaC 4), .v (zaC 6)]]) (dFn repF [zaC 9]))) (sRet (dC (.bl false))) (sNx)) (sSeq (sAsg (gN 10) (dIfE (tVal (zaC 9)) (dLst [dC (.str [116, 111, 108, 100]), zaC 8]) (dLst [dC (.str [99, 104, 97, 110, 103, 101, 100]), dC (.bl true), zaC 6]))) (sIf (tOr (tVal (dOp neD (zaK C__law_told [.v (dC (.cls 1002)), .v (zaC 4), .v (zaC 6)]) (zaC 10))) (tVal (dOp neD (zaC 4) (zaC 5)))) (sRet (dC (.bl false))) (sNx)))))) { dd with nx := k2, ct := k2, bk := dd.nx } [s0, s1, s2, s3, .fz (seqD ss), .fz (seqD ss), .fz (.int n), s7, s8, s9, s10, s11] E
      exact bodyB1 ok hl (by omega) (bodyB2 ok (by omega) fun s10 => hk2 _ ⟨n + 1, m, _, _, _, _, rfl, by omega, (fun d z => by cases z), rfl⟩)
/-- a value that is no place -/
structure Odd15 (n : Nat) (d : D) : Prop where
  pl : d.plain
  r1 : D.repOk 40 d = true
  r2 : d.wt ≤ maxTx
  eq : D.eqOk 60 d = true
  or : inRange d 0 ((n : Int) - 2) = false
theorem bad15 {ex : Bool} {ss : List St2} {p : D} (h : inRange p 0 ((ss.length : Int) - 2) = false) : told15 ex ss p = .lst [.str [112, 111, 115, 105, 116, 105, 111, 110], .bl true, .str p.rep] := by
  unfold told15
  split
  · rw [if_neg (by rw [h]; decide)]
  · rfl
theorem bodyC {dd : DEnds} {E : EK} {ss : List St2} {d : D} {s0 s1 s2 s3 s5 s6 s8 s9 s10 s11 : Slot} (ok : okSeq ss) (hd : Odd15 ss.length d) (k : ∀ s10 s11, dd.nx [s0, s1, s2, s3, .fz (seqD ss), s5, s6, .fz d, s8, s9, s10, s11]) :
    sSeq (sAsg (gN 10) (dLst [dC (.str [112, 111, 115, 105, 116, 105, 111, 110]), dC (.bl true), dFn repF [zaC 7]])) (sIf (tOr (tVal (dOp neD (zaC 7) (dC (.int 0)))) (tVal (dOp ltD (dFn lenF [zaC 4]) (dC (.int 2))))) (sFor (iLst (dLst [dC (.cls 1003), dC (.cls 1002)])) (gN 11) (sIf (tVal (dOp neD (zaK C__law_told [.v (zaC 11), .v (zaC 4), .v (zaC 7)]) (zaC 10))) (sRet (dC (.bl false))) (sNx))) (sNx)) dd [s0, s1, s2, s3, .fz (seqD ss), s5, s6, .fz d, s8, s9, s10, s11] E := by
  try walk_at "dl"
  refine ⟨.inl ⟨hd.r1, hd.r2⟩, by decide, ?_⟩
  have told : ∀ (ex : Bool) (Q : R → List Slot → Prop) (E : Exc → List Slot → Prop), inRange d 0 ((ss.length : Int) - 2) = false → (∀ r o, r.d = .lst [.str [112, 111, 115, 105, 116, 105, 111, 110], .bl true, .str d.rep] → Q r o) → C__law_told [.fz (.cls (if ex = true then 1002 else 1003)), .fz (seqD ss), .fz d] Q E :=
    fun ex Q E h hq => ⟨ex, ss, d, rfl, ok, hd.pl, hd.r1, hd.r2, fun r o hr => hq r o (by rw [hr, bad15 h])⟩
  have same : D.eqOk 60 (.lst [.str [112, 111, 115, 105, 116, 105, 111, 110], .bl true, .str d.rep]) = true := by simp only [D.eqOk, D.eqOkL, Bool.and_true]
  have loop : ∀ s11, forL (gN 11) (sIf (tVal (dOp neD (zaK C__law_told [DA.v (zaC 11), DA.v (zaC 4), DA.v (zaC 7)]) (zaC 10))) (sRet (dC (D.bl false))) sNx) dd E [D.cls 1003, D.cls 1002] [s0, s1, s2, s3, .fz (seqD ss), s5, s6, .fz d, s8, s9, .fz (.lst [.str [112, 111, 115, 105, 116, 105, 111, 110], .bl true, .str d.rep]), s11] := by
    intro s11
    unfold forL
    try walk_at "dl"
    refine told false _ _ hd.or fun r o hr => ?_
    simp only [hr]
    refine ne_same same ?_
    try walk_at "dl"
    unfold forL
    try walk_at "dl"
    refine told true _ _ hd.or fun r o hr => ?_
    simp only [hr]
    refine ne_same same ?_
    try walk_at "dl"
    unfold forL
    exact k _ _
  refine ⟨.inr ⟨hd.eq, by rw [D.eqOk]⟩, ?_⟩
  cases hb : D.eqv d (.int 0) with
  | false =>
    try walk_at "dl"
    exact ⟨by decide, loop _⟩
  | true =>
    try walk_at "dl"
    simp only [seqD]
    try walk_at "dl"
    split
    · exact ⟨by decide, loop _⟩
    · exact k _ _
theorem iterC {Q : List D → Env → Prop} {E : EK} {n : Nat} {xs : List D} {s0 s1 s2 s3 s5 s6 s7 s8 s9 s10 s11 : Slot} (hl : xs.length = n) (h : Q [D.int (-1), D.int ((n : Int) - 1), D.int n, D.non, D.bl true, D.str [48], D.lst [D.int 0], D.int (10 ^ Int.toNat 20)] [s0, s1, s2, s3, .fz (.lst xs), s5, s6, s7, s8, s9, s10, s11]) :
    iLst (dLst [dUn negD (dC (.int 1)), dOp subD (dFn lenF [zaC 4]) (dC (.int 1)), dFn lenF [zaC 4], dC .non, dC (.bl true), dC (.str [48]), dLst [dC (.int 0)], dOp powD (dC (.int 10)) (dC (.int 20))]) [s0, s1, s2, s3, .fz (.lst xs), s5, s6, s7, s8, s9, s10, s11] Q E := by
  try walk_at "dl"
  rw [hl]
  exact ⟨by decide, ⟨by decide, by decide, by decide⟩, by decide, h⟩
theorem partC {dd : DEnds} {E : EK} {ss : List St2} {s0 s1 s2 s3 s5 s6 s7 s8 s9 s10 s11 : Slot} (ok : okSeq ss) (k : ∀ s7 s10 s11, dd.nx [s0, s1, s2, s3, .fz (seqD ss), s5, s6, s7, s8, s9, s10, s11]) :
    sFor (iLst (dLst [dUn negD (dC (.int 1)), dOp subD (dFn lenF [zaC 4]) (dC (.int 1)), dFn lenF [zaC 4], dC .non, dC (.bl true), dC (.str [48]), dLst [dC (.int 0)], dOp powD (dC (.int 10)) (dC (.int 20))])) (gN 7) (sSeq (sAsg (gN 10) (dLst [dC (.str [112, 111, 115, 105, 116, 105, 111, 110]), dC (.bl true), dFn repF [zaC 7]])) (sIf (tOr (tVal (dOp neD (zaC 7) (dC (.int 0)))) (tVal (dOp ltD (dFn lenF [zaC 4]) (dC (.int 2))))) (sFor (iLst (dLst [dC (.cls 1003), dC (.cls 1002)])) (gN 11) (sIf (tVal (dOp neD (zaK C__law_told [.v (zaC 11), .v (zaC 4), .v (zaC 7)]) (zaC 10))) (sRet (dC (.bl false))) (sNx))) (sNx))) dd [s0, s1, s2, s3, .fz (seqD ss), s5, s6, s7, s8, s9, s10, s11] E := by
  refine for_use15 ?_
  have hk := ok.1
  refine iterC (n := ss.length) (by rw [List.length_map]) ?_
  have hp : (10 : Int) ^ Int.toNat 20 = 100000000000000000000 := rfl
  rw [hp]
  have odd : ∀ d ∈ [D.int (-1), D.int ((ss.length : Int) - 1), D.int ss.length, D.non, D.bl true, D.str [48], D.lst [D.int 0], D.int 100000000000000000000], Odd15 ss.length d := by
    intro d hd
    simp only [List.mem_cons, List.not_mem_nil, or_false] at hd
    have ii : ∀ z : Int, z.natAbs < 10 ^ 120 → ¬ (0 ≤ z ∧ z ≤ (ss.length : Int) - 2) → Odd15 ss.length (.int z) := fun z h1 h2 => ⟨(fun e => nomatch e), decide_eq_true h1, (by show 128 ≤ 16777216; decide), (by rw [D.eqOk]), by
      show (decide (0 ≤ z) && decide (z ≤ (ss.length : Int) - 2)) = false
      rw [Bool.and_eq_false_iff, decide_eq_false_iff_not, decide_eq_false_iff_not]
      omega⟩
    rcases hd with rfl | rfl | rfl | rfl | rfl | rfl | rfl | rfl
    · exact ii _ (by decide) (by omega)
    · exact ii _ (by omega) (by omega)
    · exact ii _ (by omega) (by omega)
    · exact ⟨(fun e => nomatch e), rfl, by decide, by rw [D.eqOk], rfl⟩
    · exact ⟨(fun e => nomatch e), rfl, by decide, by rw [D.eqOk], rfl⟩
    · exact ⟨(fun e => nomatch e), by decide, by decide, by rw [D.eqOk], rfl⟩
    · exact ⟨(fun e => nomatch e), by decide, by decide, by simp only [D.eqOk, D.eqOkL, Bool.and_true], rfl⟩
    · exact ii _ (by decide) (by omega)
  generalize [D.int (-1), D.int ((ss.length : Int) - 1), D.int ss.length, D.non, D.bl true, D.str [48], D.lst [D.int 0], D.int 100000000000000000000] = l at odd
  refine forL_inv (I := fun es ρ => ∃ (s7 s10 s11 : Slot), (∀ d ∈ es, Odd15 ss.length d) ∧ ρ = [s0, s1, s2, s3, .fz (seqD ss), s5, s6, s7, s8, s9, s10, s11])
    (fun ρ h => ?_) (fun e es ρ h k2 hk2 => ?_) _ _ ⟨s7, s10, s11, odd, rfl⟩
  · obtain ⟨s7, s10, s11, _, rfl⟩ := h
    exact k _ _ _
  · obtain ⟨s7, s10, s11, h, rfl⟩ := h
    show (sSeq (sAsg (gN 10) (dLst [dC (.str [112, 111, 115, 105, 116, 105, 111, 110]), dC (.bl true), dFn repF [zaC 7]])) (sIf (tOr (tVal (dOp neD (zaC 7) (dC (.int 0)))) (tVal (dOp ltD (dFn lenF [zaC 4]) (dC (.int 2))))) (sFor (iLst (dLst [dC (.cls 1003), dC (.cls 1002)])) (gN 11) (sIf (tVal (dOp neD (zaK C__law_told [.v (zaC 11), .v (zaC 4), .v (zaC 7)]) (zaC 10))) (sRet (dC (.bl false))) (sNx))) (sNx))) { dd with nx := k2, ct := k2, bk := dd.nx } [s0, s1, s2, s3, .fz (seqD ss), s5, s6, .fz e, s8, s9, s10, s11] E
    exact bodyC ok (h e List.mem_cons_self) fun s10 s11 => hk2 _ ⟨_, _, _, fun d hd => h d (List.mem_cons_of_mem _ hd), rfl⟩
theorem asg15 {dd : DEnds} {E : EK} {ss : List St2} {s0 s1 s2 s3 s5 s6 s7 s8 s9 s10 s11 : Slot} (h : dd.nx [s0, s1, s2, s3, .fz (seqD ss), .fz (seqD ss), s6, s7, s8, s9, s10, s11]) : sAsg (gN 5) (dFn listF [zaC 4]) dd [s0, s1, s2, s3, .fz (seqD ss), s5, s6, s7, s8, s9, s10, s11] E := by
  simp only [seqD]
  try walk_at "dl"
  simp only [listF, frd]
  exact h
theorem inner15 {dd : DEnds} {E : EK} {ss : List St2} {s0 s1 s2 s3 s5 s6 s7 s8 s9 s10 s11 : Slot} (ok : okSeq ss) (hl : ss.length ≤ 30) (h6 : ∀ d, s6 ≠ .own d) (k : ∀ s5 s6 s7 s8 s9 s10 s11, (∀ d, s6 ≠ .own d) → dd.nx [s0, s1, s2, s3, .fz (seqD ss), s5, s6, s7, s8, s9, s10, s11]) :
    sSeq (sAsg (gN 5) (dFn listF [zaC 4])) (sSeq (sIf (tVal (dOp neD (dLcGen C_exchanges [.v (zaC 4)]) (dLc [6] (iRng1 (dOp subD (dFn lenF [zaC 4]) (dC (.int 1)))) (Tgt.g (.one 6)) (tVal (zaK zaJ [.v (zaC 4), .v (zaC 6)])) (zaC 6)))) (sRet (dC (.bl false))) (sNx)) (sSeq (sFor (iRng1 (dOp subD (dFn lenF [zaC 4]) (dC (.int 1)))) (gN 6) (sSeq (sAsg (gN 8) (dOp addD (dOp addD (dSl (zaC 4) none (some (zaC 6))) (dLst [dOp ixD (zaC 4) (dOp addD (zaC 6) (dC (.int 1))), dOp ixD (zaC 4) (zaC 6)])) (dSl (zaC 4) (some (dOp addD (zaC 6) (dC (.int 2)))) none))) (sSeq (sAsg (gN 9) (dAnd (dOp neD (dOp ixD (dOp ixD (zaC 4) (zaC 6)) (dC (.int 0))) (dOp ixD (dOp ixD (zaC 4) (dOp addD (zaC 6) (dC (.int 1)))) (dC (.int 0)))) (dOp eqD (zaK C__law_parts [.v (zaC 8)]) (zaK C__law_parts [.v (zaC 4)])))) (sSeq (sIf (tVal (dOp neD (dFn repF [zaK zaJ [.v (zaC 4), .v (zaC 6)]]) (dFn repF [zaC 9]))) (sRet (dC (.bl false))) (sNx)) (sSeq (sAsg (gN 10) (dIfE (tVal (zaC 9)) (dLst [dC (.str [116, 111, 108, 100]), zaC 8]) (dLst [dC (.str [99, 104, 97, 110, 103, 101, 100]), dC (.bl true), zaC 6]))) (sIf (tOr (tVal (dOp neD (zaK C__law_told [.v (dC (.cls 1002)), .v (zaC 4), .v (zaC 6)]) (zaC 10))) (tVal (dOp neD (zaC 4) (zaC 5)))) (sRet (dC (.bl false))) (sNx))))))) (sFor (iLst (dLst [dUn negD (dC (.int 1)), dOp subD (dFn lenF [zaC 4]) (dC (.int 1)), dFn lenF [zaC 4], dC .non, dC (.bl true), dC (.str [48]), dLst [dC (.int 0)], dOp powD (dC (.int 10)) (dC (.int 20))])) (gN 7) (sSeq (sAsg (gN 10) (dLst [dC (.str [112, 111, 115, 105, 116, 105, 111, 110]), dC (.bl true), dFn repF [zaC 7]])) (sIf (tOr (tVal (dOp neD (zaC 7) (dC (.int 0)))) (tVal (dOp ltD (dFn lenF [zaC 4]) (dC (.int 2))))) (sFor (iLst (dLst [dC (.cls 1003), dC (.cls 1002)])) (gN 11) (sIf (tVal (dOp neD (zaK C__law_told [.v (zaC 11), .v (zaC 4), .v (zaC 7)]) (zaC 10))) (sRet (dC (.bl false))) (sNx))) (sNx)))))) dd [s0, s1, s2, s3, .fz (seqD ss), s5, s6, s7, s8, s9, s10, s11] E := by
  exact seq_use15 (asg15 (seq_use15 (partA ok h6 fun s6 h6 => seq_use15 (partB ok hl h6 fun s6 s8 s9 s10 h6 => partC ok fun s7 s10 s11 => k _ _ _ _ _ _ _ h6))))
theorem loop15 {dd : DEnds} {E : EK} {s0 s1 s2 s3 : Slot} (k : ∀ s4 s5 s6 s7 s8 s9 s10 s11, (∀ d, s6 ≠ .own d) → dd.nx [s0, s1, s2, s3, s4, s5, s6, s7, s8, s9, s10, s11]) : ∀ (l : List (List St2)) (s4 s5 s6 s7 s8 s9 s10 s11 : Slot), (∀ z ∈ l, okSeq z ∧ z.length ≤ 30) → (∀ d, s6 ≠ .own d) →
    forL (gN 4) (sSeq (sAsg (gN 5) (dFn listF [zaC 4])) (sSeq (sIf (tVal (dOp neD (dLcGen C_exchanges [.v (zaC 4)]) (dLc [6] (iRng1 (dOp subD (dFn lenF [zaC 4]) (dC (.int 1)))) (Tgt.g (.one 6)) (tVal (zaK zaJ [.v (zaC 4), .v (zaC 6)])) (zaC 6)))) (sRet (dC (.bl false))) (sNx)) (sSeq (sFor (iRng1 (dOp subD (dFn lenF [zaC 4]) (dC (.int 1)))) (gN 6) (sSeq (sAsg (gN 8) (dOp addD (dOp addD (dSl (zaC 4) none (some (zaC 6))) (dLst [dOp ixD (zaC 4) (dOp addD (zaC 6) (dC (.int 1))), dOp ixD (zaC 4) (zaC 6)])) (dSl (zaC 4) (some (dOp addD (zaC 6) (dC (.int 2)))) none))) (sSeq (sAsg (gN 9) (dAnd (dOp neD (dOp ixD (dOp ixD (zaC 4) (zaC 6)) (dC (.int 0))) (dOp ixD (dOp ixD (zaC 4) (dOp addD (zaC 6) (dC (.int 1)))) (dC (.int 0)))) (dOp eqD (zaK C__law_parts [.v (zaC 8)]) (zaK C__law_parts [.v (zaC 4)])))) (sSeq (sIf (tVal (dOp neD (dFn repF [zaK zaJ [.v (zaC 4), .v (zaC 6)]]) (dFn repF [zaC 9]))) (sRet (dC (.bl false))) (sNx)) (sSeq (sAsg (gN 10) (dIfE (tVal (zaC 9)) (dLst [dC (.str [116, 111, 108, 100]), zaC 8]) (dLst [dC (.str [99, 104, 97, 110, 103, 101, 100]), dC (.bl true), zaC 6]))) (sIf (tOr (tVal (dOp neD (zaK C__law_told [.v (dC (.cls 1002)), .v (zaC 4), .v (zaC 6)]) (zaC 10))) (tVal (dOp neD (zaC 4) (zaC 5)))) (sRet (dC (.bl false))) (sNx))))))) (sFor (iLst (dLst [dUn negD (dC (.int 1)), dOp subD (dFn lenF [zaC 4]) (dC (.int 1)), dFn lenF [zaC 4], dC .non, dC (.bl true), dC (.str [48]), dLst [dC (.int 0)], dOp powD (dC (.int 10)) (dC (.int 20))])) (gN 7) (sSeq (sAsg (gN 10) (dLst [dC (.str [112, 111, 115, 105, 116, 105, 111, 110]), dC (.bl true), dFn repF [zaC 7]])) (sIf (tOr (tVal (dOp neD (zaC 7) (dC (.int 0)))) (tVal (dOp ltD (dFn lenF [zaC 4]) (dC (.int 2))))) (sFor (iLst (dLst [dC (.cls 1003), dC (.cls 1002)])) (gN 11) (sIf (tVal (dOp neD (zaK C__law_told [.v (zaC 11), .v (zaC 4), .v (zaC 7)]) (zaC 10))) (sRet (dC (.bl false))) (sNx))) (sNx))))))) dd E (l.map seqD) [s0, s1, s2, s3, s4, s5, s6, s7, s8, s9, s10, s11]
  | [], s4, s5, s6, s7, s8, s9, s10, s11, _, h6 => k _ _ _ _ _ _ _ _ h6
  | z :: l, s4, s5, s6, s7, s8, s9, s10, s11, h, h6 => inner15 (dd := { dd with nx := _, ct := _, bk := _ }) (h z List.mem_cons_self).1 (h z List.mem_cons_self).2 h6 fun s5 s6 s7 s8 s9 s10 s11 h6 => loop15 k l _ s5 s6 s7 s8 s9 s10 s11 (fun y hy => h y (List.mem_cons_of_mem _ hy)) h6
/-- law: 0 _law_script, 1 _law_k, 2 _law_pool, 3 _law_letters_here, 4 _law_steps_here, 5 _law_kept, 6 _law_at, 7 _law_odd, 8 _law_later, 9 _law_right, 10 _law_due, 11 _law_asked -/
def b_law : DS := sSeq (sFor (iRng1 (dFn maxF [dC (.int 2), dFn minF [dFn lenF [zaC 0], dC (.int 16)]])) (gN 1) (sSeq (sAsgO 2 (zaK C__law_hand [.v (zaC 0), .v (zaC 1)])) (sSeq (sAsg (gN 3) (zaK C__law_letters [.m 2])) (sFor (iLst (dLst [zaK C__law_steps [.m 2, .v (zaC 3), .v (dC (.int 10))], dOp ixD (zaK C__law_near [.m 2, .v (zaC 3), .v (dC (.int 4))]) (dC (.int 1))])) (gN 4) (sSeq (sAsg (gN 5) (dFn listF [zaC 4])) (sSeq (sIf (tVal (dOp neD (dLcGen C_exchanges [.v (zaC 4)]) (dLc [6] (iRng1 (dOp subD (dFn lenF [zaC 4]) (dC (.int 1)))) (Tgt.g (.one 6)) (tVal (zaK zaJ [.v (zaC 4), .v (zaC 6)])) (zaC 6)))) (sRet (dC (.bl false))) (sNx)) (sSeq (sFor (iRng1 (dOp subD (dFn lenF [zaC 4]) (dC (.int 1)))) (gN 6) (sSeq (sAsg (gN 8) (dOp addD (dOp addD (dSl (zaC 4) none (some (zaC 6))) (dLst [dOp ixD (zaC 4) (dOp addD (zaC 6) (dC (.int 1))), dOp ixD (zaC 4) (zaC 6)])) (dSl (zaC 4) (some (dOp addD (zaC 6) (dC (.int 2)))) none))) (sSeq (sAsg (gN 9) (dAnd (dOp neD (dOp ixD (dOp ixD (zaC 4) (zaC 6)) (dC (.int 0))) (dOp ixD (dOp ixD (zaC 4) (dOp addD (zaC 6) (dC (.int 1)))) (dC (.int 0)))) (dOp eqD (zaK C__law_parts [.v (zaC 8)]) (zaK C__law_parts [.v (zaC 4)])))) (sSeq (sIf (tVal (dOp neD (dFn repF [zaK zaJ [.v (zaC 4), .v (zaC 6)]]) (dFn repF [zaC 9]))) (sRet (dC (.bl false))) (sNx)) (sSeq (sAsg (gN 10) (dIfE (tVal (zaC 9)) (dLst [dC (.str [116, 111, 108, 100]), zaC 8]) (dLst [dC (.str [99, 104, 97, 110, 103, 101, 100]), dC (.bl true), zaC 6]))) (sIf (tOr (tVal (dOp neD (zaK C__law_told [.v (dC (.cls 1002)), .v (zaC 4), .v (zaC 6)]) (zaC 10))) (tVal (dOp neD (zaC 4) (zaC 5)))) (sRet (dC (.bl false))) (sNx))))))) (sFor (iLst (dLst [dUn negD (dC (.int 1)), dOp subD (dFn lenF [zaC 4]) (dC (.int 1)), dFn lenF [zaC 4], dC .non, dC (.bl true), dC (.str [48]), dLst [dC (.int 0)], dOp powD (dC (.int 10)) (dC (.int 20))])) (gN 7) (sSeq (sAsg (gN 10) (dLst [dC (.str [112, 111, 115, 105, 116, 105, 111, 110]), dC (.bl true), dFn repF [zaC 7]])) (sIf (tOr (tVal (dOp neD (zaC 7) (dC (.int 0)))) (tVal (dOp ltD (dFn lenF [zaC 4]) (dC (.int 2))))) (sFor (iLst (dLst [dC (.cls 1003), dC (.cls 1002)])) (gN 11) (sIf (tVal (dOp neD (zaK C__law_told [.v (zaC 11), .v (zaC 4), .v (zaC 7)]) (zaC 10))) (sRet (dC (.bl false))) (sNx))) (sNx))))))))))) (sRet (dC (.bl true)))
theorem p_law : ∀ args Q E, args.length = 1 → lawConP args Q E → runD 12 b_law args Q E := by
  intro args Q E _ h
  obtain ⟨ns, hl, rfl, hq⟩ := h
  unfold b_law
  try walk_at "dl"
  rw [minF2]
  try walk_at "dl"
  rw [maxF2]
  simp only [List.length_map]
  refine ⟨⟨by omega, by omega⟩, ?_⟩
  have hn : (max (2 : Int) (min (ns.length : Int) 16)).toNat ≤ 63 := by omega
  generalize (max (2 : Int) (min (ns.length : Int) 16)).toNat = N at hn
  refine forL_inv (I := fun es ρ => ∃ (j m : Nat) (s1 s2 s3 s4 s5 s6 s7 s8 s9 s10 s11 : Slot), es = rng (j : Int) m ∧ j + m ≤ 63 ∧ (∀ d, s6 ≠ .own d) ∧ ρ = [.fz (.frl (ns.map .int)), s1, s2, s3, s4, s5, s6, s7, s8, s9, s10, s11])
    (fun ρ h => ?_) (fun e es ρ h k hk => ?_) _ _ ⟨0, N, .no, .no, .no, .no, .no, .no, .no, .no, .no, .no, .no, rfl, by omega, (fun d z => by cases z), rfl⟩
  · obtain ⟨j, m, s1, s2, s3, s4, s5, s6, s7, s8, s9, s10, s11, h1, h2, _, rfl⟩ := h
    exact hq _
  · obtain ⟨j, m, s1, s2, s3, s4, s5, s6, s7, s8, s9, s10, s11, h1, h2, h6, rfl⟩ := h
    cases m with
    | zero => cases h1
    | succ m =>
      rw [rng_succ] at h1
      cases h1
      try walk_at "dl"
      refine ⟨ns, j, rfl, hl, by omega, fun a b hb0 hb1 outs => ?_⟩
      try walk_at "dl"
      refine ⟨_, rfl, ⟨a, b, rfl, hb0, hb1⟩, fun ls p1 hls hp1 => ?_⟩
      obtain ⟨a1, b1, rfl, h10, h11⟩ := hp1
      try walk_at "dl"
      refine ⟨_, ls, 10, rfl, ⟨a1, b1, rfl, h10, h11⟩, hls, by decide, fun x0 r1 p2 o1 o2 hs1 hk1 _ hp2 hr1 => ?_⟩
      obtain ⟨a2, b2, rfl, h20, h21⟩ := hp2
      simp only [hr1]
      try walk_at "dl"
      refine ⟨_, ls, 4, rfl, ⟨a2, b2, rfl, h20, h21⟩, hls, by decide, fun x y x1 r2 p3 o3 o4 _ _ _ _ _ hs2 hk2 hp3 hr2 => ?_⟩
      simp only [hr2]
      try walk_at "dl"
      refine ⟨1, seqD x1, rfl, rfl, by decide, ?_⟩
      refine loop15 (fun s4 s5 s6 s7 s8 s9 s10 s11 h6 => hk _ ⟨j + 1, m, _, _, _, _, _, _, _, _, _, _, _, rfl, by omega, h6, rfl⟩) [x0, x1] _ _ _ _ _ _ _ _ (fun z hz => ?_) h6
      simp only [List.mem_cons, List.not_mem_nil, or_false] at hz
      rcases hz with rfl | rfl
      · exact ⟨⟨by omega, hk1⟩, by omega⟩
      · exact ⟨⟨by omega, hk2⟩, by omega⟩
end DL

set_option Elab.async false
set_option linter.all false
set_option autoImplicit false
set_option maxRecDepth 100000
set_option maxHeartbeats 4000000
/-! the walk of law_k15_exchanges; printed by gen.py -/
namespace Wk15
open PySem PySem.Spec PyProof.Rows L2 DL
def sat (i : Nat) : Stmt := PySem.Challenge.pw_queueeffect_k15_exchanges.main.body.getD i (.Pass ⟨0, 0, 0, 0⟩)
abbrev s__law_hand : Stmt := sat 32
abbrev s__law_draw : Stmt := sat 33
abbrev s__law_letters : Stmt := sat 37
abbrev s__law_steps : Stmt := sat 34
abbrev s__law_word : Stmt := sat 38
abbrev s__law_near : Stmt := sat 39
abbrev s_is_step : Stmt := sat 12
abbrev s_first_invalid : Stmt := sat 13
abbrev s_check_sequence : Stmt := sat 14
abbrev s_Effect_takes : Stmt := inClass (sat 21) 5
abbrev s_Effect_puts : Stmt := inClass (sat 21) 6
abbrev s_Effect_core : Stmt := inClass (sat 21) 7
abbrev s_parts_of : Stmt := sat 22
abbrev s_Effect___eq__ : Stmt := inClass (sat 21) 11
abbrev s_chosen : Stmt := sat 17
abbrev s_is_word : Stmt := sat 11
abbrev s_is_integer : Stmt := sat 9
abbrev s_in_range : Stmt := sat 10
abbrev s_is_suitable : Stmt := sat 19
abbrev s_Effect_is_valid : Stmt := inClass (sat 21) 2
abbrev s_Effect___init__ : Stmt := inClass (sat 21) 1
abbrev s_least_suitable : Stmt := sat 20
abbrev s_depths : Stmt := sat 18
abbrev s_Effect_of : Stmt := inClass (sat 21) 4
abbrev s_effect_of : Stmt := sat 23
abbrev s_swapped : Stmt := sat 25
abbrev s_is_allowed : Stmt := sat 26
abbrev s_exchanges : Stmt := sat 30
abbrev s_check_position : Stmt := sat 27
abbrev s_can_exchange : Stmt := sat 28
abbrev s__law_fit : Stmt := sat 35
abbrev s__law_parts : Stmt := sat 36
abbrev s_exchange : Stmt := sat 29
abbrev s__law_told : Stmt := sat 40
abbrev s_law : Stmt := sat 41
abbrev ci_Effect (a : Addr) : CI := ⟨a, ["own_takes", "own_puts", "own_core"]⟩
abbrev N__law_hand : List Str := ["_law_script", "_law_k", "_law_cell", "_law_seed"]
theorem sc__law_hand : FnScope ["_law_script", "_law_k", "_law_cell", "_law_seed"] ["_law_script", "_law_k"] (defScope s__law_hand) := ⟨rfl, rfl, rfl, by decide +kernel, rfl, by decide +kernel, by decide +kernel⟩
abbrev N__law_draw : List Str := ["_law_pool", "_law_size", "_law_found"]
theorem sc__law_draw : FnScope ["_law_pool", "_law_size", "_law_found"] ["_law_pool", "_law_size"] (defScope s__law_draw) := ⟨rfl, rfl, rfl, by decide +kernel, rfl, by decide +kernel, by decide +kernel⟩
abbrev N__law_letters : List Str := ["_law_pool"]
theorem sc__law_letters : FnScope ["_law_pool"] ["_law_pool"] (defScope s__law_letters) := ⟨rfl, rfl, rfl, by decide +kernel, rfl, by decide +kernel, by decide +kernel⟩
abbrev N__law_steps : List Str := ["_law_pool", "_law_letters_here", "_law_most", "_law_size", "_law_turn"]
theorem sc__law_steps : FnScope ["_law_pool", "_law_letters_here", "_law_most", "_law_size", "_law_turn"] ["_law_pool", "_law_letters_here", "_law_most"] (defScope s__law_steps) := ⟨rfl, rfl, rfl, by decide +kernel, rfl, by decide +kernel, by decide +kernel⟩
abbrev N__law_word : List Str := ["_law_pool", "_law_letters_here", "_law_most", "_law_turn"]
theorem sc__law_word : FnScope ["_law_pool", "_law_letters_here", "_law_most", "_law_turn"] ["_law_pool", "_law_letters_here", "_law_most"] (defScope s__law_word) := ⟨rfl, rfl, rfl, by decide +kernel, rfl, by decide +kernel, by decide +kernel⟩
abbrev N__law_near : List Str := ["_law_pool", "_law_letters_here", "_law_most", "_law_shorter", "_law_queue", "_law_steps_here", "_law_turn", "_law_item"]
theorem sc__law_near : FnScope ["_law_pool", "_law_letters_here", "_law_most", "_law_shorter", "_law_queue", "_law_steps_here", "_law_turn", "_law_item"] ["_law_pool", "_law_letters_here", "_law_most"] (defScope s__law_near) := ⟨rfl, rfl, rfl, by decide +kernel, rfl, by decide +kernel, by decide +kernel⟩
abbrev N_is_step : List Str := ["value"]
theorem sc_is_step : FnScope ["value"] ["value"] (defScope s_is_step) := ⟨rfl, rfl, rfl, by decide +kernel, rfl, by decide +kernel, by decide +kernel⟩
abbrev N_first_invalid : List Str := ["value", "position", "step"]
theorem sc_first_invalid : FnScope ["value", "position", "step"] ["value"] (defScope s_first_invalid) := ⟨rfl, rfl, rfl, by decide +kernel, rfl, by decide +kernel, by decide +kernel⟩
abbrev N_check_sequence : List Str := ["steps", "problem"]
theorem sc_check_sequence : FnScope ["steps", "problem"] ["steps"] (defScope s_check_sequence) := ⟨rfl, rfl, rfl, by decide +kernel, rfl, by decide +kernel, by decide +kernel⟩
abbrev N_Effect_takes : List Str := ["self"]
theorem sc_Effect_takes : FnScope ["self"] ["self"] (defScope s_Effect_takes) := ⟨rfl, rfl, rfl, by decide +kernel, rfl, by decide +kernel, by decide +kernel⟩
abbrev N_Effect_puts : List Str := ["self"]
theorem sc_Effect_puts : FnScope ["self"] ["self"] (defScope s_Effect_puts) := ⟨rfl, rfl, rfl, by decide +kernel, rfl, by decide +kernel, by decide +kernel⟩
abbrev N_Effect_core : List Str := ["self"]
theorem sc_Effect_core : FnScope ["self"] ["self"] (defScope s_Effect_core) := ⟨rfl, rfl, rfl, by decide +kernel, rfl, by decide +kernel, by decide +kernel⟩
abbrev N_parts_of : List Str := ["effect"]
theorem sc_parts_of : FnScope ["effect"] ["effect"] (defScope s_parts_of) := ⟨rfl, rfl, rfl, by decide +kernel, rfl, by decide +kernel, by decide +kernel⟩
abbrev N_Effect___eq__ : List Str := ["self", "other"]
theorem sc_Effect___eq__ : FnScope ["self", "other"] ["self", "other"] (defScope s_Effect___eq__) := ⟨rfl, rfl, rfl, by decide +kernel, rfl, by decide +kernel, by decide +kernel⟩
abbrev N_chosen : List Str := ["steps", "sign", "step"]
theorem sc_chosen : FnScope ["steps", "sign", "step"] ["steps", "sign"] (defScope s_chosen) := ⟨rfl, rfl, rfl, by decide +kernel, rfl, by decide +kernel, by decide +kernel⟩
abbrev N_is_word : List Str := ["value", "most", "item"]
theorem sc_is_word : FnScope ["value", "most", "item"] ["value", "most"] (defScope s_is_word) := ⟨rfl, rfl, rfl, by decide +kernel, rfl, by decide +kernel, by decide +kernel⟩
abbrev N_is_integer : List Str := ["value"]
theorem sc_is_integer : FnScope ["value"] ["value"] (defScope s_is_integer) := ⟨rfl, rfl, rfl, by decide +kernel, rfl, by decide +kernel, by decide +kernel⟩
abbrev N_in_range : List Str := ["value", "least", "most"]
theorem sc_in_range : FnScope ["value", "least", "most"] ["value", "least", "most"] (defScope s_in_range) := ⟨rfl, rfl, rfl, by decide +kernel, rfl, by decide +kernel, by decide +kernel⟩
abbrev N_is_suitable : List Str := ["takes", "puts", "number"]
theorem sc_is_suitable : FnScope ["takes", "puts", "number"] ["takes", "puts", "number"] (defScope s_is_suitable) := ⟨rfl, rfl, rfl, by decide +kernel, rfl, by decide +kernel, by decide +kernel⟩
abbrev N_Effect_is_valid : List Str := ["takes", "puts", "core"]
theorem sc_Effect_is_valid : FnScope ["takes", "puts", "core"] ["takes", "puts", "core"] (defScope s_Effect_is_valid) := ⟨rfl, rfl, rfl, by decide +kernel, rfl, by decide +kernel, by decide +kernel⟩
abbrev N_Effect___init__ : List Str := ["self", "takes", "puts", "core"]
theorem sc_Effect___init__ : FnScope ["self", "takes", "puts", "core"] ["self", "takes", "puts", "core"] (defScope s_Effect___init__) := ⟨rfl, rfl, rfl, by decide +kernel, rfl, by decide +kernel, by decide +kernel⟩
abbrev N_least_suitable : List Str := ["takes", "puts", "least", "number"]
theorem sc_least_suitable : FnScope ["takes", "puts", "least", "number"] ["takes", "puts", "least"] (defScope s_least_suitable) := ⟨rfl, rfl, rfl, by decide +kernel, rfl, by decide +kernel, by decide +kernel⟩
abbrev N_depths : List Str := ["steps", "found", "depth", "step"]
theorem sc_depths : FnScope ["steps", "found", "depth", "step"] ["steps"] (defScope s_depths) := ⟨rfl, rfl, rfl, by decide +kernel, rfl, by decide +kernel, by decide +kernel⟩
abbrev N_Effect_of : List Str := ["cls", "steps", "takes", "puts"]
theorem sc_Effect_of : FnScope ["cls", "steps", "takes", "puts"] ["cls", "steps"] (defScope s_Effect_of) := ⟨rfl, rfl, rfl, by decide +kernel, rfl, by decide +kernel, by decide +kernel⟩
abbrev N_effect_of : List Str := ["steps"]
theorem sc_effect_of : FnScope ["steps"] ["steps"] (defScope s_effect_of) := ⟨rfl, rfl, rfl, by decide +kernel, rfl, by decide +kernel, by decide +kernel⟩
abbrev N_swapped : List Str := ["steps", "position"]
theorem sc_swapped : FnScope ["steps", "position"] ["steps", "position"] (defScope s_swapped) := ⟨rfl, rfl, rfl, by decide +kernel, rfl, by decide +kernel, by decide +kernel⟩
abbrev N_is_allowed : List Str := ["steps", "position"]
theorem sc_is_allowed : FnScope ["steps", "position"] ["steps", "position"] (defScope s_is_allowed) := ⟨rfl, rfl, rfl, by decide +kernel, rfl, by decide +kernel, by decide +kernel⟩
abbrev N_exchanges : List Str := ["steps", "position"]
theorem sc_exchanges : GScope ["steps", "position"] ["steps"] (defScope s_exchanges) := ⟨rfl, rfl, rfl, by decide +kernel, rfl, by decide +kernel, by decide +kernel⟩
abbrev N_check_position : List Str := ["steps", "position"]
theorem sc_check_position : FnScope ["steps", "position"] ["steps", "position"] (defScope s_check_position) := ⟨rfl, rfl, rfl, by decide +kernel, rfl, by decide +kernel, by decide +kernel⟩
abbrev N_can_exchange : List Str := ["steps", "position"]
theorem sc_can_exchange : FnScope ["steps", "position"] ["steps", "position"] (defScope s_can_exchange) := ⟨rfl, rfl, rfl, by decide +kernel, rfl, by decide +kernel, by decide +kernel⟩
abbrev N__law_fit : List Str := ["_law_takes", "_law_puts", "_law_number"]
theorem sc__law_fit : FnScope ["_law_takes", "_law_puts", "_law_number"] ["_law_takes", "_law_puts", "_law_number"] (defScope s__law_fit) := ⟨rfl, rfl, rfl, by decide +kernel, rfl, by decide +kernel, by decide +kernel⟩
abbrev N__law_parts : List Str := ["_law_steps_here", "_law_takes", "_law_step", "_law_puts", "_law_core", "_law_depth", "_law_number"]
theorem sc__law_parts : FnScope ["_law_steps_here", "_law_takes", "_law_step", "_law_puts", "_law_core", "_law_depth", "_law_number"] ["_law_steps_here"] (defScope s__law_parts) := ⟨rfl, rfl, rfl, by decide +kernel, rfl, by decide +kernel, by decide +kernel⟩
abbrev N_exchange : List Str := ["steps", "position"]
theorem sc_exchange : FnScope ["steps", "position"] ["steps", "position"] (defScope s_exchange) := ⟨rfl, rfl, rfl, by decide +kernel, rfl, by decide +kernel, by decide +kernel⟩
abbrev N__law_told : List Str := ["_law_asked", "_law_steps_here", "_law_position", "e"]
theorem sc__law_told : FnScope ["_law_asked", "_law_steps_here", "_law_position", "e"] ["_law_asked", "_law_steps_here", "_law_position"] (defScope s__law_told) := ⟨rfl, rfl, rfl, by decide +kernel, rfl, by decide +kernel, by decide +kernel⟩
abbrev N_law : List Str := ["_law_script", "_law_k", "_law_pool", "_law_letters_here", "_law_steps_here", "_law_kept", "_law_at", "_law_odd", "_law_later", "_law_right", "_law_due", "_law_asked"]
theorem sc_law : FnScope ["_law_script", "_law_k", "_law_pool", "_law_letters_here", "_law_steps_here", "_law_kept", "_law_at", "_law_odd", "_law_later", "_law_right", "_law_due", "_law_asked"] ["_law_script"] (defScope s_law) := ⟨rfl, rfl, rfl, by decide +kernel, rfl, by decide +kernel, by decide +kernel⟩
structure Zs (K : PySem.W.Frag) (mg : Str → Option Value) (a_Effect : Addr) : Prop where
  one : True
  z_int : mg "int" = none
  z_range : mg "range" = none
  z_len : mg "len" = none
  z_isinstance : mg "isinstance" = none
  z_str : mg "str" = none
  z_list : mg "list" = none
  z_enumerate : mg "enumerate" = none
  z_all : mg "all" = none
  z_bool : mg "bool" = none
  z_max : mg "max" = none
  z_ValueError : mg "ValueError" = none
  z_repr : mg "repr" = none
  z_RuntimeError : mg "RuntimeError" = none
  z_min : mg "min" = none
  c_ITEMS : ∃ tk, mg "ITEMS" = some (.str (tx [97, 98, 99, 100, 101, 102, 103, 104]) tk)
  c_MAX_STEPS : ∃ tk, mg "MAX_STEPS" = some (.int 400 tk)
  c_MAX_ITEMS_effects : ∃ tk, mg "MAX_ITEMS_effects" = some (.int 2000 tk)
  n_Effect_own_takes : NoAttr K a_Effect "own_takes"
  n_Effect_own_puts : NoAttr K a_Effect "own_puts"
  n_Effect_own_core : NoAttr K a_Effect "own_core"
section
variable {P : Program} {w : World} {K : PySem.W.Frag} {mg : Str → Option Value} {base : Heap} {T : Tb} {fa : Addr} {fd : FuncData} {a_Effect : Addr}
theorem d__law_hand (FF : Fun K "_law_hand" "_law_hand" s__law_hand fa fd) (Z : Zs K mg a_Effect) : Def P w K mg base T 2 fa fd ["_law_script", "_law_k"] [] C__law_hand :=
  fnD (k := 1) FF sc__law_hand rfl (fun cdv hcd A outer s H E B W hr tk po hB => zaF (pds_set (i := 2) sc__law_hand.nd rfl (by first | exact Or.inl rfl | exact Or.inr rfl) (by decide) (pd_ix (pd_op op_addA ok_add (pd_sl (zaA (i := 0) rfl (by first | exact Or.inl rfl | exact Or.inr (Or.inl rfl) | exact Or.inr (Or.inr rfl))) (pdo_some (zaA (i := 1) rfl (by first | exact Or.inl rfl | exact Or.inr (Or.inl rfl) | exact Or.inr (Or.inr rfl)))) (pdo_some (pd_op op_addA ok_add (zaA (i := 1) rfl (by first | exact Or.inl rfl | exact Or.inr (Or.inl rfl) | exact Or.inr (Or.inr rfl))) (zaH)))) (pd_lst (zaB (zaH) (zaE)))) (zaH))) (zaF (pds_set (i := 3) sc__law_hand.nd rfl (by first | exact Or.inl rfl | exact Or.inr rfl) (by decide) (pd_op op_mod ok_mod (pd_op op_mulA ok_mul (pd_op op_addA ok_add (pd_op op_addA ok_add (pd_op op_mod ok_mod (zaA (i := 2) rfl (by first | exact Or.inl rfl | exact Or.inr (Or.inl rfl) | exact Or.inr (Or.inr rfl))) (zaH)) (pd_op op_mulA ok_mul (zaH) (zaA (i := 1) rfl (by first | exact Or.inl rfl | exact Or.inr (Or.inl rfl) | exact Or.inr (Or.inr rfl))))) (zaH)) (zaH)) (zaH))) (zaG (pds_ret (pd_lst (zaB (pd_op op_mulA ok_mul (pd_callTy ok_int call_int1 rfl Z.z_int (by rfl) (zaB (pd_cmp op_ge ok_ge (zaA (i := 2) rfl (by first | exact Or.inl rfl | exact Or.inr (Or.inl rfl) | exact Or.inr (Or.inr rfl))) (pd_op op_pow ok_pow (zaH) (zaH)) (nomark _)) (zaE))) (zaA (i := 2) rfl (by first | exact Or.inl rfl | exact Or.inr (Or.inl rfl) | exact Or.inr (Or.inr rfl)))) (zaB (zaA (i := 3) rfl (by first | exact Or.inl rfl | exact Or.inr (Or.inl rfl) | exact Or.inr (Or.inr rfl))) (zaE)))))))) p__law_hand
theorem d__law_draw (FF : Fun K "_law_draw" "_law_draw" s__law_draw fa fd) (Z : Zs K mg a_Effect) : Def P w K mg base T 2 fa fd ["_law_pool", "_law_size"] [0] C__law_draw :=
  fnD (k := 1) FF sc__law_draw rfl (fun cdv hcd A outer s H E B W hr tk po hB => zaF (pds_if (pdt_cmp op_gt ok_gt (pd_ixN (i := 0) rfl (by first | exact Or.inl rfl | exact Or.inr (Or.inl rfl) | exact Or.inr (Or.inr rfl)) (zaH)) (zaH) (nomark _)) (zaF (pds_set (i := 2) sc__law_draw.nd rfl (by first | exact Or.inl rfl | exact Or.inr rfl) (by decide) (pd_op op_mod ok_mod (pd_ixN (i := 0) rfl (by first | exact Or.inl rfl | exact Or.inr (Or.inl rfl) | exact Or.inr (Or.inr rfl)) (zaH)) (zaA (i := 1) rfl (by first | exact Or.inl rfl | exact Or.inr (Or.inl rfl) | exact Or.inr (Or.inr rfl))))) (zaF (pds_put (i := 0) rfl (by first | exact Or.inl rfl | exact Or.inr (Or.inl rfl) | exact Or.inr (Or.inr rfl)) (pd_op op_fdivW ok_fdiv (pd_ixN (i := 0) rfl (by first | exact Or.inl rfl | exact Or.inr (Or.inl rfl) | exact Or.inr (Or.inr rfl)) (zaH)) (zaA (i := 1) rfl (by first | exact Or.inl rfl | exact Or.inr (Or.inl rfl) | exact Or.inr (Or.inr rfl)))) (zaH)) (zaG (pds_ret (zaA (i := 2) rfl (by first | exact Or.inl rfl | exact Or.inr (Or.inl rfl) | exact Or.inr (Or.inr rfl))))))) (pds_nil)) (zaF (pds_put (i := 0) rfl (by first | exact Or.inl rfl | exact Or.inr (Or.inl rfl) | exact Or.inr (Or.inr rfl)) (pd_op op_mod ok_mod (pd_op op_addA ok_add (pd_op op_mulA ok_mul (pd_ixN (i := 0) rfl (by first | exact Or.inl rfl | exact Or.inr (Or.inl rfl) | exact Or.inr (Or.inr rfl)) (zaH)) (zaH)) (zaH)) (zaH)) (zaH)) (zaG (pds_ret (pd_op op_mod ok_mod (pd_op op_fdivW ok_fdiv (pd_op op_mod ok_mod (pd_op op_mulA ok_mul (pd_ixN (i := 0) rfl (by first | exact Or.inl rfl | exact Or.inr (Or.inl rfl) | exact Or.inr (Or.inr rfl)) (zaH)) (pd_ixN (i := 0) rfl (by first | exact Or.inl rfl | exact Or.inr (Or.inl rfl) | exact Or.inr (Or.inr rfl)) (zaH))) (zaH)) (zaH)) (zaA (i := 1) rfl (by first | exact Or.inl rfl | exact Or.inr (Or.inl rfl) | exact Or.inr (Or.inr rfl)))))))) p__law_draw
theorem d__law_letters (FF : Fun K "_law_letters" "_law_letters" s__law_letters fa fd) (Z : Zs K mg a_Effect) (g__law_draw : Cal P w K mg base T "_law_draw" 2 ["_law_pool", "_law_size"] [0] C__law_draw) : Def P w K mg base T 3 fa fd ["_law_pool"] [0] C__law_letters :=
  fnD (k := 2) FF sc__law_letters rfl (fun cdv hcd A outer s H E B W hr tk po hB => zaG (pds_ret (pd_ix (pd_lst (zaB (pd_str (l := [97, 98]) rfl (by decide)) (zaB (pd_str (l := [97, 98]) rfl (by decide)) (zaB (pd_str (l := [97]) rfl (by decide)) (zaB (pd_str (l := [97, 98, 99]) rfl (by decide)) (zaB (pd_str (l := [104, 103]) rfl (by decide)) (zaB (pd_str (l := [97, 98, 99, 100, 101, 102, 103, 104]) rfl (by decide)) (zaE)))))))) (zaI g__law_draw (hr.mono (by decide)) tk rfl (pav_m (i := 0) rfl (by first | exact Or.inl rfl | exact Or.inr (Or.inl rfl) | exact Or.inr (Or.inr rfl)) (pav_v (zaH) (zaL))))))) p__law_letters
theorem d__law_steps (FF : Fun K "_law_steps" "_law_steps" s__law_steps fa fd) (Z : Zs K mg a_Effect) (g__law_draw : Cal P w K mg base T "_law_draw" 2 ["_law_pool", "_law_size"] [0] C__law_draw) : Def P w K mg base T 3 fa fd ["_law_pool", "_law_letters_here", "_law_most"] [0] C__law_steps :=
  fnD (k := 2) FF sc__law_steps rfl (fun cdv hcd A outer s H E B W hr tk po hB => zaF (pds_set (i := 3) sc__law_steps.nd rfl (by first | exact Or.inl rfl | exact Or.inr rfl) (by decide) (zaI g__law_draw (hr.mono (by decide)) tk rfl (pav_m (i := 0) rfl (by first | exact Or.inl rfl | exact Or.inr (Or.inl rfl) | exact Or.inr (Or.inr rfl)) (pav_v (pd_op op_addA ok_add (zaA (i := 2) rfl (by first | exact Or.inl rfl | exact Or.inr (Or.inl rfl) | exact Or.inr (Or.inr rfl))) (zaH)) (zaL))))) (zaG (pds_ret (pd_lc (t := .one 4) (own := [("_law_turn", 4)]) rfl sc__law_steps.nd (pdi_rng1 rfl Z.z_range (zaA (i := 3) rfl (by first | exact Or.inl rfl | exact Or.inr (Or.inl rfl) | exact Or.inr (Or.inr rfl)))) (blkOk_by (N := N__law_steps) (sc := defScope s__law_steps) (by decide +kernel)) rfl rfl (fun _ _ _ _ _ => pgh_one (i := 4) sc__law_steps.nd rfl (by first | exact Or.inl rfl | exact Or.inr rfl)) (fun _ _ _ _ _ _ => pdts_nil) (fun _ _ _ _ _ _ => pd_op op_addA ok_add (pd_ix (pd_str (l := [43, 45]) rfl (by decide)) (zaI g__law_draw (hr.mono (by decide)) takes_no rfl (pav_m (i := 0) rfl (by first | exact Or.inl rfl | exact Or.inr (Or.inl rfl) | exact Or.inr (Or.inr rfl)) (pav_v (zaH) (zaL))))) (pd_ix (zaA (i := 1) rfl (by first | exact Or.inl rfl | exact Or.inr (Or.inl rfl) | exact Or.inr (Or.inr rfl))) (zaI g__law_draw (hr.mono (by decide)) takes_no rfl (pav_m (i := 0) rfl (by first | exact Or.inl rfl | exact Or.inr (Or.inl rfl) | exact Or.inr (Or.inr rfl)) (pav_v (pd_callB ok_len call_lenA rfl Z.z_len (by rfl) (zaB (zaA (i := 1) rfl (by first | exact Or.inl rfl | exact Or.inr (Or.inl rfl) | exact Or.inr (Or.inr rfl))) (zaE))) (zaL)))))))))) p__law_steps
theorem d__law_word (FF : Fun K "_law_word" "_law_word" s__law_word fa fd) (Z : Zs K mg a_Effect) (g__law_draw : Cal P w K mg base T "_law_draw" 2 ["_law_pool", "_law_size"] [0] C__law_draw) : Def P w K mg base T 3 fa fd ["_law_pool", "_law_letters_here", "_law_most"] [0] C__law_word :=
  fnD (k := 2) FF sc__law_word rfl (fun cdv hcd A outer s H E B W hr tk po hB => zaG (pds_ret (pd_ms ok_join F.slot_str_join F.type_str_join mt_join (pd_str (l := []) rfl (by decide)) (zaB (pd_lc (t := .one 3) (own := [("_law_turn", 3)]) rfl sc__law_word.nd (pdi_rng1 rfl Z.z_range (zaI g__law_draw (hr.mono (by decide)) tk rfl (pav_m (i := 0) rfl (by first | exact Or.inl rfl | exact Or.inr (Or.inl rfl) | exact Or.inr (Or.inr rfl)) (pav_v (pd_op op_addA ok_add (zaA (i := 2) rfl (by first | exact Or.inl rfl | exact Or.inr (Or.inl rfl) | exact Or.inr (Or.inr rfl))) (zaH)) (zaL))))) (blkOk_by (N := N__law_word) (sc := defScope s__law_word) (by decide +kernel)) rfl rfl (fun _ _ _ _ _ => pgh_one (i := 3) sc__law_word.nd rfl (by first | exact Or.inl rfl | exact Or.inr rfl)) (fun _ _ _ _ _ _ => pdts_nil) (fun _ _ _ _ _ _ => pd_ix (zaA (i := 1) rfl (by first | exact Or.inl rfl | exact Or.inr (Or.inl rfl) | exact Or.inr (Or.inr rfl))) (zaI g__law_draw (hr.mono (by decide)) takes_no rfl (pav_m (i := 0) rfl (by first | exact Or.inl rfl | exact Or.inr (Or.inl rfl) | exact Or.inr (Or.inr rfl)) (pav_v (pd_callB ok_len call_lenA rfl Z.z_len (by rfl) (zaB (zaA (i := 1) rfl (by first | exact Or.inl rfl | exact Or.inr (Or.inl rfl) | exact Or.inr (Or.inr rfl))) (zaE))) (zaL)))))) (zaE))))) p__law_word
theorem d__law_near (FF : Fun K "_law_near" "_law_near" s__law_near fa fd) (Z : Zs K mg a_Effect) (g__law_word : Cal P w K mg base T "_law_word" 3 ["_law_pool", "_law_letters_here", "_law_most"] [0] C__law_word) (g__law_draw : Cal P w K mg base T "_law_draw" 2 ["_law_pool", "_law_size"] [0] C__law_draw) : Def P w K mg base T 4 fa fd ["_law_pool", "_law_letters_here", "_law_most"] [0] C__law_near :=
  fnD (k := 3) FF sc__law_near rfl (fun cdv hcd A outer s H E B W hr tk po hB => zaF (pds_set (i := 3) sc__law_near.nd rfl (by first | exact Or.inl rfl | exact Or.inr rfl) (by decide) (zaI g__law_word (hr.mono (by decide)) tk rfl (pav_m (i := 0) rfl (by first | exact Or.inl rfl | exact Or.inr (Or.inl rfl) | exact Or.inr (Or.inr rfl)) (pav_v (zaA (i := 1) rfl (by first | exact Or.inl rfl | exact Or.inr (Or.inl rfl) | exact Or.inr (Or.inr rfl))) (pav_v (zaA (i := 2) rfl (by first | exact Or.inl rfl | exact Or.inr (Or.inl rfl) | exact Or.inr (Or.inr rfl))) (zaL)))))) (zaF (pds_parL (i := 4) (j := 5) rfl sc__law_near.nd rfl rfl (by decide) (by decide) (by decide) rfl rfl (zaA (i := 3) rfl (by first | exact Or.inl rfl | exact Or.inr (Or.inl rfl) | exact Or.inr (Or.inr rfl)))) (zaF (pds_for po rfl (pdi_rng1 rfl Z.z_range (zaI g__law_draw (hr.mono (by decide)) tk rfl (pav_m (i := 0) rfl (by first | exact Or.inl rfl | exact Or.inr (Or.inl rfl) | exact Or.inr (Or.inr rfl)) (pav_v (pd_op op_addA ok_add (pd_op op_mulA ok_mul (zaH) (zaA (i := 2) rfl (by first | exact Or.inl rfl | exact Or.inr (Or.inl rfl) | exact Or.inr (Or.inr rfl)))) (zaH)) (zaL))))) (pdg_name (i := 6) sc__law_near.nd rfl (by first | exact Or.inl rfl | exact Or.inr rfl) (by decide)) (zaG (pds_if (pdt_w (pdw_and (pdt_cmp (op_neA hr.units) ok_ne (zaA (i := 4) rfl (by first | exact Or.inl rfl | exact Or.inr (Or.inl rfl) | exact Or.inr (Or.inr rfl))) (pd_str (l := []) rfl (by decide)) (nomark _)) (pdw_and1 (pdt_cmp (op_eqA hr.units) ok_eq (zaI g__law_draw (hr.mono (by decide)) tk rfl (pav_m (i := 0) rfl (by first | exact Or.inl rfl | exact Or.inr (Or.inl rfl) | exact Or.inr (Or.inr rfl)) (pav_v (zaH) (zaL)))) (zaH) (nomark _))))) (zaF (pds_app (i := 5) rfl (by first | exact Or.inl rfl | exact Or.inr (Or.inl rfl) | exact Or.inr (Or.inr rfl)) (pd_op op_addA ok_add (pd_str (l := [45]) rfl (by decide)) (pd_ix (zaA (i := 4) rfl (by first | exact Or.inl rfl | exact Or.inr (Or.inl rfl) | exact Or.inr (Or.inr rfl))) (zaH)))) (zaG (pds_set (i := 4) sc__law_near.nd rfl (by first | exact Or.inl rfl | exact Or.inr rfl) (by decide) (pd_sl (zaA (i := 4) rfl (by first | exact Or.inl rfl | exact Or.inr (Or.inl rfl) | exact Or.inr (Or.inr rfl))) (pdo_some (zaH)) pdo_none)))) (zaF (pds_set (i := 7) sc__law_near.nd rfl (by first | exact Or.inl rfl | exact Or.inr rfl) (by decide) (pd_ix (zaA (i := 1) rfl (by first | exact Or.inl rfl | exact Or.inr (Or.inl rfl) | exact Or.inr (Or.inr rfl))) (zaI g__law_draw (hr.mono (by decide)) tk rfl (pav_m (i := 0) rfl (by first | exact Or.inl rfl | exact Or.inr (Or.inl rfl) | exact Or.inr (Or.inr rfl)) (pav_v (pd_callB ok_len call_lenA rfl Z.z_len (by rfl) (zaB (zaA (i := 1) rfl (by first | exact Or.inl rfl | exact Or.inr (Or.inl rfl) | exact Or.inr (Or.inr rfl))) (zaE))) (zaL)))))) (zaF (pds_app (i := 5) rfl (by first | exact Or.inl rfl | exact Or.inr (Or.inl rfl) | exact Or.inr (Or.inr rfl)) (pd_op op_addA ok_add (pd_str (l := [43]) rfl (by decide)) (zaA (i := 7) rfl (by first | exact Or.inl rfl | exact Or.inr (Or.inl rfl) | exact Or.inr (Or.inr rfl))))) (zaG (pds_set (i := 4) sc__law_near.nd rfl (by first | exact Or.inl rfl | exact Or.inr rfl) (by decide) (pd_op op_addA ok_add (zaA (i := 4) rfl (by first | exact Or.inl rfl | exact Or.inr (Or.inl rfl) | exact Or.inr (Or.inr rfl))) (zaA (i := 7) rfl (by first | exact Or.inl rfl | exact Or.inr (Or.inl rfl) | exact Or.inr (Or.inr rfl))))))))))) (zaG (pds_ret (pd_tup (zaB (zaA (i := 3) rfl (by first | exact Or.inl rfl | exact Or.inr (Or.inl rfl) | exact Or.inr (Or.inr rfl))) (zaB (zaA (i := 5) rfl (by first | exact Or.inl rfl | exact Or.inr (Or.inl rfl) | exact Or.inr (Or.inr rfl))) (zaB (zaA (i := 4) rfl (by first | exact Or.inl rfl | exact Or.inr (Or.inl rfl) | exact Or.inr (Or.inr rfl))) (zaE)))))))))) p__law_near
theorem d_is_step (FF : Fun K "is_step" "is_step" s_is_step fa fd) (Z : Zs K mg a_Effect) : Def P w K mg base T 2 fa fd ["value"] [] C_is_step :=
  fnD (k := 1) FF sc_is_step rfl (fun cdv hcd A outer s H E B W hr tk po hB => zaG (pds_ret (pd_and (pd_isi (t := .str) (by rfl) rfl Z.z_isinstance rfl Z.z_str (zaA (i := 0) rfl (by first | exact Or.inl rfl | exact Or.inr (Or.inl rfl) | exact Or.inr (Or.inr rfl)))) (pd_and (pd_cmp (op_eqA hr.units) ok_eq (pd_callB ok_len call_lenA rfl Z.z_len (by rfl) (zaB (zaA (i := 0) rfl (by first | exact Or.inl rfl | exact Or.inr (Or.inl rfl) | exact Or.inr (Or.inr rfl))) (zaE))) (zaH) (nomark _)) (pd_and (pd_cmp op_inA ok_in (pd_ix (zaA (i := 0) rfl (by first | exact Or.inl rfl | exact Or.inr (Or.inl rfl) | exact Or.inr (Or.inr rfl))) (zaH)) (pd_str (l := [43, 45]) rfl (by decide)) (by rfl)) (pd_one (pd_cmp op_inA ok_in (pd_ix (zaA (i := 0) rfl (by first | exact Or.inl rfl | exact Or.inr (Or.inl rfl) | exact Or.inr (Or.inr rfl))) (zaH)) (pd_strG rfl Z.c_ITEMS (by decide)) (by rfl)))))))) p_is_step
theorem d_first_invalid (FF : Fun K "first_invalid" "first_invalid" s_first_invalid fa fd) (Z : Zs K mg a_Effect) (g_is_step : Cal P w K mg base T "is_step" 2 ["value"] [] C_is_step) : Def P w K mg base T 3 fa fd ["value"] [] C_first_invalid :=
  fnD (k := 2) FF sc_first_invalid rfl (fun cdv hcd A outer s H E B W hr tk po hB => zaF (pds_if (pdt_w (pdw_or (pdt_not (pdt_val (pd_isi (t := .list) (by rfl) rfl Z.z_isinstance rfl Z.z_list (zaA (i := 0) rfl (by first | exact Or.inl rfl | exact Or.inr (Or.inl rfl) | exact Or.inr (Or.inr rfl)))))) (pdw_or1 (pdt_cmp op_gt ok_gt (pd_callB ok_len call_lenA rfl Z.z_len (by rfl) (zaB (zaA (i := 0) rfl (by first | exact Or.inl rfl | exact Or.inr (Or.inl rfl) | exact Or.inr (Or.inr rfl))) (zaE))) (pd_intG rfl Z.c_MAX_STEPS) (nomark _))))) (zaG (pds_ret (pd_tup (zaB (pd_non) (zaE))))) (pds_nil)) (zaF (pds_for po rfl (pdi_enum rfl Z.z_enumerate (zaA (i := 0) rfl (by first | exact Or.inl rfl | exact Or.inr (Or.inl rfl) | exact Or.inr (Or.inr rfl)))) (pdg_tup rfl (pdgs_cons (i := 1) sc_first_invalid.nd rfl (by first | exact Or.inl rfl | exact Or.inr rfl) (by decide) (pdgs_cons (i := 2) sc_first_invalid.nd rfl (by first | exact Or.inl rfl | exact Or.inr rfl) (by decide) (pdgs_nil)))) (zaG (pds_if (pdt_not (pdt_val (zaI g_is_step (hr.mono (by decide)) tk rfl (pav_v (zaA (i := 2) rfl (by first | exact Or.inl rfl | exact Or.inr (Or.inl rfl) | exact Or.inr (Or.inr rfl))) (zaL))))) (zaG (pds_ret (pd_tup (zaB (zaA (i := 1) rfl (by first | exact Or.inl rfl | exact Or.inr (Or.inl rfl) | exact Or.inr (Or.inr rfl))) (zaE))))) (pds_nil)))) (zaG (pds_ret (pd_non))))) p_first_invalid
theorem d_check_sequence (FF : Fun K "check_sequence" "check_sequence" s_check_sequence fa fd) (Z : Zs K mg a_Effect) (X_InvalidSequence : ErrX K mg T "InvalidSequence" 1) (g_first_invalid : Cal P w K mg base T "first_invalid" 3 ["value"] [] C_first_invalid) : Def P w K mg base T 4 fa fd ["steps"] [] C_check_sequence :=
  fnD (k := 3) FF sc_check_sequence rfl (fun cdv hcd A outer s H E B W hr tk po hB => zaF (pds_set (i := 1) sc_check_sequence.nd rfl (by first | exact Or.inl rfl | exact Or.inr rfl) (by decide) (zaI g_first_invalid (hr.mono (by decide)) tk rfl (pav_v (zaA (i := 0) rfl (by first | exact Or.inl rfl | exact Or.inr (Or.inl rfl) | exact Or.inr (Or.inr rfl))) (zaL)))) (zaG (pds_if (pdt_isnN (zaA (i := 1) rfl (by first | exact Or.inl rfl | exact Or.inr (Or.inl rfl) | exact Or.inr (Or.inr rfl)))) (zaG (pds_raiseC (k := 1) X_InvalidSequence rfl tk (hr.mono (by decide)) (pd_ix (zaA (i := 1) rfl (by first | exact Or.inl rfl | exact Or.inr (Or.inl rfl) | exact Or.inr (Or.inr rfl))) (zaH)) rfl)) (pds_nil)))) p_check_sequence
theorem d_parts_of (FF : Fun K "parts_of" "parts_of" s_parts_of fa fd) (Z : Zs K mg a_Effect) (O_Effect : Own K mg T "Effect" 0 (ci_Effect a_Effect)) (g_Effect_takes : CalP P w K mg base a_Effect "takes" "own_takes" 1) (g_Effect_puts : CalP P w K mg base a_Effect "puts" "own_puts" 1) (g_Effect_core : CalP P w K mg base a_Effect "core" "own_core" 1) : Def P w K mg base T 3 fa fd ["effect"] [] C_parts_of :=
  fnD (k := 2) FF sc_parts_of rfl (fun cdv hcd A outer s H E B W hr tk po hB => zaG (pds_ret (pd_tup (zaB (pd_propC (j := 0) O_Effect.cl g_Effect_takes rfl (hr.mono (by decide)) (zaA (i := 0) rfl (by first | exact Or.inl rfl | exact Or.inr (Or.inl rfl) | exact Or.inr (Or.inr rfl)))) (zaB (pd_propC (j := 1) O_Effect.cl g_Effect_puts rfl (hr.mono (by decide)) (zaA (i := 0) rfl (by first | exact Or.inl rfl | exact Or.inr (Or.inl rfl) | exact Or.inr (Or.inr rfl)))) (zaB (pd_propC (j := 2) O_Effect.cl g_Effect_core rfl (hr.mono (by decide)) (zaA (i := 0) rfl (by first | exact Or.inl rfl | exact Or.inr (Or.inl rfl) | exact Or.inr (Or.inr rfl)))) (zaE))))))) p_parts_of
theorem d_Effect___eq__ (FF : Fun K "__eq__" "Effect.__eq__" s_Effect___eq__ fa fd) (Z : Zs K mg a_Effect) (O_Effect : Own K mg T "Effect" 0 (ci_Effect a_Effect)) (kit_Effect : KitC K a_Effect) (kx_Effect : KitX K T 0 a_Effect) (g_parts_of : Cal P w K mg base T "parts_of" 3 ["effect"] [] C_parts_of) : Def P w K mg base T 4 fa fd ["self", "other"] [] C_Effect___eq__ :=
  fnD (k := 3) FF sc_Effect___eq__ rfl (fun cdv hcd A outer s H E B W hr tk po hB => zaF (pds_if (pdt_not (pdt_val (pd_isO O_Effect kit_Effect kx_Effect rfl Z.z_isinstance rfl (zaA (i := 1) rfl (by first | exact Or.inl rfl | exact Or.inr (Or.inl rfl) | exact Or.inr (Or.inr rfl)))))) (zaG (pds_ret (pd_bl))) (pds_nil)) (zaG (pds_ret (pd_cmp (op_eqA hr.units) ok_eq (zaI g_parts_of (hr.mono (by decide)) tk rfl (pav_v (zaA (i := 0) rfl (by first | exact Or.inl rfl | exact Or.inr (Or.inl rfl) | exact Or.inr (Or.inr rfl))) (zaL))) (zaI g_parts_of (hr.mono (by decide)) tk rfl (pav_v (zaA (i := 1) rfl (by first | exact Or.inl rfl | exact Or.inr (Or.inl rfl) | exact Or.inr (Or.inr rfl))) (zaL))) (nomark _))))) p_Effect___eq__
theorem d_chosen (FF : Fun K "chosen" "chosen" s_chosen fa fd) (Z : Zs K mg a_Effect) : Def P w K mg base T 2 fa fd ["steps", "sign"] [] C_chosen :=
  fnD (k := 1) FF sc_chosen rfl (fun cdv hcd A outer s H E B W hr tk po hB => zaG (pds_ret (pd_ms ok_join F.slot_str_join F.type_str_join mt_join (pd_str (l := []) rfl (by decide)) (zaB (pd_lc (t := .one 2) (own := [("step", 2)]) rfl sc_chosen.nd (pdi_lst (zaA (i := 0) rfl (by first | exact Or.inl rfl | exact Or.inr (Or.inl rfl) | exact Or.inr (Or.inr rfl)))) (blkOk_by (N := N_chosen) (sc := defScope s_chosen) (by decide +kernel)) rfl rfl (fun _ _ _ _ _ => pgh_one (i := 2) sc_chosen.nd rfl (by first | exact Or.inl rfl | exact Or.inr rfl)) (fun _ _ _ _ _ _ => pdts_one (pdt_cmp (op_eqA hr.units) ok_eq (pd_ix (zaA (i := 2) rfl (by first | exact Or.inl rfl | exact Or.inr (Or.inl rfl) | exact Or.inr (Or.inr rfl))) (zaH)) (zaA (i := 1) rfl (by first | exact Or.inl rfl | exact Or.inr (Or.inl rfl) | exact Or.inr (Or.inr rfl))) (nomark _))) (fun _ _ _ _ _ _ => pd_ix (zaA (i := 2) rfl (by first | exact Or.inl rfl | exact Or.inr (Or.inl rfl) | exact Or.inr (Or.inr rfl))) (zaH))) (zaE))))) p_chosen
theorem d_is_word (FF : Fun K "is_word" "is_word" s_is_word fa fd) (Z : Zs K mg a_Effect) : Def P w K mg base T 2 fa fd ["value", "most"] [] C_is_word :=
  fnD (k := 1) FF sc_is_word rfl (fun cdv hcd A outer s H E B W hr tk po hB => zaG (pds_ret (pd_and (pd_isi (t := .str) (by rfl) rfl Z.z_isinstance rfl Z.z_str (zaA (i := 0) rfl (by first | exact Or.inl rfl | exact Or.inr (Or.inl rfl) | exact Or.inr (Or.inr rfl)))) (pd_and (pd_cmp op_le ok_le (pd_callB ok_len call_lenA rfl Z.z_len (by rfl) (zaB (zaA (i := 0) rfl (by first | exact Or.inl rfl | exact Or.inr (Or.inl rfl) | exact Or.inr (Or.inr rfl))) (zaE))) (zaA (i := 1) rfl (by first | exact Or.inl rfl | exact Or.inr (Or.inl rfl) | exact Or.inr (Or.inr rfl))) (nomark _)) (pd_one (pd_callB ok_all (cr_all rfl) rfl Z.z_all (by rfl) (zaB (pd_lc (t := .one 2) (own := [("item", 2)]) rfl sc_is_word.nd (pdi_str (zaA (i := 0) rfl (by first | exact Or.inl rfl | exact Or.inr (Or.inl rfl) | exact Or.inr (Or.inr rfl)))) (blkOk_by (N := N_is_word) (sc := defScope s_is_word) (by decide +kernel)) rfl rfl (fun _ _ _ _ _ => pgh_one (i := 2) sc_is_word.nd rfl (by first | exact Or.inl rfl | exact Or.inr rfl)) (fun _ _ _ _ _ _ => pdts_nil) (fun _ _ _ _ _ _ => pd_cmp op_inA ok_in (zaA (i := 2) rfl (by first | exact Or.inl rfl | exact Or.inr (Or.inl rfl) | exact Or.inr (Or.inr rfl))) (pd_strG rfl Z.c_ITEMS (by decide)) (by rfl))) (zaE)))))))) p_is_word
theorem d_is_integer (FF : Fun K "is_integer" "is_integer" s_is_integer fa fd) (Z : Zs K mg a_Effect) : Def P w K mg base T 2 fa fd ["value"] [] C_is_integer :=
  fnD (k := 1) FF sc_is_integer rfl (fun cdv hcd A outer s H E B W hr tk po hB => zaG (pds_ret (pd_and (pd_isi (t := .int) (by rfl) rfl Z.z_isinstance rfl Z.z_int (zaA (i := 0) rfl (by first | exact Or.inl rfl | exact Or.inr (Or.inl rfl) | exact Or.inr (Or.inr rfl)))) (pd_one (pd_not (pd_isi (t := .bool) (by rfl) rfl Z.z_isinstance rfl Z.z_bool (zaA (i := 0) rfl (by first | exact Or.inl rfl | exact Or.inr (Or.inl rfl) | exact Or.inr (Or.inr rfl))))))))) p_is_integer
theorem d_in_range (FF : Fun K "in_range" "in_range" s_in_range fa fd) (Z : Zs K mg a_Effect) (g_is_integer : Cal P w K mg base T "is_integer" 2 ["value"] [] C_is_integer) : Def P w K mg base T 3 fa fd ["value", "least", "most"] [] C_in_range :=
  fnD (k := 2) FF sc_in_range rfl (fun cdv hcd A outer s H E B W hr tk po hB => zaG (pds_ret (pd_and (zaI g_is_integer (hr.mono (by decide)) tk rfl (pav_v (zaA (i := 0) rfl (by first | exact Or.inl rfl | exact Or.inr (Or.inl rfl) | exact Or.inr (Or.inr rfl))) (zaL))) (pd_one (pd_chain op_le ok_le op_le ok_le (zaA (i := 1) rfl (by first | exact Or.inl rfl | exact Or.inr (Or.inl rfl) | exact Or.inr (Or.inr rfl))) (zaA (i := 0) rfl (by first | exact Or.inl rfl | exact Or.inr (Or.inl rfl) | exact Or.inr (Or.inr rfl))) (zaA (i := 2) rfl (by first | exact Or.inl rfl | exact Or.inr (Or.inl rfl) | exact Or.inr (Or.inr rfl)))))))) p_in_range
theorem d_is_suitable (FF : Fun K "is_suitable" "is_suitable" s_is_suitable fa fd) (Z : Zs K mg a_Effect) : Def P w K mg base T 2 fa fd ["takes", "puts", "number"] [] C_is_suitable :=
  fnD (k := 1) FF sc_is_suitable rfl (fun cdv hcd A outer s H E B W hr tk po hB => zaG (pds_ret (pd_or (pd_cmp op_ge ok_ge (zaA (i := 2) rfl (by first | exact Or.inl rfl | exact Or.inr (Or.inl rfl) | exact Or.inr (Or.inr rfl))) (pd_callB ok_len call_lenA rfl Z.z_len (by rfl) (zaB (zaA (i := 0) rfl (by first | exact Or.inl rfl | exact Or.inr (Or.inl rfl) | exact Or.inr (Or.inr rfl))) (zaE))) (nomark _)) (pd_one (pd_ms ok_sw F.slot_str_startswith F.type_str_startswith mt_startswith (zaA (i := 1) rfl (by first | exact Or.inl rfl | exact Or.inr (Or.inl rfl) | exact Or.inr (Or.inr rfl))) (zaB (pd_sl (zaA (i := 0) rfl (by first | exact Or.inl rfl | exact Or.inr (Or.inl rfl) | exact Or.inr (Or.inr rfl))) (pdo_some (zaA (i := 2) rfl (by first | exact Or.inl rfl | exact Or.inr (Or.inl rfl) | exact Or.inr (Or.inr rfl)))) pdo_none) (zaE))))))) p_is_suitable
theorem d_Effect_is_valid (FF : Fun K "is_valid" "Effect.is_valid" s_Effect_is_valid fa fd) (Z : Zs K mg a_Effect) (g_is_word : Cal P w K mg base T "is_word" 2 ["value", "most"] [] C_is_word) (g_in_range : Cal P w K mg base T "in_range" 3 ["value", "least", "most"] [] C_in_range) (g_is_suitable : Cal P w K mg base T "is_suitable" 2 ["takes", "puts", "number"] [] C_is_suitable) : Def P w K mg base T 4 fa fd ["takes", "puts", "core"] [] C_Effect_is_valid :=
  fnD (k := 3) FF sc_Effect_is_valid rfl (fun cdv hcd A outer s H E B W hr tk po hB => zaF (pds_if (pdt_w (pdw_or (pdt_not (pdt_val (zaI g_is_word (hr.mono (by decide)) tk rfl (pav_v (zaA (i := 0) rfl (by first | exact Or.inl rfl | exact Or.inr (Or.inl rfl) | exact Or.inr (Or.inr rfl))) (pav_v (pd_intG rfl Z.c_MAX_ITEMS_effects) (zaL)))))) (pdw_or1 (pdt_not (pdt_val (zaI g_is_word (hr.mono (by decide)) tk rfl (pav_v (zaA (i := 1) rfl (by first | exact Or.inl rfl | exact Or.inr (Or.inl rfl) | exact Or.inr (Or.inr rfl))) (pav_v (pd_intG rfl Z.c_MAX_ITEMS_effects) (zaL))))))))) (zaG (pds_ret (pd_bl))) (pds_nil)) (zaG (pds_ret (pd_and (zaI g_in_range (hr.mono (by decide)) tk rfl (pav_v (zaA (i := 2) rfl (by first | exact Or.inl rfl | exact Or.inr (Or.inl rfl) | exact Or.inr (Or.inr rfl))) (pav_v (zaH) (pav_v (pd_callB ok_len call_lenA rfl Z.z_len (by rfl) (zaB (zaA (i := 0) rfl (by first | exact Or.inl rfl | exact Or.inr (Or.inl rfl) | exact Or.inr (Or.inr rfl))) (zaE))) (zaL))))) (pd_one (zaI g_is_suitable (hr.mono (by decide)) tk rfl (pav_v (zaA (i := 0) rfl (by first | exact Or.inl rfl | exact Or.inr (Or.inl rfl) | exact Or.inr (Or.inr rfl))) (pav_v (zaA (i := 1) rfl (by first | exact Or.inl rfl | exact Or.inr (Or.inl rfl) | exact Or.inr (Or.inr rfl))) (pav_v (zaA (i := 2) rfl (by first | exact Or.inl rfl | exact Or.inr (Or.inl rfl) | exact Or.inr (Or.inr rfl))) (zaL)))))))))) p_Effect_is_valid
theorem d_Effect___init__ (FF : Fun K "__init__" "Effect.__init__" s_Effect___init__ fa fd) (Z : Zs K mg a_Effect) (O_Effect : Own K mg T "Effect" 0 (ci_Effect a_Effect)) (X_InvalidEffect : ErrX K mg T "InvalidEffect" 3) (g_is_word : Cal P w K mg base T "is_word" 2 ["value", "most"] [] C_is_word) (g_Effect_is_valid : CalS P w K mg base T a_Effect "is_valid" 4 ["takes", "puts", "core"] [] C_Effect_is_valid) : Def P w K mg base T 5 fa fd ["self", "takes", "puts", "core"] [0] C_Effect___init__ :=
  fnD (k := 4) FF sc_Effect___init__ rfl (fun cdv hcd A outer s H E B W hr tk po hB => zaF (pds_if (pdt_not (pdt_val (zaI g_is_word (hr.mono (by decide)) tk rfl (pav_v (zaA (i := 1) rfl (by first | exact Or.inl rfl | exact Or.inr (Or.inl rfl) | exact Or.inr (Or.inr rfl))) (pav_v (pd_intG rfl Z.c_MAX_ITEMS_effects) (zaL)))))) (zaG (pds_raiseC (k := 1) X_InvalidEffect rfl tk (hr.mono (by decide)) (pd_str (l := [116, 97, 107, 101, 115]) rfl (by decide)) rfl)) (pds_nil)) (zaF (pds_if (pdt_not (pdt_val (zaI g_is_word (hr.mono (by decide)) tk rfl (pav_v (zaA (i := 2) rfl (by first | exact Or.inl rfl | exact Or.inr (Or.inl rfl) | exact Or.inr (Or.inr rfl))) (pav_v (pd_intG rfl Z.c_MAX_ITEMS_effects) (zaL)))))) (zaG (pds_raiseC (k := 1) X_InvalidEffect rfl tk (hr.mono (by decide)) (pd_str (l := [112, 117, 116, 115]) rfl (by decide)) rfl)) (pds_nil)) (zaF (pds_if (pdt_not (pdt_val (pd_smethC O_Effect g_Effect_is_valid (hr.mono (by decide)) tk rfl (pav_v (zaA (i := 1) rfl (by first | exact Or.inl rfl | exact Or.inr (Or.inl rfl) | exact Or.inr (Or.inr rfl))) (pav_v (zaA (i := 2) rfl (by first | exact Or.inl rfl | exact Or.inr (Or.inl rfl) | exact Or.inr (Or.inr rfl))) (pav_v (zaA (i := 3) rfl (by first | exact Or.inl rfl | exact Or.inr (Or.inl rfl) | exact Or.inr (Or.inr rfl))) (zaL))))))) (zaG (pds_raiseC (k := 1) X_InvalidEffect rfl tk (hr.mono (by decide)) (pd_str (l := [99, 111, 114, 101]) rfl (by decide)) rfl)) (pds_nil)) (zaF (pds_fld (i := 0) (j := 0) O_Effect.cl rfl Z.n_Effect_own_takes (show 3 < 1000 by decide) rfl (by first | exact Or.inl rfl | exact Or.inr (Or.inl rfl) | exact Or.inr (Or.inr rfl)) (zaA (i := 1) rfl (by first | exact Or.inl rfl | exact Or.inr (Or.inl rfl) | exact Or.inr (Or.inr rfl)))) (zaF (pds_fld (i := 0) (j := 1) O_Effect.cl rfl Z.n_Effect_own_puts (show 3 < 1000 by decide) rfl (by first | exact Or.inl rfl | exact Or.inr (Or.inl rfl) | exact Or.inr (Or.inr rfl)) (zaA (i := 2) rfl (by first | exact Or.inl rfl | exact Or.inr (Or.inl rfl) | exact Or.inr (Or.inr rfl)))) (zaG (pds_fld (i := 0) (j := 2) O_Effect.cl rfl Z.n_Effect_own_core (show 3 < 1000 by decide) rfl (by first | exact Or.inl rfl | exact Or.inr (Or.inl rfl) | exact Or.inr (Or.inr rfl)) (zaA (i := 3) rfl (by first | exact Or.inl rfl | exact Or.inr (Or.inl rfl) | exact Or.inr (Or.inr rfl)))))))))) p_Effect___init__
theorem d_least_suitable (FF : Fun K "least_suitable" "least_suitable" s_least_suitable fa fd) (Z : Zs K mg a_Effect) (g_is_suitable : Cal P w K mg base T "is_suitable" 2 ["takes", "puts", "number"] [] C_is_suitable) : Def P w K mg base T 3 fa fd ["takes", "puts", "least"] [] C_least_suitable :=
  fnD (k := 2) FF sc_least_suitable rfl (fun cdv hcd A outer s H E B W hr tk po hB => zaF (pds_set (i := 3) sc_least_suitable.nd rfl (by first | exact Or.inl rfl | exact Or.inr rfl) (by decide) (zaA (i := 2) rfl (by first | exact Or.inl rfl | exact Or.inr (Or.inl rfl) | exact Or.inr (Or.inr rfl)))) (zaF (pds_while po (pdt_not (pdt_val (zaI g_is_suitable (hr.mono (by decide)) tk rfl (pav_v (zaA (i := 0) rfl (by first | exact Or.inl rfl | exact Or.inr (Or.inl rfl) | exact Or.inr (Or.inr rfl))) (pav_v (zaA (i := 1) rfl (by first | exact Or.inl rfl | exact Or.inr (Or.inl rfl) | exact Or.inr (Or.inr rfl))) (pav_v (zaA (i := 3) rfl (by first | exact Or.inl rfl | exact Or.inr (Or.inl rfl) | exact Or.inr (Or.inr rfl))) (zaL))))))) (zaG (pds_aug (i := 3) sc_least_suitable.nd rfl (by first | exact Or.inl rfl | exact Or.inr rfl) (by decide) (zaH) (pip_of iop_addA) ok_iadd))) (zaG (pds_ret (zaA (i := 3) rfl (by first | exact Or.inl rfl | exact Or.inr (Or.inl rfl) | exact Or.inr (Or.inr rfl))))))) p_least_suitable
theorem d_depths (FF : Fun K "depths" "depths" s_depths fa fd) (Z : Zs K mg a_Effect) : Def P w K mg base T 2 fa fd ["steps"] [] C_depths :=
  fnD (k := 1) FF sc_depths rfl (fun cdv hcd A outer s H E B W hr tk po hB => zaF (pds_setO (i := 1) sc_depths.nd rfl (by first | exact Or.inl rfl | exact Or.inr rfl) (by decide) (pd_lst zaE)) (zaF (pds_set (i := 2) sc_depths.nd rfl (by first | exact Or.inl rfl | exact Or.inr rfl) (by decide) (zaH)) (zaF (pds_for po rfl (pdi_lst (zaA (i := 0) rfl (by first | exact Or.inl rfl | exact Or.inr (Or.inl rfl) | exact Or.inr (Or.inr rfl)))) (pdg_name (i := 3) sc_depths.nd rfl (by first | exact Or.inl rfl | exact Or.inr rfl) (by decide)) (zaF (pds_aug (i := 2) sc_depths.nd rfl (by first | exact Or.inl rfl | exact Or.inr rfl) (by decide) (pd_if (pdt_cmp (op_eqA hr.units) ok_eq (pd_ix (zaA (i := 3) rfl (by first | exact Or.inl rfl | exact Or.inr (Or.inl rfl) | exact Or.inr (Or.inr rfl))) (zaH)) (pd_str (l := [45]) rfl (by decide)) (nomark _)) (zaH) (pd_un un_neg ok_neg (zaH))) (pip_of iop_addA) ok_iadd) (zaG (pds_if (pdt_cmp (op_eqA hr.units) ok_eq (pd_ix (zaA (i := 3) rfl (by first | exact Or.inl rfl | exact Or.inr (Or.inl rfl) | exact Or.inr (Or.inr rfl))) (zaH)) (pd_str (l := [45]) rfl (by decide)) (nomark _)) (zaG (pds_app (i := 1) rfl (by first | exact Or.inl rfl | exact Or.inr (Or.inl rfl) | exact Or.inr (Or.inr rfl)) (zaA (i := 2) rfl (by first | exact Or.inl rfl | exact Or.inr (Or.inl rfl) | exact Or.inr (Or.inr rfl))))) (pds_nil))))) (zaG (pds_ret (zaA (i := 1) rfl (by first | exact Or.inl rfl | exact Or.inr (Or.inl rfl) | exact Or.inr (Or.inr rfl)))))))) p_depths
theorem d_Effect_of (FF : Fun K "of" "Effect.of" s_Effect_of fa fd) (Z : Zs K mg a_Effect) (O_Effect : Own K mg T "Effect" 0 (ci_Effect a_Effect)) (g_check_sequence : Cal P w K mg base T "check_sequence" 4 ["steps"] [] C_check_sequence) (g_chosen : Cal P w K mg base T "chosen" 2 ["steps", "sign"] [] C_chosen) (g_depths : Cal P w K mg base T "depths" 2 ["steps"] [] C_depths) (g_least_suitable : Cal P w K mg base T "least_suitable" 3 ["takes", "puts", "least"] [] C_least_suitable) (g_Effect___init__ : CalI P w K mg base T a_Effect 5 ["self", "takes", "puts", "core"] C_Effect___init__) : Def P w K mg base T 7 fa fd ["cls", "steps"] [] C_Effect_of :=
  fnD (k := 6) FF sc_Effect_of rfl (fun cdv hcd A outer s H E B W hr tk po hB => zaF (pds_expr (zaI g_check_sequence (hr.mono (by decide)) tk rfl (pav_v (zaA (i := 1) rfl (by first | exact Or.inl rfl | exact Or.inr (Or.inl rfl) | exact Or.inr (Or.inr rfl))) (zaL)))) (zaF (pds_par (i := 2) (j := 3) rfl sc_Effect_of.nd rfl rfl (by decide) (by decide) (by decide) rfl rfl (zaB (zaI g_chosen (hr.mono (by decide)) tk rfl (pav_v (zaA (i := 1) rfl (by first | exact Or.inl rfl | exact Or.inr (Or.inl rfl) | exact Or.inr (Or.inr rfl))) (pav_v (pd_str (l := [45]) rfl (by decide)) (zaL)))) (zaB (zaI g_chosen (hr.mono (by decide)) tk rfl (pav_v (zaA (i := 1) rfl (by first | exact Or.inl rfl | exact Or.inr (Or.inl rfl) | exact Or.inr (Or.inr rfl))) (pav_v (pd_str (l := [43]) rfl (by decide)) (zaL)))) zaE))) (zaG (pds_ret (pd_makeVC (i := 0) O_Effect.cl g_Effect___init__ (hr.mono (by decide)) tk rfl (by first | exact Or.inl rfl | exact Or.inr (Or.inl rfl) | exact Or.inr (Or.inr rfl)) (zaB (zaA (i := 2) rfl (by first | exact Or.inl rfl | exact Or.inr (Or.inl rfl) | exact Or.inr (Or.inr rfl))) (zaB (zaA (i := 3) rfl (by first | exact Or.inl rfl | exact Or.inr (Or.inl rfl) | exact Or.inr (Or.inr rfl))) (zaB (zaI g_least_suitable (hr.mono (by decide)) tk rfl (pav_v (zaA (i := 2) rfl (by first | exact Or.inl rfl | exact Or.inr (Or.inl rfl) | exact Or.inr (Or.inr rfl))) (pav_v (zaA (i := 3) rfl (by first | exact Or.inl rfl | exact Or.inr (Or.inl rfl) | exact Or.inr (Or.inr rfl))) (pav_v (pd_callB ok_max (call_maxA rfl) rfl Z.z_max (by rfl) (zaB (pd_op op_addA ok_add (pd_lst (zaB (zaH) (zaE))) (zaI g_depths (hr.mono (by decide)) tk rfl (pav_v (zaA (i := 1) rfl (by first | exact Or.inl rfl | exact Or.inr (Or.inl rfl) | exact Or.inr (Or.inr rfl))) (zaL)))) (zaE))) (zaL))))) (zaE))))))))) p_Effect_of
theorem d_effect_of (FF : Fun K "effect_of" "effect_of" s_effect_of fa fd) (Z : Zs K mg a_Effect) (O_Effect : Own K mg T "Effect" 0 (ci_Effect a_Effect)) (g_Effect_of : CalC P w K mg base T a_Effect "of" 7 ["cls", "steps"] C_Effect_of) : Def P w K mg base T 8 fa fd ["steps"] [] C_effect_of :=
  fnD (k := 7) FF sc_effect_of rfl (fun cdv hcd A outer s H E B W hr tk po hB => zaG (pds_ret (pd_cmethC O_Effect g_Effect_of (hr.mono (by decide)) tk rfl (zaB (zaA (i := 0) rfl (by first | exact Or.inl rfl | exact Or.inr (Or.inl rfl) | exact Or.inr (Or.inr rfl))) (zaE))))) p_effect_of
theorem d_swapped (FF : Fun K "swapped" "swapped" s_swapped fa fd) (Z : Zs K mg a_Effect) : Def P w K mg base T 2 fa fd ["steps", "position"] [] C_swapped :=
  fnD (k := 1) FF sc_swapped rfl (fun cdv hcd A outer s H E B W hr tk po hB => zaG (pds_ret (pd_op op_addA ok_add (pd_op op_addA ok_add (pd_sl (zaA (i := 0) rfl (by first | exact Or.inl rfl | exact Or.inr (Or.inl rfl) | exact Or.inr (Or.inr rfl))) pdo_none (pdo_some (zaA (i := 1) rfl (by first | exact Or.inl rfl | exact Or.inr (Or.inl rfl) | exact Or.inr (Or.inr rfl))))) (pd_lst (zaB (pd_ix (zaA (i := 0) rfl (by first | exact Or.inl rfl | exact Or.inr (Or.inl rfl) | exact Or.inr (Or.inr rfl))) (pd_op op_addA ok_add (zaA (i := 1) rfl (by first | exact Or.inl rfl | exact Or.inr (Or.inl rfl) | exact Or.inr (Or.inr rfl))) (zaH))) (zaB (pd_ix (zaA (i := 0) rfl (by first | exact Or.inl rfl | exact Or.inr (Or.inl rfl) | exact Or.inr (Or.inr rfl))) (zaA (i := 1) rfl (by first | exact Or.inl rfl | exact Or.inr (Or.inl rfl) | exact Or.inr (Or.inr rfl)))) (zaE))))) (pd_sl (zaA (i := 0) rfl (by first | exact Or.inl rfl | exact Or.inr (Or.inl rfl) | exact Or.inr (Or.inr rfl))) (pdo_some (pd_op op_addA ok_add (zaA (i := 1) rfl (by first | exact Or.inl rfl | exact Or.inr (Or.inl rfl) | exact Or.inr (Or.inr rfl))) (zaH))) pdo_none)))) p_swapped
theorem d_is_allowed (FF : Fun K "is_allowed" "is_allowed" s_is_allowed fa fd) (Z : Zs K mg a_Effect) (O_Effect : Own K mg T "Effect" 0 (ci_Effect a_Effect)) (kit_Effect : KitC K a_Effect) (eg_Effect___eq__ : CalE P w K mg base T a_Effect 4 C_Effect___eq__) (g_swapped : Cal P w K mg base T "swapped" 2 ["steps", "position"] [] C_swapped) (g_effect_of : Cal P w K mg base T "effect_of" 8 ["steps"] [] C_effect_of) : Def P w K mg base T 9 fa fd ["steps", "position"] [] C_is_allowed :=
  fnD (k := 8) FF sc_is_allowed rfl (fun cdv hcd A outer s H E B W hr tk po hB => zaF (pds_if (pdt_cmp (op_eqA hr.units) ok_eq (pd_ix (pd_ix (zaA (i := 0) rfl (by first | exact Or.inl rfl | exact Or.inr (Or.inl rfl) | exact Or.inr (Or.inr rfl))) (zaA (i := 1) rfl (by first | exact Or.inl rfl | exact Or.inr (Or.inl rfl) | exact Or.inr (Or.inr rfl)))) (zaH)) (pd_ix (pd_ix (zaA (i := 0) rfl (by first | exact Or.inl rfl | exact Or.inr (Or.inl rfl) | exact Or.inr (Or.inr rfl))) (pd_op op_addA ok_add (zaA (i := 1) rfl (by first | exact Or.inl rfl | exact Or.inr (Or.inl rfl) | exact Or.inr (Or.inr rfl))) (zaH))) (zaH)) (nomark _)) (zaG (pds_ret (pd_bl))) (pds_nil)) (zaG (pds_ret (pd_eqO O_Effect.cl kit_Effect eg_Effect___eq__ (hr.mono (by decide)) (zaI g_effect_of (hr.mono (by decide)) tk rfl (pav_v (zaI g_swapped (hr.mono (by decide)) tk rfl (pav_v (zaA (i := 0) rfl (by first | exact Or.inl rfl | exact Or.inr (Or.inl rfl) | exact Or.inr (Or.inr rfl))) (pav_v (zaA (i := 1) rfl (by first | exact Or.inl rfl | exact Or.inr (Or.inl rfl) | exact Or.inr (Or.inr rfl))) (zaL)))) (zaL))) (zaI g_effect_of (hr.mono (by decide)) tk rfl (pav_v (zaA (i := 0) rfl (by first | exact Or.inl rfl | exact Or.inr (Or.inl rfl) | exact Or.inr (Or.inr rfl))) (zaL))) (nomark _))))) p_is_allowed
theorem d_exchanges (FF : Fun K "exchanges" "exchanges" s_exchanges fa fd) (Z : Zs K mg a_Effect) (g_is_allowed : Cal P w K mg base T "is_allowed" 9 ["steps", "position"] [] C_is_allowed) (g_check_sequence : Cal P w K mg base T "check_sequence" 4 ["steps"] [] C_check_sequence) : DefG P w K mg base T 10 fa fd ["steps"] [] false C_exchanges :=
  gfnD (k := 9) FF sc_exchanges rfl (fun cdv hcd A outer s H E pn φ Gh L B Ex hr tkG hE hp hB hB0 => gss_consD (gs_plain tkG hE hp (fun S s0 o ps B W hO tk po => pds_expr (zaI g_check_sequence (hr.mono (by decide)) tk rfl (pav_v (zaA (i := 0) rfl (by first | exact Or.inl rfl | exact Or.inr (Or.inl rfl) | exact Or.inr (Or.inr rfl))) (zaL))))) (gss_consD (gs_plain tkG hE hp (fun S s0 o ps B W hO tk po => pds_set (i := 0) sc_exchanges.nd rfl (by first | exact Or.inl rfl | exact Or.inr rfl) (by decide) (pd_callTy ok_list call_list_of rfl Z.z_list (by rfl) (zaB (zaA (i := 0) rfl (by first | exact Or.inl rfl | exact Or.inr (Or.inl rfl) | exact Or.inr (Or.inr rfl))) (zaE))))) (gss_consD (gs_for tkG hE hp rfl (fun S s0 o ps B W hO tk => pdi_rng1 rfl Z.z_range (pd_op op_sub ok_sub (pd_callB ok_len call_lenA rfl Z.z_len (by rfl) (zaB (zaA (i := 0) rfl (by first | exact Or.inl rfl | exact Or.inr (Or.inl rfl) | exact Or.inr (Or.inr rfl))) (zaE))) (zaH))) (fun S s0 o ps => pdg_name (i := 1) sc_exchanges.nd rfl (by first | exact Or.inl rfl | exact Or.inr rfl) (by decide)) (gss_consD (gs_if tkG hE (fun S s0 o ps B W hO tk => pdt_val (zaI g_is_allowed (hr.mono (by decide)) tk rfl (pav_v (zaA (i := 0) rfl (by first | exact Or.inl rfl | exact Or.inr (Or.inl rfl) | exact Or.inr (Or.inr rfl))) (pav_v (zaA (i := 1) rfl (by first | exact Or.inl rfl | exact Or.inr (Or.inl rfl) | exact Or.inr (Or.inr rfl))) (zaL))))) (gss_consD (gs_yield tkG hE (fun S s0 o ps B W hO tk => zaA (i := 1) rfl (by first | exact Or.inl rfl | exact Or.inr (Or.inl rfl) | exact Or.inr (Or.inr rfl)))) (gss_nilD)) (gss_nilD)) (gss_nilD))) (gss_nilD)))) p_exchanges
theorem d_check_position (FF : Fun K "check_position" "check_position" s_check_position fa fd) (Z : Zs K mg a_Effect) (X_InvalidPosition : ErrX K mg T "InvalidPosition" 4) (g_check_sequence : Cal P w K mg base T "check_sequence" 4 ["steps"] [] C_check_sequence) (g_in_range : Cal P w K mg base T "in_range" 3 ["value", "least", "most"] [] C_in_range) : Def P w K mg base T 5 fa fd ["steps", "position"] [] C_check_position :=
  fnD (k := 4) FF sc_check_position rfl (fun cdv hcd A outer s H E B W hr tk po hB => zaF (pds_expr (zaI g_check_sequence (hr.mono (by decide)) tk rfl (pav_v (zaA (i := 0) rfl (by first | exact Or.inl rfl | exact Or.inr (Or.inl rfl) | exact Or.inr (Or.inr rfl))) (zaL)))) (zaG (pds_if (pdt_not (pdt_val (zaI g_in_range (hr.mono (by decide)) tk rfl (pav_v (zaA (i := 1) rfl (by first | exact Or.inl rfl | exact Or.inr (Or.inl rfl) | exact Or.inr (Or.inr rfl))) (pav_v (zaH) (pav_v (pd_op op_sub ok_sub (pd_callB ok_len call_lenA rfl Z.z_len (by rfl) (zaB (zaA (i := 0) rfl (by first | exact Or.inl rfl | exact Or.inr (Or.inl rfl) | exact Or.inr (Or.inr rfl))) (zaE))) (zaH)) (zaL))))))) (zaG (pds_raiseC (k := 1) X_InvalidPosition rfl tk (hr.mono (by decide)) (zaA (i := 1) rfl (by first | exact Or.inl rfl | exact Or.inr (Or.inl rfl) | exact Or.inr (Or.inr rfl))) rfl)) (pds_nil)))) p_check_position
theorem d_can_exchange (FF : Fun K "can_exchange" "can_exchange" s_can_exchange fa fd) (Z : Zs K mg a_Effect) (g_check_position : Cal P w K mg base T "check_position" 5 ["steps", "position"] [] C_check_position) (g_is_allowed : Cal P w K mg base T "is_allowed" 9 ["steps", "position"] [] C_is_allowed) : Def P w K mg base T 10 fa fd ["steps", "position"] [] zaJ :=
  fnD (k := 9) FF sc_can_exchange rfl (fun cdv hcd A outer s H E B W hr tk po hB => zaF (pds_expr (zaI g_check_position (hr.mono (by decide)) tk rfl (pav_v (zaA (i := 0) rfl (by first | exact Or.inl rfl | exact Or.inr (Or.inl rfl) | exact Or.inr (Or.inr rfl))) (pav_v (zaA (i := 1) rfl (by first | exact Or.inl rfl | exact Or.inr (Or.inl rfl) | exact Or.inr (Or.inr rfl))) (zaL))))) (zaG (pds_ret (zaI g_is_allowed (hr.mono (by decide)) tk rfl (pav_v (zaA (i := 0) rfl (by first | exact Or.inl rfl | exact Or.inr (Or.inl rfl) | exact Or.inr (Or.inr rfl))) (pav_v (zaA (i := 1) rfl (by first | exact Or.inl rfl | exact Or.inr (Or.inl rfl) | exact Or.inr (Or.inr rfl))) (zaL))))))) p_can_exchange
theorem d__law_fit (FF : Fun K "_law_fit" "_law_fit" s__law_fit fa fd) (Z : Zs K mg a_Effect) : Def P w K mg base T 2 fa fd ["_law_takes", "_law_puts", "_law_number"] [] C__law_fit :=
  fnD (k := 1) FF sc__law_fit rfl (fun cdv hcd A outer s H E B W hr tk po hB => zaG (pds_ret (pd_or (pd_cmp op_ge ok_ge (zaA (i := 2) rfl (by first | exact Or.inl rfl | exact Or.inr (Or.inl rfl) | exact Or.inr (Or.inr rfl))) (pd_callB ok_len call_lenA rfl Z.z_len (by rfl) (zaB (zaA (i := 0) rfl (by first | exact Or.inl rfl | exact Or.inr (Or.inl rfl) | exact Or.inr (Or.inr rfl))) (zaE))) (nomark _)) (pd_one (pd_cmp (op_eqA hr.units) ok_eq (pd_sl (zaA (i := 0) rfl (by first | exact Or.inl rfl | exact Or.inr (Or.inl rfl) | exact Or.inr (Or.inr rfl))) (pdo_some (zaA (i := 2) rfl (by first | exact Or.inl rfl | exact Or.inr (Or.inl rfl) | exact Or.inr (Or.inr rfl)))) pdo_none) (pd_sl (zaA (i := 1) rfl (by first | exact Or.inl rfl | exact Or.inr (Or.inl rfl) | exact Or.inr (Or.inr rfl))) pdo_none (pdo_some (pd_op op_sub ok_sub (pd_callB ok_len call_lenA rfl Z.z_len (by rfl) (zaB (zaA (i := 0) rfl (by first | exact Or.inl rfl | exact Or.inr (Or.inl rfl) | exact Or.inr (Or.inr rfl))) (zaE))) (zaA (i := 2) rfl (by first | exact Or.inl rfl | exact Or.inr (Or.inl rfl) | exact Or.inr (Or.inr rfl)))))) (nomark _)))))) p__law_fit
theorem d__law_parts (FF : Fun K "_law_parts" "_law_parts" s__law_parts fa fd) (Z : Zs K mg a_Effect) (g__law_fit : Cal P w K mg base T "_law_fit" 2 ["_law_takes", "_law_puts", "_law_number"] [] C__law_fit) : Def P w K mg base T 3 fa fd ["_law_steps_here"] [] C__law_parts :=
  fnD (k := 2) FF sc__law_parts rfl (fun cdv hcd A outer s H E B W hr tk po hB => zaF (pds_set (i := 1) sc__law_parts.nd rfl (by first | exact Or.inl rfl | exact Or.inr rfl) (by decide) (pd_ms ok_join F.slot_str_join F.type_str_join mt_join (pd_str (l := []) rfl (by decide)) (zaB (pd_lc (t := .one 2) (own := [("_law_step", 2)]) rfl sc__law_parts.nd (pdi_lst (zaA (i := 0) rfl (by first | exact Or.inl rfl | exact Or.inr (Or.inl rfl) | exact Or.inr (Or.inr rfl)))) (blkOk_by (N := N__law_parts) (sc := defScope s__law_parts) (by decide +kernel)) rfl rfl (fun _ _ _ _ _ => pgh_one (i := 2) sc__law_parts.nd rfl (by first | exact Or.inl rfl | exact Or.inr rfl)) (fun _ _ _ _ _ _ => pdts_one (pdt_cmp (op_eqA hr.units) ok_eq (pd_ix (zaA (i := 2) rfl (by first | exact Or.inl rfl | exact Or.inr (Or.inl rfl) | exact Or.inr (Or.inr rfl))) (zaH)) (pd_str (l := [45]) rfl (by decide)) (nomark _))) (fun _ _ _ _ _ _ => pd_ix (zaA (i := 2) rfl (by first | exact Or.inl rfl | exact Or.inr (Or.inl rfl) | exact Or.inr (Or.inr rfl))) (zaH))) (zaE)))) (zaF (pds_set (i := 3) sc__law_parts.nd rfl (by first | exact Or.inl rfl | exact Or.inr rfl) (by decide) (pd_ms ok_join F.slot_str_join F.type_str_join mt_join (pd_str (l := []) rfl (by decide)) (zaB (pd_lc (t := .one 2) (own := [("_law_step", 2)]) rfl sc__law_parts.nd (pdi_lst (zaA (i := 0) rfl (by first | exact Or.inl rfl | exact Or.inr (Or.inl rfl) | exact Or.inr (Or.inr rfl)))) (blkOk_by (N := N__law_parts) (sc := defScope s__law_parts) (by decide +kernel)) rfl rfl (fun _ _ _ _ _ => pgh_one (i := 2) sc__law_parts.nd rfl (by first | exact Or.inl rfl | exact Or.inr rfl)) (fun _ _ _ _ _ _ => pdts_one (pdt_cmp (op_eqA hr.units) ok_eq (pd_ix (zaA (i := 2) rfl (by first | exact Or.inl rfl | exact Or.inr (Or.inl rfl) | exact Or.inr (Or.inr rfl))) (zaH)) (pd_str (l := [43]) rfl (by decide)) (nomark _))) (fun _ _ _ _ _ _ => pd_ix (zaA (i := 2) rfl (by first | exact Or.inl rfl | exact Or.inr (Or.inl rfl) | exact Or.inr (Or.inr rfl))) (zaH))) (zaE)))) (zaF (pds_asg (pd_tup (zaB (zaH) (zaB (zaH) (zaE)))) (pdg_tup rfl (pdgs_cons (i := 4) sc__law_parts.nd rfl (by first | exact Or.inl rfl | exact Or.inr rfl) (by decide) (pdgs_cons (i := 5) sc__law_parts.nd rfl (by first | exact Or.inl rfl | exact Or.inr rfl) (by decide) (pdgs_nil))))) (zaF (pds_for po rfl (pdi_lst (zaA (i := 0) rfl (by first | exact Or.inl rfl | exact Or.inr (Or.inl rfl) | exact Or.inr (Or.inr rfl)))) (pdg_name (i := 2) sc__law_parts.nd rfl (by first | exact Or.inl rfl | exact Or.inr rfl) (by decide)) (zaF (pds_set (i := 5) sc__law_parts.nd rfl (by first | exact Or.inl rfl | exact Or.inr rfl) (by decide) (pd_op op_addA ok_add (zaA (i := 5) rfl (by first | exact Or.inl rfl | exact Or.inr (Or.inl rfl) | exact Or.inr (Or.inr rfl))) (pd_ix (pd_lst (zaB (pd_un un_neg ok_neg (zaH)) (zaB (zaH) (zaE)))) (pd_callTy ok_int call_int1 rfl Z.z_int (by rfl) (zaB (pd_cmp (op_eqA hr.units) ok_eq (pd_ix (zaA (i := 2) rfl (by first | exact Or.inl rfl | exact Or.inr (Or.inl rfl) | exact Or.inr (Or.inr rfl))) (zaH)) (pd_str (l := [45]) rfl (by decide)) (nomark _)) (zaE)))))) (zaG (pds_set (i := 4) sc__law_parts.nd rfl (by first | exact Or.inl rfl | exact Or.inr rfl) (by decide) (pd_callB ok_max (call_maxA rfl) rfl Z.z_max (by rfl) (zaB (zaA (i := 4) rfl (by first | exact Or.inl rfl | exact Or.inr (Or.inl rfl) | exact Or.inr (Or.inr rfl))) (zaB (zaA (i := 5) rfl (by first | exact Or.inl rfl | exact Or.inr (Or.inl rfl) | exact Or.inr (Or.inr rfl))) (zaE)))))))) (zaF (pds_for po rfl (pdi_rng2 rfl Z.z_range (zaA (i := 4) rfl (by first | exact Or.inl rfl | exact Or.inr (Or.inl rfl) | exact Or.inr (Or.inr rfl))) (pd_op op_addA ok_add (pd_callB ok_len call_lenA rfl Z.z_len (by rfl) (zaB (zaA (i := 1) rfl (by first | exact Or.inl rfl | exact Or.inr (Or.inl rfl) | exact Or.inr (Or.inr rfl))) (zaE))) (zaH))) (pdg_name (i := 6) sc__law_parts.nd rfl (by first | exact Or.inl rfl | exact Or.inr rfl) (by decide)) (zaG (pds_if (pdt_val (zaI g__law_fit (hr.mono (by decide)) tk rfl (pav_v (zaA (i := 1) rfl (by first | exact Or.inl rfl | exact Or.inr (Or.inl rfl) | exact Or.inr (Or.inr rfl))) (pav_v (zaA (i := 3) rfl (by first | exact Or.inl rfl | exact Or.inr (Or.inl rfl) | exact Or.inr (Or.inr rfl))) (pav_v (zaA (i := 6) rfl (by first | exact Or.inl rfl | exact Or.inr (Or.inl rfl) | exact Or.inr (Or.inr rfl))) (zaL)))))) (zaG (pds_ret (pd_tup (zaB (zaA (i := 1) rfl (by first | exact Or.inl rfl | exact Or.inr (Or.inl rfl) | exact Or.inr (Or.inr rfl))) (zaB (zaA (i := 3) rfl (by first | exact Or.inl rfl | exact Or.inr (Or.inl rfl) | exact Or.inr (Or.inr rfl))) (zaB (zaA (i := 6) rfl (by first | exact Or.inl rfl | exact Or.inr (Or.inl rfl) | exact Or.inr (Or.inr rfl))) (zaE))))))) (pds_nil)))) (zaG (pds_ret (pd_tup (zaB (zaA (i := 1) rfl (by first | exact Or.inl rfl | exact Or.inr (Or.inl rfl) | exact Or.inr (Or.inr rfl))) (zaB (zaA (i := 3) rfl (by first | exact Or.inl rfl | exact Or.inr (Or.inl rfl) | exact Or.inr (Or.inr rfl))) (zaB (pd_callB ok_len call_lenA rfl Z.z_len (by rfl) (zaB (zaA (i := 1) rfl (by first | exact Or.inl rfl | exact Or.inr (Or.inl rfl) | exact Or.inr (Or.inr rfl))) (zaE))) (zaE)))))))))))) p__law_parts
theorem d_exchange (FF : Fun K "exchange" "exchange" s_exchange fa fd) (Z : Zs K mg a_Effect) (X_EffectChanged : ErrX K mg T "EffectChanged" 9) (g_check_position : Cal P w K mg base T "check_position" 5 ["steps", "position"] [] C_check_position) (g_is_allowed : Cal P w K mg base T "is_allowed" 9 ["steps", "position"] [] C_is_allowed) (g_swapped : Cal P w K mg base T "swapped" 2 ["steps", "position"] [] C_swapped) : Def P w K mg base T 10 fa fd ["steps", "position"] [] C_exchange :=
  fnD (k := 9) FF sc_exchange rfl (fun cdv hcd A outer s H E B W hr tk po hB => zaF (pds_expr (zaI g_check_position (hr.mono (by decide)) tk rfl (pav_v (zaA (i := 0) rfl (by first | exact Or.inl rfl | exact Or.inr (Or.inl rfl) | exact Or.inr (Or.inr rfl))) (pav_v (zaA (i := 1) rfl (by first | exact Or.inl rfl | exact Or.inr (Or.inl rfl) | exact Or.inr (Or.inr rfl))) (zaL))))) (zaF (pds_if (pdt_not (pdt_val (zaI g_is_allowed (hr.mono (by decide)) tk rfl (pav_v (zaA (i := 0) rfl (by first | exact Or.inl rfl | exact Or.inr (Or.inl rfl) | exact Or.inr (Or.inr rfl))) (pav_v (zaA (i := 1) rfl (by first | exact Or.inl rfl | exact Or.inr (Or.inl rfl) | exact Or.inr (Or.inr rfl))) (zaL)))))) (zaG (pds_raiseC (k := 1) X_EffectChanged rfl tk (hr.mono (by decide)) (zaA (i := 1) rfl (by first | exact Or.inl rfl | exact Or.inr (Or.inl rfl) | exact Or.inr (Or.inr rfl))) rfl)) (pds_nil)) (zaG (pds_ret (zaI g_swapped (hr.mono (by decide)) tk rfl (pav_v (zaA (i := 0) rfl (by first | exact Or.inl rfl | exact Or.inr (Or.inl rfl) | exact Or.inr (Or.inr rfl))) (pav_v (zaA (i := 1) rfl (by first | exact Or.inl rfl | exact Or.inr (Or.inl rfl) | exact Or.inr (Or.inr rfl))) (zaL)))))))) p_exchange
theorem d__law_told (FF : Fun K "_law_told" "_law_told" s__law_told fa fd) (Z : Zs K mg a_Effect) (X_InvalidPosition : ErrX K mg T "InvalidPosition" 4) (X_EffectChanged : ErrX K mg T "EffectChanged" 9) (FV_can_exchange : FnV K mg T "can_exchange" 1003) (FV_exchange : FnV K mg T "exchange" 1002) (I_InvalidPosition_ValueError : ErrI K T 4 (.type "ValueError") true) (Y_InvalidPosition : ErrN K mg T "InvalidPosition" 4) (I_EffectChanged_RuntimeError : ErrI K T 9 (.type "RuntimeError") true) (Y_EffectChanged : ErrN K mg T "EffectChanged" 9) (hfld_InvalidPosition : ∀ ei, T.ex 4 = some ei → ei.field = "value") (hfld_EffectChanged : ∀ ei, T.ex 9 = some ei → ei.field = "position") (g_can_exchange : Cal P w K mg base T "can_exchange" 10 ["steps", "position"] [] zaJ) (g_exchange : Cal P w K mg base T "exchange" 10 ["steps", "position"] [] C_exchange) : Def P w K mg base T 11 fa fd ["_law_asked", "_law_steps_here", "_law_position"] [] C__law_told :=
  fnD (k := 10) FF sc__law_told rfl (fun cdv hcd A outer s H E B W hr tk po hB => zaG (pds_tryE rfl rfl sc__law_told.nd tk (fun B1 We pn xe tk po => zaG (pds_ret (pd_lst (zaB (pd_str (l := [116, 111, 108, 100]) rfl (by decide)) (zaB (pd_callF (i := 0) (k := 10) (tbl := [(1002, C_exchange), (1003, zaJ)]) (as := [.v (zaC 1), .v (zaC 2)]) (List.forall_mem_cons.mpr ⟨calF_of (k := 10) g_exchange FV_exchange (by decide) rfl rfl, (List.forall_mem_cons.mpr ⟨calF_of (k := 10) g_can_exchange FV_can_exchange (by decide) rfl rfl, (fun z hz => nomatch hz)⟩)⟩) (hr.mono (by decide)) tk rfl (by first | exact Or.inl rfl | exact Or.inr (Or.inl rfl) | exact Or.inr (Or.inr rfl)) (pav_v (zaA (i := 1) rfl (by first | exact Or.inl rfl | exact Or.inr (Or.inl rfl) | exact Or.inr (Or.inr rfl))) (pav_v (zaA (i := 2) rfl (by first | exact Or.inl rfl | exact Or.inr (Or.inl rfl) | exact Or.inr (Or.inr rfl))) (zaL)))) (zaE)))))) (cls_cons (i := 3) Y_EffectChanged rfl rfl rfl (by decide) (fun a oe cls dx pn y B2 hz hf hP hx hy => zaG (pds_ret (pd_lst (zaB (pd_str (l := [99, 104, 97, 110, 103, 101, 100]) rfl (by decide)) (zaB (pd_excI (i := 3) hz hf hP hx hy I_EffectChanged_RuntimeError rfl Z.z_isinstance rfl Z.z_RuntimeError rfl rfl (by first | exact Or.inl rfl | exact Or.inr (Or.inl rfl) | exact Or.inr (Or.inr rfl)) (by decide)) (zaB (pd_excf (i := 3) hz hf hP hx hy X_EffectChanged hfld_EffectChanged rfl (by first | exact Or.inl rfl | exact Or.inr (Or.inl rfl) | exact Or.inr (Or.inr rfl)) (by decide)) (zaE))))))) (cls_cons (i := 3) Y_InvalidPosition rfl rfl rfl (by decide) (fun a oe cls dx pn y B2 hz hf hP hx hy => zaG (pds_ret (pd_lst (zaB (pd_str (l := [112, 111, 115, 105, 116, 105, 111, 110]) rfl (by decide)) (zaB (pd_excI (i := 3) hz hf hP hx hy I_InvalidPosition_ValueError rfl Z.z_isinstance rfl Z.z_ValueError rfl rfl (by first | exact Or.inl rfl | exact Or.inr (Or.inl rfl) | exact Or.inr (Or.inr rfl)) (by decide)) (zaB (pd_callB ok_repr (call_reprA hr.un0 hr.gd) rfl Z.z_repr (by rfl) (zaB (pd_excf (i := 3) hz hf hP hx hy X_InvalidPosition hfld_InvalidPosition rfl (by first | exact Or.inl rfl | exact Or.inr (Or.inl rfl) | exact Or.inr (Or.inr rfl)) (by decide)) (zaE))) (zaE))))))) (cls_nil))))) p__law_told
theorem d_law (FF : Fun K "law" "law" s_law fa fd) (Z : Zs K mg a_Effect) (FV_exchange : FnV K mg T "exchange" 1002) (FV_can_exchange : FnV K mg T "can_exchange" 1003) (g__law_hand : Cal P w K mg base T "_law_hand" 2 ["_law_script", "_law_k"] [] C__law_hand) (g__law_letters : Cal P w K mg base T "_law_letters" 3 ["_law_pool"] [0] C__law_letters) (g__law_steps : Cal P w K mg base T "_law_steps" 3 ["_law_pool", "_law_letters_here", "_law_most"] [0] C__law_steps) (g__law_near : Cal P w K mg base T "_law_near" 4 ["_law_pool", "_law_letters_here", "_law_most"] [0] C__law_near) (g_exchanges : CalG P w K mg base T "exchanges" 10 ["steps"] [] false C_exchanges) (g_can_exchange : Cal P w K mg base T "can_exchange" 10 ["steps", "position"] [] zaJ) (g__law_parts : Cal P w K mg base T "_law_parts" 3 ["_law_steps_here"] [] C__law_parts) (g__law_told : Cal P w K mg base T "_law_told" 11 ["_law_asked", "_law_steps_here", "_law_position"] [] C__law_told) : Def P w K mg base T 12 fa fd ["_law_script"] [] lawCon :=
  fnD (k := 11) FF sc_law rfl (fun cdv hcd A outer s H E B W hr tk po hB => zaF (pds_for po rfl (pdi_rng1 rfl Z.z_range (pd_callB ok_max (call_maxA rfl) rfl Z.z_max (by rfl) (zaB (zaH) (zaB (pd_callB ok_min (call_minA rfl) rfl Z.z_min (by rfl) (zaB (pd_callB ok_len call_lenA rfl Z.z_len (by rfl) (zaB (zaA (i := 0) rfl (by first | exact Or.inl rfl | exact Or.inr (Or.inl rfl) | exact Or.inr (Or.inr rfl))) (zaE))) (zaB (zaH) (zaE)))) (zaE))))) (pdg_name (i := 1) sc_law.nd rfl (by first | exact Or.inl rfl | exact Or.inr rfl) (by decide)) (zaF (pds_setO (i := 2) sc_law.nd rfl (by first | exact Or.inl rfl | exact Or.inr rfl) (by decide) (zaI g__law_hand (hr.mono (by decide)) tk rfl (pav_v (zaA (i := 0) rfl (by first | exact Or.inl rfl | exact Or.inr (Or.inl rfl) | exact Or.inr (Or.inr rfl))) (pav_v (zaA (i := 1) rfl (by first | exact Or.inl rfl | exact Or.inr (Or.inl rfl) | exact Or.inr (Or.inr rfl))) (zaL))))) (zaF (pds_set (i := 3) sc_law.nd rfl (by first | exact Or.inl rfl | exact Or.inr rfl) (by decide) (zaI g__law_letters (hr.mono (by decide)) tk rfl (pav_m (i := 2) rfl (by first | exact Or.inl rfl | exact Or.inr (Or.inl rfl) | exact Or.inr (Or.inr rfl)) (zaL)))) (zaG (pds_for po rfl (pdi_lst (pd_lst (zaB (zaI g__law_steps (hr.mono (by decide)) tk rfl (pav_m (i := 2) rfl (by first | exact Or.inl rfl | exact Or.inr (Or.inl rfl) | exact Or.inr (Or.inr rfl)) (pav_v (zaA (i := 3) rfl (by first | exact Or.inl rfl | exact Or.inr (Or.inl rfl) | exact Or.inr (Or.inr rfl))) (pav_v (zaH) (zaL))))) (zaB (pd_ix (zaI g__law_near (hr.mono (by decide)) tk rfl (pav_m (i := 2) rfl (by first | exact Or.inl rfl | exact Or.inr (Or.inl rfl) | exact Or.inr (Or.inr rfl)) (pav_v (zaA (i := 3) rfl (by first | exact Or.inl rfl | exact Or.inr (Or.inl rfl) | exact Or.inr (Or.inr rfl))) (pav_v (zaH) (zaL))))) (zaH)) (zaE))))) (pdg_name (i := 4) sc_law.nd rfl (by first | exact Or.inl rfl | exact Or.inr rfl) (by decide)) (zaF (pds_set (i := 5) sc_law.nd rfl (by first | exact Or.inl rfl | exact Or.inr rfl) (by decide) (pd_callTy ok_list call_list_of rfl Z.z_list (by rfl) (zaB (zaA (i := 4) rfl (by first | exact Or.inl rfl | exact Or.inr (Or.inl rfl) | exact Or.inr (Or.inr rfl))) (zaE)))) (zaF (pds_if (pdt_cmp (op_neA hr.units) ok_ne (pd_lcGen (own := [("_law_at", 6)]) g_exchanges (hr.mono (by decide)) rfl (pav_v (zaA (i := 4) rfl (by first | exact Or.inl rfl | exact Or.inr (Or.inl rfl) | exact Or.inr (Or.inr rfl))) (zaL)) (blkOk_by (N := N_law) (sc := defScope s_law) (by decide +kernel)) rfl) (pd_lc (t := .one 6) (own := [("_law_at", 6)]) rfl sc_law.nd (pdi_rng1 rfl Z.z_range (pd_op op_sub ok_sub (pd_callB ok_len call_lenA rfl Z.z_len (by rfl) (zaB (zaA (i := 4) rfl (by first | exact Or.inl rfl | exact Or.inr (Or.inl rfl) | exact Or.inr (Or.inr rfl))) (zaE))) (zaH))) (blkOk_by (N := N_law) (sc := defScope s_law) (by decide +kernel)) rfl rfl (fun _ _ _ _ _ => pgh_one (i := 6) sc_law.nd rfl (by first | exact Or.inl rfl | exact Or.inr rfl)) (fun _ _ _ _ _ _ => pdts_one (pdt_val (zaI g_can_exchange (hr.mono (by decide)) takes_no rfl (pav_v (zaA (i := 4) rfl (by first | exact Or.inl rfl | exact Or.inr (Or.inl rfl) | exact Or.inr (Or.inr rfl))) (pav_v (zaA (i := 6) rfl (by first | exact Or.inl rfl | exact Or.inr (Or.inl rfl) | exact Or.inr (Or.inr rfl))) (zaL)))))) (fun _ _ _ _ _ _ => zaA (i := 6) rfl (by first | exact Or.inl rfl | exact Or.inr (Or.inl rfl) | exact Or.inr (Or.inr rfl)))) (nomark _)) (zaG (pds_ret (pd_bl))) (pds_nil)) (zaF (pds_for po rfl (pdi_rng1 rfl Z.z_range (pd_op op_sub ok_sub (pd_callB ok_len call_lenA rfl Z.z_len (by rfl) (zaB (zaA (i := 4) rfl (by first | exact Or.inl rfl | exact Or.inr (Or.inl rfl) | exact Or.inr (Or.inr rfl))) (zaE))) (zaH))) (pdg_name (i := 6) sc_law.nd rfl (by first | exact Or.inl rfl | exact Or.inr rfl) (by decide)) (zaF (pds_set (i := 8) sc_law.nd rfl (by first | exact Or.inl rfl | exact Or.inr rfl) (by decide) (pd_op op_addA ok_add (pd_op op_addA ok_add (pd_sl (zaA (i := 4) rfl (by first | exact Or.inl rfl | exact Or.inr (Or.inl rfl) | exact Or.inr (Or.inr rfl))) pdo_none (pdo_some (zaA (i := 6) rfl (by first | exact Or.inl rfl | exact Or.inr (Or.inl rfl) | exact Or.inr (Or.inr rfl))))) (pd_lst (zaB (pd_ix (zaA (i := 4) rfl (by first | exact Or.inl rfl | exact Or.inr (Or.inl rfl) | exact Or.inr (Or.inr rfl))) (pd_op op_addA ok_add (zaA (i := 6) rfl (by first | exact Or.inl rfl | exact Or.inr (Or.inl rfl) | exact Or.inr (Or.inr rfl))) (zaH))) (zaB (pd_ix (zaA (i := 4) rfl (by first | exact Or.inl rfl | exact Or.inr (Or.inl rfl) | exact Or.inr (Or.inr rfl))) (zaA (i := 6) rfl (by first | exact Or.inl rfl | exact Or.inr (Or.inl rfl) | exact Or.inr (Or.inr rfl)))) (zaE))))) (pd_sl (zaA (i := 4) rfl (by first | exact Or.inl rfl | exact Or.inr (Or.inl rfl) | exact Or.inr (Or.inr rfl))) (pdo_some (pd_op op_addA ok_add (zaA (i := 6) rfl (by first | exact Or.inl rfl | exact Or.inr (Or.inl rfl) | exact Or.inr (Or.inr rfl))) (zaH))) pdo_none))) (zaF (pds_set (i := 9) sc_law.nd rfl (by first | exact Or.inl rfl | exact Or.inr rfl) (by decide) (pd_and (pd_cmp (op_neA hr.units) ok_ne (pd_ix (pd_ix (zaA (i := 4) rfl (by first | exact Or.inl rfl | exact Or.inr (Or.inl rfl) | exact Or.inr (Or.inr rfl))) (zaA (i := 6) rfl (by first | exact Or.inl rfl | exact Or.inr (Or.inl rfl) | exact Or.inr (Or.inr rfl)))) (zaH)) (pd_ix (pd_ix (zaA (i := 4) rfl (by first | exact Or.inl rfl | exact Or.inr (Or.inl rfl) | exact Or.inr (Or.inr rfl))) (pd_op op_addA ok_add (zaA (i := 6) rfl (by first | exact Or.inl rfl | exact Or.inr (Or.inl rfl) | exact Or.inr (Or.inr rfl))) (zaH))) (zaH)) (nomark _)) (pd_one (pd_cmp (op_eqA hr.units) ok_eq (zaI g__law_parts (hr.mono (by decide)) tk rfl (pav_v (zaA (i := 8) rfl (by first | exact Or.inl rfl | exact Or.inr (Or.inl rfl) | exact Or.inr (Or.inr rfl))) (zaL))) (zaI g__law_parts (hr.mono (by decide)) tk rfl (pav_v (zaA (i := 4) rfl (by first | exact Or.inl rfl | exact Or.inr (Or.inl rfl) | exact Or.inr (Or.inr rfl))) (zaL))) (nomark _))))) (zaF (pds_if (pdt_cmp (op_neA hr.units) ok_ne (pd_callB ok_repr (call_reprA hr.un0 hr.gd) rfl Z.z_repr (by rfl) (zaB (zaI g_can_exchange (hr.mono (by decide)) tk rfl (pav_v (zaA (i := 4) rfl (by first | exact Or.inl rfl | exact Or.inr (Or.inl rfl) | exact Or.inr (Or.inr rfl))) (pav_v (zaA (i := 6) rfl (by first | exact Or.inl rfl | exact Or.inr (Or.inl rfl) | exact Or.inr (Or.inr rfl))) (zaL)))) (zaE))) (pd_callB ok_repr (call_reprA hr.un0 hr.gd) rfl Z.z_repr (by rfl) (zaB (zaA (i := 9) rfl (by first | exact Or.inl rfl | exact Or.inr (Or.inl rfl) | exact Or.inr (Or.inr rfl))) (zaE))) (nomark _)) (zaG (pds_ret (pd_bl))) (pds_nil)) (zaF (pds_set (i := 10) sc_law.nd rfl (by first | exact Or.inl rfl | exact Or.inr rfl) (by decide) (pd_if (pdt_val (zaA (i := 9) rfl (by first | exact Or.inl rfl | exact Or.inr (Or.inl rfl) | exact Or.inr (Or.inr rfl)))) (pd_lst (zaB (pd_str (l := [116, 111, 108, 100]) rfl (by decide)) (zaB (zaA (i := 8) rfl (by first | exact Or.inl rfl | exact Or.inr (Or.inl rfl) | exact Or.inr (Or.inr rfl))) (zaE)))) (pd_lst (zaB (pd_str (l := [99, 104, 97, 110, 103, 101, 100]) rfl (by decide)) (zaB (pd_bl) (zaB (zaA (i := 6) rfl (by first | exact Or.inl rfl | exact Or.inr (Or.inl rfl) | exact Or.inr (Or.inr rfl))) (zaE))))))) (zaG (pds_if (pdt_w (pdw_or (pdt_cmp (op_neA hr.units) ok_ne (zaI g__law_told (hr.mono (by decide)) tk rfl (pav_v (pd_fnv FV_exchange rfl) (pav_v (zaA (i := 4) rfl (by first | exact Or.inl rfl | exact Or.inr (Or.inl rfl) | exact Or.inr (Or.inr rfl))) (pav_v (zaA (i := 6) rfl (by first | exact Or.inl rfl | exact Or.inr (Or.inl rfl) | exact Or.inr (Or.inr rfl))) (zaL))))) (zaA (i := 10) rfl (by first | exact Or.inl rfl | exact Or.inr (Or.inl rfl) | exact Or.inr (Or.inr rfl))) (nomark _)) (pdw_or1 (pdt_cmp (op_neA hr.units) ok_ne (zaA (i := 4) rfl (by first | exact Or.inl rfl | exact Or.inr (Or.inl rfl) | exact Or.inr (Or.inr rfl))) (zaA (i := 5) rfl (by first | exact Or.inl rfl | exact Or.inr (Or.inl rfl) | exact Or.inr (Or.inr rfl))) (nomark _))))) (zaG (pds_ret (pd_bl))) (pds_nil)))))))) (zaG (pds_for po rfl (pdi_lst (pd_lst (zaB (pd_un un_neg ok_neg (zaH)) (zaB (pd_op op_sub ok_sub (pd_callB ok_len call_lenA rfl Z.z_len (by rfl) (zaB (zaA (i := 4) rfl (by first | exact Or.inl rfl | exact Or.inr (Or.inl rfl) | exact Or.inr (Or.inr rfl))) (zaE))) (zaH)) (zaB (pd_callB ok_len call_lenA rfl Z.z_len (by rfl) (zaB (zaA (i := 4) rfl (by first | exact Or.inl rfl | exact Or.inr (Or.inl rfl) | exact Or.inr (Or.inr rfl))) (zaE))) (zaB (pd_non) (zaB (pd_bl) (zaB (pd_str (l := [48]) rfl (by decide)) (zaB (pd_lst (zaB (zaH) (zaE))) (zaB (pd_op op_pow ok_pow (zaH) (zaH)) (zaE))))))))))) (pdg_name (i := 7) sc_law.nd rfl (by first | exact Or.inl rfl | exact Or.inr rfl) (by decide)) (zaF (pds_set (i := 10) sc_law.nd rfl (by first | exact Or.inl rfl | exact Or.inr rfl) (by decide) (pd_lst (zaB (pd_str (l := [112, 111, 115, 105, 116, 105, 111, 110]) rfl (by decide)) (zaB (pd_bl) (zaB (pd_callB ok_repr (call_reprA hr.un0 hr.gd) rfl Z.z_repr (by rfl) (zaB (zaA (i := 7) rfl (by first | exact Or.inl rfl | exact Or.inr (Or.inl rfl) | exact Or.inr (Or.inr rfl))) (zaE))) (zaE)))))) (zaG (pds_if (pdt_w (pdw_or (pdt_cmp (op_neA hr.units) ok_ne (zaA (i := 7) rfl (by first | exact Or.inl rfl | exact Or.inr (Or.inl rfl) | exact Or.inr (Or.inr rfl))) (zaH) (nomark _)) (pdw_or1 (pdt_cmp op_lt ok_lt (pd_callB ok_len call_lenA rfl Z.z_len (by rfl) (zaB (zaA (i := 4) rfl (by first | exact Or.inl rfl | exact Or.inr (Or.inl rfl) | exact Or.inr (Or.inr rfl))) (zaE))) (zaH) (nomark _))))) (zaG (pds_for po rfl (pdi_lst (pd_lst (zaB (pd_fnv FV_can_exchange rfl) (zaB (pd_fnv FV_exchange rfl) (zaE))))) (pdg_name (i := 11) sc_law.nd rfl (by first | exact Or.inl rfl | exact Or.inr rfl) (by decide)) (zaG (pds_if (pdt_cmp (op_neA hr.units) ok_ne (zaI g__law_told (hr.mono (by decide)) tk rfl (pav_v (zaA (i := 11) rfl (by first | exact Or.inl rfl | exact Or.inr (Or.inl rfl) | exact Or.inr (Or.inr rfl))) (pav_v (zaA (i := 4) rfl (by first | exact Or.inl rfl | exact Or.inr (Or.inl rfl) | exact Or.inr (Or.inr rfl))) (pav_v (zaA (i := 7) rfl (by first | exact Or.inl rfl | exact Or.inr (Or.inl rfl) | exact Or.inr (Or.inr rfl))) (zaL))))) (zaA (i := 10) rfl (by first | exact Or.inl rfl | exact Or.inr (Or.inl rfl) | exact Or.inr (Or.inr rfl))) (nomark _)) (zaG (pds_ret (pd_bl))) (pds_nil))))) (pds_nil)))))))))))))) (zaG (pds_ret (pd_bl)))) p_law
end
def mkT (a_Effect : Addr) (e_InvalidSequence : Addr) (e_InvalidEffect : Addr) (e_InvalidPosition : Addr) (e_EffectChanged : Addr) (v_can_exchange : Addr) (v_exchange : Addr) (tabs : List (Addr × Str)) : Tb := ⟨fun n => if n = 0 then some (ci_Effect a_Effect) else if n = 1003 then some ⟨v_can_exchange, []⟩ else if n = 1002 then some ⟨v_exchange, []⟩ else none, fun n => if n = 1 then some ⟨e_InvalidSequence, "position"⟩ else if n = 3 then some ⟨e_InvalidEffect, "part"⟩ else if n = 4 then some ⟨e_InvalidPosition, "value"⟩ else if n = 9 then some ⟨e_EffectChanged, "position"⟩ else none, tabs⟩
theorem all_mk {l : PySem.W.OpenLaw} {w : World} {K : PySem.W.Frag} {h : Heap} {mg : Str → Option Value} {fa : Addr} (X : K.In h) (G : h.Ns mainGlobals mg) (hfa : mg "law" = some (.ref fa))
    {a_Effect : Addr}
    {f__law_hand : Addr} {oc__law_hand dc__law_hand pm__law_hand ct__law_hand kV__law_hand cd__law_hand : Value} {od__law_hand an__law_hand : Option Addr} {sl__law_hand : Array (Option Value)}
    {f__law_draw : Addr} {oc__law_draw dc__law_draw pm__law_draw ct__law_draw kV__law_draw cd__law_draw : Value} {od__law_draw an__law_draw : Option Addr} {sl__law_draw : Array (Option Value)}
    {f__law_letters : Addr} {oc__law_letters dc__law_letters pm__law_letters ct__law_letters kV__law_letters cd__law_letters : Value} {od__law_letters an__law_letters : Option Addr} {sl__law_letters : Array (Option Value)}
    {f__law_steps : Addr} {oc__law_steps dc__law_steps pm__law_steps ct__law_steps kV__law_steps cd__law_steps : Value} {od__law_steps an__law_steps : Option Addr} {sl__law_steps : Array (Option Value)}
    {f__law_word : Addr} {oc__law_word dc__law_word pm__law_word ct__law_word kV__law_word cd__law_word : Value} {od__law_word an__law_word : Option Addr} {sl__law_word : Array (Option Value)}
    {f__law_near : Addr} {oc__law_near dc__law_near pm__law_near ct__law_near kV__law_near cd__law_near : Value} {od__law_near an__law_near : Option Addr} {sl__law_near : Array (Option Value)}
    {f_is_step : Addr} {oc_is_step dc_is_step pm_is_step ct_is_step kV_is_step cd_is_step : Value} {od_is_step an_is_step : Option Addr} {sl_is_step : Array (Option Value)}
    {f_first_invalid : Addr} {oc_first_invalid dc_first_invalid pm_first_invalid ct_first_invalid kV_first_invalid cd_first_invalid : Value} {od_first_invalid an_first_invalid : Option Addr} {sl_first_invalid : Array (Option Value)}
    {f_check_sequence : Addr} {oc_check_sequence dc_check_sequence pm_check_sequence ct_check_sequence kV_check_sequence cd_check_sequence : Value} {od_check_sequence an_check_sequence : Option Addr} {sl_check_sequence : Array (Option Value)}
    {f_Effect_takes : Addr} {oc_Effect_takes dc_Effect_takes pm_Effect_takes ct_Effect_takes kV_Effect_takes cd_Effect_takes : Value} {od_Effect_takes an_Effect_takes : Option Addr} {sl_Effect_takes : Array (Option Value)}
    {p_Effect_takes : Addr} {r_Effect_takes : List Value}
    {f_Effect_puts : Addr} {oc_Effect_puts dc_Effect_puts pm_Effect_puts ct_Effect_puts kV_Effect_puts cd_Effect_puts : Value} {od_Effect_puts an_Effect_puts : Option Addr} {sl_Effect_puts : Array (Option Value)}
    {p_Effect_puts : Addr} {r_Effect_puts : List Value}
    {f_Effect_core : Addr} {oc_Effect_core dc_Effect_core pm_Effect_core ct_Effect_core kV_Effect_core cd_Effect_core : Value} {od_Effect_core an_Effect_core : Option Addr} {sl_Effect_core : Array (Option Value)}
    {p_Effect_core : Addr} {r_Effect_core : List Value}
    {f_parts_of : Addr} {oc_parts_of dc_parts_of pm_parts_of ct_parts_of kV_parts_of cd_parts_of : Value} {od_parts_of an_parts_of : Option Addr} {sl_parts_of : Array (Option Value)}
    {f_Effect___eq__ : Addr} {oc_Effect___eq__ dc_Effect___eq__ pm_Effect___eq__ ct_Effect___eq__ kV_Effect___eq__ cd_Effect___eq__ : Value} {od_Effect___eq__ an_Effect___eq__ : Option Addr} {sl_Effect___eq__ : Array (Option Value)}
    {f_chosen : Addr} {oc_chosen dc_chosen pm_chosen ct_chosen kV_chosen cd_chosen : Value} {od_chosen an_chosen : Option Addr} {sl_chosen : Array (Option Value)}
    {f_is_word : Addr} {oc_is_word dc_is_word pm_is_word ct_is_word kV_is_word cd_is_word : Value} {od_is_word an_is_word : Option Addr} {sl_is_word : Array (Option Value)}
    {f_is_integer : Addr} {oc_is_integer dc_is_integer pm_is_integer ct_is_integer kV_is_integer cd_is_integer : Value} {od_is_integer an_is_integer : Option Addr} {sl_is_integer : Array (Option Value)}
    {f_in_range : Addr} {oc_in_range dc_in_range pm_in_range ct_in_range kV_in_range cd_in_range : Value} {od_in_range an_in_range : Option Addr} {sl_in_range : Array (Option Value)}
    {f_is_suitable : Addr} {oc_is_suitable dc_is_suitable pm_is_suitable ct_is_suitable kV_is_suitable cd_is_suitable : Value} {od_is_suitable an_is_suitable : Option Addr} {sl_is_suitable : Array (Option Value)}
    {f_Effect_is_valid : Addr} {oc_Effect_is_valid dc_Effect_is_valid pm_Effect_is_valid ct_Effect_is_valid kV_Effect_is_valid cd_Effect_is_valid : Value} {od_Effect_is_valid an_Effect_is_valid : Option Addr} {sl_Effect_is_valid : Array (Option Value)}
    {p_Effect_is_valid : Addr} {r_Effect_is_valid : List Value}
    {f_Effect___init__ : Addr} {oc_Effect___init__ dc_Effect___init__ pm_Effect___init__ ct_Effect___init__ kV_Effect___init__ cd_Effect___init__ : Value} {od_Effect___init__ an_Effect___init__ : Option Addr} {sl_Effect___init__ : Array (Option Value)}
    {f_least_suitable : Addr} {oc_least_suitable dc_least_suitable pm_least_suitable ct_least_suitable kV_least_suitable cd_least_suitable : Value} {od_least_suitable an_least_suitable : Option Addr} {sl_least_suitable : Array (Option Value)}
    {f_depths : Addr} {oc_depths dc_depths pm_depths ct_depths kV_depths cd_depths : Value} {od_depths an_depths : Option Addr} {sl_depths : Array (Option Value)}
    {f_Effect_of : Addr} {oc_Effect_of dc_Effect_of pm_Effect_of ct_Effect_of kV_Effect_of cd_Effect_of : Value} {od_Effect_of an_Effect_of : Option Addr} {sl_Effect_of : Array (Option Value)}
    {p_Effect_of : Addr} {r_Effect_of : List Value}
    {f_effect_of : Addr} {oc_effect_of dc_effect_of pm_effect_of ct_effect_of kV_effect_of cd_effect_of : Value} {od_effect_of an_effect_of : Option Addr} {sl_effect_of : Array (Option Value)}
    {f_swapped : Addr} {oc_swapped dc_swapped pm_swapped ct_swapped kV_swapped cd_swapped : Value} {od_swapped an_swapped : Option Addr} {sl_swapped : Array (Option Value)}
    {f_is_allowed : Addr} {oc_is_allowed dc_is_allowed pm_is_allowed ct_is_allowed kV_is_allowed cd_is_allowed : Value} {od_is_allowed an_is_allowed : Option Addr} {sl_is_allowed : Array (Option Value)}
    {f_exchanges : Addr} {oc_exchanges dc_exchanges pm_exchanges ct_exchanges kV_exchanges cd_exchanges : Value} {od_exchanges an_exchanges : Option Addr} {sl_exchanges : Array (Option Value)}
    {f_check_position : Addr} {oc_check_position dc_check_position pm_check_position ct_check_position kV_check_position cd_check_position : Value} {od_check_position an_check_position : Option Addr} {sl_check_position : Array (Option Value)}
    {f_can_exchange : Addr} {oc_can_exchange dc_can_exchange pm_can_exchange ct_can_exchange kV_can_exchange cd_can_exchange : Value} {od_can_exchange an_can_exchange : Option Addr} {sl_can_exchange : Array (Option Value)}
    {f__law_fit : Addr} {oc__law_fit dc__law_fit pm__law_fit ct__law_fit kV__law_fit cd__law_fit : Value} {od__law_fit an__law_fit : Option Addr} {sl__law_fit : Array (Option Value)}
    {f__law_parts : Addr} {oc__law_parts dc__law_parts pm__law_parts ct__law_parts kV__law_parts cd__law_parts : Value} {od__law_parts an__law_parts : Option Addr} {sl__law_parts : Array (Option Value)}
    {f_exchange : Addr} {oc_exchange dc_exchange pm_exchange ct_exchange kV_exchange cd_exchange : Value} {od_exchange an_exchange : Option Addr} {sl_exchange : Array (Option Value)}
    {f__law_told : Addr} {oc__law_told dc__law_told pm__law_told ct__law_told kV__law_told cd__law_told : Value} {od__law_told an__law_told : Option Addr} {sl__law_told : Array (Option Value)}
    {f_law : Addr} {oc_law dc_law pm_law ct_law kV_law cd_law : Value} {od_law an_law : Option Addr} {sl_law : Array (Option Value)}
    {e_InvalidSequence fI_InvalidSequence : Addr} {nm_InvalidSequence q_InvalidSequence : Str} {N_InvalidSequence : Addr} {bs_InvalidSequence : List Value} {sn_InvalidSequence : List Str} {sub_InvalidSequence : List Value} {ab_InvalidSequence : Bool} {col_InvalidSequence : Option Bool} {dd_InvalidSequence : Option Addr} {m0_InvalidSequence m1_InvalidSequence m2_InvalidSequence m3_InvalidSequence m5_InvalidSequence : Option Value} {oc_InvalidSequence dc_InvalidSequence pm_InvalidSequence cd_InvalidSequence ct_InvalidSequence : Value} {od_InvalidSequence an_InvalidSequence : Option Addr} {sl_InvalidSequence : Array (Option Value)}
    {e_InvalidEffect fI_InvalidEffect : Addr} {nm_InvalidEffect q_InvalidEffect : Str} {N_InvalidEffect : Addr} {bs_InvalidEffect : List Value} {sn_InvalidEffect : List Str} {sub_InvalidEffect : List Value} {ab_InvalidEffect : Bool} {col_InvalidEffect : Option Bool} {dd_InvalidEffect : Option Addr} {m0_InvalidEffect m1_InvalidEffect m2_InvalidEffect m3_InvalidEffect m5_InvalidEffect : Option Value} {oc_InvalidEffect dc_InvalidEffect pm_InvalidEffect cd_InvalidEffect ct_InvalidEffect : Value} {od_InvalidEffect an_InvalidEffect : Option Addr} {sl_InvalidEffect : Array (Option Value)}
    {e_InvalidPosition fI_InvalidPosition : Addr} {nm_InvalidPosition q_InvalidPosition : Str} {N_InvalidPosition : Addr} {bs_InvalidPosition : List Value} {sn_InvalidPosition : List Str} {sub_InvalidPosition : List Value} {ab_InvalidPosition : Bool} {col_InvalidPosition : Option Bool} {dd_InvalidPosition : Option Addr} {m0_InvalidPosition m1_InvalidPosition m2_InvalidPosition m3_InvalidPosition m5_InvalidPosition : Option Value} {oc_InvalidPosition dc_InvalidPosition pm_InvalidPosition cd_InvalidPosition ct_InvalidPosition : Value} {od_InvalidPosition an_InvalidPosition : Option Addr} {sl_InvalidPosition : Array (Option Value)}
    {e_EffectChanged fI_EffectChanged : Addr} {nm_EffectChanged q_EffectChanged : Str} {N_EffectChanged : Addr} {bs_EffectChanged : List Value} {sn_EffectChanged : List Str} {sub_EffectChanged : List Value} {ab_EffectChanged : Bool} {col_EffectChanged : Option Bool} {dd_EffectChanged : Option Addr} {m0_EffectChanged m1_EffectChanged m2_EffectChanged m3_EffectChanged m5_EffectChanged : Option Value} {oc_EffectChanged dc_EffectChanged pm_EffectChanged cd_EffectChanged ct_EffectChanged : Value} {od_EffectChanged an_EffectChanged : Option Addr} {sl_EffectChanged : Array (Option Value)}
    {nm_Effect q_Effect : Str} {Nn_Effect : Addr} {bs_Effect : List Value} {hh_Effect : Bool} {sn_Effect : List Str} {sub_Effect : List Value} {ab_Effect : Bool} {col_Effect : Option Bool} {dd_Effect : Option Addr} {m0_Effect m1_Effect m2_Effect m3_Effect m5_Effect : Option Value} {ni_Effect : String} {lc_Effect : Value} {ld_Effect : Option Addr} {es_Effect : Array DictEntry} {en_Effect : Nat} {ls_Effect : Array (Option Value)}
    {tk_ITEMS : Tok}
    {tk_MAX_STEPS : Tok}
    {tk_MAX_ITEMS_effects : Tok}
    (aC_Effect : PySem.W.nsIn K mainGlobals "Effect" = some (some (.ref a_Effect)))
    (pg_Effect : PySem.W.plainGet K a_Effect Str.empty = true)
    (hd_Effect : PySem.W.hasDictIn K a_Effect = true)
    (po_Effect : PySem.W.plainOver K a_Effect = true)
    (sa_Effect : PySem.W.findIn K (.ref a_Effect) "__setattr__" = some (some (.builtin "object.__setattr__")))
    (mk_Effect : PySem.W.makesIn K a_Effect = true)
    (kc_Effect : PySem.W.keepIn K (.ref a_Effect) = true)
    (rd_Effect : PySem.W.readsIn K a_Effect (.type "type") = true)
    (ga_Effect : PySem.W.specialIn K (.ref a_Effect) "__getattribute__" = some (some (.builtin "type.__getattribute__")))
    (n_Effect_own_takes : PySem.W.findIn K (.ref a_Effect) "own_takes" = some none)
    (n_Effect_own_puts : PySem.W.findIn K (.ref a_Effect) "own_puts" = some none)
    (n_Effect_own_core : PySem.W.findIn K (.ref a_Effect) "own_core" = some none)
    (a__law_hand : PySem.W.nsIn K mainGlobals "_law_hand" = some (some (.ref f__law_hand)))
    (l__law_hand : K.lookup f__law_hand = some ⟨oc__law_hand, od__law_hand, .func (PySem.W.fnOf "_law_hand" "_law_hand" (defArgs s__law_hand) (defBody s__law_hand) (defScope s__law_hand) .none kV__law_hand dc__law_hand pm__law_hand an__law_hand cd__law_hand ct__law_hand), sl__law_hand⟩)
    (c__law_hand : PySem.W.codeIn K cd__law_hand "_law_hand" = true)
    (k__law_hand : PySem.W.keepIn K (.ref f__law_hand) = true)
    (a__law_draw : PySem.W.nsIn K mainGlobals "_law_draw" = some (some (.ref f__law_draw)))
    (l__law_draw : K.lookup f__law_draw = some ⟨oc__law_draw, od__law_draw, .func (PySem.W.fnOf "_law_draw" "_law_draw" (defArgs s__law_draw) (defBody s__law_draw) (defScope s__law_draw) .none kV__law_draw dc__law_draw pm__law_draw an__law_draw cd__law_draw ct__law_draw), sl__law_draw⟩)
    (c__law_draw : PySem.W.codeIn K cd__law_draw "_law_draw" = true)
    (k__law_draw : PySem.W.keepIn K (.ref f__law_draw) = true)
    (a__law_letters : PySem.W.nsIn K mainGlobals "_law_letters" = some (some (.ref f__law_letters)))
    (l__law_letters : K.lookup f__law_letters = some ⟨oc__law_letters, od__law_letters, .func (PySem.W.fnOf "_law_letters" "_law_letters" (defArgs s__law_letters) (defBody s__law_letters) (defScope s__law_letters) .none kV__law_letters dc__law_letters pm__law_letters an__law_letters cd__law_letters ct__law_letters), sl__law_letters⟩)
    (c__law_letters : PySem.W.codeIn K cd__law_letters "_law_letters" = true)
    (k__law_letters : PySem.W.keepIn K (.ref f__law_letters) = true)
    (a__law_steps : PySem.W.nsIn K mainGlobals "_law_steps" = some (some (.ref f__law_steps)))
    (l__law_steps : K.lookup f__law_steps = some ⟨oc__law_steps, od__law_steps, .func (PySem.W.fnOf "_law_steps" "_law_steps" (defArgs s__law_steps) (defBody s__law_steps) (defScope s__law_steps) .none kV__law_steps dc__law_steps pm__law_steps an__law_steps cd__law_steps ct__law_steps), sl__law_steps⟩)
    (c__law_steps : PySem.W.codeIn K cd__law_steps "_law_steps" = true)
    (k__law_steps : PySem.W.keepIn K (.ref f__law_steps) = true)
    (a__law_word : PySem.W.nsIn K mainGlobals "_law_word" = some (some (.ref f__law_word)))
    (l__law_word : K.lookup f__law_word = some ⟨oc__law_word, od__law_word, .func (PySem.W.fnOf "_law_word" "_law_word" (defArgs s__law_word) (defBody s__law_word) (defScope s__law_word) .none kV__law_word dc__law_word pm__law_word an__law_word cd__law_word ct__law_word), sl__law_word⟩)
    (c__law_word : PySem.W.codeIn K cd__law_word "_law_word" = true)
    (k__law_word : PySem.W.keepIn K (.ref f__law_word) = true)
    (a__law_near : PySem.W.nsIn K mainGlobals "_law_near" = some (some (.ref f__law_near)))
    (l__law_near : K.lookup f__law_near = some ⟨oc__law_near, od__law_near, .func (PySem.W.fnOf "_law_near" "_law_near" (defArgs s__law_near) (defBody s__law_near) (defScope s__law_near) .none kV__law_near dc__law_near pm__law_near an__law_near cd__law_near ct__law_near), sl__law_near⟩)
    (c__law_near : PySem.W.codeIn K cd__law_near "_law_near" = true)
    (k__law_near : PySem.W.keepIn K (.ref f__law_near) = true)
    (a_is_step : PySem.W.nsIn K mainGlobals "is_step" = some (some (.ref f_is_step)))
    (l_is_step : K.lookup f_is_step = some ⟨oc_is_step, od_is_step, .func (PySem.W.fnOf "is_step" "is_step" (defArgs s_is_step) (defBody s_is_step) (defScope s_is_step) .none kV_is_step dc_is_step pm_is_step an_is_step cd_is_step ct_is_step), sl_is_step⟩)
    (c_is_step : PySem.W.codeIn K cd_is_step "is_step" = true)
    (k_is_step : PySem.W.keepIn K (.ref f_is_step) = true)
    (a_first_invalid : PySem.W.nsIn K mainGlobals "first_invalid" = some (some (.ref f_first_invalid)))
    (l_first_invalid : K.lookup f_first_invalid = some ⟨oc_first_invalid, od_first_invalid, .func (PySem.W.fnOf "first_invalid" "first_invalid" (defArgs s_first_invalid) (defBody s_first_invalid) (defScope s_first_invalid) .none kV_first_invalid dc_first_invalid pm_first_invalid an_first_invalid cd_first_invalid ct_first_invalid), sl_first_invalid⟩)
    (c_first_invalid : PySem.W.codeIn K cd_first_invalid "first_invalid" = true)
    (k_first_invalid : PySem.W.keepIn K (.ref f_first_invalid) = true)
    (a_check_sequence : PySem.W.nsIn K mainGlobals "check_sequence" = some (some (.ref f_check_sequence)))
    (l_check_sequence : K.lookup f_check_sequence = some ⟨oc_check_sequence, od_check_sequence, .func (PySem.W.fnOf "check_sequence" "check_sequence" (defArgs s_check_sequence) (defBody s_check_sequence) (defScope s_check_sequence) .none kV_check_sequence dc_check_sequence pm_check_sequence an_check_sequence cd_check_sequence ct_check_sequence), sl_check_sequence⟩)
    (c_check_sequence : PySem.W.codeIn K cd_check_sequence "check_sequence" = true)
    (k_check_sequence : PySem.W.keepIn K (.ref f_check_sequence) = true)
    (w_Effect_takes : PySem.W.findIn K (.ref a_Effect) "takes" = some (some (.ref p_Effect_takes)))
    (g_Effect_takes : PySem.W.specialIn K (.ref p_Effect_takes) "__get__" = some (some (.builtin "property.__get__")))
    (t_Effect_takes : PySem.W.takesIn K (.ref p_Effect_takes) = some true)
    (r_Effect_takes : PySem.W.recIn K p_Effect_takes "property" = some (.ref f_Effect_takes :: r_Effect_takes))
    (l_Effect_takes : K.lookup f_Effect_takes = some ⟨oc_Effect_takes, od_Effect_takes, .func (PySem.W.fnOf "takes" "Effect.takes" (defArgs s_Effect_takes) (defBody s_Effect_takes) (defScope s_Effect_takes) .none kV_Effect_takes dc_Effect_takes pm_Effect_takes an_Effect_takes cd_Effect_takes ct_Effect_takes), sl_Effect_takes⟩)
    (c_Effect_takes : PySem.W.codeIn K cd_Effect_takes "Effect.takes" = true)
    (k_Effect_takes : PySem.W.keepIn K (.ref f_Effect_takes) = true)
    (w_Effect_puts : PySem.W.findIn K (.ref a_Effect) "puts" = some (some (.ref p_Effect_puts)))
    (g_Effect_puts : PySem.W.specialIn K (.ref p_Effect_puts) "__get__" = some (some (.builtin "property.__get__")))
    (t_Effect_puts : PySem.W.takesIn K (.ref p_Effect_puts) = some true)
    (r_Effect_puts : PySem.W.recIn K p_Effect_puts "property" = some (.ref f_Effect_puts :: r_Effect_puts))
    (l_Effect_puts : K.lookup f_Effect_puts = some ⟨oc_Effect_puts, od_Effect_puts, .func (PySem.W.fnOf "puts" "Effect.puts" (defArgs s_Effect_puts) (defBody s_Effect_puts) (defScope s_Effect_puts) .none kV_Effect_puts dc_Effect_puts pm_Effect_puts an_Effect_puts cd_Effect_puts ct_Effect_puts), sl_Effect_puts⟩)
    (c_Effect_puts : PySem.W.codeIn K cd_Effect_puts "Effect.puts" = true)
    (k_Effect_puts : PySem.W.keepIn K (.ref f_Effect_puts) = true)
    (w_Effect_core : PySem.W.findIn K (.ref a_Effect) "core" = some (some (.ref p_Effect_core)))
    (g_Effect_core : PySem.W.specialIn K (.ref p_Effect_core) "__get__" = some (some (.builtin "property.__get__")))
    (t_Effect_core : PySem.W.takesIn K (.ref p_Effect_core) = some true)
    (r_Effect_core : PySem.W.recIn K p_Effect_core "property" = some (.ref f_Effect_core :: r_Effect_core))
    (l_Effect_core : K.lookup f_Effect_core = some ⟨oc_Effect_core, od_Effect_core, .func (PySem.W.fnOf "core" "Effect.core" (defArgs s_Effect_core) (defBody s_Effect_core) (defScope s_Effect_core) .none kV_Effect_core dc_Effect_core pm_Effect_core an_Effect_core cd_Effect_core ct_Effect_core), sl_Effect_core⟩)
    (c_Effect_core : PySem.W.codeIn K cd_Effect_core "Effect.core" = true)
    (k_Effect_core : PySem.W.keepIn K (.ref f_Effect_core) = true)
    (a_parts_of : PySem.W.nsIn K mainGlobals "parts_of" = some (some (.ref f_parts_of)))
    (l_parts_of : K.lookup f_parts_of = some ⟨oc_parts_of, od_parts_of, .func (PySem.W.fnOf "parts_of" "parts_of" (defArgs s_parts_of) (defBody s_parts_of) (defScope s_parts_of) .none kV_parts_of dc_parts_of pm_parts_of an_parts_of cd_parts_of ct_parts_of), sl_parts_of⟩)
    (c_parts_of : PySem.W.codeIn K cd_parts_of "parts_of" = true)
    (k_parts_of : PySem.W.keepIn K (.ref f_parts_of) = true)
    (w_Effect___eq__ : PySem.W.findIn K (.ref a_Effect) "__eq__" = some (some (.ref f_Effect___eq__)))
    (i_Effect___eq__ : PySem.W.isFn K (.ref f_Effect___eq__) = true)
    (l_Effect___eq__ : K.lookup f_Effect___eq__ = some ⟨oc_Effect___eq__, od_Effect___eq__, .func (PySem.W.fnOf "__eq__" "Effect.__eq__" (defArgs s_Effect___eq__) (defBody s_Effect___eq__) (defScope s_Effect___eq__) .none kV_Effect___eq__ dc_Effect___eq__ pm_Effect___eq__ an_Effect___eq__ cd_Effect___eq__ ct_Effect___eq__), sl_Effect___eq__⟩)
    (c_Effect___eq__ : PySem.W.codeIn K cd_Effect___eq__ "Effect.__eq__" = true)
    (k_Effect___eq__ : PySem.W.keepIn K (.ref f_Effect___eq__) = true)
    (a_chosen : PySem.W.nsIn K mainGlobals "chosen" = some (some (.ref f_chosen)))
    (l_chosen : K.lookup f_chosen = some ⟨oc_chosen, od_chosen, .func (PySem.W.fnOf "chosen" "chosen" (defArgs s_chosen) (defBody s_chosen) (defScope s_chosen) .none kV_chosen dc_chosen pm_chosen an_chosen cd_chosen ct_chosen), sl_chosen⟩)
    (c_chosen : PySem.W.codeIn K cd_chosen "chosen" = true)
    (k_chosen : PySem.W.keepIn K (.ref f_chosen) = true)
    (a_is_word : PySem.W.nsIn K mainGlobals "is_word" = some (some (.ref f_is_word)))
    (l_is_word : K.lookup f_is_word = some ⟨oc_is_word, od_is_word, .func (PySem.W.fnOf "is_word" "is_word" (defArgs s_is_word) (defBody s_is_word) (defScope s_is_word) .none kV_is_word dc_is_word pm_is_word an_is_word cd_is_word ct_is_word), sl_is_word⟩)
    (c_is_word : PySem.W.codeIn K cd_is_word "is_word" = true)
    (k_is_word : PySem.W.keepIn K (.ref f_is_word) = true)
    (a_is_integer : PySem.W.nsIn K mainGlobals "is_integer" = some (some (.ref f_is_integer)))
    (l_is_integer : K.lookup f_is_integer = some ⟨oc_is_integer, od_is_integer, .func (PySem.W.fnOf "is_integer" "is_integer" (defArgs s_is_integer) (defBody s_is_integer) (defScope s_is_integer) .none kV_is_integer dc_is_integer pm_is_integer an_is_integer cd_is_integer ct_is_integer), sl_is_integer⟩)
    (c_is_integer : PySem.W.codeIn K cd_is_integer "is_integer" = true)
    (k_is_integer : PySem.W.keepIn K (.ref f_is_integer) = true)
    (a_in_range : PySem.W.nsIn K mainGlobals "in_range" = some (some (.ref f_in_range)))
    (l_in_range : K.lookup f_in_range = some ⟨oc_in_range, od_in_range, .func (PySem.W.fnOf "in_range" "in_range" (defArgs s_in_range) (defBody s_in_range) (defScope s_in_range) .none kV_in_range dc_in_range pm_in_range an_in_range cd_in_range ct_in_range), sl_in_range⟩)
    (c_in_range : PySem.W.codeIn K cd_in_range "in_range" = true)
    (k_in_range : PySem.W.keepIn K (.ref f_in_range) = true)
    (a_is_suitable : PySem.W.nsIn K mainGlobals "is_suitable" = some (some (.ref f_is_suitable)))
    (l_is_suitable : K.lookup f_is_suitable = some ⟨oc_is_suitable, od_is_suitable, .func (PySem.W.fnOf "is_suitable" "is_suitable" (defArgs s_is_suitable) (defBody s_is_suitable) (defScope s_is_suitable) .none kV_is_suitable dc_is_suitable pm_is_suitable an_is_suitable cd_is_suitable ct_is_suitable), sl_is_suitable⟩)
    (c_is_suitable : PySem.W.codeIn K cd_is_suitable "is_suitable" = true)
    (k_is_suitable : PySem.W.keepIn K (.ref f_is_suitable) = true)
    (w_Effect_is_valid : PySem.W.findCls K (.ref a_Effect) (.type "type") "is_valid" = some (.get (.builtin "staticmethod.__get__") (.ref p_Effect_is_valid) .none (.ref a_Effect)))
    (r_Effect_is_valid : PySem.W.recIn K p_Effect_is_valid "staticmethod" = some (.ref f_Effect_is_valid :: r_Effect_is_valid))
    (l_Effect_is_valid : K.lookup f_Effect_is_valid = some ⟨oc_Effect_is_valid, od_Effect_is_valid, .func (PySem.W.fnOf "is_valid" "Effect.is_valid" (defArgs s_Effect_is_valid) (defBody s_Effect_is_valid) (defScope s_Effect_is_valid) .none kV_Effect_is_valid dc_Effect_is_valid pm_Effect_is_valid an_Effect_is_valid cd_Effect_is_valid ct_Effect_is_valid), sl_Effect_is_valid⟩)
    (c_Effect_is_valid : PySem.W.codeIn K cd_Effect_is_valid "Effect.is_valid" = true)
    (k_Effect_is_valid : PySem.W.keepIn K (.ref f_Effect_is_valid) = true)
    (w_Effect___init__ : PySem.W.findIn K (.ref a_Effect) "__init__" = some (some (.ref f_Effect___init__)))
    (i_Effect___init__ : PySem.W.isFn K (.ref f_Effect___init__) = true)
    (l_Effect___init__ : K.lookup f_Effect___init__ = some ⟨oc_Effect___init__, od_Effect___init__, .func (PySem.W.fnOf "__init__" "Effect.__init__" (defArgs s_Effect___init__) (defBody s_Effect___init__) (defScope s_Effect___init__) .none kV_Effect___init__ dc_Effect___init__ pm_Effect___init__ an_Effect___init__ cd_Effect___init__ ct_Effect___init__), sl_Effect___init__⟩)
    (c_Effect___init__ : PySem.W.codeIn K cd_Effect___init__ "Effect.__init__" = true)
    (k_Effect___init__ : PySem.W.keepIn K (.ref f_Effect___init__) = true)
    (a_least_suitable : PySem.W.nsIn K mainGlobals "least_suitable" = some (some (.ref f_least_suitable)))
    (l_least_suitable : K.lookup f_least_suitable = some ⟨oc_least_suitable, od_least_suitable, .func (PySem.W.fnOf "least_suitable" "least_suitable" (defArgs s_least_suitable) (defBody s_least_suitable) (defScope s_least_suitable) .none kV_least_suitable dc_least_suitable pm_least_suitable an_least_suitable cd_least_suitable ct_least_suitable), sl_least_suitable⟩)
    (c_least_suitable : PySem.W.codeIn K cd_least_suitable "least_suitable" = true)
    (k_least_suitable : PySem.W.keepIn K (.ref f_least_suitable) = true)
    (a_depths : PySem.W.nsIn K mainGlobals "depths" = some (some (.ref f_depths)))
    (l_depths : K.lookup f_depths = some ⟨oc_depths, od_depths, .func (PySem.W.fnOf "depths" "depths" (defArgs s_depths) (defBody s_depths) (defScope s_depths) .none kV_depths dc_depths pm_depths an_depths cd_depths ct_depths), sl_depths⟩)
    (c_depths : PySem.W.codeIn K cd_depths "depths" = true)
    (k_depths : PySem.W.keepIn K (.ref f_depths) = true)
    (w_Effect_of : PySem.W.findCls K (.ref a_Effect) (.type "type") "of" = some (.get (.builtin "classmethod.__get__") (.ref p_Effect_of) .none (.ref a_Effect)))
    (r_Effect_of : PySem.W.recIn K p_Effect_of "classmethod" = some (.ref f_Effect_of :: r_Effect_of))
    (i_Effect_of : PySem.W.fnIn K f_Effect_of = true)
    (l_Effect_of : K.lookup f_Effect_of = some ⟨oc_Effect_of, od_Effect_of, .func (PySem.W.fnOf "of" "Effect.of" (defArgs s_Effect_of) (defBody s_Effect_of) (defScope s_Effect_of) .none kV_Effect_of dc_Effect_of pm_Effect_of an_Effect_of cd_Effect_of ct_Effect_of), sl_Effect_of⟩)
    (c_Effect_of : PySem.W.codeIn K cd_Effect_of "Effect.of" = true)
    (k_Effect_of : PySem.W.keepIn K (.ref f_Effect_of) = true)
    (a_effect_of : PySem.W.nsIn K mainGlobals "effect_of" = some (some (.ref f_effect_of)))
    (l_effect_of : K.lookup f_effect_of = some ⟨oc_effect_of, od_effect_of, .func (PySem.W.fnOf "effect_of" "effect_of" (defArgs s_effect_of) (defBody s_effect_of) (defScope s_effect_of) .none kV_effect_of dc_effect_of pm_effect_of an_effect_of cd_effect_of ct_effect_of), sl_effect_of⟩)
    (c_effect_of : PySem.W.codeIn K cd_effect_of "effect_of" = true)
    (k_effect_of : PySem.W.keepIn K (.ref f_effect_of) = true)
    (a_swapped : PySem.W.nsIn K mainGlobals "swapped" = some (some (.ref f_swapped)))
    (l_swapped : K.lookup f_swapped = some ⟨oc_swapped, od_swapped, .func (PySem.W.fnOf "swapped" "swapped" (defArgs s_swapped) (defBody s_swapped) (defScope s_swapped) .none kV_swapped dc_swapped pm_swapped an_swapped cd_swapped ct_swapped), sl_swapped⟩)
    (c_swapped : PySem.W.codeIn K cd_swapped "swapped" = true)
    (k_swapped : PySem.W.keepIn K (.ref f_swapped) = true)
    (a_is_allowed : PySem.W.nsIn K mainGlobals "is_allowed" = some (some (.ref f_is_allowed)))
    (l_is_allowed : K.lookup f_is_allowed = some ⟨oc_is_allowed, od_is_allowed, .func (PySem.W.fnOf "is_allowed" "is_allowed" (defArgs s_is_allowed) (defBody s_is_allowed) (defScope s_is_allowed) .none kV_is_allowed dc_is_allowed pm_is_allowed an_is_allowed cd_is_allowed ct_is_allowed), sl_is_allowed⟩)
    (c_is_allowed : PySem.W.codeIn K cd_is_allowed "is_allowed" = true)
    (k_is_allowed : PySem.W.keepIn K (.ref f_is_allowed) = true)
    (a_exchanges : PySem.W.nsIn K mainGlobals "exchanges" = some (some (.ref f_exchanges)))
    (l_exchanges : K.lookup f_exchanges = some ⟨oc_exchanges, od_exchanges, .func (PySem.W.fnOf "exchanges" "exchanges" (defArgs s_exchanges) (defBody s_exchanges) (defScope s_exchanges) .none kV_exchanges dc_exchanges pm_exchanges an_exchanges cd_exchanges ct_exchanges), sl_exchanges⟩)
    (c_exchanges : PySem.W.codeIn K cd_exchanges "exchanges" = true)
    (k_exchanges : PySem.W.keepIn K (.ref f_exchanges) = true)
    (a_check_position : PySem.W.nsIn K mainGlobals "check_position" = some (some (.ref f_check_position)))
    (l_check_position : K.lookup f_check_position = some ⟨oc_check_position, od_check_position, .func (PySem.W.fnOf "check_position" "check_position" (defArgs s_check_position) (defBody s_check_position) (defScope s_check_position) .none kV_check_position dc_check_position pm_check_position an_check_position cd_check_position ct_check_position), sl_check_position⟩)
    (c_check_position : PySem.W.codeIn K cd_check_position "check_position" = true)
    (k_check_position : PySem.W.keepIn K (.ref f_check_position) = true)
    (a_can_exchange : PySem.W.nsIn K mainGlobals "can_exchange" = some (some (.ref f_can_exchange)))
    (l_can_exchange : K.lookup f_can_exchange = some ⟨oc_can_exchange, od_can_exchange, .func (PySem.W.fnOf "can_exchange" "can_exchange" (defArgs s_can_exchange) (defBody s_can_exchange) (defScope s_can_exchange) .none kV_can_exchange dc_can_exchange pm_can_exchange an_can_exchange cd_can_exchange ct_can_exchange), sl_can_exchange⟩)
    (c_can_exchange : PySem.W.codeIn K cd_can_exchange "can_exchange" = true)
    (k_can_exchange : PySem.W.keepIn K (.ref f_can_exchange) = true)
    (a__law_fit : PySem.W.nsIn K mainGlobals "_law_fit" = some (some (.ref f__law_fit)))
    (l__law_fit : K.lookup f__law_fit = some ⟨oc__law_fit, od__law_fit, .func (PySem.W.fnOf "_law_fit" "_law_fit" (defArgs s__law_fit) (defBody s__law_fit) (defScope s__law_fit) .none kV__law_fit dc__law_fit pm__law_fit an__law_fit cd__law_fit ct__law_fit), sl__law_fit⟩)
    (c__law_fit : PySem.W.codeIn K cd__law_fit "_law_fit" = true)
    (k__law_fit : PySem.W.keepIn K (.ref f__law_fit) = true)
    (a__law_parts : PySem.W.nsIn K mainGlobals "_law_parts" = some (some (.ref f__law_parts)))
    (l__law_parts : K.lookup f__law_parts = some ⟨oc__law_parts, od__law_parts, .func (PySem.W.fnOf "_law_parts" "_law_parts" (defArgs s__law_parts) (defBody s__law_parts) (defScope s__law_parts) .none kV__law_parts dc__law_parts pm__law_parts an__law_parts cd__law_parts ct__law_parts), sl__law_parts⟩)
    (c__law_parts : PySem.W.codeIn K cd__law_parts "_law_parts" = true)
    (k__law_parts : PySem.W.keepIn K (.ref f__law_parts) = true)
    (a_exchange : PySem.W.nsIn K mainGlobals "exchange" = some (some (.ref f_exchange)))
    (l_exchange : K.lookup f_exchange = some ⟨oc_exchange, od_exchange, .func (PySem.W.fnOf "exchange" "exchange" (defArgs s_exchange) (defBody s_exchange) (defScope s_exchange) .none kV_exchange dc_exchange pm_exchange an_exchange cd_exchange ct_exchange), sl_exchange⟩)
    (c_exchange : PySem.W.codeIn K cd_exchange "exchange" = true)
    (k_exchange : PySem.W.keepIn K (.ref f_exchange) = true)
    (a__law_told : PySem.W.nsIn K mainGlobals "_law_told" = some (some (.ref f__law_told)))
    (l__law_told : K.lookup f__law_told = some ⟨oc__law_told, od__law_told, .func (PySem.W.fnOf "_law_told" "_law_told" (defArgs s__law_told) (defBody s__law_told) (defScope s__law_told) .none kV__law_told dc__law_told pm__law_told an__law_told cd__law_told ct__law_told), sl__law_told⟩)
    (c__law_told : PySem.W.codeIn K cd__law_told "_law_told" = true)
    (k__law_told : PySem.W.keepIn K (.ref f__law_told) = true)
    (a_law : PySem.W.nsIn K mainGlobals "law" = some (some (.ref f_law)))
    (l_law : K.lookup f_law = some ⟨oc_law, od_law, .func (PySem.W.fnOf "law" "law" (defArgs s_law) (defBody s_law) (defScope s_law) .none kV_law dc_law pm_law an_law cd_law ct_law), sl_law⟩)
    (c_law : PySem.W.codeIn K cd_law "law" = true)
    (k_law : PySem.W.keepIn K (.ref f_law) = true)
    (aC_InvalidSequence : PySem.W.nsIn K mainGlobals "InvalidSequence" = some (some (.ref e_InvalidSequence)))
    (xL_InvalidSequence : K.lookup e_InvalidSequence = some (excClassObj nm_InvalidSequence q_InvalidSequence e_InvalidSequence N_InvalidSequence bs_InvalidSequence [.type "ValueError", .type "Exception", .type "BaseException", .type "object"] true sn_InvalidSequence sub_InvalidSequence ab_InvalidSequence col_InvalidSequence dd_InvalidSequence m0_InvalidSequence m1_InvalidSequence m2_InvalidSequence m3_InvalidSequence m5_InvalidSequence "ValueError.__new__"))
    (sa_InvalidSequence : PySem.W.findIn K (.ref e_InvalidSequence) "__setattr__" = some (some (.builtin "object.__setattr__")))
    (ga_InvalidSequence : PySem.W.findIn K (.ref e_InvalidSequence) "__getattribute__" = some (some (.builtin "BaseException.__getattribute__")))
    (gg_InvalidSequence : PySem.W.findIn K (.ref e_InvalidSequence) "__getattr__" = some none)
    (nf_InvalidSequence : PySem.W.findIn K (.ref e_InvalidSequence) "position" = some none)
    (iC_InvalidSequence : PySem.W.findIn K (.ref e_InvalidSequence) "__init__" = some (some (.ref fI_InvalidSequence)))
    (tC_InvalidSequence : PySem.W.typeIn K (.ref fI_InvalidSequence) = some (.type "function"))
    (l_InvalidSequence : K.lookup fI_InvalidSequence = some ⟨oc_InvalidSequence, od_InvalidSequence, .func (PySem.W.fnOf "__init__" "InvalidSequence.__init__" (DLE.iA "position" ⟨7, 17, 7, 21⟩ ⟨7, 23, 7, 31⟩) (DLE.iB "position" ⟨8, 8, 8, 12⟩ ⟨8, 8, 8, 21⟩ ⟨8, 24, 8, 32⟩ ⟨8, 8, 8, 32⟩) (DLE.iS "position") .none .none dc_InvalidSequence pm_InvalidSequence an_InvalidSequence cd_InvalidSequence ct_InvalidSequence), sl_InvalidSequence⟩)
    (cd_InvalidSequence : PySem.W.codeIn K cd_InvalidSequence "InvalidSequence.__init__" = true)
    (kC_InvalidSequence : PySem.W.keepIn K (.ref e_InvalidSequence) = true)
    (eC_InvalidSequence : PySem.W.subIn K (.ref e_InvalidSequence) (.type "BaseException") = some true)
    (tt_InvalidSequence : PySem.W.typeIn K (.ref e_InvalidSequence) = some (.type "type"))
    (hC_InvalidSequence : PySem.W.hasDictIn K e_InvalidSequence = true)
    (aC_InvalidEffect : PySem.W.nsIn K mainGlobals "InvalidEffect" = some (some (.ref e_InvalidEffect)))
    (xL_InvalidEffect : K.lookup e_InvalidEffect = some (excClassObj nm_InvalidEffect q_InvalidEffect e_InvalidEffect N_InvalidEffect bs_InvalidEffect [.type "ValueError", .type "Exception", .type "BaseException", .type "object"] true sn_InvalidEffect sub_InvalidEffect ab_InvalidEffect col_InvalidEffect dd_InvalidEffect m0_InvalidEffect m1_InvalidEffect m2_InvalidEffect m3_InvalidEffect m5_InvalidEffect "ValueError.__new__"))
    (sa_InvalidEffect : PySem.W.findIn K (.ref e_InvalidEffect) "__setattr__" = some (some (.builtin "object.__setattr__")))
    (ga_InvalidEffect : PySem.W.findIn K (.ref e_InvalidEffect) "__getattribute__" = some (some (.builtin "BaseException.__getattribute__")))
    (gg_InvalidEffect : PySem.W.findIn K (.ref e_InvalidEffect) "__getattr__" = some none)
    (nf_InvalidEffect : PySem.W.findIn K (.ref e_InvalidEffect) "part" = some none)
    (iC_InvalidEffect : PySem.W.findIn K (.ref e_InvalidEffect) "__init__" = some (some (.ref fI_InvalidEffect)))
    (tC_InvalidEffect : PySem.W.typeIn K (.ref fI_InvalidEffect) = some (.type "function"))
    (l_InvalidEffect : K.lookup fI_InvalidEffect = some ⟨oc_InvalidEffect, od_InvalidEffect, .func (PySem.W.fnOf "__init__" "InvalidEffect.__init__" (DLE.iA "part" ⟨11, 17, 11, 21⟩ ⟨11, 23, 11, 27⟩) (DLE.iB "part" ⟨12, 8, 12, 12⟩ ⟨12, 8, 12, 17⟩ ⟨12, 20, 12, 24⟩ ⟨12, 8, 12, 24⟩) (DLE.iS "part") .none .none dc_InvalidEffect pm_InvalidEffect an_InvalidEffect cd_InvalidEffect ct_InvalidEffect), sl_InvalidEffect⟩)
    (cd_InvalidEffect : PySem.W.codeIn K cd_InvalidEffect "InvalidEffect.__init__" = true)
    (kC_InvalidEffect : PySem.W.keepIn K (.ref e_InvalidEffect) = true)
    (eC_InvalidEffect : PySem.W.subIn K (.ref e_InvalidEffect) (.type "BaseException") = some true)
    (tt_InvalidEffect : PySem.W.typeIn K (.ref e_InvalidEffect) = some (.type "type"))
    (hC_InvalidEffect : PySem.W.hasDictIn K e_InvalidEffect = true)
    (aC_InvalidPosition : PySem.W.nsIn K mainGlobals "InvalidPosition" = some (some (.ref e_InvalidPosition)))
    (xL_InvalidPosition : K.lookup e_InvalidPosition = some (excClassObj nm_InvalidPosition q_InvalidPosition e_InvalidPosition N_InvalidPosition bs_InvalidPosition [.type "ValueError", .type "Exception", .type "BaseException", .type "object"] true sn_InvalidPosition sub_InvalidPosition ab_InvalidPosition col_InvalidPosition dd_InvalidPosition m0_InvalidPosition m1_InvalidPosition m2_InvalidPosition m3_InvalidPosition m5_InvalidPosition "ValueError.__new__"))
    (sa_InvalidPosition : PySem.W.findIn K (.ref e_InvalidPosition) "__setattr__" = some (some (.builtin "object.__setattr__")))
    (ga_InvalidPosition : PySem.W.findIn K (.ref e_InvalidPosition) "__getattribute__" = some (some (.builtin "BaseException.__getattribute__")))
    (gg_InvalidPosition : PySem.W.findIn K (.ref e_InvalidPosition) "__getattr__" = some none)
    (nf_InvalidPosition : PySem.W.findIn K (.ref e_InvalidPosition) "value" = some none)
    (iC_InvalidPosition : PySem.W.findIn K (.ref e_InvalidPosition) "__init__" = some (some (.ref fI_InvalidPosition)))
    (tC_InvalidPosition : PySem.W.typeIn K (.ref fI_InvalidPosition) = some (.type "function"))
    (l_InvalidPosition : K.lookup fI_InvalidPosition = some ⟨oc_InvalidPosition, od_InvalidPosition, .func (PySem.W.fnOf "__init__" "InvalidPosition.__init__" (DLE.iA "value" ⟨15, 17, 15, 21⟩ ⟨15, 23, 15, 28⟩) (DLE.iB "value" ⟨16, 8, 16, 12⟩ ⟨16, 8, 16, 18⟩ ⟨16, 21, 16, 26⟩ ⟨16, 8, 16, 26⟩) (DLE.iS "value") .none .none dc_InvalidPosition pm_InvalidPosition an_InvalidPosition cd_InvalidPosition ct_InvalidPosition), sl_InvalidPosition⟩)
    (cd_InvalidPosition : PySem.W.codeIn K cd_InvalidPosition "InvalidPosition.__init__" = true)
    (kC_InvalidPosition : PySem.W.keepIn K (.ref e_InvalidPosition) = true)
    (eC_InvalidPosition : PySem.W.subIn K (.ref e_InvalidPosition) (.type "BaseException") = some true)
    (tt_InvalidPosition : PySem.W.typeIn K (.ref e_InvalidPosition) = some (.type "type"))
    (hC_InvalidPosition : PySem.W.hasDictIn K e_InvalidPosition = true)
    (aC_EffectChanged : PySem.W.nsIn K mainGlobals "EffectChanged" = some (some (.ref e_EffectChanged)))
    (xL_EffectChanged : K.lookup e_EffectChanged = some (excClassObj nm_EffectChanged q_EffectChanged e_EffectChanged N_EffectChanged bs_EffectChanged [.type "RuntimeError", .type "Exception", .type "BaseException", .type "object"] true sn_EffectChanged sub_EffectChanged ab_EffectChanged col_EffectChanged dd_EffectChanged m0_EffectChanged m1_EffectChanged m2_EffectChanged m3_EffectChanged m5_EffectChanged "RuntimeError.__new__"))
    (sa_EffectChanged : PySem.W.findIn K (.ref e_EffectChanged) "__setattr__" = some (some (.builtin "object.__setattr__")))
    (ga_EffectChanged : PySem.W.findIn K (.ref e_EffectChanged) "__getattribute__" = some (some (.builtin "BaseException.__getattribute__")))
    (gg_EffectChanged : PySem.W.findIn K (.ref e_EffectChanged) "__getattr__" = some none)
    (nf_EffectChanged : PySem.W.findIn K (.ref e_EffectChanged) "position" = some none)
    (iC_EffectChanged : PySem.W.findIn K (.ref e_EffectChanged) "__init__" = some (some (.ref fI_EffectChanged)))
    (tC_EffectChanged : PySem.W.typeIn K (.ref fI_EffectChanged) = some (.type "function"))
    (l_EffectChanged : K.lookup fI_EffectChanged = some ⟨oc_EffectChanged, od_EffectChanged, .func (PySem.W.fnOf "__init__" "EffectChanged.__init__" (DLE.iA "position" ⟨19, 17, 19, 21⟩ ⟨19, 23, 19, 31⟩) (DLE.iB "position" ⟨20, 8, 20, 12⟩ ⟨20, 8, 20, 21⟩ ⟨20, 24, 20, 32⟩ ⟨20, 8, 20, 32⟩) (DLE.iS "position") .none .none dc_EffectChanged pm_EffectChanged an_EffectChanged cd_EffectChanged ct_EffectChanged), sl_EffectChanged⟩)
    (cd_EffectChanged : PySem.W.codeIn K cd_EffectChanged "EffectChanged.__init__" = true)
    (kC_EffectChanged : PySem.W.keepIn K (.ref e_EffectChanged) = true)
    (eC_EffectChanged : PySem.W.subIn K (.ref e_EffectChanged) (.type "BaseException") = some true)
    (tt_EffectChanged : PySem.W.typeIn K (.ref e_EffectChanged) = some (.type "type"))
    (hC_EffectChanged : PySem.W.hasDictIn K e_EffectChanged = true)
    (ty_Effect : PySem.W.typeIn K (.ref a_Effect) = some (.type "type"))
    (ka_Effect : PySem.W.findIn K (.ref a_Effect) "__class__" = some (some (.builtin "object.__class__")))
    (km_Effect : PySem.W.mroIn K a_Effect (.type "object") = some true)
    (ss_Effect : PySem.W.mroIn K a_Effect (.ref a_Effect) = some true)
    (xc_Effect : K.lookup a_Effect = some (excClassObj nm_Effect q_Effect a_Effect Nn_Effect bs_Effect [.type "object"] hh_Effect sn_Effect sub_Effect ab_Effect col_Effect dd_Effect m0_Effect m1_Effect m2_Effect m3_Effect m5_Effect ni_Effect))
    (lk_Effect : K.lookup Nn_Effect = some ⟨lc_Effect, ld_Effect, .dict es_Effect en_Effect, ls_Effect⟩)
    (nsE_Effect : (es_Effect.toList.all fun e => match e.key with | .str _ _ => true | _ => false) = true)
    (ne_Effect : PySem.W.nsIn K Nn_Effect "__eq__" = some (some (.ref f_Effect___eq__)))
    (nn_Effect : PySem.W.nsIn K Nn_Effect "__ne__" = some none)
    (oc_g : PySem.W.specialIn K (.builtin "object.__class__") "__get__" = some (some (.builtin "getset_descriptor.__get__")))
    (oc_t : PySem.W.takesIn K (.builtin "object.__class__") = some true)
    (sx_InvalidSequence_InvalidPosition : PySem.W.subIn K (.ref e_InvalidSequence) (.ref e_InvalidPosition) = some false)
    (sx_InvalidEffect_InvalidPosition : PySem.W.subIn K (.ref e_InvalidEffect) (.ref e_InvalidPosition) = some false)
    (sx_InvalidPosition_InvalidPosition : PySem.W.subIn K (.ref e_InvalidPosition) (.ref e_InvalidPosition) = some true)
    (sx_EffectChanged_InvalidPosition : PySem.W.subIn K (.ref e_EffectChanged) (.ref e_InvalidPosition) = some false)
    (sx_InvalidSequence_EffectChanged : PySem.W.subIn K (.ref e_InvalidSequence) (.ref e_EffectChanged) = some false)
    (sx_InvalidEffect_EffectChanged : PySem.W.subIn K (.ref e_InvalidEffect) (.ref e_EffectChanged) = some false)
    (sx_InvalidPosition_EffectChanged : PySem.W.subIn K (.ref e_InvalidPosition) (.ref e_EffectChanged) = some false)
    (sx_EffectChanged_EffectChanged : PySem.W.subIn K (.ref e_EffectChanged) (.ref e_EffectChanged) = some true)
    (ca_EffectChanged : PySem.W.findIn K (.ref e_EffectChanged) "__class__" = some (some (.builtin "object.__class__")))
    (cm_EffectChanged : PySem.W.mroIn K e_EffectChanged (.type "object") = some true)
    (ca_InvalidPosition : PySem.W.findIn K (.ref e_InvalidPosition) "__class__" = some (some (.builtin "object.__class__")))
    (cm_InvalidPosition : PySem.W.mroIn K e_InvalidPosition (.type "object") = some true)
    (si_InvalidPosition_ValueError : PySem.W.subIn K (.ref e_InvalidPosition) (.type "ValueError") = some true)
    (si_EffectChanged_RuntimeError : PySem.W.subIn K (.ref e_EffectChanged) (.type "RuntimeError") = some true)
    (v_ITEMS : PySem.W.nsIn K mainGlobals "ITEMS" = some (some (.str "abcdefgh" tk_ITEMS)))
    (v_MAX_STEPS : PySem.W.nsIn K mainGlobals "MAX_STEPS" = some (some (.int 400 tk_MAX_STEPS)))
    (v_MAX_ITEMS_effects : PySem.W.nsIn K mainGlobals "MAX_ITEMS_effects" = some (some (.int 2000 tk_MAX_ITEMS_effects)))
    (z_int : PySem.W.nsIn K mainGlobals "int" = some none)
    (z_range : PySem.W.nsIn K mainGlobals "range" = some none)
    (z_len : PySem.W.nsIn K mainGlobals "len" = some none)
    (z_isinstance : PySem.W.nsIn K mainGlobals "isinstance" = some none)
    (z_str : PySem.W.nsIn K mainGlobals "str" = some none)
    (z_list : PySem.W.nsIn K mainGlobals "list" = some none)
    (z_enumerate : PySem.W.nsIn K mainGlobals "enumerate" = some none)
    (z_all : PySem.W.nsIn K mainGlobals "all" = some none)
    (z_bool : PySem.W.nsIn K mainGlobals "bool" = some none)
    (z_max : PySem.W.nsIn K mainGlobals "max" = some none)
    (z_ValueError : PySem.W.nsIn K mainGlobals "ValueError" = some none)
    (z_repr : PySem.W.nsIn K mainGlobals "repr" = some none)
    (z_RuntimeError : PySem.W.nsIn K mainGlobals "RuntimeError" = some none)
    (z_min : PySem.W.nsIn K mainGlobals "min" = some none)
    : ∃ fd : FuncData, (∀ (s : Shared) (v : Value), BindsTo s fd ⟨[v], []⟩ [("_law_script", v)]) ∧ ∀ base : Heap, K.In base → base.Ns mainGlobals mg → FnG l.prog w K mg base (CZ K l.prog w) 12 fa fd ["_law_script"] (spLaw K []) := by
  have e := hfa.symm.trans (PySem.W.mg_of X G a_law)
  cases e
  let T : Tb := mkT a_Effect e_InvalidSequence e_InvalidEffect e_InvalidPosition e_EffectChanged f_can_exchange f_exchange []
  have Z : Zs K mg a_Effect := ⟨trivial, PySem.W.mg_none_of X G z_int, PySem.W.mg_none_of X G z_range, PySem.W.mg_none_of X G z_len, PySem.W.mg_none_of X G z_isinstance, PySem.W.mg_none_of X G z_str, PySem.W.mg_none_of X G z_list, PySem.W.mg_none_of X G z_enumerate, PySem.W.mg_none_of X G z_all, PySem.W.mg_none_of X G z_bool, PySem.W.mg_none_of X G z_max, PySem.W.mg_none_of X G z_ValueError, PySem.W.mg_none_of X G z_repr, PySem.W.mg_none_of X G z_RuntimeError, PySem.W.mg_none_of X G z_min, ⟨_, PySem.W.mg_of X G v_ITEMS⟩, ⟨_, PySem.W.mg_of X G v_MAX_STEPS⟩, ⟨_, PySem.W.mg_of X G v_MAX_ITEMS_effects⟩, n_Effect_own_takes, n_Effect_own_puts, n_Effect_own_core⟩
  have O_Effect : Own K mg T "Effect" 0 (ci_Effect a_Effect) := ⟨⟨rfl, (by show List.Nodup (["own_takes", "own_puts", "own_core"] : List Str); decide), ⟨pg_Effect, hd_Effect, po_Effect, sa_Effect⟩⟩, ⟨rd_Effect, ga_Effect⟩, PySem.W.mg_of X G aC_Effect⟩
  have X_InvalidSequence : ErrX K mg T "InvalidSequence" 1 := ⟨"position", _, _, _, _, e_InvalidSequence, fI_InvalidSequence, { eb := DLE.eb_ValueError, fne := by decide, bd := fun _ _ _ _ _ _ _ _ _ _ _ _ _ _ => rfl, cls := ⟨_, _, _, _, _, _, _, _, _, _, _, _, _, _, xL_InvalidSequence⟩, sa := sa_InvalidSequence, ga := ga_InvalidSequence, gg := gg_InvalidSequence, noN := nf_InvalidSequence, iC := iC_InvalidSequence, tC := tC_InvalidSequence, kC := kC_InvalidSequence, exC := eC_InvalidSequence, tyC := tt_InvalidSequence, hdC := hC_InvalidSequence, fn := ⟨_, _, _, _, _, _, _, _, _, _, _, _, _, _, _, l_InvalidSequence, cd_InvalidSequence⟩ }, rfl, PySem.W.mg_of X G aC_InvalidSequence⟩
  have X_InvalidEffect : ErrX K mg T "InvalidEffect" 3 := ⟨"part", _, _, _, _, e_InvalidEffect, fI_InvalidEffect, { eb := DLE.eb_ValueError, fne := by decide, bd := fun _ _ _ _ _ _ _ _ _ _ _ _ _ _ => rfl, cls := ⟨_, _, _, _, _, _, _, _, _, _, _, _, _, _, xL_InvalidEffect⟩, sa := sa_InvalidEffect, ga := ga_InvalidEffect, gg := gg_InvalidEffect, noN := nf_InvalidEffect, iC := iC_InvalidEffect, tC := tC_InvalidEffect, kC := kC_InvalidEffect, exC := eC_InvalidEffect, tyC := tt_InvalidEffect, hdC := hC_InvalidEffect, fn := ⟨_, _, _, _, _, _, _, _, _, _, _, _, _, _, _, l_InvalidEffect, cd_InvalidEffect⟩ }, rfl, PySem.W.mg_of X G aC_InvalidEffect⟩
  have X_InvalidPosition : ErrX K mg T "InvalidPosition" 4 := ⟨"value", _, _, _, _, e_InvalidPosition, fI_InvalidPosition, { eb := DLE.eb_ValueError, fne := by decide, bd := fun _ _ _ _ _ _ _ _ _ _ _ _ _ _ => rfl, cls := ⟨_, _, _, _, _, _, _, _, _, _, _, _, _, _, xL_InvalidPosition⟩, sa := sa_InvalidPosition, ga := ga_InvalidPosition, gg := gg_InvalidPosition, noN := nf_InvalidPosition, iC := iC_InvalidPosition, tC := tC_InvalidPosition, kC := kC_InvalidPosition, exC := eC_InvalidPosition, tyC := tt_InvalidPosition, hdC := hC_InvalidPosition, fn := ⟨_, _, _, _, _, _, _, _, _, _, _, _, _, _, _, l_InvalidPosition, cd_InvalidPosition⟩ }, rfl, PySem.W.mg_of X G aC_InvalidPosition⟩
  have X_EffectChanged : ErrX K mg T "EffectChanged" 9 := ⟨"position", _, _, _, _, e_EffectChanged, fI_EffectChanged, { eb := DLE.eb_RuntimeError, fne := by decide, bd := fun _ _ _ _ _ _ _ _ _ _ _ _ _ _ => rfl, cls := ⟨_, _, _, _, _, _, _, _, _, _, _, _, _, _, xL_EffectChanged⟩, sa := sa_EffectChanged, ga := ga_EffectChanged, gg := gg_EffectChanged, noN := nf_EffectChanged, iC := iC_EffectChanged, tC := tC_EffectChanged, kC := kC_EffectChanged, exC := eC_EffectChanged, tyC := tt_EffectChanged, hdC := hC_EffectChanged, fn := ⟨_, _, _, _, _, _, _, _, _, _, _, _, _, _, _, l_EffectChanged, cd_EffectChanged⟩ }, rfl, PySem.W.mg_of X G aC_EffectChanged⟩
  have FV_can_exchange : FnV K mg T "can_exchange" 1003 := ⟨f_can_exchange, PySem.W.mg_of X G a_can_exchange, rfl⟩
  have FV_exchange : FnV K mg T "exchange" 1002 := ⟨f_exchange, PySem.W.mg_of X G a_exchange, rfl⟩
  have kit_Effect : KitC K a_Effect := kitC_of hd_Effect ty_Effect ka_Effect oc_g oc_t km_Effect
  have kx_Effect : KitX K T 0 a_Effect := fun k ci h hk hne => by
    have h : (if k = 0 then some (ci_Effect a_Effect) else if k = 1003 then some ⟨f_can_exchange, []⟩ else if k = 1002 then some ⟨f_exchange, []⟩ else none : Option CI) = some ci := h
    by_cases h0 : k = 0
    · exact absurd h0 hne
    rw [if_neg h0] at h
    rw [if_neg (by omega)] at h
    rw [if_neg (by omega)] at h
    cases h
  have Y_InvalidPosition : ErrN K mg T "InvalidPosition" 4 := ⟨e_InvalidPosition, PySem.W.mg_of X G aC_InvalidPosition, fun k ei h => by
    have h : (if k = 1 then some ⟨e_InvalidSequence, "position"⟩ else if k = 3 then some ⟨e_InvalidEffect, "part"⟩ else if k = 4 then some ⟨e_InvalidPosition, "value"⟩ else if k = 9 then some ⟨e_EffectChanged, "position"⟩ else none : Option EI) = some ei := h
    by_cases h1 : k = 1
    · rw [if_pos h1] at h; cases h; subst h1; exact exm_ref hC_InvalidPosition tt_InvalidPosition eC_InvalidPosition sx_InvalidSequence_InvalidPosition
    rw [if_neg h1] at h
    by_cases h3 : k = 3
    · rw [if_pos h3] at h; cases h; subst h3; exact exm_ref hC_InvalidPosition tt_InvalidPosition eC_InvalidPosition sx_InvalidEffect_InvalidPosition
    rw [if_neg h3] at h
    by_cases h4 : k = 4
    · rw [if_pos h4] at h; cases h; subst h4; exact exm_ref hC_InvalidPosition tt_InvalidPosition eC_InvalidPosition sx_InvalidPosition_InvalidPosition
    rw [if_neg h4] at h
    by_cases h9 : k = 9
    · rw [if_pos h9] at h; cases h; subst h9; exact exm_ref hC_InvalidPosition tt_InvalidPosition eC_InvalidPosition sx_EffectChanged_InvalidPosition
    rw [if_neg h9] at h
    cases h⟩
  have Y_EffectChanged : ErrN K mg T "EffectChanged" 9 := ⟨e_EffectChanged, PySem.W.mg_of X G aC_EffectChanged, fun k ei h => by
    have h : (if k = 1 then some ⟨e_InvalidSequence, "position"⟩ else if k = 3 then some ⟨e_InvalidEffect, "part"⟩ else if k = 4 then some ⟨e_InvalidPosition, "value"⟩ else if k = 9 then some ⟨e_EffectChanged, "position"⟩ else none : Option EI) = some ei := h
    by_cases h1 : k = 1
    · rw [if_pos h1] at h; cases h; subst h1; exact exm_ref hC_EffectChanged tt_EffectChanged eC_EffectChanged sx_InvalidSequence_EffectChanged
    rw [if_neg h1] at h
    by_cases h3 : k = 3
    · rw [if_pos h3] at h; cases h; subst h3; exact exm_ref hC_EffectChanged tt_EffectChanged eC_EffectChanged sx_InvalidEffect_EffectChanged
    rw [if_neg h3] at h
    by_cases h4 : k = 4
    · rw [if_pos h4] at h; cases h; subst h4; exact exm_ref hC_EffectChanged tt_EffectChanged eC_EffectChanged sx_InvalidPosition_EffectChanged
    rw [if_neg h4] at h
    by_cases h9 : k = 9
    · rw [if_pos h9] at h; cases h; subst h9; exact exm_ref hC_EffectChanged tt_EffectChanged eC_EffectChanged sx_EffectChanged_EffectChanged
    rw [if_neg h9] at h
    cases h⟩
  have hfld_EffectChanged : ∀ ei, T.ex 9 = some ei → ei.field = "position" := fun ei h => by cases h; rfl
  have hfld_InvalidPosition : ∀ ei, T.ex 4 = some ei → ei.field = "value" := fun ei h => by cases h; rfl
  have EC_EffectChanged : L2.ExcC K e_EffectChanged := ⟨ga_EffectChanged, gg_EffectChanged, eC_EffectChanged, hC_EffectChanged, ca_EffectChanged, oc_g, oc_t, cm_EffectChanged⟩
  have EC_InvalidPosition : L2.ExcC K e_InvalidPosition := ⟨ga_InvalidPosition, gg_InvalidPosition, eC_InvalidPosition, hC_InvalidPosition, ca_InvalidPosition, oc_g, oc_t, cm_InvalidPosition⟩
  have I_InvalidPosition_ValueError : ErrI K T 4 (.type "ValueError") true := fun ei h => by cases h; exact ⟨EC_InvalidPosition, kit_err (by decide +kernel) si_InvalidPosition_ValueError⟩
  have I_EffectChanged_RuntimeError : ErrI K T 9 (.type "RuntimeError") true := fun ei h => by cases h; exact ⟨EC_EffectChanged, kit_err (by decide +kernel) si_EffectChanged_RuntimeError⟩
  have F__law_hand := fun_mk (st := s__law_hand) l__law_hand c__law_hand k__law_hand
  have b__law_hand := F__law_hand.binds (ps := ["_law_script", "_law_k"]) fun _ _ _ _ _ _ us hl => match us, hl with | [_, _], _ => rfl
  have F__law_draw := fun_mk (st := s__law_draw) l__law_draw c__law_draw k__law_draw
  have b__law_draw := F__law_draw.binds (ps := ["_law_pool", "_law_size"]) fun _ _ _ _ _ _ us hl => match us, hl with | [_, _], _ => rfl
  have F__law_letters := fun_mk (st := s__law_letters) l__law_letters c__law_letters k__law_letters
  have b__law_letters := F__law_letters.binds (ps := ["_law_pool"]) fun _ _ _ _ _ _ us hl => match us, hl with | [_], _ => rfl
  have F__law_steps := fun_mk (st := s__law_steps) l__law_steps c__law_steps k__law_steps
  have b__law_steps := F__law_steps.binds (ps := ["_law_pool", "_law_letters_here", "_law_most"]) fun _ _ _ _ _ _ us hl => match us, hl with | [_, _, _], _ => rfl
  have F__law_word := fun_mk (st := s__law_word) l__law_word c__law_word k__law_word
  have b__law_word := F__law_word.binds (ps := ["_law_pool", "_law_letters_here", "_law_most"]) fun _ _ _ _ _ _ us hl => match us, hl with | [_, _, _], _ => rfl
  have F__law_near := fun_mk (st := s__law_near) l__law_near c__law_near k__law_near
  have b__law_near := F__law_near.binds (ps := ["_law_pool", "_law_letters_here", "_law_most"]) fun _ _ _ _ _ _ us hl => match us, hl with | [_, _, _], _ => rfl
  have F_is_step := fun_mk (st := s_is_step) l_is_step c_is_step k_is_step
  have b_is_step := F_is_step.binds (ps := ["value"]) fun _ _ _ _ _ _ us hl => match us, hl with | [_], _ => rfl
  have F_first_invalid := fun_mk (st := s_first_invalid) l_first_invalid c_first_invalid k_first_invalid
  have b_first_invalid := F_first_invalid.binds (ps := ["value"]) fun _ _ _ _ _ _ us hl => match us, hl with | [_], _ => rfl
  have F_check_sequence := fun_mk (st := s_check_sequence) l_check_sequence c_check_sequence k_check_sequence
  have b_check_sequence := F_check_sequence.binds (ps := ["steps"]) fun _ _ _ _ _ _ us hl => match us, hl with | [_], _ => rfl
  have F_Effect_takes := fun_mk (st := s_Effect_takes) l_Effect_takes c_Effect_takes k_Effect_takes
  have b_Effect_takes := F_Effect_takes.binds (ps := ["self"]) fun _ _ _ _ _ _ us hl => match us, hl with | [_], _ => rfl
  have F_Effect_puts := fun_mk (st := s_Effect_puts) l_Effect_puts c_Effect_puts k_Effect_puts
  have b_Effect_puts := F_Effect_puts.binds (ps := ["self"]) fun _ _ _ _ _ _ us hl => match us, hl with | [_], _ => rfl
  have F_Effect_core := fun_mk (st := s_Effect_core) l_Effect_core c_Effect_core k_Effect_core
  have b_Effect_core := F_Effect_core.binds (ps := ["self"]) fun _ _ _ _ _ _ us hl => match us, hl with | [_], _ => rfl
  have F_parts_of := fun_mk (st := s_parts_of) l_parts_of c_parts_of k_parts_of
  have b_parts_of := F_parts_of.binds (ps := ["effect"]) fun _ _ _ _ _ _ us hl => match us, hl with | [_], _ => rfl
  have F_Effect___eq__ := fun_mk (st := s_Effect___eq__) l_Effect___eq__ c_Effect___eq__ k_Effect___eq__
  have b_Effect___eq__ := F_Effect___eq__.binds (ps := ["self", "other"]) fun _ _ _ _ _ _ us hl => match us, hl with | [_, _], _ => rfl
  have F_chosen := fun_mk (st := s_chosen) l_chosen c_chosen k_chosen
  have b_chosen := F_chosen.binds (ps := ["steps", "sign"]) fun _ _ _ _ _ _ us hl => match us, hl with | [_, _], _ => rfl
  have F_is_word := fun_mk (st := s_is_word) l_is_word c_is_word k_is_word
  have b_is_word := F_is_word.binds (ps := ["value", "most"]) fun _ _ _ _ _ _ us hl => match us, hl with | [_, _], _ => rfl
  have F_is_integer := fun_mk (st := s_is_integer) l_is_integer c_is_integer k_is_integer
  have b_is_integer := F_is_integer.binds (ps := ["value"]) fun _ _ _ _ _ _ us hl => match us, hl with | [_], _ => rfl
  have F_in_range := fun_mk (st := s_in_range) l_in_range c_in_range k_in_range
  have b_in_range := F_in_range.binds (ps := ["value", "least", "most"]) fun _ _ _ _ _ _ us hl => match us, hl with | [_, _, _], _ => rfl
  have F_is_suitable := fun_mk (st := s_is_suitable) l_is_suitable c_is_suitable k_is_suitable
  have b_is_suitable := F_is_suitable.binds (ps := ["takes", "puts", "number"]) fun _ _ _ _ _ _ us hl => match us, hl with | [_, _, _], _ => rfl
  have F_Effect_is_valid := fun_mk (st := s_Effect_is_valid) l_Effect_is_valid c_Effect_is_valid k_Effect_is_valid
  have b_Effect_is_valid := F_Effect_is_valid.binds (ps := ["takes", "puts", "core"]) fun _ _ _ _ _ _ us hl => match us, hl with | [_, _, _], _ => rfl
  have F_Effect___init__ := fun_mk (st := s_Effect___init__) l_Effect___init__ c_Effect___init__ k_Effect___init__
  have b_Effect___init__ := F_Effect___init__.binds (ps := ["self", "takes", "puts", "core"]) fun _ _ _ _ _ _ us hl => match us, hl with | [_, _, _, _], _ => rfl
  have F_least_suitable := fun_mk (st := s_least_suitable) l_least_suitable c_least_suitable k_least_suitable
  have b_least_suitable := F_least_suitable.binds (ps := ["takes", "puts", "least"]) fun _ _ _ _ _ _ us hl => match us, hl with | [_, _, _], _ => rfl
  have F_depths := fun_mk (st := s_depths) l_depths c_depths k_depths
  have b_depths := F_depths.binds (ps := ["steps"]) fun _ _ _ _ _ _ us hl => match us, hl with | [_], _ => rfl
  have F_Effect_of := fun_mk (st := s_Effect_of) l_Effect_of c_Effect_of k_Effect_of
  have b_Effect_of := F_Effect_of.binds (ps := ["cls", "steps"]) fun _ _ _ _ _ _ us hl => match us, hl with | [_, _], _ => rfl
  have F_effect_of := fun_mk (st := s_effect_of) l_effect_of c_effect_of k_effect_of
  have b_effect_of := F_effect_of.binds (ps := ["steps"]) fun _ _ _ _ _ _ us hl => match us, hl with | [_], _ => rfl
  have F_swapped := fun_mk (st := s_swapped) l_swapped c_swapped k_swapped
  have b_swapped := F_swapped.binds (ps := ["steps", "position"]) fun _ _ _ _ _ _ us hl => match us, hl with | [_, _], _ => rfl
  have F_is_allowed := fun_mk (st := s_is_allowed) l_is_allowed c_is_allowed k_is_allowed
  have b_is_allowed := F_is_allowed.binds (ps := ["steps", "position"]) fun _ _ _ _ _ _ us hl => match us, hl with | [_, _], _ => rfl
  have F_exchanges := fun_mk (st := s_exchanges) l_exchanges c_exchanges k_exchanges
  have b_exchanges := F_exchanges.binds (ps := ["steps"]) fun _ _ _ _ _ _ us hl => match us, hl with | [_], _ => rfl
  have F_check_position := fun_mk (st := s_check_position) l_check_position c_check_position k_check_position
  have b_check_position := F_check_position.binds (ps := ["steps", "position"]) fun _ _ _ _ _ _ us hl => match us, hl with | [_, _], _ => rfl
  have F_can_exchange := fun_mk (st := s_can_exchange) l_can_exchange c_can_exchange k_can_exchange
  have b_can_exchange := F_can_exchange.binds (ps := ["steps", "position"]) fun _ _ _ _ _ _ us hl => match us, hl with | [_, _], _ => rfl
  have F__law_fit := fun_mk (st := s__law_fit) l__law_fit c__law_fit k__law_fit
  have b__law_fit := F__law_fit.binds (ps := ["_law_takes", "_law_puts", "_law_number"]) fun _ _ _ _ _ _ us hl => match us, hl with | [_, _, _], _ => rfl
  have F__law_parts := fun_mk (st := s__law_parts) l__law_parts c__law_parts k__law_parts
  have b__law_parts := F__law_parts.binds (ps := ["_law_steps_here"]) fun _ _ _ _ _ _ us hl => match us, hl with | [_], _ => rfl
  have F_exchange := fun_mk (st := s_exchange) l_exchange c_exchange k_exchange
  have b_exchange := F_exchange.binds (ps := ["steps", "position"]) fun _ _ _ _ _ _ us hl => match us, hl with | [_, _], _ => rfl
  have F__law_told := fun_mk (st := s__law_told) l__law_told c__law_told k__law_told
  have b__law_told := F__law_told.binds (ps := ["_law_asked", "_law_steps_here", "_law_position"]) fun _ _ _ _ _ _ us hl => match us, hl with | [_, _, _], _ => rfl
  have F_law := fun_mk (st := s_law) l_law c_law k_law
  have b_law := F_law.binds (ps := ["_law_script"]) fun _ _ _ _ _ _ us hl => match us, hl with | [_], _ => rfl
  refine ⟨PySem.W.fnOf "law" "law" (defArgs s_law) (defBody s_law) (defScope s_law) .none kV_law dc_law pm_law an_law cd_law ct_law, fun s v => .of_eq rfl, fun base _ _ => ?_⟩
  let P := l.prog
  have g__law_hand : Cal l.prog w K mg base T "_law_hand" 2 ["_law_script", "_law_k"] [] C__law_hand := ⟨_, _, d__law_hand F__law_hand Z, b__law_hand, PySem.W.mg_of X G a__law_hand⟩
  have g__law_draw : Cal l.prog w K mg base T "_law_draw" 2 ["_law_pool", "_law_size"] [0] C__law_draw := ⟨_, _, d__law_draw F__law_draw Z, b__law_draw, PySem.W.mg_of X G a__law_draw⟩
  have g__law_letters : Cal l.prog w K mg base T "_law_letters" 3 ["_law_pool"] [0] C__law_letters := ⟨_, _, d__law_letters F__law_letters Z g__law_draw, b__law_letters, PySem.W.mg_of X G a__law_letters⟩
  have g__law_steps : Cal l.prog w K mg base T "_law_steps" 3 ["_law_pool", "_law_letters_here", "_law_most"] [0] C__law_steps := ⟨_, _, d__law_steps F__law_steps Z g__law_draw, b__law_steps, PySem.W.mg_of X G a__law_steps⟩
  have g__law_word : Cal l.prog w K mg base T "_law_word" 3 ["_law_pool", "_law_letters_here", "_law_most"] [0] C__law_word := ⟨_, _, d__law_word F__law_word Z g__law_draw, b__law_word, PySem.W.mg_of X G a__law_word⟩
  have g__law_near : Cal l.prog w K mg base T "_law_near" 4 ["_law_pool", "_law_letters_here", "_law_most"] [0] C__law_near := ⟨_, _, d__law_near F__law_near Z g__law_word g__law_draw, b__law_near, PySem.W.mg_of X G a__law_near⟩
  have g_is_step : Cal l.prog w K mg base T "is_step" 2 ["value"] [] C_is_step := ⟨_, _, d_is_step F_is_step Z, b_is_step, PySem.W.mg_of X G a_is_step⟩
  have g_first_invalid : Cal l.prog w K mg base T "first_invalid" 3 ["value"] [] C_first_invalid := ⟨_, _, d_first_invalid F_first_invalid Z g_is_step, b_first_invalid, PySem.W.mg_of X G a_first_invalid⟩
  have g_check_sequence : Cal l.prog w K mg base T "check_sequence" 4 ["steps"] [] C_check_sequence := ⟨_, _, d_check_sequence F_check_sequence Z X_InvalidSequence g_first_invalid, b_check_sequence, PySem.W.mg_of X G a_check_sequence⟩
  have g_Effect_takes : CalP l.prog w K mg base a_Effect "takes" "own_takes" 1 := ⟨_, _, _, ⟨w_Effect_takes, g_Effect_takes, t_Effect_takes, ⟨_, r_Effect_takes⟩⟩, fn_getter (k := 0) (N := ["self"]) l_Effect_takes c_Effect_takes sc_Effect_takes rfl rfl O_Effect.cl.cls n_Effect_own_takes, b_Effect_takes⟩
  have g_Effect_puts : CalP l.prog w K mg base a_Effect "puts" "own_puts" 1 := ⟨_, _, _, ⟨w_Effect_puts, g_Effect_puts, t_Effect_puts, ⟨_, r_Effect_puts⟩⟩, fn_getter (k := 0) (N := ["self"]) l_Effect_puts c_Effect_puts sc_Effect_puts rfl rfl O_Effect.cl.cls n_Effect_own_puts, b_Effect_puts⟩
  have g_Effect_core : CalP l.prog w K mg base a_Effect "core" "own_core" 1 := ⟨_, _, _, ⟨w_Effect_core, g_Effect_core, t_Effect_core, ⟨_, r_Effect_core⟩⟩, fn_getter (k := 0) (N := ["self"]) l_Effect_core c_Effect_core sc_Effect_core rfl rfl O_Effect.cl.cls n_Effect_own_core, b_Effect_core⟩
  have g_parts_of : Cal l.prog w K mg base T "parts_of" 3 ["effect"] [] C_parts_of := ⟨_, _, d_parts_of F_parts_of Z O_Effect g_Effect_takes g_Effect_puts g_Effect_core, b_parts_of, PySem.W.mg_of X G a_parts_of⟩
  have eg_Effect___eq__ : CalE l.prog w K mg base T a_Effect 4 C_Effect___eq__ := ⟨_, _, _, d_Effect___eq__ F_Effect___eq__ Z O_Effect kit_Effect kx_Effect g_parts_of, rfl, b_Effect___eq__, ⟨w_Effect___eq__, i_Effect___eq__, hd_Effect, ty_Effect, _, _, _, _, _, _, _, _, _, _, _, _, _, _, _, _, xc_Effect, nsOk_of lk_Effect nsE_Effect, ne_Effect, nn_Effect⟩⟩
  have g_chosen : Cal l.prog w K mg base T "chosen" 2 ["steps", "sign"] [] C_chosen := ⟨_, _, d_chosen F_chosen Z, b_chosen, PySem.W.mg_of X G a_chosen⟩
  have g_is_word : Cal l.prog w K mg base T "is_word" 2 ["value", "most"] [] C_is_word := ⟨_, _, d_is_word F_is_word Z, b_is_word, PySem.W.mg_of X G a_is_word⟩
  have g_is_integer : Cal l.prog w K mg base T "is_integer" 2 ["value"] [] C_is_integer := ⟨_, _, d_is_integer F_is_integer Z, b_is_integer, PySem.W.mg_of X G a_is_integer⟩
  have g_in_range : Cal l.prog w K mg base T "in_range" 3 ["value", "least", "most"] [] C_in_range := ⟨_, _, d_in_range F_in_range Z g_is_integer, b_in_range, PySem.W.mg_of X G a_in_range⟩
  have g_is_suitable : Cal l.prog w K mg base T "is_suitable" 2 ["takes", "puts", "number"] [] C_is_suitable := ⟨_, _, d_is_suitable F_is_suitable Z, b_is_suitable, PySem.W.mg_of X G a_is_suitable⟩
  have g_Effect_is_valid : CalS l.prog w K mg base T a_Effect "is_valid" 4 ["takes", "puts", "core"] [] C_Effect_is_valid := ⟨_, _, _, d_Effect_is_valid F_Effect_is_valid Z g_is_word g_in_range g_is_suitable, b_Effect_is_valid, ⟨w_Effect_is_valid, ⟨_, r_Effect_is_valid⟩⟩⟩
  have g_Effect___init__ : CalI l.prog w K mg base T a_Effect 5 ["self", "takes", "puts", "core"] C_Effect___init__ := ⟨_, _, d_Effect___init__ F_Effect___init__ Z O_Effect X_InvalidEffect g_is_word g_Effect_is_valid, b_Effect___init__, ⟨mk_Effect, w_Effect___init__, i_Effect___init__, kc_Effect⟩⟩
  have g_least_suitable : Cal l.prog w K mg base T "least_suitable" 3 ["takes", "puts", "least"] [] C_least_suitable := ⟨_, _, d_least_suitable F_least_suitable Z g_is_suitable, b_least_suitable, PySem.W.mg_of X G a_least_suitable⟩
  have g_depths : Cal l.prog w K mg base T "depths" 2 ["steps"] [] C_depths := ⟨_, _, d_depths F_depths Z, b_depths, PySem.W.mg_of X G a_depths⟩
  have g_Effect_of : CalC l.prog w K mg base T a_Effect "of" 7 ["cls", "steps"] C_Effect_of := ⟨_, _, _, d_Effect_of F_Effect_of Z O_Effect g_check_sequence g_chosen g_depths g_least_suitable g_Effect___init__, b_Effect_of, ⟨w_Effect_of, ⟨_, r_Effect_of⟩, i_Effect_of⟩⟩
  have g_effect_of : Cal l.prog w K mg base T "effect_of" 8 ["steps"] [] C_effect_of := ⟨_, _, d_effect_of F_effect_of Z O_Effect g_Effect_of, b_effect_of, PySem.W.mg_of X G a_effect_of⟩
  have g_swapped : Cal l.prog w K mg base T "swapped" 2 ["steps", "position"] [] C_swapped := ⟨_, _, d_swapped F_swapped Z, b_swapped, PySem.W.mg_of X G a_swapped⟩
  have g_is_allowed : Cal l.prog w K mg base T "is_allowed" 9 ["steps", "position"] [] C_is_allowed := ⟨_, _, d_is_allowed F_is_allowed Z O_Effect kit_Effect eg_Effect___eq__ g_swapped g_effect_of, b_is_allowed, PySem.W.mg_of X G a_is_allowed⟩
  have g_exchanges : CalG l.prog w K mg base T "exchanges" 10 ["steps"] [] false C_exchanges := ⟨_, _, d_exchanges F_exchanges Z g_is_allowed g_check_sequence, b_exchanges, PySem.W.mg_of X G a_exchanges⟩
  have g_check_position : Cal l.prog w K mg base T "check_position" 5 ["steps", "position"] [] C_check_position := ⟨_, _, d_check_position F_check_position Z X_InvalidPosition g_check_sequence g_in_range, b_check_position, PySem.W.mg_of X G a_check_position⟩
  have g_can_exchange : Cal l.prog w K mg base T "can_exchange" 10 ["steps", "position"] [] zaJ := ⟨_, _, d_can_exchange F_can_exchange Z g_check_position g_is_allowed, b_can_exchange, PySem.W.mg_of X G a_can_exchange⟩
  have g__law_fit : Cal l.prog w K mg base T "_law_fit" 2 ["_law_takes", "_law_puts", "_law_number"] [] C__law_fit := ⟨_, _, d__law_fit F__law_fit Z, b__law_fit, PySem.W.mg_of X G a__law_fit⟩
  have g__law_parts : Cal l.prog w K mg base T "_law_parts" 3 ["_law_steps_here"] [] C__law_parts := ⟨_, _, d__law_parts F__law_parts Z g__law_fit, b__law_parts, PySem.W.mg_of X G a__law_parts⟩
  have g_exchange : Cal l.prog w K mg base T "exchange" 10 ["steps", "position"] [] C_exchange := ⟨_, _, d_exchange F_exchange Z X_EffectChanged g_check_position g_is_allowed g_swapped, b_exchange, PySem.W.mg_of X G a_exchange⟩
  have g__law_told : Cal l.prog w K mg base T "_law_told" 11 ["_law_asked", "_law_steps_here", "_law_position"] [] C__law_told := ⟨_, _, d__law_told F__law_told Z X_InvalidPosition X_EffectChanged FV_can_exchange FV_exchange I_InvalidPosition_ValueError Y_InvalidPosition I_EffectChanged_RuntimeError Y_EffectChanged hfld_InvalidPosition hfld_EffectChanged g_can_exchange g_exchange, b__law_told, PySem.W.mg_of X G a__law_told⟩
  exact lawFn (d_law F_law Z FV_exchange FV_can_exchange g__law_hand g__law_letters g__law_steps g__law_near g_exchanges g_can_exchange g__law_parts g__law_told)
end Wk15
open PySem PySem.W PyProof.Rows
set_option maxRecDepth 100000 in
set_option maxHeartbeats 0 in
theorem PySem.Challenge.cw_queueeffect_k15_exchanges_holds : PySem.Challenge.rw_queueeffect_k15_exchanges.Holds := by
  w_on; o_law; k_head; (case hw => w_witness2)
  k_fill
  refine DL.walkD (l := PySem.Challenge.rw_queueeffect_k15_exchanges) (k := 12) (x := "_law_script") rfl rfl ⟨rfl, by decide, by decide⟩ (fun w h Y => PySem.W.kIn_of Y) ?F
  case F =>
    intro w mg fa h KX G hmg
    refine' Wk15.all_mk KX G hmg ?aC_Effect ?pg_Effect ?hd_Effect ?po_Effect ?sa_Effect ?mk_Effect ?kc_Effect ?rd_Effect ?ga_Effect ?n_Effect_own_takes ?n_Effect_own_puts ?n_Effect_own_core ?a__law_hand ?l__law_hand ?c__law_hand ?k__law_hand ?a__law_draw ?l__law_draw ?c__law_draw ?k__law_draw ?a__law_letters ?l__law_letters ?c__law_letters ?k__law_letters ?a__law_steps ?l__law_steps ?c__law_steps ?k__law_steps ?a__law_word ?l__law_word ?c__law_word ?k__law_word ?a__law_near ?l__law_near ?c__law_near ?k__law_near ?a_is_step ?l_is_step ?c_is_step ?k_is_step ?a_first_invalid ?l_first_invalid ?c_first_invalid ?k_first_invalid ?a_check_sequence ?l_check_sequence ?c_check_sequence ?k_check_sequence ?w_Effect_takes ?g_Effect_takes ?t_Effect_takes ?r_Effect_takes ?l_Effect_takes ?c_Effect_takes ?k_Effect_takes ?w_Effect_puts ?g_Effect_puts ?t_Effect_puts ?r_Effect_puts ?l_Effect_puts ?c_Effect_puts ?k_Effect_puts ?w_Effect_core ?g_Effect_core ?t_Effect_core ?r_Effect_core ?l_Effect_core ?c_Effect_core ?k_Effect_core ?a_parts_of ?l_parts_of ?c_parts_of ?k_parts_of ?w_Effect___eq__ ?i_Effect___eq__ ?l_Effect___eq__ ?c_Effect___eq__ ?k_Effect___eq__ ?a_chosen ?l_chosen ?c_chosen ?k_chosen ?a_is_word ?l_is_word ?c_is_word ?k_is_word ?a_is_integer ?l_is_integer ?c_is_integer ?k_is_integer ?a_in_range ?l_in_range ?c_in_range ?k_in_range ?a_is_suitable ?l_is_suitable ?c_is_suitable ?k_is_suitable ?w_Effect_is_valid ?r_Effect_is_valid ?l_Effect_is_valid ?c_Effect_is_valid ?k_Effect_is_valid ?w_Effect___init__ ?i_Effect___init__ ?l_Effect___init__ ?c_Effect___init__ ?k_Effect___init__ ?a_least_suitable ?l_least_suitable ?c_least_suitable ?k_least_suitable ?a_depths ?l_depths ?c_depths ?k_depths ?w_Effect_of ?r_Effect_of ?i_Effect_of ?l_Effect_of ?c_Effect_of ?k_Effect_of ?a_effect_of ?l_effect_of ?c_effect_of ?k_effect_of ?a_swapped ?l_swapped ?c_swapped ?k_swapped ?a_is_allowed ?l_is_allowed ?c_is_allowed ?k_is_allowed ?a_exchanges ?l_exchanges ?c_exchanges ?k_exchanges ?a_check_position ?l_check_position ?c_check_position ?k_check_position ?a_can_exchange ?l_can_exchange ?c_can_exchange ?k_can_exchange ?a__law_fit ?l__law_fit ?c__law_fit ?k__law_fit ?a__law_parts ?l__law_parts ?c__law_parts ?k__law_parts ?a_exchange ?l_exchange ?c_exchange ?k_exchange ?a__law_told ?l__law_told ?c__law_told ?k__law_told ?a_law ?l_law ?c_law ?k_law ?aC_InvalidSequence ?xL_InvalidSequence ?sa_InvalidSequence ?ga_InvalidSequence ?gg_InvalidSequence ?nf_InvalidSequence ?iC_InvalidSequence ?tC_InvalidSequence ?l_InvalidSequence ?cd_InvalidSequence ?kC_InvalidSequence ?eC_InvalidSequence ?tt_InvalidSequence ?hC_InvalidSequence ?aC_InvalidEffect ?xL_InvalidEffect ?sa_InvalidEffect ?ga_InvalidEffect ?gg_InvalidEffect ?nf_InvalidEffect ?iC_InvalidEffect ?tC_InvalidEffect ?l_InvalidEffect ?cd_InvalidEffect ?kC_InvalidEffect ?eC_InvalidEffect ?tt_InvalidEffect ?hC_InvalidEffect ?aC_InvalidPosition ?xL_InvalidPosition ?sa_InvalidPosition ?ga_InvalidPosition ?gg_InvalidPosition ?nf_InvalidPosition ?iC_InvalidPosition ?tC_InvalidPosition ?l_InvalidPosition ?cd_InvalidPosition ?kC_InvalidPosition ?eC_InvalidPosition ?tt_InvalidPosition ?hC_InvalidPosition ?aC_EffectChanged ?xL_EffectChanged ?sa_EffectChanged ?ga_EffectChanged ?gg_EffectChanged ?nf_EffectChanged ?iC_EffectChanged ?tC_EffectChanged ?l_EffectChanged ?cd_EffectChanged ?kC_EffectChanged ?eC_EffectChanged ?tt_EffectChanged ?hC_EffectChanged ?ty_Effect ?ka_Effect ?km_Effect ?ss_Effect ?xc_Effect ?lk_Effect ?nsE_Effect ?ne_Effect ?nn_Effect ?oc_g ?oc_t ?sx_InvalidSequence_InvalidPosition ?sx_InvalidEffect_InvalidPosition ?sx_InvalidPosition_InvalidPosition ?sx_EffectChanged_InvalidPosition ?sx_InvalidSequence_EffectChanged ?sx_InvalidEffect_EffectChanged ?sx_InvalidPosition_EffectChanged ?sx_EffectChanged_EffectChanged ?ca_EffectChanged ?cm_EffectChanged ?ca_InvalidPosition ?cm_InvalidPosition ?si_InvalidPosition_ValueError ?si_EffectChanged_RuntimeError ?v_ITEMS ?v_MAX_STEPS ?v_MAX_ITEMS_effects ?z_int ?z_range ?z_len ?z_isinstance ?z_str ?z_list ?z_enumerate ?z_all ?z_bool ?z_max ?z_ValueError ?z_repr ?z_RuntimeError ?z_min
    (case aC_Effect => k_is)
    (case pg_Effect => k_is)
    (case hd_Effect => k_is)
    (case po_Effect => k_is)
    (case sa_Effect => k_is)
    (case mk_Effect => k_is)
    (case kc_Effect => k_is)
    (case rd_Effect => k_is)
    (case ga_Effect => k_is)
    (case n_Effect_own_takes => k_is)
    (case n_Effect_own_puts => k_is)
    (case n_Effect_own_core => k_is)
    (case a__law_hand => k_is)
    (case l__law_hand => k_is)
    (case c__law_hand => k_is)
    (case k__law_hand => k_is)
    (case a__law_draw => k_is)
    (case l__law_draw => k_is)
    (case c__law_draw => k_is)
    (case k__law_draw => k_is)
    (case a__law_letters => k_is)
    (case l__law_letters => k_is)
    (case c__law_letters => k_is)
    (case k__law_letters => k_is)
    (case a__law_steps => k_is)
    (case l__law_steps => k_is)
    (case c__law_steps => k_is)
    (case k__law_steps => k_is)
    (case a__law_word => k_is)
    (case l__law_word => k_is)
    (case c__law_word => k_is)
    (case k__law_word => k_is)
    (case a__law_near => k_is)
    (case l__law_near => k_is)
    (case c__law_near => k_is)
    (case k__law_near => k_is)
    (case a_is_step => k_is)
    (case l_is_step => k_is)
    (case c_is_step => k_is)
    (case k_is_step => k_is)
    (case a_first_invalid => k_is)
    (case l_first_invalid => k_is)
    (case c_first_invalid => k_is)
    (case k_first_invalid => k_is)
    (case a_check_sequence => k_is)
    (case l_check_sequence => k_is)
    (case c_check_sequence => k_is)
    (case k_check_sequence => k_is)
    (case w_Effect_takes => k_is)
    (case g_Effect_takes => k_is)
    (case t_Effect_takes => k_is)
    (case r_Effect_takes => k_is)
    (case l_Effect_takes => k_is)
    (case c_Effect_takes => k_is)
    (case k_Effect_takes => k_is)
    (case w_Effect_puts => k_is)
    (case g_Effect_puts => k_is)
    (case t_Effect_puts => k_is)
    (case r_Effect_puts => k_is)
    (case l_Effect_puts => k_is)
    (case c_Effect_puts => k_is)
    (case k_Effect_puts => k_is)
    (case w_Effect_core => k_is)
    (case g_Effect_core => k_is)
    (case t_Effect_core => k_is)
    (case r_Effect_core => k_is)
    (case l_Effect_core => k_is)
    (case c_Effect_core => k_is)
    (case k_Effect_core => k_is)
    (case a_parts_of => k_is)
    (case l_parts_of => k_is)
    (case c_parts_of => k_is)
    (case k_parts_of => k_is)
    (case w_Effect___eq__ => k_is)
    (case i_Effect___eq__ => k_is)
    (case l_Effect___eq__ => k_is)
    (case c_Effect___eq__ => k_is)
    (case k_Effect___eq__ => k_is)
    (case a_chosen => k_is)
    (case l_chosen => k_is)
    (case c_chosen => k_is)
    (case k_chosen => k_is)
    (case a_is_word => k_is)
    (case l_is_word => k_is)
    (case c_is_word => k_is)
    (case k_is_word => k_is)
    (case a_is_integer => k_is)
    (case l_is_integer => k_is)
    (case c_is_integer => k_is)
    (case k_is_integer => k_is)
    (case a_in_range => k_is)
    (case l_in_range => k_is)
    (case c_in_range => k_is)
    (case k_in_range => k_is)
    (case a_is_suitable => k_is)
    (case l_is_suitable => k_is)
    (case c_is_suitable => k_is)
    (case k_is_suitable => k_is)
    (case w_Effect_is_valid => k_is)
    (case r_Effect_is_valid => k_is)
    (case l_Effect_is_valid => k_is)
    (case c_Effect_is_valid => k_is)
    (case k_Effect_is_valid => k_is)
    (case w_Effect___init__ => k_is)
    (case i_Effect___init__ => k_is)
    (case l_Effect___init__ => k_is)
    (case c_Effect___init__ => k_is)
    (case k_Effect___init__ => k_is)
    (case a_least_suitable => k_is)
    (case l_least_suitable => k_is)
    (case c_least_suitable => k_is)
    (case k_least_suitable => k_is)
    (case a_depths => k_is)
    (case l_depths => k_is)
    (case c_depths => k_is)
    (case k_depths => k_is)
    (case w_Effect_of => k_is)
    (case r_Effect_of => k_is)
    (case i_Effect_of => k_is)
    (case l_Effect_of => k_is)
    (case c_Effect_of => k_is)
    (case k_Effect_of => k_is)
    (case a_effect_of => k_is)
    (case l_effect_of => k_is)
    (case c_effect_of => k_is)
    (case k_effect_of => k_is)
    (case a_swapped => k_is)
    (case l_swapped => k_is)
    (case c_swapped => k_is)
    (case k_swapped => k_is)
    (case a_is_allowed => k_is)
    (case l_is_allowed => k_is)
    (case c_is_allowed => k_is)
    (case k_is_allowed => k_is)
    (case a_exchanges => k_is)
    (case l_exchanges => k_is)
    (case c_exchanges => k_is)
    (case k_exchanges => k_is)
    (case a_check_position => k_is)
    (case l_check_position => k_is)
    (case c_check_position => k_is)
    (case k_check_position => k_is)
    (case a_can_exchange => k_is)
    (case l_can_exchange => k_is)
    (case c_can_exchange => k_is)
    (case k_can_exchange => k_is)
    (case a__law_fit => k_is)
    (case l__law_fit => k_is)
    (case c__law_fit => k_is)
    (case k__law_fit => k_is)
    (case a__law_parts => k_is)
    (case l__law_parts => k_is)
    (case c__law_parts => k_is)
    (case k__law_parts => k_is)
    (case a_exchange => k_is)
    (case l_exchange => k_is)
    (case c_exchange => k_is)
    (case k_exchange => k_is)
    (case a__law_told => k_is)
    (case l__law_told => k_is)
    (case c__law_told => k_is)
    (case k__law_told => k_is)
    (case a_law => k_is)
    (case l_law => k_is)
    (case c_law => k_is)
    (case k_law => k_is)
    (case aC_InvalidSequence => k_is)
    (case xL_InvalidSequence => k_is)
    (case sa_InvalidSequence => k_is)
    (case ga_InvalidSequence => k_is)
    (case gg_InvalidSequence => k_is)
    (case nf_InvalidSequence => k_is)
    (case iC_InvalidSequence => k_is)
    (case tC_InvalidSequence => k_is)
    (case l_InvalidSequence => k_is)
    (case cd_InvalidSequence => k_is)
    (case kC_InvalidSequence => k_is)
    (case eC_InvalidSequence => k_is)
    (case tt_InvalidSequence => k_is)
    (case hC_InvalidSequence => k_is)
    (case aC_InvalidEffect => k_is)
    (case xL_InvalidEffect => k_is)
    (case sa_InvalidEffect => k_is)
    (case ga_InvalidEffect => k_is)
    (case gg_InvalidEffect => k_is)
    (case nf_InvalidEffect => k_is)
    (case iC_InvalidEffect => k_is)
    (case tC_InvalidEffect => k_is)
    (case l_InvalidEffect => k_is)
    (case cd_InvalidEffect => k_is)
    (case kC_InvalidEffect => k_is)
    (case eC_InvalidEffect => k_is)
    (case tt_InvalidEffect => k_is)
    (case hC_InvalidEffect => k_is)
    (case aC_InvalidPosition => k_is)
    (case xL_InvalidPosition => k_is)
    (case sa_InvalidPosition => k_is)
    (case ga_InvalidPosition => k_is)
    (case gg_InvalidPosition => k_is)
    (case nf_InvalidPosition => k_is)
    (case iC_InvalidPosition => k_is)
    (case tC_InvalidPosition => k_is)
    (case l_InvalidPosition => k_is)
    (case cd_InvalidPosition => k_is)
    (case kC_InvalidPosition => k_is)
    (case eC_InvalidPosition => k_is)
    (case tt_InvalidPosition => k_is)
    (case hC_InvalidPosition => k_is)
    (case aC_EffectChanged => k_is)
    (case xL_EffectChanged => k_is)
    (case sa_EffectChanged => k_is)
    (case ga_EffectChanged => k_is)
    (case gg_EffectChanged => k_is)
    (case nf_EffectChanged => k_is)
    (case iC_EffectChanged => k_is)
    (case tC_EffectChanged => k_is)
    (case l_EffectChanged => k_is)
    (case cd_EffectChanged => k_is)
    (case kC_EffectChanged => k_is)
    (case eC_EffectChanged => k_is)
    (case tt_EffectChanged => k_is)
    (case hC_EffectChanged => k_is)
    (case ty_Effect => k_is)
    (case ka_Effect => k_is)
    (case km_Effect => k_is)
    (case ss_Effect => k_is)
    (case xc_Effect => k_is)
    (case lk_Effect => k_is)
    (case nsE_Effect => first | rfl | decide)
    (case ne_Effect => k_is)
    (case nn_Effect => k_is)
    (case oc_g => k_is)
    (case oc_t => k_is)
    (case sx_InvalidSequence_InvalidPosition => k_is)
    (case sx_InvalidEffect_InvalidPosition => k_is)
    (case sx_InvalidPosition_InvalidPosition => k_is)
    (case sx_EffectChanged_InvalidPosition => k_is)
    (case sx_InvalidSequence_EffectChanged => k_is)
    (case sx_InvalidEffect_EffectChanged => k_is)
    (case sx_InvalidPosition_EffectChanged => k_is)
    (case sx_EffectChanged_EffectChanged => k_is)
    (case ca_EffectChanged => k_is)
    (case cm_EffectChanged => k_is)
    (case ca_InvalidPosition => k_is)
    (case cm_InvalidPosition => k_is)
    (case si_InvalidPosition_ValueError => k_is)
    (case si_EffectChanged_RuntimeError => k_is)
    (case v_ITEMS => k_is)
    (case v_MAX_STEPS => k_is)
    (case v_MAX_ITEMS_effects => k_is)
    (case z_int => k_is)
    (case z_range => k_is)
    (case z_len => k_is)
    (case z_isinstance => k_is)
    (case z_str => k_is)
    (case z_list => k_is)
    (case z_enumerate => k_is)
    (case z_all => k_is)
    (case z_bool => k_is)
    (case z_max => k_is)
    (case z_ValueError => k_is)
    (case z_repr => k_is)
    (case z_RuntimeError => k_is)
    (case z_min => k_is)
