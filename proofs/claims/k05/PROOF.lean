import PyProof.Rows.All
import Wide.All
import OpenK.AllK
import Wide.FinOn
import HandS.Base
import HandS.Call
import HandS.List
import HandS.Comp
import HandS.Dict
import HandS.Iter
import HandS.Text
import HandS.Exc
import HandS.ExcOwn
import HandS.Ends
import HandS.Words
import HandS.Wide
import HandS.Lambda
import HandS.IsInst
import HandS.ExcInit
import HandS.ExcCtx
import HandS.CallSlots
import HandS.WordsExc
import HandS.RaiseFrom
import HandS.Star
import HandS.WordsDict
import HandS.Property
import HandS.ClsMeth
import HandS.ExcIs
import PyProof.ReprRoads
import PyProof.ReprNest
import PyProof.Rows.StrIntSpec
import HandS.Style
import PyProof.InstNe
import HandS.TryOnly
import PyProof.ZipIter
import PyProof.Draws
import PyProof.EnumMake
import HandS.Zip
import KE.GoesEnumKw
import KE.DatumOrd
import PyProof.InstSpecial
import PyProof.LongRange
import HandS.OwnEq
import PyProof.NeKinds
import HandS.FStr
import HandS.Conv
import HandS.Defaults
import HandS.EndBits
import HandS.StrMore
import PyProof.Rows.EqNone
import HandS.Set
import HandS.SetFor
import HandS.Strs
import HandS.SetKeys
import PyProof.Rows.SortShellAny
import HandS.More
import PyProof.AssignAttr
import PyProof.RulesAssignMore
import HandS.Deep
import HandS.Finally
import HandS.DictComp
import HandS.ListItems
import HandS.Sort
import HandS.MapSum
import HandS.DictEq
import PyProof.DictCopy
import PyProof.DictUpdate
import PyProof.MinMaxWalk
import PyProof.WalkInts
import HandS.SortKw
import PyProof.StrWalks
import KE.KDictDisplayH
import HandS.TupAny
import HandS.TupMul
import KE.SortData
import HandS.Replace
import HandS.SuiteRaise
import HandS.ReplaceList
import KE.KExcRaise
import KE.KDictCopyH
import HandS.DictTup
import KE.KEqDict
import HandS.ExcValue
import PySem.Challenge.RW_queueeffect_k05_error_classes
/-! DLP: data values, environments, and what expressions and statements do to them (no machine in sight). -/
set_option linter.all false
namespace DL
abbrev Tx := List Nat
inductive Ky where
  | int (i : Int)
  | str (x : Tx)
  deriving DecidableEq
/-- a value as plain data -/
inductive D where
  | non
  | bl (b : Bool)
  | int (i : Int)
  | str (x : Tx)
  | lst (xs : List D)
  | tup (xs : List D)
  | dct (kvs : List (Ky × D))
  | obj (c : Nat) (fs : List D)
  | frl (xs : List D)
  | cls (c : Nat)
  | prt (d : D)
  | dcT (kvs : List (List Ky × D))
  | exc (n : Nat) (d : D)
/-- a part that its object alone holds, seen as settled -/
def D.unm : D → D
  | .prt d => d
  | d => d
/-- an object with parts of its own, seen as settled -/
def D.calm : D → D
  | .obj c xs => .obj c (xs.map D.unm)
  | .dct ks => .dct (ks.map fun p => (p.1, p.2.unm))
  | .lst xs => .lst (xs.map D.unm)
  | .tup xs => .tup (xs.map D.unm)
  | d => d
/-- a value that is settled, or a new object that nobody else holds -/
inductive R where
  | fz (d : D)
  | fr (d : D)
  | ft (d : D)
def R.d : R → D
  | .fz d => d
  | .fr d => d
  | .ft d => d.calm
/-- a name's slot: nothing known, a settled value, an object of one's own -/
inductive Slot where
  | no
  | fz (d : D)
  | own (d : D)
  | ownT (d : D)
abbrev Env := List Slot
/-- an exception: its class, its one field -/
structure Exc where
  cls : Nat
  val : D
abbrev EK := Exc → Env → Prop
abbrev DE := Env → (R → Env → Prop) → EK → Prop
abbrev DT := Env → (Bool → Env → Prop) → EK → Prop
abbrev DI := Env → (List D → Env → Prop) → EK → Prop
abbrev DG := D → Env → (Env → Prop) → Prop
structure DEnds where
  nx : Env → Prop
  rt : R → Env → Prop
  bk : Env → Prop := fun _ => False
  ct : Env → Prop := fun _ => False
abbrev DS := DEnds → Env → EK → Prop
/-- a def by its arguments: what it hands back, what it raises; with the arguments' slots behind -/
abbrev Con := List Slot → (R → List Slot → Prop) → (Exc → List Slot → Prop) → Prop

def Env.at (ρ : Env) (i : Nat) : Slot := (ρ[i]?).getD .no

/-! ### operations on data -/
abbrev maxTx : Nat := 16777216
def addD : D → D → (R → Prop) → Prop
  | .int i, .int j, k => k (.fz (.int (i + j)))
  | .str a, .str b, k => a.length + b.length ≤ maxTx ∧ k (.fz (.str (a ++ b)))
  | .lst a, .lst b, k => a.length + b.length ≤ maxTx ∧ k (.fr (.lst (a ++ b)))
  | _, _, _ => False
/-- += on what cannot change -/
def iaddD : D → D → (R → Prop) → Prop
  | .int i, .int j, k => k (.fz (.int (i + j)))
  | .str a, .str b, k => a.length + b.length ≤ maxTx ∧ k (.fz (.str (a ++ b)))
  | _, _, _ => False
def subD : D → D → (R → Prop) → Prop
  | .int i, .int j, k => k (.fz (.int (i - j)))
  | _, _, _ => False
def mulD : D → D → (R → Prop) → Prop
  | .int i, .int j, k => ((-(2 ^ 64) < i ∧ i < 2 ^ 64) ∨ (-(2 ^ 64) < j ∧ j < 2 ^ 64)) ∧ k (.fz (.int (i * j)))
  | .str a, .int n, k => (-(2 ^ 62) ≤ n ∧ n < 2 ^ 62 ∧ a.length * n.toNat ≤ maxTx) ∧ k (.fz (.str (List.replicate n.toNat a).flatten))
  | .lst a, .int n, k => (-(2 ^ 62) ≤ n ∧ n < 2 ^ 62 ∧ a.length * n.toNat ≤ maxTx) ∧ k (.fr (.lst (List.replicate n.toNat a).flatten))
  | _, _, _ => False
def fdivD : D → D → (R → Prop) → Prop
  | .int i, .int j, k => (0 < j ∧ j < 1180591620717411303424) ∧ k (.fz (.int (i / j)))
  | _, _, _ => False
def modD : D → D → (R → Prop) → Prop
  | .int i, .int j, k => 0 < j ∧ k (.fz (.int (i % j)))
  | _, _, _ => False
def powD : D → D → (R → Prop) → Prop
  | .int i, .int j, k => (0 ≤ j ∧ j ≤ 1000000 ∧ i.natAbs < 2 ^ 64) ∧ k (.fz (.int (i ^ j.toNat)))
  | _, _, _ => False
def negD : D → (R → Prop) → Prop
  | .int i, k => k (.fz (.int (-i)))
  | _, _ => False
mutual
def D.eqv : D → D → Bool
  | .non, .non => true
  | .bl a, .bl b => a == b
  | .bl a, .int j => (if a then 1 else 0) == j
  | .int i, .bl b => i == (if b then 1 else 0)
  | .int i, .int j => i == j
  | .str x, .str y => x == y
  | .lst xs, .lst ys => D.eqvL xs ys
  | .tup xs, .tup ys => D.eqvL xs ys
  | _, _ => false
def D.eqvL : List D → List D → Bool
  | [], [] => true
  | x :: xs, y :: ys => D.eqv x y && D.eqvL xs ys
  | _, _ => false
end
mutual
/-- data that may be compared at depth (at most n) -/
def D.eqOk : Nat → D → Bool
  | _, .non => true
  | _, .bl _ => true
  | _, .int _ => true
  | _, .str _ => true
  | n + 1, .lst xs => D.eqOkL n xs
  | n + 1, .tup xs => D.eqOkL n xs
  | _, _ => false
def D.eqOkL : Nat → List D → Bool
  | _, [] => true
  | n, x :: xs => D.eqOk n x && D.eqOkL n xs
end
def scalD : D → D → Bool
  | .non, .non => true | .non, .int _ => true | .int _, .non => true | .non, .bl _ => true | .bl _, .non => true | .non, .str _ => true | .str _, .non => true
  | .int _, .int _ => true | .bl _, .bl _ => true | .str _, .str _ => true
  | .int _, .str _ => true | .str _, .int _ => true | .bl _, .str _ => true | .str _, .bl _ => true
  | _, _ => false
def eqC (x y : D) : Prop := scalD x y = true ∨ (x.eqOk 60 = true ∧ y.eqOk 60 = true)
def eqD (x y : D) (k : R → Prop) : Prop := eqC x y ∧ k (.fz (.bl (D.eqv x y)))
def neD (x y : D) (k : R → Prop) : Prop := eqC x y ∧ k (.fz (.bl (!D.eqv x y)))
def ltD : D → D → (R → Prop) → Prop
  | .int i, .int j, k => k (.fz (.bl (decide (i < j))))
  | _, _, _ => False
def leD : D → D → (R → Prop) → Prop
  | .int i, .int j, k => k (.fz (.bl (decide (i ≤ j))))
  | _, _, _ => False
def gtD : D → D → (R → Prop) → Prop
  | .int i, .int j, k => k (.fz (.bl (decide (j < i))))
  | _, _, _ => False
def geD : D → D → (R → Prop) → Prop
  | .int i, .int j, k => k (.fz (.bl (decide (j ≤ i))))
  | _, _, _ => False
def D.isNon : D → Bool
  | .non => true
  | _ => false
def isD (x : D) (k : R → Prop) : Prop := k (.fz (.bl x.isNon))
def isnD (x : D) (k : R → Prop) : Prop := k (.fz (.bl (!x.isNon)))
/-- is, is not with True or False -/
def isBD : D → D → (R → Prop) → Prop
  | .bl a, .bl b, k => k (.fz (.bl (a == b)))
  | _, _, _ => False
def notBD : D → D → (R → Prop) → Prop
  | .bl a, .bl b, k => k (.fz (.bl (!(a == b))))
  | _, _, _ => False
def revD : D → (R → Prop) → Prop
  | .lst xs, k => k (.fr (.lst xs.reverse))
  | _, _ => False
def D.flat : D → Bool
  | .non => true | .bl _ => true | .int _ => true | .str _ => true
  | _ => false
/-- one sign in a text; a flat thing in a list or tuple of flat things -/
def inD : D → D → (Bool → Prop) → Prop
  | .str [c], .str t, k => k (decide (c ∈ t))
  | x, .lst ys, k => x.flat = true ∧ ys.all D.flat = true ∧ k (ys.any fun y => D.eqv y x)
  | x, .tup ys, k => x.flat = true ∧ ys.all D.flat = true ∧ k (ys.any fun y => D.eqv y x)
  | _, _, _ => False
def inDv (x y : D) (k : R → Prop) : Prop := inD x y fun b => k (.fz (.bl b))
def ninDv (x y : D) (k : R → Prop) : Prop := inD x y fun b => k (.fz (.bl (!b)))
/-- the place of an index -/
def ixN (n : Nat) (i : Int) : Option Nat := if 0 ≤ i then (if i < n then some i.toNat else none) else if -(n : Int) ≤ i then some (i + n).toNat else none
def ixD : D → D → (R → Prop) → Prop
  | .lst xs, .int i, k => ∃ j d, ixN xs.length i = some j ∧ xs[j]? = some d ∧ k (.fz d)
  | .tup xs, .int i, k => ∃ j d, ixN xs.length i = some j ∧ xs[j]? = some d ∧ k (.fz d)
  | .str x, .int i, k => ∃ j c, ixN x.length i = some j ∧ x[j]? = some c ∧ k (.fz (.str [c]))
  | _, _, _ => False
def sIx (n d : Nat) : Option Int → Nat
  | none => d
  | some i => if i < 0 then (i + (n : Int)).toNat else min i.toNat n
def cut {α : Type} (xs : List α) (lo hi : Option Int) : List α := (xs.drop (sIx xs.length 0 lo)).take (sIx xs.length xs.length hi - sIx xs.length 0 lo)
def slD : D → Option Int → Option Int → (R → Prop) → Prop
  | .lst xs, lo, hi, k => k (.fr (.lst (cut xs lo hi)))
  | .frl xs, lo, hi, k => k (.fr (.lst (cut xs lo hi)))
  | .str x, lo, hi, k => k (.fz (.str (cut x lo hi)))
  | _, _, _, _ => False
def lenD : D → (R → Prop) → Prop
  | .lst xs, k => k (.fz (.int xs.length))
  | .tup xs, k => k (.fz (.int xs.length))
  | .frl xs, k => k (.fz (.int xs.length))
  | .str x, k => k (.fz (.int x.length))
  | .dct kvs, k => k (.fz (.int kvs.length))
  | _, _ => False
/-- truth -/
def D.tru : D → Option Bool
  | .non => some false
  | .bl b => some b
  | .int i => some (i != 0)
  | .str x => some (!x.isEmpty)
  | .lst xs => some (!xs.isEmpty)
  | .tup xs => some (!xs.isEmpty)
  | .dct kvs => some (!kvs.isEmpty)
  | _ => none

/-! ### built-in functions -/
def lenF : List D → (R → Prop) → Prop
  | [x], k => lenD x k
  | _, _ => False
def allF : List D → (R → Prop) → Prop
  | [.lst xs], k => ∃ bs : List Bool, xs = bs.map D.bl ∧ k (.fz (.bl (bs.all id)))
  | _, _ => False
def anyF : List D → (R → Prop) → Prop
  | [.lst xs], k => ∃ bs : List Bool, xs = bs.map D.bl ∧ k (.fz (.bl (bs.any id)))
  | _, _ => False
def maxF : List D → (R → Prop) → Prop
  | [.int i, .int j], k => k (.fz (.int (if j > i then j else i)))
  | [.lst xs], k => ∃ ns : List Int, xs = ns.map D.int ∧ 0 < ns.length ∧ ∀ m, m ∈ ns → (∀ y, y ∈ ns → y ≤ m) → k (.fz (.int m))
  | _, _ => False
def minF : List D → (R → Prop) → Prop
  | [.int i, .int j], k => k (.fz (.int (if j < i then j else i)))
  | [.lst xs], k => ∃ ns : List Int, xs = ns.map D.int ∧ 0 < ns.length ∧ ∀ m, m ∈ ns → (∀ y, y ∈ ns → m ≤ y) → k (.fz (.int m))
  | _, _ => False
def sumF : List D → (R → Prop) → Prop
  | [.lst xs], k => ∃ ns : List Int, xs = ns.map D.int ∧ k (.fz (.int ns.sum))
  | _, _ => False
def absF : List D → (R → Prop) → Prop
  | [.int i], k => k (.fz (.int (if i < 0 then -i else i)))
  | _, _ => False
def intF : List D → (R → Prop) → Prop
  | [.int i], k => k (.fz (.int i))
  | [.bl b], k => k (.fz (.int (if b then 1 else 0)))
  | _, _ => False
def listF : List D → (R → Prop) → Prop
  | [.lst xs], k => k (.fr (.lst xs))
  | [.tup xs], k => k (.fr (.lst xs))
  | [.frl xs], k => k (.fr (.lst xs))
  | _, _ => False
def tupleF : List D → (R → Prop) → Prop
  | [.lst xs], k => k (.fr (.tup xs))
  | [.tup xs], k => k (.fz (.tup xs))
  | _, _ => False
/-- isinstance with a built-in type -/
inductive Ty where | str | int | bool | list | tuple | dict
  deriving DecidableEq
def D.isTy : Ty → D → Option Bool
  | .str, .str _ => some true
  | .int, .int _ => some true
  | .int, .bl _ => some true
  | .bool, .bl _ => some true
  | .list, .lst _ => some true
  | .list, .frl _ => some true
  | .tuple, .tup _ => some true
  | .dict, .dct _ => some true
  | .dict, .dcT _ => some true
  | _, .obj _ _ => none
  | _, .cls _ => none
  | _, .exc _ _ => none
  | _, _ => some false
/-! ### methods of texts -/
def joinT (S : Tx) : List Tx → Tx
  | [] => []
  | [p] => p
  | p :: q :: r => p ++ (S ++ joinT S (q :: r))
def joinM (a : Tx) : List D → (R → Prop) → Prop
  | [.lst xs], k => ∃ ys : List Tx, xs = ys.map D.str ∧ (ys.map (·.length)).sum + ys.length * a.length ≤ maxTx ∧ k (.fz (.str (joinT a ys)))
  | _, _ => False
def swM (a : Tx) : List D → (R → Prop) → Prop
  | [.str b], k => k (.fz (.bl (a.take b.length == b)))
  | _, _ => False
def ewM (a : Tx) : List D → (R → Prop) → Prop
  | [.str b], k => k (.fz (.bl (decide (b.length ≤ a.length) && (a.drop (a.length - b.length) == b))))
  | _, _ => False
/-! ### what repr shows -/
/-- an int in decimal -/
def intT (i : Int) : Tx := (toString i).toList.map Char.toNat
/-- a sign that repr shows as it is -/
def okC (c : Nat) : Bool := decide (32 ≤ c) && decide (c < 127) && c != 39 && c != 92
/-- how a key shows -/
def kyRep : Ky → Tx
  | .int i => intT i
  | .str x => 39 :: (x ++ [39])
mutual
def D.rep : D → Tx
  | .non => [78, 111, 110, 101]
  | .bl b => if b then [84, 114, 117, 101] else [70, 97, 108, 115, 101]
  | .int i => intT i
  | .str x => 39 :: (x ++ [39])
  | .lst xs => 91 :: (joinT [44, 32] (D.repL xs) ++ [93])
  | .tup xs => 40 :: (joinT [44, 32] (D.repL xs) ++ (if xs.length == 1 then [44, 41] else [41]))
  | .dct ks => 123 :: (joinT [44, 32] (D.repK ks) ++ [125])
  | _ => []
def D.repL : List D → List Tx
  | [] => []
  | x :: xs => D.rep x :: D.repL xs
def D.repK : List (Ky × D) → List Tx
  | [] => []
  | (k, d) :: r => (kyRep k ++ (58 :: 32 :: D.rep d)) :: D.repK r
end
mutual
/-- data that repr shows so: of depth at most n -/
def D.repOk : Nat → D → Bool
  | _, .non => true
  | _, .bl _ => true
  | _, .int i => decide (i.natAbs < 10 ^ 120)
  | _, .str x => x.all okC
  | n + 1, .lst xs => D.repOkL n xs
  | n + 1, .tup xs => D.repOkL n xs
  | _, _ => false
def D.repOkL : Nat → List D → Bool
  | _, [] => true
  | n, x :: xs => D.repOk n x && D.repOkL n xs
end
def kyOk : Ky → Bool
  | .int i => decide (i.natAbs < 10 ^ 120)
  | .str x => x.all okC
mutual
/-- .. dicts among them -/
def D.shOk : Nat → D → Bool
  | _, .non => true
  | _, .bl _ => true
  | _, .int i => decide (i.natAbs < 10 ^ 120)
  | _, .str x => x.all okC
  | n + 1, .lst xs => D.shOkL n xs
  | n + 1, .tup xs => D.shOkL n xs
  | n + 1, .dct ks => D.shOkK n ks
  | _, _ => false
def D.shOkL : Nat → List D → Bool
  | _, [] => true
  | n, x :: xs => D.shOk n x && D.shOkL n xs
def D.shOkK : Nat → List (Ky × D) → Bool
  | _, [] => true
  | n, (k, d) :: r => kyOk k && (D.shOk n d && D.shOkK n r)
end
def kyWt : Ky → Nat
  | .int _ => 128
  | .str x => x.length + 2
mutual
/-- no shorter than what repr shows -/
def D.wt : D → Nat
  | .int _ => 128
  | .str x => x.length + 2
  | .lst xs => D.wtL xs + 2
  | .tup xs => D.wtL xs + 4
  | .dct ks => D.wtK ks + 5
  | _ => 5
def D.wtL : List D → Nat
  | [] => 0
  | x :: xs => D.wt x + 2 + D.wtL xs
def D.wtK : List (Ky × D) → Nat
  | [] => 0
  | (k, d) :: r => kyWt k + 2 + D.wt d + 2 + D.wtK r
end
def D.isE : D → Bool
  | .dct [] => true
  | _ => false
/-- data with dicts in it -/
def D.noD (d : D) : Bool := d.shOk 40 && decide (d.wt ≤ maxTx)
def repF : List D → (R → Prop) → Prop
  | [d], k => ((d.repOk 40 = true ∧ d.wt ≤ maxTx) ∨ d.noD = true) ∧ k (.fz (.str d.rep))
  | _, _ => False
/-! ### expressions -/
def dC (d : D) : DE := fun ρ Q _ => Q (.fz d) ρ
def dVar (i : Nat) : DE := fun ρ Q _ => match ρ.at i with
  | .fz d => Q (.fz d) ρ
  | .own d => Q (.fz d) (ρ.set i (.fz d))
  | .ownT d => Q (.fz d.calm) (ρ.set i (.fz d.calm))
  | .no => False
def dOp (op : D → D → (R → Prop) → Prop) (f g : DE) : DE := fun ρ Q E => f ρ (fun r ρ1 => g ρ1 (fun s ρ2 => op r.d s.d fun t => Q t ρ2) E) E
def dUn (op : D → (R → Prop) → Prop) (f : DE) : DE := fun ρ Q E => f ρ (fun r ρ1 => op r.d fun t => Q t ρ1) E
/-- arguments, from the left: settled values -/
def dArgs : List DE → Env → (List D → Env → Prop) → EK → Prop
  | [], ρ, Q, _ => Q [] ρ
  | f :: fs, ρ, Q, E => f ρ (fun r ρ1 => dArgs fs ρ1 (fun ds ρ2 => Q (r.d :: ds) ρ2) E) E
def dLst (fs : List DE) : DE := fun ρ Q E => dArgs fs ρ (fun ds ρ1 => ds.length ≤ maxTx ∧ Q (.fr (.lst ds)) ρ1) E
def dTup (fs : List DE) : DE := fun ρ Q E => dArgs fs ρ (fun ds ρ1 => ds.length ≤ maxTx ∧ Q (.fr (.tup ds)) ρ1) E
def dDct0 : DE := fun ρ Q _ => Q (.fr (.dct [])) ρ
/-- a built-in function of settled values -/
def dFn (op : List D → (R → Prop) → Prop) (fs : List DE) : DE := fun ρ Q E => dArgs fs ρ (fun ds ρ1 => op ds fun t => Q t ρ1) E
def dIsi (t : Ty) (f : DE) : DE := fun ρ Q E => f ρ (fun r ρ1 => ∃ b, r.d.isTy t = some b ∧ Q (.fz (.bl b)) ρ1) E
/-- a method of a text -/
def dMs (op : Tx → List D → (R → Prop) → Prop) (f : DE) (fs : List DE) : DE := fun ρ Q E => f ρ (fun r ρ1 => match r.d with
  | .str a => dArgs fs ρ1 (fun ds ρ2 => op a ds fun t => Q t ρ2) E
  | _ => False) E
/-- part of a slice -/
def dPart : Option DE → Env → (Option Int → Env → Prop) → EK → Prop
  | none, ρ, Q, _ => Q none ρ
  | some f, ρ, Q, E => f ρ (fun r ρ1 => match r.d with | .int i => Q (some i) ρ1 | _ => False) E
def dSl (f : DE) (lo hi : Option DE) : DE := fun ρ Q E => f ρ (fun r ρ1 => dPart lo ρ1 (fun l ρ2 => dPart hi ρ2 (fun h ρ3 => slD r.d l h fun t => Q t ρ3) E) E) E
def dIfE (c : DT) (f g : DE) : DE := fun ρ Q E => c ρ (fun b ρ1 => if b = true then f ρ1 Q E else g ρ1 Q E) E
/-- an item of the object that a name holds, which stays its own -/
def Slot.known : Slot → Bool
  | .no => false
  | _ => true
def dIxN (i : Nat) (g : DE) : DE := fun ρ Q E => (ρ.at i).known = true ∧ g ρ (fun s ρ1 => match ρ1.at i with
  | .own d => ixD d s.d fun t => Q t ρ1
  | .fz d => ixD d s.d fun t => Q t ρ1
  | _ => False) E
/-- read with one's own objects as they stand, for a flat answer -/
def Slot.calm : Slot → Slot
  | .own d => .fz d
  | .ownT d => .fz d.calm
  | s => s
/-- a built-in function of a name whose object stays its own; its answer is flat -/
def dFnN (op : List D → (R → Prop) → Prop) (i : Nat) : DE := fun ρ Q _ => match ρ.at i with
  | .own d => op [d] fun t => t.d.flat = true ∧ Q t ρ
  | .fz d => op [d] fun t => Q t ρ
  | _ => False
/-- an operation whose first operand is a name that keeps its object; its answer is flat -/
def dOpN (op : D → D → (R → Prop) → Prop) (i : Nat) (g : DE) : DE := fun ρ Q E => (ρ.at i).known = true ∧ g ρ (fun s ρ1 => match ρ1.at i with
  | .own d => op d s.d fun t => t.d.flat = true ∧ Q t ρ1
  | .fz d => op d s.d fun t => Q t ρ1
  | _ => False) E
def dLook (f : DE) : DE := fun ρ Q _ => f (ρ.map Slot.calm) (fun r _ => r.d.flat = true ∧ Q (.fz r.d) ρ) fun _ _ => False
/-- tests -/
def tVal (f : DE) : DT := fun ρ Q E => f ρ (fun r ρ1 => match r.d with | .bl b => Q b ρ1 | _ => False) E
def tTru (f : DE) : DT := fun ρ Q E => f ρ (fun r ρ1 => ∃ b, r.d.tru = some b ∧ Q b ρ1) E
def tAnd (c d : DT) : DT := fun ρ Q E => c ρ (fun b ρ1 => if b = true then d ρ1 Q E else Q false ρ1) E
def tOr (c d : DT) : DT := fun ρ Q E => c ρ (fun b ρ1 => if b = true then Q true ρ1 else d ρ1 Q E) E
def tNot (c : DT) : DT := fun ρ Q E => c ρ (fun b ρ1 => Q (!b) ρ1) E
/-- and, or, not as values: all truth values -/
def dAnd (c : DE) (d : DE) : DE := fun ρ Q E => c ρ (fun r ρ1 => match r.d with | .bl b => (if b = true then d ρ1 Q E else Q (.fz (.bl false)) ρ1) | _ => False) E
def dOr (c : DE) (d : DE) : DE := fun ρ Q E => c ρ (fun r ρ1 => match r.d with | .bl b => (if b = true then Q (.fz (.bl true)) ρ1 else d ρ1 Q E) | _ => False) E
def dNot (c : DE) : DE := fun ρ Q E => c ρ (fun r ρ1 => match r.d with | .bl b => Q (.fz (.bl (!b))) ρ1 | _ => False) E
/-- a chain x op y op z -/
def dChain (op op' : D → D → (R → Prop) → Prop) (f g h : DE) : DE := fun ρ Q E => f ρ (fun r ρ1 => g ρ1 (fun s ρ2 => op r.d s.d fun t => match t.d with
  | .bl b => (if b = true then h ρ2 (fun u ρ3 => op' s.d u.d fun t' => Q t' ρ3) E else Q (.fz (.bl false)) ρ2)
  | _ => False) E) E

/-! ### what is walked -/
def iLst (f : DE) : DI := fun ρ Q E => f ρ (fun r ρ1 => match r.d with | .lst xs => Q xs ρ1 | _ => False) E
def iTup (f : DE) : DI := fun ρ Q E => f ρ (fun r ρ1 => match r.d with | .tup xs => Q xs ρ1 | _ => False) E
def iStr (f : DE) : DI := fun ρ Q E => f ρ (fun r ρ1 => match r.d with | .str x => Q (x.map fun c => .str [c]) ρ1 | _ => False) E
def rng (lo : Int) (n : Nat) : List D := (List.range n).map fun (k : Nat) => .int (lo + (k : Int))
def iRng1 (f : DE) : DI := fun ρ Q E => f ρ (fun r ρ1 => match r.d with | .int n => (-(2 ^ 62) ≤ n ∧ n < 2 ^ 62) ∧ Q (rng 0 n.toNat) ρ1 | _ => False) E
def iRng2 (f g : DE) : DI := fun ρ Q E => f ρ (fun r ρ1 => g ρ1 (fun s ρ2 => match r.d, s.d with
  | .int a, .int b => (-(2 ^ 62) ≤ a ∧ a < 2 ^ 62 ∧ -(2 ^ 62) ≤ b ∧ b < 2 ^ 62) ∧ Q (rng a (b - a).toNat) ρ2
  | _, _ => False) E) E
def enumD (xs : List D) : List D := (List.range xs.length).zipWith (fun (i : Nat) x => .tup [.int (i : Int), x]) xs
def iEnum (f : DE) : DI := fun ρ Q E => f ρ (fun r ρ1 => match r.d with | .lst xs => Q (enumD xs) ρ1 | _ => False) E
def iZip (f g : DE) : DI := fun ρ Q E => f ρ (fun r ρ1 => g ρ1 (fun s ρ2 => match r.d, s.d with
  | .lst xs, .lst ys => Q (xs.zipWith (fun x y => .tup [x, y]) ys) ρ2
  | _, _ => False) E) E

/-! ### targets -/
def gN (i : Nat) : DG := fun d ρ k => k (ρ.set i (.fz d))
def gNs : List Nat → List D → Env → (Env → Prop) → Prop
  | [], [], ρ, k => k ρ
  | i :: is, d :: ds, ρ, k => gNs is ds (ρ.set i (.fz d)) k
  | _, _, _, _ => False
def gT (is : List Nat) : DG := fun d ρ k => match d with
  | .tup ds => gNs is ds ρ k
  | _ => False
/-- unpacking a list -/
def gL (is : List Nat) : DG := fun d ρ k => match d with
  | .lst ds => gNs is ds ρ k
  | _ => False
/-! ### comprehensions -/
def wipeE : List Nat → Env → Env
  | [], ρ => ρ
  | v :: vs, ρ => (wipeE vs ρ).set v .no
/-- behind the block: its own names stand as before -/
def Slot.noT : Slot → Slot
  | .ownT _ => .no
  | s => s
def backE : List Nat → Env → Env → Env
  | [], _, ρ => ρ
  | v :: vs, ρ0, ρ => (backE vs ρ0 ρ).set v (ρ0.at v).noT
def noE : EK := fun _ _ => False
def lcL (vs : List Nat) (g : DG) (t : DT) (e : DE) (Q : List D → Env → Prop) : List D → List D → Env → Prop
  | [], acc, ρ => Q acc ρ
  | x :: xs, acc, ρ => g x ρ fun ρ1 => t ρ1 (fun b ρ2 => if b = true then e ρ2 (fun r ρ3 => acc.length < maxTx ∧ lcL vs g t e Q xs (acc ++ [r.d]) (wipeE vs ρ3)) noE
    else lcL vs g t e Q xs acc (wipeE vs ρ2)) noE
def tYes : DT := fun ρ Q _ => Q true ρ
def dLc (vs : List Nat) (it : DI) (g : DG) (t : DT) (e : DE) : DE := fun ρ Q E => it ρ (fun xs ρ1 => (∀ i ∈ vs, ∀ d, ρ1.at i ≠ .own d) ∧
  lcL vs g t e (fun acc ρ2 => Q (.fr (.lst acc)) (backE vs ρ1 ρ2)) xs [] (wipeE vs ρ1)) E

/-! ### calls of defs -/
/-- a target that is a name, or a tuple of names -/
inductive Tgt where
  | one (i : Nat)
  | tup (is : List Nat)
def Tgt.g : Tgt → DG
  | .one i => gN i
  | .tup is => gT is
def Tgt.is : Tgt → List Nat
  | .one i => [i]
  | .tup is => is
def D.isRef : D → Bool
  | .lst _ => true
  | .tup _ => true
  | .dct _ => true
  | .obj _ _ => true
  | _ => false
/-- an argument: a value; a settled object where the def may change it (it does not); the object that a name holds, to be changed -/
inductive DA where
  | v (f : DE)
  | r (f : DE)
  | m (i : Nat)
inductive AV where
  | v (d : D)
  | m (i : Nat)
def Slot.isOwn : Slot → Bool
  | .own _ => true
  | .ownT _ => true
  | _ => false
def dAVs : List DA → Env → (List AV → Env → Prop) → EK → Prop
  | [], ρ, Q, _ => Q [] ρ
  | .v f :: as, ρ, Q, E => f ρ (fun r ρ1 => dAVs as ρ1 (fun vs ρ2 => Q (.v r.d :: vs) ρ2) E) E
  | .r f :: as, ρ, Q, E => f ρ (fun r ρ1 => r.d.isRef = true ∧ dAVs as ρ1 (fun vs ρ2 => Q (.v r.d :: vs) ρ2) E) E
  | .m i :: as, ρ, Q, E => (ρ.at i).known = true ∧ dAVs as ρ (fun vs ρ2 => Q (.m i :: vs) ρ2) E
def avSlot (ρ : Env) : AV → Slot
  | .v d => .fz d
  | .m i => ρ.at i
def AV.ok (ρ : Env) : AV → Bool
  | .v _ => true
  | .m i => (ρ.at i).isOwn
def backA : List AV → List Slot → Env → Env
  | .m i :: as, s :: ss, ρ => backA as ss (ρ.set i s)
  | .v _ :: as, _ :: ss, ρ => backA as ss ρ
  | _, _, ρ => ρ
def dCall (con : Con) (as : List DA) : DE := fun ρ Q E => dAVs as ρ (fun vs ρ1 => vs.all (AV.ok ρ1) = true ∧ con (vs.map (avSlot ρ1)) (fun r outs => Q r (backA vs outs ρ1)) fun x outs => E x (backA vs outs ρ1)) E
/-- the places of the arguments that the def may change -/
def DA.mut : DA → Bool
  | .v _ => false
  | _ => true
def DA.slot? : DA → Option Nat
  | .m i => some i
  | _ => none

/-! ### defs with *args -/
def dCallV (con : Con) (fs : List DE) : DE := fun ρ Q E => dArgs fs ρ (fun ds ρ1 => ds.length ≤ maxTx ∧ con [.fz (.tup ds)] (fun r _ => Q r ρ1) fun x _ => E x ρ1) E
/-- f(*e), e a list or a tuple -/
def dCallS (con : Con) (f : DE) : DE := fun ρ Q E => f ρ (fun r ρ1 => match r.d with
  | .lst ds => ds.length ≤ maxTx ∧ con [.fz (.tup ds)] (fun r _ => Q r ρ1) fun x _ => E x ρ1
  | .tup ds => ds.length ≤ maxTx ∧ con [.fz (.tup ds)] (fun r _ => Q r ρ1) fun x _ => E x ρ1
  | _ => False) E
/-! ### own classes: attributes, making, storing -/
def dFld (c j : Nat) (f : DE) : DE := fun ρ Q E => f ρ (fun r ρ1 => match r.d with
  | .obj c' fs => c' = c ∧ ∃ d, fs[j]? = some d ∧ Q (.fz d) ρ1
  | _ => False) E
def mkC (c : Nat) (con : Con) (ds : List D) (ρ : Env) (Q : R → Env → Prop) (E : EK) : Prop :=
  con (.own (.obj c []) :: ds.map .fz) (fun r outs => r.d = .non ∧ ∃ d, outs.head? = some (.own d) ∧ Q (.fr d) ρ) fun x _ => E x ρ
/-- .. a class whose objects hold parts of their own -/
def mkCT (c : Nat) (con : Con) (ds : List D) (ρ : Env) (Q : R → Env → Prop) (E : EK) : Prop :=
  con (.own (.obj c []) :: ds.map .fz) (fun r outs => r.d = .non ∧ ∃ d, outs.head? = some (.ownT d) ∧ Q (.ft d) ρ) fun x _ => E x ρ
def dMakeT (c : Nat) (con : Con) (fs : List DE) : DE := fun ρ Q E => dArgs fs ρ (fun ds ρ1 => ds.length = fs.length ∧ mkCT c con ds ρ1 Q E) E
def newR : Slot → Option R
  | .own d => some (.fr d)
  | .ownT d => some (.ft d)
  | _ => none
def dMake (c : Nat) (con : Con) (fs : List DE) : DE := fun ρ Q E => dArgs fs ρ (fun ds ρ1 => ds.length = fs.length ∧ mkC c con ds ρ1 Q E) E
/-- .. through a name that holds the class -/
def dMakeV (i c : Nat) (con : Con) (fs : List DE) : DE := fun ρ Q E => (match ρ.at i with | .fz (.cls c') => c' = c | _ => False) ∧ dArgs fs ρ (fun ds ρ1 => ds.length = fs.length ∧ mkC c con ds ρ1 Q E) E
/-- an object of that class -/
def D.isObj (c : Nat) : D → Bool
  | .obj c' _ => c' == c
  | _ => false
def dObj (c : Nat) (f : DE) : DE := fun ρ Q E => f ρ (fun r ρ1 => r.d.isObj c = true ∧ Q r ρ1) E
def Slot.isObj (c : Nat) : Slot → Bool
  | .own d => d.isObj c
  | .ownT d => d.isObj c
  | .fz d => d.isObj c
  | .no => false
/-- x.m(..), x the name's own object -/
def dMethM (i c : Nat) (con : Con) (as : List DA) : DE := fun ρ Q E => (ρ.at i).isObj c = true ∧ dCall con (.m i :: as) ρ Q E
/-- C.m(..), m a classmethod -/
def dCm (c : Nat) (con : Con) (fs : List DE) : DE := fun ρ Q E => dArgs fs ρ (fun ds ρ1 => ds.length = fs.length ∧ con ((D.cls c :: ds).map .fz) (fun r _ => Q r ρ1) fun x _ => E x ρ1) E

def D.isCls (c : Nat) : D → Option Bool
  | .obj c' _ => if c' = c then some true else if c' < 1000 then some false else none
  | .cls _ => none
  | .exc _ _ => none
  | _ => some false
def dIsO (c : Nat) (f : DE) : DE := fun ρ Q E => f ρ (fun r ρ1 => ∃ b, r.d.isCls c = some b ∧ Q (.fz (.bl b)) ρ1) E
/-- a == b, a != b by the own == of a's class -/
def D.eqTo (c : Nat) : D → Bool
  | .obj c' _ => c' == c
  | .cls _ => false
  | .exc _ _ => false
  | .frl _ => false
  | _ => true
def dEqO (c : Nat) (con : Con) (neg : Bool) (f g : DE) : DE := fun ρ Q E => f ρ (fun r ρ1 => g ρ1 (fun s ρ2 => r.d.isObj c = true ∧ (if neg = true then s.d.isObj c = true else s.d.eqTo c = true) ∧
  con [.fz r.d, .fz s.d] (fun t _ => ∃ b, t.d = .bl b ∧ Q (.fz (.bl (if neg = true then !b else b))) ρ2) fun _ _ => False) E) E
/-- (object, number) != (object, number), equal ones -/
def dNeT (c : Nat) (con : Con) (f g : DE) : DE := fun ρ Q E => f ρ (fun r ρ1 => g ρ1 (fun s ρ2 => ∃ o o' i, r.d = .tup [o, .int i] ∧ s.d = .tup [o', .int i] ∧ o.isObj c = true ∧ o'.isObj c = true ∧ Q (.fz (.bl false)) ρ2 ∧
  con [.fz o, .fz o'] (fun t _ => ∃ b, t.d = .bl b ∧ (R.fz (.bl b) = .fz (.bl true) ∧ Q (.fz (.bl false)) ρ2)) fun _ _ => False) E) E
/-! ### statements -/
/-- x.f = e, x the name's own object: a new attribute, or one that is there -/
def sFld (i c j : Nat) (f : DE) : DS := fun D ρ E => f ρ (fun r ρ1 => match ρ1.at i with
  | .own (.obj c' fs) => c' = c ∧ j ≤ fs.length ∧ D.nx (ρ1.set i (.own (.obj c (if j < fs.length then fs.set j r.d else fs ++ [r.d]))))
  | _ => False) E
def sNx : DS := fun D ρ _ => D.nx ρ
def sSeq (f g : DS) : DS := fun D ρ E => f { D with nx := fun ρ1 => g D ρ1 E } ρ E
def sRet (f : DE) : DS := fun D ρ E => f ρ D.rt E
def sRetN : DS := fun D ρ _ => D.rt (.fz .non) ρ
def sExp (f : DE) : DS := fun D ρ E => f ρ (fun _ ρ1 => D.nx ρ1) E
def sAsg (g : DG) (f : DE) : DS := fun D ρ E => f ρ (fun r ρ1 => g r.d ρ1 D.nx) E
/-- a new object becomes the name's own -/
def sAsgO (i : Nat) (f : DE) : DS := fun D ρ E => f ρ (fun r ρ1 => match r with | .fr (.tup _) => False | .ft (.tup _) => False | .fr d => D.nx (ρ1.set i (.own d)) | .ft d => D.nx (ρ1.set i (.ownT d)) | .fz _ => False) E
def sIf (c : DT) (f g : DS) : DS := fun D ρ E => c ρ (fun b ρ1 => if b = true then f D ρ1 E else g D ρ1 E) E
def sAug (i : Nat) (op : D → D → (R → Prop) → Prop) (f : DE) : DS := fun D ρ E => match ρ.at i with
  | .fz x => f ρ (fun r ρ1 => op x r.d fun t => D.nx (ρ1.set i (.fz t.d))) E
  | _ => False
def forL (g : DG) (body : DS) (J : DEnds) (E : EK) : List D → Env → Prop
  | [], ρ => J.nx ρ
  | x :: xs, ρ => g x ρ fun ρ1 => body { nx := forL g body J E xs, ct := forL g body J E xs, bk := J.nx, rt := J.rt } ρ1 E
def sFor (it : DI) (g : DG) (body : DS) : DS := fun D ρ E => it ρ (fun xs ρ1 => forL g body D E xs ρ1) E
def whL (c : DT) (body : DS) (J : DEnds) (E : EK) : Nat → Env → Prop
  | 0, _ => False
  | n + 1, ρ => c ρ (fun b ρ1 => if b = true then body { nx := whL c body J E n, ct := whL c body J E n, bk := J.nx, rt := J.rt } ρ1 E else J.nx ρ1) E
def sWh (c : DT) (body : DS) : DS := fun D ρ E => ∃ n, whL c body D E n ρ
def sBrk : DS := fun D ρ _ => D.bk ρ
def sCnt : DS := fun D ρ _ => D.ct ρ
def sRaise (c : Nat) (f : DE) : DS := fun D ρ E => f ρ (fun r ρ1 => E ⟨c, r.d⟩ ρ1) E
def Slot.ownL : Slot → Bool
  | .own (.lst _) => true
  | _ => false
/-- x.append(e), x the name's own list -/
def sApp (i : Nat) (f : DE) : DS := fun D ρ E => (ρ.at i).ownL = true ∧ f ρ (fun r ρ1 => match ρ1.at i with
  | .own (.lst xs) => xs.length < maxTx ∧ D.nx (ρ1.set i (.own (.lst (xs ++ [r.d]))))
  | _ => False) E
/-- x.extend(e), x the name's own list -/
def sExt (i : Nat) (f : DE) : DS := fun D ρ E => (ρ.at i).ownL = true ∧ f ρ (fun r ρ1 => match ρ1.at i, r.d with
  | .own (.lst xs), .lst ys => xs.length + ys.length ≤ maxTx ∧ D.nx (ρ1.set i (.own (.lst (xs ++ ys))))
  | _, _ => False) E
/-- x[k] = e, x the name's own list -/
def putAt (i : Nat) (k : DE) (d : D) (E : EK) (ρ : Env) (Q : Env → Prop) : Prop := (ρ.at i).ownL = true ∧ k ρ (fun s ρ2 => match ρ2.at i, s.d with
  | .own (.lst xs), .int z => ∃ j, ixN xs.length z = some j ∧ Q (ρ2.set i (.own (.lst (xs.set j d))))
  | _, _ => False) E
/-- x[a], x[b] = f, g -/
def sPut2 (i : Nat) (a b : DE) (f g : DE) : DS := fun D ρ E => dArgs [f, g] ρ (fun ds ρ1 => match ds with
  | [d1, d2] => putAt i a d1 E ρ1 fun ρ2 => putAt i b d2 E ρ2 D.nx
  | _ => False) E
def sPut (i : Nat) (k : DE) (f : DE) : DS := fun D ρ E => f ρ (fun r ρ1 => (ρ1.at i).ownL = true ∧ k ρ1 (fun s ρ2 => match ρ2.at i, s.d with
  | .own (.lst xs), .int z => ∃ j, ixN xs.length z = some j ∧ D.nx (ρ2.set i (.own (.lst (xs.set j r.d))))
  | _, _ => False) E) E
/-- a, b = f, g: two different names -/
def sPar (i j : Nat) (f g : DE) : DS := fun D ρ E => f ρ (fun r ρ1 => g ρ1 (fun s ρ2 => D.nx ((ρ2.set i (.fz r.d)).set j (.fz s.d))) E) E
/-- a, b = f, []: the second name's own -/
def sParL (i j : Nat) (f : DE) : DS := fun D ρ E => f ρ (fun r ρ1 => D.nx ((ρ1.set i (.fz r.d)).set j (.own (.lst [])))) E
/-- a, b, c = f, g, h: three different names -/
def sPar3 (i j l : Nat) (f g h : DE) : DS := fun D ρ E => f ρ (fun r ρ1 => g ρ1 (fun s ρ2 => h ρ2 (fun t ρ3 => D.nx (((ρ3.set i (.fz r.d)).set j (.fz s.d)).set l (.fz t.d))) E) E) E
/-- try: the clauses, each with its name's slot, its class, its suite by the exception -/
abbrev DClause := Nat × Nat × (Exc → DS)
def DEnds.unname (D : DEnds) (i : Nat) : DEnds := { nx := fun ρ => D.nx (ρ.set i .no), rt := D.rt, bk := fun ρ => D.bk (ρ.set i .no), ct := fun ρ => D.ct (ρ.set i .no) }
def catchD : List DClause → DEnds → EK → EK
  | [], _, E => E
  | (i, c, suite) :: r, D, E => fun x ρ => if x.cls = c then i < ρ.length ∧ suite x (D.unname i) (ρ.set i .no) noE else catchD r D E x ρ
def sTrys (cl : List DClause) (body : DS) : DS := fun D ρ E => body D ρ (catchD cl D E)
/-- a def's body -/
def startE (n : Nat) (args : List Slot) : Env := args ++ List.replicate (n - args.length) .no
/-- the first n slots -/
def outsE : Nat → Env → List Slot
  | 0, _ => []
  | n + 1, [] => .no :: outsE n []
  | n + 1, s :: ρ => s :: outsE n ρ
def runD (n : Nat) (body : DS) : Con := fun args Q E => body { nx := fun ρ => Q (.fz .non) (outsE args.length ρ), rt := fun r ρ => Q r (outsE args.length ρ) } (startE n args) fun x ρ => E x (outsE args.length ρ)
/-! ### more parts -/
def tLook (c : DT) : DT := fun ρ Q _ => c (ρ.map Slot.calm) (fun b _ => Q b ρ) noE
/-- n numbers from lo down -/
def rngD (lo : Int) (n : Nat) : List D := (List.range n).map fun (k : Nat) => .int (lo - (k : Int))
/-- the same, for ends of any size -/
def iRngB' (f g : DE) : DI := fun ρ Q E => f ρ (fun r ρ1 => g ρ1 (fun s ρ2 => match r.d, s.d with
  | .int a, .int b => Q (rngD a (a - b).toNat) ρ2
  | _, _ => False) E) E
def iRngD (f g : DE) : DI := fun ρ Q E => f ρ (fun r ρ1 => g ρ1 (fun s ρ2 => match r.d, s.d with
  | .int a, .int b => (-(2 ^ 62) ≤ a ∧ a < 2 ^ 62 ∧ -(2 ^ 62) ≤ b ∧ b < 2 ^ 62) ∧ Q (rngD a (a - b).toNat) ρ2
  | _, _ => False) E) E
def revT : D → (R → Prop) → Prop
  | .str x, k => k (.fz (.str x.reverse))
  | _, _ => False
def lookD (kvs : List (Ky × D)) (k : Ky) : Option D := (kvs.find? fun p => decide (p.1 = k)).map (·.2)
/-- keys that are tuples of numbers and texts -/
def kyOf1 : D → Option Ky
  | .int i => some (.int i)
  | .str x => some (.str x)
  | _ => none
def kysOf : List D → Option (List Ky)
  | [] => some []
  | x :: xs => (kyOf1 x).bind fun k => (kysOf xs).map (k :: ·)
def lookT (kvs : List (List Ky × D)) (k : List Ky) : Option D := (kvs.find? fun p => decide (p.1 = k)).map (·.2)
def dgetD : D → D → (R → Prop) → Prop
  | .dct kvs, .int i, k => ∃ d, lookD kvs (.int i) = some d ∧ k (.fz d)
  | .dct kvs, .str x, k => ∃ d, lookD kvs (.str x) = some d ∧ k (.fz d)
  | .dcT kvs, .tup xs, k => ∃ ks d, kysOf xs = some ks ∧ lookT kvs ks = some d ∧ k (.fz d)
  | _, _, _ => False
def dDisp (ks : List Ky) (fs : List DE) : DE := fun ρ Q _ => dArgs fs ρ (fun ds ρ1 => Q (.fr (.dct (ks.zip ds))) ρ1) noE
/-- pairs of signs -/
def signs2 (a b : Tx) : List D := a.zipWith (fun x y => .tup [.str [x], .str [y]]) b
def iZipS (f g : DE) : DI := fun ρ Q E => f ρ (fun r ρ1 => g ρ1 (fun s ρ2 => match r.d, s.d with
  | .str a, .str b => Q (signs2 a b) ρ2
  | _, _ => False) E) E
def seqOf : D → Option (Bool × List D)
  | .lst xs => some (true, xs)
  | .tup xs => some (false, xs)
  | _ => none
/-- zip(.., strict=True) of two lists, a tuple and a list, a list and a tuple -/
def zipKD (a b : D) (k : List D → Prop) : Prop := ∃ p q xs ys, seqOf a = some (p, xs) ∧ seqOf b = some (q, ys) ∧ (p || q) = true ∧ xs.length = ys.length ∧ k (xs.zipWith (fun x y => .tup [x, y]) ys)
def iZipK (f g : DE) : DI := fun ρ Q E => f ρ (fun r ρ1 => g ρ1 (fun s ρ2 => zipKD r.d s.d fun zs => Q zs ρ2) E) E
/-- min(pair), the pair a tuple of two ints -/
def minPF : List D → (R → Prop) → Prop
  | [.tup [.int i, .int j]], k => k (.fz (.int (if j < i then j else i)))
  | _, _ => False
/-- a, b = [], n: the first name's own -/
def sParF (i j : Nat) (n : Int) : DS := fun D ρ E => D.nx ((ρ.set i (.own (.lst []))).set j (.fz (.int n)))
/-- len(e), repr(e) by the class's own def -/
def dLenO (c : Nat) (con : Con) (f : DE) : DE := fun ρ Q E => f ρ (fun r ρ1 => r.d.isObj c = true ∧ con [.fz r.d] (fun t _ => ∃ n : Nat, t.d = .int n ∧ n < 2 ^ 62 ∧ Q (.fz (.int n)) ρ1) fun _ _ => False) E
def dRepO (c : Nat) (con : Con) (f : DE) : DE := fun ρ Q E => f ρ (fun r ρ1 => r.d.isObj c = true ∧ con [.fz r.d] (fun t _ => ∃ x, t.d = .str x ∧ Q (.fz (.str x)) ρ1) fun _ _ => False) E
/-- values as they come: settled, or new -/
def dVals : List DE → Env → (List R → Env → Prop) → EK → Prop
  | [], ρ, Q, _ => Q [] ρ
  | f :: fs, ρ, Q, E => f ρ (fun r ρ1 => dVals fs ρ1 (fun rs ρ2 => Q (r :: rs) ρ2) E) E
/-- stored: where own is wished for, a new object becomes the name's own -/
def putR : List (Nat × Bool) → List R → Env → (Env → Prop) → Prop
  | [], [], ρ, k => k ρ
  | (_, true) :: _, .fr (.tup _) :: _, _, _ => False
  | (_, true) :: _, .ft (.tup _) :: _, _, _ => False
  | (i, true) :: is, .fr d :: rs, ρ, k => putR is rs (ρ.set i (.own d)) k
  | (i, true) :: is, .ft d :: rs, ρ, k => putR is rs (ρ.set i (.ownT d)) k
  | (i, false) :: is, r :: rs, ρ, k => putR is rs (ρ.set i (.fz r.d)) k
  | _, _, _, _ => False
/-- a, b, .. = f, g, ..: different names, some of which keep their new objects -/
def sParR (is : List (Nat × Bool)) (fs : List DE) : DS := fun D ρ E => dVals fs ρ (fun rs ρ1 => putR is rs ρ1 D.nx) E
/-! ### f-strings, wide products, places of a sign -/
def dFmt (f : DE) : DE := fun ρ Q E => f ρ (fun r ρ1 => match r.d with
  | .str x => Q (.fz (.str x)) ρ1
  | .int i => i.natAbs < 10 ^ 120 ∧ Q (.fz (.str (intT i))) ρ1
  | _ => False) E
def dFmtR (f : DE) : DE := fun ρ Q E => f ρ (fun r ρ1 => match r.d with
  | .str x => (x.all okC = true ∧ x.length + 2 ≤ maxTx) ∧ Q (.fz (.str (39 :: (x ++ [39])))) ρ1
  | .int i => i.natAbs < 10 ^ 120 ∧ Q (.fz (.str (intT i))) ρ1
  | _ => False) E
def fstL : List DE → Tx → Env → (Tx → Env → Prop) → EK → Prop
  | [], acc, ρ, Q, _ => Q acc ρ
  | f :: fs, acc, ρ, Q, E => f ρ (fun r ρ1 => match r.d with
    | .str y => acc.length + y.length ≤ maxTx ∧ fstL fs (acc ++ y) ρ1 Q E
    | _ => False) E
def dFst (fs : List DE) : DE := fun ρ Q E => fstL fs [] ρ (fun x ρ1 => Q (.fz (.str x)) ρ1) E
def mulWD : D → D → (R → Prop) → Prop
  | .int i, .int j, k => (i.natAbs < 2 ^ 3000 ∧ j.natAbs < 2 ^ 3000) ∧ k (.fz (.int (i * j)))
  | _, _, _ => False
/-- the places of a sign -/
def placesOf (x : Tx) (c : Nat) : List Nat := (List.range x.length).filter fun i => x[i]? == some c
def countM (a : Tx) : List D → (R → Prop) → Prop
  | [.str [c]], k => k (.fz (.int (placesOf a c).length))
  | _, _ => False
def indexM (a : Tx) : List D → (R → Prop) → Prop
  | [.str [c]], k => ∃ i r, placesOf a c = i :: r ∧ k (.fz (.int (i : Int)))
  | _, _ => False
/-- list(range(a, b)) -/
def lstRg (a b : Int) (k : R → Prop) : Prop := (-(2 ^ 62) ≤ a ∧ a < 2 ^ 62 ∧ -(2 ^ 62) ≤ b ∧ b < 2 ^ 62 ∧ (b - a).toNat ≤ maxTx) ∧ k (.fr (.lst (rng a (b - a).toNat)))
def dLrg1 (f : DE) : DE := fun ρ Q E => f ρ (fun r ρ1 => match r.d with | .int b => lstRg 0 b fun t => Q t ρ1 | _ => False) E
def dLrg2 (f g : DE) : DE := fun ρ Q E => f ρ (fun r ρ1 => g ρ1 (fun s ρ2 => match r.d, s.d with
  | .int a, .int b => lstRg a b fun t => Q t ρ2
  | _, _ => False) E) E
def imulD : D → D → (R → Prop) → Prop
  | .int i, .int j, k => ((-(2 ^ 64) < i ∧ i < 2 ^ 64) ∨ (-(2 ^ 64) < j ∧ j < 2 ^ 64)) ∧ k (.fz (.int (i * j)))
  | _, _, _ => False
/-- return x, x the name's own object, which leaves with it (M: the names of what the caller may change) -/
def sRetO (i : Nat) (M : List Nat) : DS := fun D ρ _ => match ρ.at i with
  | .own d => (M.all fun k => (ρ.at k).isOwn) = true ∧ D.rt (.fr d) (ρ.set i .no)
  | .fz d => D.rt (.fz d) ρ
  | _ => False
end DL

set_option Elab.async false
set_option linter.all false
set_option autoImplicit false
set_option maxRecDepth 100000
/-! DLX: how data lies in the heap; expressions, statements, defs by what they do to data. -/
namespace DL
open PySem PySem.Spec PyProof.Rows L2

def tx (l : Tx) : Str := ⟨l.toArray⟩
theorem tx_len (l : Tx) : (tx l).length = l.length := by simp [tx, Str.length]
theorem tx_app (a b : Tx) : tx a ++ tx b = tx (a ++ b) := by
  show Str.append (tx a) (tx b) = _
  unfold Str.append tx
  simp
theorem tx_inj {a b : Tx} (h : tx a = tx b) : a = b := by
  have := congrArg (fun s => s.cps.toList) h
  simpa [tx] using this
theorem tx_list (l : Tx) : (tx l).cps.toList = l := by simp [tx]
def okTx (l : Tx) : Prop := (∀ c ∈ l, c < 0x110000) ∧ l.length ≤ sizeLine
def kyV : Ky → Key
  | .int i => .inl i
  | .str x => .inr (tx x)
def okKy : Ky → Prop
  | .int _ => True
  | .str x => okTx x
theorem kyV_inj : ∀ {a b : Ky}, kyV a = kyV b → a = b
  | .int i, .int j, h => by cases h; rfl
  | .str x, .str y, h => by
    have : tx x = tx y := Sum.inr.inj h
    rw [tx_inj this]
  | .int i, .str y, h => nomatch h
  | .str x, .int j, h => nomatch h

/-- the tuples: nobody's own -/
def tupB : HO → Bool
  | .tup _ => true
  | _ => false
/-- the dicts -/
def dicB : HO → Bool
  | .dK _ => true
  | .dT _ => true
  | _ => false
/-- what is settled lies in the heap; a dict that is walked over is locked there -/
structure SmW (F H : Hp) : Prop where
  w : ∀ a o, F a = some o → H a = some o ∨ ∃ od, dicB o = true ∧ H a = some (.frz od o)
theorem SmW.at_ {F H : Hp} (s : SmW F H) (a : Addr) (o : HO) (h : F a = some o) (hn : dicB o = false := by rfl) : H a = some o := (s.w a o h).elim id fun ⟨_, e, _⟩ => by rw [hn] at e; cases e
instance {F H : Hp} : CoeFun (SmW F H) (fun _ => ∀ (a : Addr) (o : HO), F a = some o → (hn : dicB o = false := by rfl) → H a = some o) := ⟨@SmW.at_ F H⟩
theorem SmW.of {F H : Hp} (h : Same F H) : SmW F H := ⟨fun a o e => .inl (h a o e)⟩
theorem SmW.up {F H : Hp} (s : SmW F H) {a : Addr} {o : HO} (h : F a = some o) (t : tupB o = true) : H a = some o := s.at_ a o h (by cases o <;> first | rfl | cases t)
theorem SmW.trans {F H H' : Hp} (s : SmW F H) (e : Same H H') : SmW F H' := ⟨fun a o h => (s.w a o h).elim (fun z => .inl (e _ _ z)) fun ⟨od, e1, e2⟩ => .inr ⟨od, e1, e _ _ e2⟩⟩
theorem SmW.pre {F F' H : Hp} (s : SmW F' H) (e : Same F F') : SmW F H := ⟨fun a o h => s.w a o (e _ _ h)⟩
theorem SmW.free {F H : Hp} (s : SmW F H) {a : Addr} (h : H a = none) : F a = none := by
  cases q : F a with
  | none => rfl
  | some o =>
    rcases s.w a o q with z | ⟨_, _, z⟩ <;> rw [h] at z <;> cases z
theorem SmW.rd {F H : Hp} (s : SmW F H) {a : Addr} {o : HO} (h : F a = some o) : Rd H a o := (s.w a o h).elim .inl fun ⟨od, _, z⟩ => .inr ⟨od, z⟩
theorem SmW.seq {K : PySem.W.Frag} {F H : Hp} {a : Addr} {xs : List V} (e : SmW F H) (h : SqL K F a xs) : SqL K H a xs := by
  rcases h with (h | ⟨o, h⟩) | h
  · exact .inl (.inl (e.at_ _ _ h))
  · exact .inl (.inr ⟨o, e.at_ _ _ h⟩)
  · exact .inr h

theorem ne_frz : ∀ (u : HO) (od : Obj), u ≠ .frz od u := fun u od z => by
  have := congrArg sizeOf z
  simp at this
/-- .. and was so when the def (the part) began -/
structure SmB (H0 : Hp) (O0 : Addr → Prop) (F H : Hp) : Prop extends SmW F H where
  lk : ∀ a od u, F a = some u → H a = some (.frz od u) → H0 a = some (.frz od u) ∧ ¬ O0 a
instance {H0 : Hp} {O0 : Addr → Prop} {F H : Hp} : CoeFun (SmB H0 O0 F H) (fun _ => ∀ (a : Addr) (o : HO), F a = some o → (hn : dicB o = false := by rfl) → H a = some o) := ⟨fun s => @SmW.at_ F H s.toSmW⟩
instance {H0 : Hp} {O0 : Addr → Prop} {F H : Hp} : CoeOut (SmB H0 O0 F H) (SmW F H) := ⟨fun s => s.toSmW⟩
theorem SmB.step {H0 : Hp} {O0 : Addr → Prop} {F H H' : Hp} (s : SmB H0 O0 F H) (h : ∀ a o, F a = some o → ∀ u, (u = o ∨ ∃ od, u = .frz od o) → H a = some u → H' a = some u) : SmB H0 O0 F H' where
  w := fun a o e => (s.w a o e).elim (fun z => .inl (h a o e _ (.inl rfl) z)) fun ⟨od, e1, e2⟩ => .inr ⟨od, e1, h a o e _ (.inr ⟨od, rfl⟩) e2⟩
  lk := fun a od kvs e z => by
    rcases s.w a _ e with q | ⟨od', e1, e2⟩
    · rw [h a _ e _ (.inl rfl) q] at z; exact absurd (Option.some.inj z) (ne_frz kvs od)
    · have := h a _ e _ (.inr ⟨od', rfl⟩) e2
      rw [z] at this
      cases this
      exact s.lk a od kvs e e2
theorem SmB.trans {H0 : Hp} {O0 : Addr → Prop} {F H H' : Hp} (s : SmB H0 O0 F H) (e : Same H H') : SmB H0 O0 F H' := s.step fun a _ _ u _ z => e a u z
theorem SmB.pre {H0 : Hp} {O0 : Addr → Prop} {F F' H : Hp} (s : SmB H0 O0 F' H) (e : Same F F') : SmB H0 O0 F H where
  w := (s.toSmW.pre e).w
  lk := fun a od kvs h z => s.lk a od kvs (e _ _ h) z
theorem SmW.start {O0 : Addr → Prop} {F H : Hp} (s : SmW F H) (h : ∀ a o, F a = some o → ¬ O0 a) : SmB H O0 F H where
  w := s.w
  lk := fun a od kvs e z => ⟨z, h a _ e⟩
theorem SmB.imp {H0 : Hp} {O0 O1 : Addr → Prop} {F H : Hp} (s : SmB H0 O0 F H) (h : ∀ a, O1 a → O0 a) : SmB H0 O1 F H where
  w := s.w
  lk := fun a od kvs e z => ⟨(s.lk a od kvs e z).1, fun q => (s.lk a od kvs e z).2 (h a q)⟩
theorem SmB.after {H0 : Hp} {O0 O1 : Addr → Prop} {F H F2 H2 : Hp} (s : SmB H0 O0 F H) (s2 : SmB H O1 F2 H2) (fn : ∀ b o, F2 b = some o → F b = some o ∨ H b = none ∨ O1 b ∨ tupB o = true) : SmB H0 O0 F2 H2 where
  w := s2.w
  lk := fun a od kvs e z => by
    obtain ⟨q1, q2⟩ := s2.lk a od kvs e z
    rcases fn a _ e with y | y | y | y
    · exact s.lk a od kvs y q1
    · rw [q1] at y; cases y
    · exact absurd y q2
    · have w := s2.up e y
      rw [z] at w
      exact absurd (Option.some.inj w).symm (ne_frz _ _)

/-- an own class: where it stands, its instances' attributes in the order of their storing -/
structure CI where
  addr : Addr
  names : List Str
/-- an own exception class: where it stands, its one attribute -/
structure EI where
  addr : Addr
  field : Str
/-- an own exception that is held as a value: its object at a, its one attribute's dict at dx -/
def ExV (cls : Value) (a dx : Addr) : HO := .ext fun h => ∃ (oe : Obj) (vs : Array Value), h.get? a = some oe ∧ L2.Zc cls (some dx) oe ∧ oe.data = .fields vs
structure Tb where
  cl : Nat → Option CI
  ex : Nat → Option EI
  tabs : List (Addr × Str) := []
section
variable (K : PySem.W.Frag) (T : Tb) (F : Hp)
mutual
inductive Rep : V → D → Prop
  | non : Rep .non .non
  | bl (b : Bool) : Rep (.bl b) (.bl b)
  | int (i : Int) : Rep (.int i) (.int i)
  | str {l : Tx} : okTx l → Rep (.str (tx l)) (.str l)
  | ref {a : Addr} {o : HO} {d : D} : F a = some o → RepO o d → Rep (.ref a) d
  | frl {a : Addr} {vs : List V} {xs : List D} : SqL K F a vs → RepL vs xs → Rep (.ref a) (.frl xs)
  | cls {c : Nat} {ci : CI} : T.cl c = some ci → Rep (.ref ci.addr) (.cls c)
  | exc {n : Nat} {ei : EI} {a dx : Addr} {v : V} {d : D} : T.ex n = some ei → F a = some (ExV (.ref ei.addr) a dx) → F dx = some (.xd [(ei.field, v)]) → Rep v d → Rep (.ref a) (.exc n d)
inductive RepO : HO → D → Prop
  | lst {vs : List V} {xs : List D} : RepL vs xs → RepO (.lst vs) (.lst xs)
  | tup {vs : List V} {xs : List D} : RepL vs xs → RepO (.tup vs) (.tup xs)
  | dct {kvs : List (Key × V)} {ds : List (Ky × D)} : RepK kvs ds → RepO (.dK kvs) (.dct ds)
  | obj {c : Nat} {ci : CI} {dx : Addr} {vs : List V} {xs : List D} : T.cl c = some ci → vs.length ≤ ci.names.length → RepL vs xs → RepO (.ins ci.addr dx (ci.names.zip vs)) (.obj c xs)
  | dcT {kvs : List (List Key × V)} {ds : List (List Ky × D)} : RepKT kvs ds → RepO (.dT kvs) (.dcT ds)
inductive RepL : List V → List D → Prop
  | nil : RepL [] []
  | cons {v : V} {d : D} {vs : List V} {xs : List D} : Rep v d → RepL vs xs → RepL (v :: vs) (d :: xs)
inductive RepK : List (Key × V) → List (Ky × D) → Prop
  | nil : RepK [] []
  | cons {k : Ky} {v : V} {d : D} {r : List (Key × V)} {s : List (Ky × D)} : okKy k → Rep v d → RepK r s → RepK ((kyV k, v) :: r) ((k, d) :: s)
inductive RepKT : List (List Key × V) → List (List Ky × D) → Prop
  | nil : RepKT [] []
  | cons {k : List Ky} {v : V} {d : D} {r : List (List Key × V)} {s : List (List Ky × D)} : (∀ x ∈ k, okKy x) → Rep v d → RepKT r s → RepKT ((k.map kyV, v) :: r) ((k, d) :: s)
end
end
section
variable {K : PySem.W.Frag} {T : Tb} {F F' : Hp}
mutual
theorem Rep.mono (h : Same F F') : ∀ {v : V} {d : D}, Rep K T F v d → Rep K T F' v d
  | _, _, .non => .non
  | _, _, .bl b => .bl b
  | _, _, .int i => .int i
  | _, _, .str z => .str z
  | _, _, .ref e r => .ref (h _ _ e) (RepO.mono h r)
  | _, _, .frl e r => .frl (h.seq e) (RepL.mono h r)
  | _, _, .cls e => .cls e
  | _, _, .exc e f g r => .exc e (h _ _ f) (h _ _ g) (Rep.mono h r)
theorem RepO.mono (h : Same F F') : ∀ {o : HO} {d : D}, RepO K T F o d → RepO K T F' o d
  | _, _, .lst r => .lst (RepL.mono h r)
  | _, _, .tup r => .tup (RepL.mono h r)
  | _, _, .dct r => .dct (RepK.mono h r)
  | _, _, .obj e l r => .obj e l (RepL.mono h r)
  | _, _, .dcT r => .dcT (RepKT.mono h r)
theorem RepL.mono (h : Same F F') : ∀ {vs : List V} {xs : List D}, RepL K T F vs xs → RepL K T F' vs xs
  | _, _, .nil => .nil
  | _, _, .cons a b => .cons (Rep.mono h a) (RepL.mono h b)
theorem RepK.mono (h : Same F F') : ∀ {vs : List (Key × V)} {xs : List (Ky × D)}, RepK K T F vs xs → RepK K T F' vs xs
  | _, _, .nil => .nil
  | _, _, .cons z a b => .cons z (Rep.mono h a) (RepK.mono h b)
theorem RepKT.mono (h : Same F F') : ∀ {vs : List (List Key × V)} {xs : List (List Ky × D)}, RepKT K T F vs xs → RepKT K T F' vs xs
  | _, _, .nil => .nil
  | _, _, .cons z a b => .cons z (Rep.mono h a) (RepKT.mono h b)
end
theorem RepL.length : ∀ {vs : List V} {xs : List D}, RepL K T F vs xs → vs.length = xs.length
  | _, _, .nil => rfl
  | _, _, .cons _ b => congrArg (· + 1) (RepL.length b)
theorem RepK.length : ∀ {vs : List (Key × V)} {xs : List (Ky × D)}, RepK K T F vs xs → vs.length = xs.length
  | _, _, .nil => rfl
  | _, _, .cons _ _ b => congrArg (· + 1) (RepK.length b)
theorem RepL.get : ∀ {vs : List V} {xs : List D} {i : Nat} {d : D}, RepL K T F vs xs → xs[i]? = some d → ∃ v, vs[i]? = some v ∧ Rep K T F v d
  | _, _, _, _, .nil, h => by simp at h
  | _, _, 0, _, .cons a _, h => by simp at h; subst h; exact ⟨_, rfl, a⟩
  | _, _, i + 1, d, .cons _ b, h => by
    obtain ⟨v, h1, h2⟩ := RepL.get (i := i) (d := d) b (by simpa using h)
    exact ⟨v, by simpa using h1, h2⟩
theorem RepL.getV : ∀ {vs : List V} {xs : List D} {i : Nat} {v : V}, RepL K T F vs xs → vs[i]? = some v → ∃ d, xs[i]? = some d ∧ Rep K T F v d
  | _, _, _, _, .nil, h => by simp at h
  | _, _, 0, _, .cons a _, h => by simp at h; subst h; exact ⟨_, rfl, a⟩
  | _, _, i + 1, d, .cons _ b, h => by
    obtain ⟨v, h1, h2⟩ := RepL.getV (i := i) (v := d) b (by simpa using h)
    exact ⟨v, by simpa using h1, h2⟩
theorem RepL.append : ∀ {vs ws : List V} {xs ys : List D}, RepL K T F vs xs → RepL K T F ws ys → RepL K T F (vs ++ ws) (xs ++ ys)
  | _, _, _, _, .nil, h => h
  | _, _, _, _, .cons a b, h => .cons a (RepL.append b h)
theorem RepL.take : ∀ {vs : List V} {xs : List D} (n : Nat), RepL K T F vs xs → RepL K T F (vs.take n) (xs.take n)
  | _, _, 0, _ => .nil
  | _, _, _ + 1, .nil => .nil
  | _, _, n + 1, .cons a b => .cons a (RepL.take n b)
theorem RepL.drop : ∀ {vs : List V} {xs : List D} (n : Nat), RepL K T F vs xs → RepL K T F (vs.drop n) (xs.drop n)
  | _, _, 0, h => h
  | _, _, _ + 1, .nil => .nil
  | _, _, n + 1, .cons a b => RepL.drop n b
theorem RepL.set : ∀ {vs : List V} {xs : List D} {v : V} {d : D} (n : Nat), Rep K T F v d → RepL K T F vs xs → RepL K T F (vs.set n v) (xs.set n d)
  | _, _, _, _, _, _, .nil => .nil
  | _, _, _, _, 0, h, .cons a b => .cons h b
  | _, _, _, _, n + 1, h, .cons a b => .cons a (RepL.set n h b)
/-- what a value is, by its data -/
theorem Rep.int_inv {v : V} {i : Int} (r : Rep K T F v (.int i)) : v = .int i := by
  cases r with
  | int => rfl
  | ref e r => cases r
theorem Rep.bl_inv {v : V} {b : Bool} (r : Rep K T F v (.bl b)) : v = .bl b := by
  cases r with
  | bl => rfl
  | ref e r => cases r
theorem Rep.non_inv {v : V} (r : Rep K T F v .non) : v = .non := by
  cases r with
  | non => rfl
  | ref e r => cases r
theorem Rep.str_inv {v : V} {l : Tx} (r : Rep K T F v (.str l)) : v = .str (tx l) ∧ okTx l := by
  cases r with
  | str z => exact ⟨rfl, z⟩
  | ref e r => cases r
theorem Rep.lst_inv {v : V} {xs : List D} (r : Rep K T F v (.lst xs)) : ∃ a vs, v = .ref a ∧ F a = some (.lst vs) ∧ RepL K T F vs xs := by
  cases r with
  | ref e r =>
    cases r with
    | lst r => exact ⟨_, _, rfl, e, r⟩
theorem Rep.tup_inv {v : V} {xs : List D} (r : Rep K T F v (.tup xs)) : ∃ a vs, v = .ref a ∧ F a = some (.tup vs) ∧ RepL K T F vs xs := by
  cases r with
  | ref e r =>
    cases r with
    | tup r => exact ⟨_, _, rfl, e, r⟩
theorem Rep.dct_inv {v : V} {xs : List (Ky × D)} (r : Rep K T F v (.dct xs)) : ∃ a vs, v = .ref a ∧ F a = some (.dK vs) ∧ RepK K T F vs xs := by
  cases r with
  | ref e r =>
    cases r with
    | dct r => exact ⟨_, _, rfl, e, r⟩
theorem Rep.frl_inv {v : V} {xs : List D} (r : Rep K T F v (.frl xs)) : ∃ a vs, v = .ref a ∧ SqL K F a vs ∧ RepL K T F vs xs := by
  cases r with
  | ref e r => cases r
  | frl e r => exact ⟨_, _, rfl, e, r⟩
end

/-! ### objects with parts of their own -/
def kidA : V → D → List Addr
  | .ref q, .prt _ => [q]
  | _, _ => []
def kidsA : List V → List D → List Addr
  | v :: vs, d :: xs => kidA v d ++ kidsA vs xs
  | _, _ => []
def footO : HO → D → List Addr
  | .ins _ _ fs, .obj _ xs => kidsA (fs.map (·.2)) xs
  | .dK kvs, .dct ds => kidsA (kvs.map (·.2)) (ds.map (·.2))
  | .lst vs, .lst xs => kidsA vs xs
  | .tup vs, .tup xs => kidsA vs xs
  | _, _ => []
/-- where a slot's own objects lie -/
def foot (H : Hp) (s : Option (Option V)) (sl : Slot) : List Addr := match s, sl with
  | some (some (.ref p)), .own _ => [p]
  | some (some (.ref p)), .ownT d => p :: (match H p with
    | some o => footO o d
    | none => [])
  | _, _ => []
section
variable (K : PySem.W.Frag) (T : Tb) (F H : Hp)
inductive KidR : V → D → Prop
  | fz {v : V} {d : D} : Rep K T F v d → KidR v d
  | own {q : Addr} {o : HO} {d : D} : F q = none → H q = some o → RepO K T F o d → tupB o = false → KidR (.ref q) (.prt d)
inductive KidL : List V → List D → Prop
  | nil : KidL [] []
  | cons {v : V} {d : D} {vs : List V} {xs : List D} : KidR K T F H v d → KidL vs xs → KidL (v :: vs) (d :: xs)
inductive KidK : List (Key × V) → List (Ky × D) → Prop
  | nil : KidK [] []
  | cons {k : Ky} {v : V} {d : D} {r : List (Key × V)} {s : List (Ky × D)} : okKy k → KidR K T F H v d → KidK r s → KidK ((kyV k, v) :: r) ((k, d) :: s)
inductive TreeO : HO → D → Prop
  | obj {c : Nat} {ci : CI} {dx : Addr} {vs : List V} {xs : List D} : T.cl c = some ci → vs.length ≤ ci.names.length → KidL K T F H vs xs → TreeO (.ins ci.addr dx (ci.names.zip vs)) (.obj c xs)
  | dct {kvs : List (Key × V)} {ds : List (Ky × D)} : KidK K T F H kvs ds → TreeO (.dK kvs) (.dct ds)
  | lst {vs : List V} {xs : List D} : KidL K T F H vs xs → TreeO (.lst vs) (.lst xs)
  | tup {vs : List V} {xs : List D} : KidL K T F H vs xs → TreeO (.tup vs) (.tup xs)
end
section
variable {K : PySem.W.Frag} {T : Tb} {F F' H H' : Hp}
theorem repO_tbl' {o : HO} {d : D} (r : RepO K T F o d) : ∀ ps, o ≠ .tbl ps := fun ps z => by
  cases r <;> cases z
theorem repO_code' {o : HO} {d : D} (r : RepO K T F o d) : ∀ c q, o ≠ LamX.CodeO c q := fun c q z => by
  unfold LamX.CodeO at z
  cases r <;> cases z
theorem treeO_tbl {o : HO} {d : D} (r : TreeO K T F H o d) : ∀ ps, o ≠ .tbl ps := fun ps z => by
  cases r <;> cases z
theorem treeO_code {o : HO} {d : D} (r : TreeO K T F H o d) : ∀ c q, o ≠ LamX.CodeO c q := fun c q z => by
  unfold LamX.CodeO at z
  cases r <;> cases z
/-- what a footprint's places hold -/
def Priv (F H : Hp) (a : Addr) : Prop := F a = none ∧ ∃ o, H a = some o ∧ (∀ ps, o ≠ .tbl ps) ∧ ∀ c q, o ≠ LamX.CodeO c q
theorem kidsA_cons {v : V} {d : D} {vs : List V} {xs : List D} : kidsA (v :: vs) (d :: xs) = kidA v d ++ kidsA vs xs := rfl
theorem kidsA_sub {v : V} {d : D} {vs : List V} {xs : List D} {a : Addr} (h : a ∈ kidsA vs xs) : a ∈ kidsA (v :: vs) (d :: xs) := List.mem_append_right _ h
theorem not_rep_prt {v : V} {d : D} (r : Rep K T F v (.prt d)) : False := by
  cases r with
  | ref _ r => cases r
theorem kidA_fz {v : V} {d : D} (r : Rep K T F v d) : kidA v d = [] := by
  unfold kidA
  split
  · exact (not_rep_prt r).elim
  · rfl
theorem rep_unm {v : V} {d : D} (r : Rep K T F v d) : d.unm = d := by
  unfold D.unm
  split
  · exact (not_rep_prt r).elim
  · rfl
theorem KidL.priv : ∀ {vs : List V} {xs : List D}, KidL K T F H vs xs → ∀ a ∈ kidsA vs xs, Priv F H a
  | _, _, .nil, _, h => by simp [kidsA] at h
  | _, _, .cons (v := v) (d := d) k r, a, h => by
    rw [kidsA_cons] at h
    cases k with
    | fz z =>
      rw [kidA_fz z] at h
      exact r.priv a h
    | own f e ro _ =>
      rcases List.mem_cons.mp h with rfl | h
      · exact ⟨f, _, e, repO_tbl' ro, repO_code' ro⟩
      · exact r.priv a h
theorem KidR.mono {v : V} {d : D} (e : Same F F') (h : ∀ a ∈ kidA v d, F' a = none ∧ H' a = H a) : KidR K T F H v d → KidR K T F' H' v d
  | .fz z => .fz (z.mono e)
  | .own (q := q) f z ro nt => .own (h q (List.mem_singleton.mpr rfl)).1 ((h q (List.mem_singleton.mpr rfl)).2.trans z) (ro.mono e) nt
theorem KidL.mono (e : Same F F') : ∀ {vs : List V} {xs : List D}, (∀ a ∈ kidsA vs xs, F' a = none ∧ H' a = H a) → KidL K T F H vs xs → KidL K T F' H' vs xs
  | _, _, _, .nil => .nil
  | _, _, h, .cons k r => .cons (k.mono e fun a ha => h a (List.mem_append_left _ ha)) (KidL.mono e (fun a ha => h a (kidsA_sub ha)) r)
theorem KidK.list : ∀ {kvs : List (Key × V)} {ds : List (Ky × D)}, KidK K T F H kvs ds → KidL K T F H (kvs.map (·.2)) (ds.map (·.2))
  | _, _, .nil => .nil
  | _, _, .cons _ k r => .cons k r.list
theorem KidK.mono (e : Same F F') : ∀ {kvs : List (Key × V)} {ds : List (Ky × D)}, (∀ a ∈ kidsA (kvs.map (·.2)) (ds.map (·.2)), F' a = none ∧ H' a = H a) → KidK K T F H kvs ds → KidK K T F' H' kvs ds
  | _, _, _, .nil => .nil
  | _, _, h, .cons o k r => .cons o (k.mono e fun a ha => h a (List.mem_append_left _ ha)) (KidK.mono e (fun a ha => h a (kidsA_sub ha)) r)
theorem zip_snd {names : List Str} {vs : List V} (h : vs.length ≤ names.length) : (names.zip vs).map (·.2) = vs := List.map_snd_zip h
theorem TreeO.priv {o : HO} {d : D} (r : TreeO K T F H o d) : ∀ a ∈ footO o d, Priv F H a := fun a h => by
  cases r with
  | obj e l k =>
    rw [footO, zip_snd l] at h
    exact k.priv a h
  | dct k => exact k.list.priv a h
  | lst k => exact k.priv a h
  | tup k => exact k.priv a h
theorem TreeO.mono {o : HO} {d : D} (e : Same F F') (h : ∀ a ∈ footO o d, F' a = none ∧ H' a = H a) (r : TreeO K T F H o d) : TreeO K T F' H' o d := by
  cases r with
  | obj e1 l k => exact .obj e1 l (k.mono e fun a ha => h a (by rw [footO, zip_snd l]; exact ha))
  | dct k => exact .dct (k.mono e h)
  | lst k => exact .lst (k.mono e h)
  | tup k => exact .tup (k.mono e h)
theorem Priv.ne {a : Addr} {p : Addr} (h : Priv F H a) (hp : H p = none) : a ≠ p := fun z => by
  obtain ⟨_, o, e, _⟩ := h
  rw [z, hp] at e
  cases e
end
/-! ### states -/
/-- a def's entry: what was settled, the heap, the objects handed in to be changed, the names that hold them -/
structure Bs where
  F0 : Hp
  H0 : Hp
  O1 : Nat → Addr → Prop
  P : Nat → V
def Bs.O0 (B : Bs) (a : Addr) : Prop := ∃ i, B.O1 i a
/-- the tables of code objects, and what is settled is none -/
def TabsF (L : List (Addr × Str)) (F H : Hp) : Prop := LamX.Tabs L H ∧ ∀ b ps, F b ≠ some (.tbl ps)
section
variable (K : PySem.W.Frag) (T : Tb)
def SlotOk (F H : Hp) (s : Option (Option V)) : Slot → Prop
  | .no => True
  | .fz d => ∃ v, s = some (some v) ∧ Rep K T F v d
  | .own d => ∃ p o, s = some (some (.ref p)) ∧ F p = none ∧ H p = some o ∧ RepO K T F o d ∧ tupB o = false
  | .ownT d => ∃ p o, s = some (some (.ref p)) ∧ F p = none ∧ H p = some o ∧ TreeO K T F H o d ∧ (p :: footO o d).Nodup ∧ tupB o = false
structure SR (B : Bs) (M : List Nat) (F H : Hp) (ρ : Env) (σ : L2.St) : Prop where
  sub : SmB B.H0 B.O0 F H
  keep : ∀ b o, B.H0 b = some o → ¬ B.O0 b → (∀ ps, o ≠ .tbl ps) → H b = some o
  live : ∀ b o, B.H0 b = some o → ∃ o', H b = some o'
  f0 : Same B.F0 F
  fnew : ∀ b o, F b = some o → B.F0 b = some o ∨ B.H0 b = none ∨ B.O0 b ∨ tupB o = true
  len : ρ.length = σ.length
  slot : ∀ i, SlotOk K T F H (σ[i]?) (ρ.at i)
  newF : ∀ i a, a ∈ foot H (σ[i]?) (ρ.at i) → B.H0 a = none ∨ B.O1 i a
  injF : ∀ i j a, a ∈ foot H (σ[i]?) (ρ.at i) → a ∈ foot H (σ[j]?) (ρ.at j) → i = j
  pin : ∀ i ∈ M, σ[i]? = some (some (B.P i))
  tabs : TabsF T.tabs F H
/-- a result: settled, or a new object that is nobody's -/
def RetV (B : Bs) (F H : Hp) (ρ : Env) (σ : L2.St) (v : V) : R → Prop
  | .fz d => Rep K T F v d
  | .fr d => ∃ p o, v = .ref p ∧ F p = none ∧ H p = some o ∧ RepO K T F o d ∧ B.H0 p = none ∧ ∀ i, p ∉ foot H (σ[i]?) (ρ.at i)
  | .ft d => ∃ p o, v = .ref p ∧ F p = none ∧ H p = some o ∧ TreeO K T F H o d ∧ (p :: footO o d).Nodup ∧ ∀ a ∈ p :: footO o d, B.H0 a = none ∧ ∀ i, a ∉ foot H (σ[i]?) (ρ.at i)
/-- what an operation hands back at once -/
def NewR (F H : Hp) (v : V) (H' : Hp) (r : R) : Prop :=
  (∃ d, r = .fz d ∧ H' = H ∧ Rep K T F v d) ∨ ∃ p o d, r = .fr d ∧ v = .ref p ∧ H p = none ∧ H' = upd H p o ∧ RepO K T F o d
end
theorem Env.at_set_same {ρ : Env} {i : Nat} {s : Slot} (h : i < ρ.length) : Env.at (ρ.set i s) i = s := by
  unfold Env.at
  rw [List.getElem?_set_self h]
  rfl
theorem Env.at_set_ne {ρ : Env} {i j : Nat} {s : Slot} (h : i ≠ j) : Env.at (ρ.set i s) j = ρ.at j := by
  unfold Env.at
  rw [List.getElem?_set_ne h]
theorem Env.at_lt {ρ : Env} {i : Nat} (h : ρ.at i ≠ .no) : i < ρ.length := by
  unfold Env.at at h
  by_cases hi : i < ρ.length
  · exact hi
  · rw [List.getElem?_eq_none (by omega)] at h
    exact absurd rfl h
theorem same_upd {H : Hp} {p : Addr} {o : HO} (h : H p = none) : Same H (upd H p o) := fun b x e => by
  rw [upd_ne (ne_of_none e h)]
  exact e
section
variable {K : PySem.W.Frag} {T : Tb} {B : Bs} {M : List Nat} {F F' H H' : Hp} {ρ ρ' : Env} {σ : L2.St} {v : V} {r : R} {p : Addr} {o : HO} {d : D} {i : Nat}
theorem foot_no {H : Hp} {s : Option (Option V)} : foot H s .no = [] := by
  unfold foot
  split <;> first | rfl | (rename_i z; cases z)
theorem foot_fz {H : Hp} {s : Option (Option V)} {d : D} : foot H s (.fz d) = [] := by
  unfold foot
  split <;> first | rfl | (rename_i z; cases z)
theorem foot_own {H : Hp} {p : Addr} {d : D} : foot H (some (some (.ref p))) (.own d) = [p] := rfl
theorem foot_ownT {H : Hp} {p : Addr} {o : HO} {d : D} (h : H p = some o) : foot H (some (some (.ref p))) (.ownT d) = p :: footO o d := by
  show p :: (match H p with | some o => footO o d | none => []) = _
  rw [h]
/-- a footprint depends on the root alone -/
theorem foot_eq {H H' : Hp} {s : Option (Option V)} {sl : Slot} (h : ∀ a ∈ foot H s sl, H' a = H a) : foot H' s sl = foot H s sl := by
  unfold foot
  split
  · rfl
  · rename_i p d
    have := h p List.mem_cons_self
    rw [this]
  · rfl
theorem SlotOk.priv {s : Option (Option V)} {sl : Slot} (h : SlotOk K T F H s sl) : ∀ a ∈ foot H s sl, Priv F H a := fun a ha => by
  cases sl with
  | no => rw [foot_no] at ha; simp at ha
  | fz d => rw [foot_fz] at ha; simp at ha
  | own d =>
    obtain ⟨p, o, rfl, f, e, r, _⟩ := h
    rw [foot_own] at ha
    rw [List.mem_singleton.mp ha]
    exact ⟨f, o, e, repO_tbl' r, repO_code' r⟩
  | ownT d =>
    obtain ⟨p, o, rfl, f, e, r, _⟩ := h
    rw [foot_ownT e] at ha
    rcases List.mem_cons.mp ha with rfl | ha
    · exact ⟨f, o, e, treeO_tbl r, treeO_code r⟩
    · exact r.priv a ha
theorem SlotOk.mono {s : Option (Option V)} {sl : Slot} (h : Same F F') (hk : ∀ a ∈ foot H s sl, F' a = none ∧ H' a = H a) : SlotOk K T F H s sl → SlotOk K T F' H' s sl := by
  cases sl with
  | no => exact fun _ => trivial
  | fz d =>
    rintro ⟨v, e, r⟩
    exact ⟨v, e, r.mono h⟩
  | own d =>
    rintro ⟨p, o, rfl, n, hp, r, nt⟩
    have := hk p (by rw [foot_own]; exact List.mem_singleton.mpr rfl)
    exact ⟨p, o, rfl, this.1, this.2.trans hp, r.mono h, nt⟩
  | ownT d =>
    rintro ⟨p, o, rfl, n, hp, r, nd⟩
    rw [foot_ownT hp] at hk
    have := hk p List.mem_cons_self
    exact ⟨p, o, rfl, this.1, this.2.trans hp, r.mono h fun a ha => hk a (List.mem_cons_of_mem _ ha), nd⟩
/-- what data lies in is no table, no code object -/
theorem repO_tbl {K : PySem.W.Frag} {T : Tb} {F : Hp} {o : HO} {d : D} (r : RepO K T F o d) : ∀ ps, o ≠ .tbl ps := fun ps z => by
  cases r <;> cases z
theorem tabs_upd {L : List (Addr × Str)} {H : Hp} {p : Addr} {o o' : HO} (h : LamX.Tabs L H) (hp : H p = some o) (h1 : ∀ ps, o ≠ .tbl ps) (h2 : ∀ c q, o ≠ LamX.CodeO c q) : LamX.Tabs L (upd H p o') := fun x hx => by
  obtain ⟨ps, e1, e2, e3⟩ := h x hx
  have n1 : x.1 ≠ p := fun z => by rw [z, hp] at e1; exact h1 _ (Option.some.inj e1)
  refine ⟨ps, by rw [upd_ne n1]; exact e1, e2, fun pos cv hc => ?_⟩
  obtain ⟨c, a, b⟩ := e3 pos cv hc
  have n2 : c ≠ p := fun z => by rw [z, hp] at b; exact h2 _ _ (Option.some.inj b)
  exact ⟨c, a, by rw [upd_ne n2]; exact b⟩
theorem SR.priv (S : SR K T B M F H ρ σ) {i : Nat} {a : Addr} (h : a ∈ foot H (σ[i]?) (ρ.at i)) : Priv F H a := (S.slot i).priv a h
theorem SR.newO (S : SR K T B M F H ρ σ) {i : Nat} {a : Addr} (h : a ∈ foot H (σ[i]?) (ρ.at i)) : B.H0 a = none ∨ B.O0 a := (S.newF i a h).elim .inl fun z => .inr ⟨i, z⟩
theorem SR.newown (S : SR K T B M F H ρ σ) : ∀ i d p, ρ.at i = .own d → σ[i]? = some (some (.ref p)) → B.H0 p = none ∨ B.O0 p := fun i d p e1 e2 => S.newO (i := i) (by rw [e1, e2, foot_own]; exact List.mem_singleton.mpr rfl)
theorem SR.inj (S : SR K T B M F H ρ σ) : ∀ i j d e p, ρ.at i = .own d → ρ.at j = .own e → σ[i]? = some (some (.ref p)) → σ[j]? = some (some (.ref p)) → i = j := fun i j d e p e1 e2 e3 e4 => S.injF i j p (by rw [e1, e3, foot_own]; exact List.mem_singleton.mpr rfl) (by rw [e2, e4, foot_own]; exact List.mem_singleton.mpr rfl)
/-- other heaps that leave the footprints as they are -/
theorem SR.footEq (S : SR K T B M F H ρ σ) {H' : Hp} (h : ∀ i, ∀ a ∈ foot H (σ[i]?) (ρ.at i), H' a = H a) (i : Nat) : foot H' (σ[i]?) (ρ.at i) = foot H (σ[i]?) (ρ.at i) := foot_eq (h i)
/-- a new object is laid -/
theorem SR.lay (S : SR K T B M F H ρ σ) (hp : H p = none) : SR K T B M F (upd H p o) ρ σ := by
  have su : Same H (upd H p o) := same_upd hp
  have ke : ∀ i, ∀ a ∈ foot H (σ[i]?) (ρ.at i), upd H p o a = H a := fun i a ha => upd_ne ((S.priv ha).ne hp)
  have fe := S.footEq ke
  refine ⟨S.sub.trans su, fun b u e n m => su _ _ (S.keep b u e n m), fun b u e => ?_, S.f0, S.fnew, S.len, fun i => (S.slot i).mono (Same.refl _) fun a ha => ⟨(S.priv ha).1, ke i a ha⟩, fun i a ha => S.newF i a (fe i ▸ ha), fun i j a h1 h2 => S.injF i j a (fe i ▸ h1) (fe j ▸ h2), S.pin, S.tabs.1.ext su, S.tabs.2⟩
  obtain ⟨u', e'⟩ := S.live b u e
  exact ⟨u', su _ _ e'⟩
theorem SR.lay_new (S : SR K T B M F H ρ σ) (hp : H p = none) (i : Nat) : p ∉ foot (upd H p o) (σ[i]?) (ρ.at i) := fun hi => by
  rw [S.footEq (fun i a ha => upd_ne ((S.priv ha).ne hp)) i] at hi
  exact (S.priv hi).ne hp rfl
theorem SR.fresh (S : SR K T B M F H ρ σ) (hp : H p = none) : B.H0 p = none := by
  cases q : B.H0 p with
  | none => rfl
  | some u =>
    obtain ⟨u', e⟩ := S.live p u q
    rw [hp] at e
    cases e
theorem SR.new (S : SR K T B M F H ρ σ) (n : NewR K T F H v H' r) : SR K T B M F H' ρ σ ∧ RetV K T B F H' ρ σ v r := by
  rcases n with ⟨d, rfl, rfl, h⟩ | ⟨p, o, d, rfl, rfl, hp, rfl, h⟩
  · exact ⟨S, h⟩
  · refine ⟨S.lay hp, p, o, rfl, S.sub.free hp, upd_same, h, S.fresh hp, fun i hi => ?_⟩
    rw [S.footEq (fun i a ha => upd_ne ((S.priv ha).ne hp)) i] at hi
    exact (S.priv hi).ne hp rfl
/-- a loose object is settled -/
theorem SR.settleG (S : SR K T B M F H ρ σ) (hF : F p = none) (hH : H p = some o) (hn : B.H0 p = none ∨ B.O0 p ∨ tupB o = true) (hno : ∀ i, p ∉ foot H (σ[i]?) (ρ.at i)) (hm : ∀ ps, o ≠ HO.tbl ps := by intro _ z; cases z) : SR K T B M (upd F p o) H ρ σ := by
  have su : Same F (upd F p o) := same_upd hF
  refine ⟨⟨⟨fun b u e => ?_⟩, fun b od kvs e z => ?_⟩, S.keep, S.live, S.f0.trans su, fun b u e => ?_, S.len, fun i => (S.slot i).mono su fun a ha => ⟨?_, rfl⟩, S.newF, S.injF, S.pin, S.tabs.1, fun b ps z => ?_⟩
  · by_cases hb : b = p
    · subst hb; rw [upd_same] at e; cases e; exact .inl hH
    · rw [upd_ne hb] at e; exact S.sub.w _ _ e
  · by_cases hb : b = p
    · subst hb; rw [upd_same] at e; cases e; rw [hH] at z; exact absurd (Option.some.inj z) (ne_frz _ _)
    · rw [upd_ne hb] at e; exact S.sub.lk _ _ _ e z
  · by_cases hb : b = p
    · subst hb; rw [upd_same] at e; cases e; exact .inr hn
    · rw [upd_ne hb] at e; exact S.fnew b u e
  · have ne : a ≠ p := fun z => hno i (by rw [← z]; exact ha)
    rw [upd_ne ne]
    exact (S.priv ha).1
  · by_cases hb : b = p
    · subst hb; rw [upd_same] at z; exact hm ps (Option.some.inj z)
    · rw [upd_ne hb] at z; exact S.tabs.2 b ps z
theorem SR.settle (S : SR K T B M F H ρ σ) (hF : F p = none) (hH : H p = some o) (hn : B.H0 p = none ∨ B.O0 p) (hno : ∀ i, p ∉ foot H (σ[i]?) (ρ.at i)) (hm : ∀ ps, o ≠ HO.tbl ps := by intro _ z; cases z) : SR K T B M (upd F p o) H ρ σ :=
  S.settleG hF hH (hn.elim .inl fun z => .inr (.inl z)) hno hm
theorem KidL.notup : ∀ {vs : List V} {xs : List D}, KidL K T F H vs xs → ∀ a ∈ kidsA vs xs, ∀ o, H a = some o → tupB o = false
  | _, _, .nil, _, h => by simp [kidsA] at h
  | _, _, .cons (v := v) (d := d) k r, a, h => by
    rw [kidsA_cons] at h
    cases k with
    | fz z =>
      rw [kidA_fz z] at h
      exact r.notup a h
    | own f e ro nt =>
      rcases List.mem_cons.mp h with rfl | h
      · intro o e2; rw [e] at e2; cases e2; exact nt
      · exact r.notup a h
theorem TreeO.notup {o : HO} {d : D} (r : TreeO K T F H o d) : ∀ a ∈ footO o d, ∀ o, H a = some o → tupB o = false := fun a h => by
  cases r with
  | obj e l k =>
    rw [footO, zip_snd l] at h
    exact k.notup a h
  | dct k => exact k.list.notup a h
  | lst k => exact k.notup a h
  | tup k => exact k.notup a h
theorem repO_nt {K : PySem.W.Frag} {T : Tb} {F : Hp} {o : HO} {d : D} (r : RepO K T F o d) (h : ∀ xs, d ≠ .tup xs) : tupB o = false := by
  cases r <;> first | rfl | exact absurd rfl (h _)
theorem treeO_nt {o : HO} {d : D} (r : TreeO K T F H o d) (h : ∀ xs, d ≠ .tup xs) : tupB o = false := by
  cases r <;> first | rfl | exact absurd rfl (h _)
/-- nobody's own objects are tuples -/
theorem SR.notup (S : SR K T B M F H ρ σ) {i : Nat} {a : Addr} {o : HO} (h : a ∈ foot H (σ[i]?) (ρ.at i)) (e : H a = some o) : tupB o = false := by
  have hs := S.slot i
  cases hr : ρ.at i with
  | no => rw [hr, foot_no] at h; simp at h
  | fz d => rw [hr, foot_fz] at h; simp at h
  | own d =>
    rw [hr] at hs h
    obtain ⟨p, o', e1, _, e2, _, nt⟩ := hs
    rw [e1, foot_own] at h
    rw [List.mem_singleton.mp h, e2] at e
    cases e
    exact nt
  | ownT d =>
    rw [hr] at hs h
    obtain ⟨p, o', e1, _, e2, r, _, nt⟩ := hs
    rw [e1, foot_ownT e2] at h
    rcases List.mem_cons.mp h with rfl | h
    · rw [e2] at e; cases e; exact nt
    · exact r.notup a h _ e
/-- parts of an object are settled -/
theorem SR.settleK : ∀ {vs : List V} {xs : List D} {F : Hp}, SR K T B M F H ρ σ → KidL K T F H vs xs → (kidsA vs xs).Nodup → (∀ a ∈ kidsA vs xs, (B.H0 a = none ∨ B.O0 a) ∧ ∀ i, a ∉ foot H (σ[i]?) (ρ.at i)) → ∃ F', Same F F' ∧ SR K T B M F' H ρ σ ∧ RepL K T F' vs (xs.map D.unm) ∧ (∀ b, b ∉ kidsA vs xs → F' b = F b) ∧ ∀ b ∈ kidsA vs xs, ∃ u, F' b = some u
  | _, _, F, S, .nil, _, _ => ⟨F, Same.refl _, S, .nil, fun _ _ => rfl, fun b hb => by simp [kidsA] at hb⟩
  | _, _, F, S, .cons (v := v) (d := d) (vs := vs) (xs := xs) k r, nd, h => by
    rw [kidsA_cons] at nd h
    cases k with
    | fz z =>
      rw [kidA_fz z] at nd h
      obtain ⟨F', e, S', r', o', i'⟩ := SR.settleK S r nd h
      refine ⟨F', e, S', .cons ?_ r', fun b hb => o' b fun z' => hb (kidsA_sub z'), fun b hb => i' b ?_⟩
      · rw [rep_unm z]
        exact z.mono e
      · rw [kidsA_cons, kidA_fz z] at hb
        exact hb
    | own f e ro _ =>
      rename_i q o d _
      have nd' := List.nodup_cons.mp nd
      have hq := h q List.mem_cons_self
      have su : Same F (upd F q o) := same_upd f
      have S1 := S.settle f e hq.1 hq.2 (repO_tbl' ro)
      have r1 : KidL K T (upd F q o) H vs xs := r.mono su fun a ha => by
        have ne : a ≠ q := fun z => nd'.1 (by rw [← z]; exact ha)
        exact ⟨by rw [upd_ne ne]; exact (r.priv a ha).1, rfl⟩
      obtain ⟨F', e', S', r', o', i'⟩ := SR.settleK S1 r1 nd'.2 fun a ha => h a (List.mem_cons_of_mem _ ha)
      refine ⟨F', su.trans e', S', .cons ?_ r', fun b hb => ?_, fun b hb => ?_⟩
      · exact .ref (e' _ _ upd_same) (ro.mono (su.trans e'))
      · have hb' : b ∉ q :: kidsA vs xs := hb
        have ne : b ≠ q := fun z => hb' (by rw [z]; exact List.mem_cons_self)
        rw [o' b fun z => hb' (List.mem_cons_of_mem _ z), upd_ne ne]
      · have hb' : b ∈ q :: kidsA vs xs := hb
        rcases List.mem_cons.mp hb' with rfl | hb'
        · exact ⟨_, e' _ _ upd_same⟩
        · exact i' b hb'
theorem RepL.keys : ∀ {kvs : List (Key × V)} {ds : List (Ky × D)}, KidK K T F H kvs ds → RepL K T F' (kvs.map (·.2)) ((ds.map (·.2)).map D.unm) → RepK K T F' kvs (ds.map fun p => (p.1, p.2.unm))
  | _, _, .nil, _ => .nil
  | _, _, .cons o _ r, .cons a b => .cons o a (RepL.keys r b)
/-- an object with parts is settled -/
theorem SR.settleT (S : SR K T B M F H ρ σ) (hF : F p = none) (hH : H p = some o) (r : TreeO K T F H o d) (nd : (p :: footO o d).Nodup) (h : ∀ a ∈ p :: footO o d, (B.H0 a = none ∨ B.O0 a) ∧ ∀ i, a ∉ foot H (σ[i]?) (ρ.at i)) : ∃ F', Same F F' ∧ SR K T B M F' H ρ σ ∧ Rep K T F' (.ref p) d.calm ∧ (∀ a ∈ p :: footO o d, ∃ u, F' a = some u) ∧ ∀ b, b ∉ p :: footO o d → F' b = F b := by
  have nd' := List.nodup_cons.mp nd
  have hp := h p List.mem_cons_self
  have ht := treeO_tbl r
  cases r with
  | obj e1 l k =>
    rename_i c ci dx vs xs
    rw [footO, zip_snd l] at nd' h
    obtain ⟨F', e, S', r', o', i'⟩ := SR.settleK S k nd'.2 fun a ha => h a (List.mem_cons_of_mem _ ha)
    have hF' : F' p = none := (o' p nd'.1).trans hF
    have su := same_upd (o := HO.ins ci.addr dx (ci.names.zip vs)) hF'
    refine ⟨_, e.trans su, S'.settle hF' hH hp.1 hp.2 ht, .ref upd_same (.obj e1 l (r'.mono su)), fun a ha => ?_, fun b hb => ?_⟩
    · rw [footO, zip_snd l] at ha
      rcases List.mem_cons.mp ha with rfl | ha
      · exact ⟨_, upd_same⟩
      · obtain ⟨u, hu⟩ := i' a ha
        exact ⟨u, su _ _ hu⟩
    · rw [footO, zip_snd l] at hb
      rw [upd_ne fun z => hb (by rw [z]; exact List.mem_cons_self)]
      exact o' b fun z => hb (List.mem_cons_of_mem _ z)
  | dct k =>
    rename_i kvs ds
    obtain ⟨F', e, S', r', o', i'⟩ := SR.settleK S k.list nd'.2 fun a ha => h a (List.mem_cons_of_mem _ ha)
    have hF' : F' p = none := (o' p nd'.1).trans hF
    have su := same_upd (o := HO.dK kvs) hF'
    refine ⟨_, e.trans su, S'.settle hF' hH hp.1 hp.2 ht, .ref upd_same (.dct ((RepL.keys k r').mono su)), fun a ha => ?_, fun b hb => ?_⟩
    · rcases List.mem_cons.mp ha with rfl | ha
      · exact ⟨_, upd_same⟩
      · obtain ⟨u, hu⟩ := i' a ha
        exact ⟨u, su _ _ hu⟩
    · rw [upd_ne fun z => hb (by rw [z]; exact List.mem_cons_self)]
      exact o' b fun z => hb (List.mem_cons_of_mem _ z)
  | lst k =>
    obtain ⟨F', e, S', r', o', i'⟩ := SR.settleK S k nd'.2 fun a ha => h a (List.mem_cons_of_mem _ ha)
    have hF' : F' p = none := (o' p nd'.1).trans hF
    rename_i vs xs
    have su := same_upd (o := HO.lst vs) hF'
    refine ⟨_, e.trans su, S'.settle hF' hH hp.1 hp.2 ht, .ref upd_same (.lst (r'.mono su)), fun a ha => ?_, fun b hb => ?_⟩
    · rcases List.mem_cons.mp ha with rfl | ha
      · exact ⟨_, upd_same⟩
      · obtain ⟨u, hu⟩ := i' a ha
        exact ⟨u, su _ _ hu⟩
    · rw [upd_ne fun z => hb (by rw [z]; exact List.mem_cons_self)]
      exact o' b fun z => hb (List.mem_cons_of_mem _ z)
  | tup k =>
    obtain ⟨F', e, S', r', o', i'⟩ := SR.settleK S k nd'.2 fun a ha => h a (List.mem_cons_of_mem _ ha)
    have hF' : F' p = none := (o' p nd'.1).trans hF
    rename_i vs xs
    have su := same_upd (o := HO.tup vs) hF'
    refine ⟨_, e.trans su, S'.settle hF' hH hp.1 hp.2 ht, .ref upd_same (.tup (r'.mono su)), fun a ha => ?_, fun b hb => ?_⟩
    · rcases List.mem_cons.mp ha with rfl | ha
      · exact ⟨_, upd_same⟩
      · obtain ⟨u, hu⟩ := i' a ha
        exact ⟨u, su _ _ hu⟩
    · rw [upd_ne fun z => hb (by rw [z]; exact List.mem_cons_self)]
      exact o' b fun z => hb (List.mem_cons_of_mem _ z)
theorem SR.fix (S : SR K T B M F H ρ σ) (h : RetV K T B F H ρ σ v r) : ∃ F', Same F F' ∧ SR K T B M F' H ρ σ ∧ Rep K T F' v r.d := by
  cases r with
  | fz d => exact ⟨F, Same.refl _, S, h⟩
  | fr d =>
    obtain ⟨p, o, rfl, hF, hH, ro, hn, hno⟩ := h
    have su : Same F (upd F p o) := same_upd hF
    exact ⟨upd F p o, su, S.settle hF hH (.inl hn) hno (repO_tbl ro), .ref upd_same (ro.mono su)⟩
  | ft d =>
    obtain ⟨p, o, rfl, hF, hH, ro, nd, hn⟩ := h
    obtain ⟨F', e, S', r, _⟩ := S.settleT hF hH ro nd fun a ha => ⟨.inl (hn a ha).1, (hn a ha).2⟩
    exact ⟨F', e, S', r⟩
/-- a slot's word is weakened -/
theorem SR.slots (S : SR K T B M F H ρ σ) (hl : ρ'.length = ρ.length) (h : ∀ i, ρ'.at i = ρ.at i ∨ (∃ d, ρ'.at i = .fz d ∧ ∃ v, σ[i]? = some (some v) ∧ Rep K T F v d) ∨ ρ'.at i = .no) : SR K T B M F H ρ' σ := by
  have own_of : ∀ i a, a ∈ foot H (σ[i]?) (ρ'.at i) → a ∈ foot H (σ[i]?) (ρ.at i) := fun i a ha => by
    rcases h i with q | ⟨_, q, _⟩ | q
    · rw [← q]; exact ha
    · rw [q, foot_fz] at ha; simp at ha
    · rw [q, foot_no] at ha; simp at ha
  refine ⟨S.sub, S.keep, S.live, S.f0, S.fnew, hl.trans S.len, fun i => ?_, fun i a ha => S.newF i a (own_of i a ha), fun i j a h1 h2 => S.injF i j a (own_of i a h1) (own_of j a h2), S.pin, S.tabs⟩
  rcases h i with q | ⟨d, q, hv⟩ | q
  · rw [q]; exact S.slot i
  · rw [q]; exact hv
  · rw [q]; trivial
/-- a name's slot is forgotten: its objects are no slot's -/
theorem SR.forget (S : SR K T B M F H ρ σ) (i : Nat) : SR K T B M F H (ρ.set i .no) σ ∧ ∀ a ∈ foot H (σ[i]?) (ρ.at i), ∀ j, a ∉ foot H (σ[j]?) (Env.at (ρ.set i .no) j) := by
  refine ⟨S.slots (by simp) fun j => ?_, fun a ha j hj => ?_⟩
  · by_cases hj : i = j
    · subst hj
      by_cases hi : i < ρ.length
      · exact .inr (.inr (Env.at_set_same hi))
      · rw [List.set_eq_of_length_le (by omega)]; exact .inl rfl
    · exact .inl (Env.at_set_ne hj)
  · by_cases hij : i = j
    · subst hij
      by_cases hi : i < ρ.length
      · rw [Env.at_set_same hi, foot_no] at hj; simp at hj
      · have : ρ.at i = .no := by
          unfold Env.at
          rw [List.getElem?_eq_none (by omega)]
          rfl
        rw [this, foot_no] at ha; simp at ha
    · rw [Env.at_set_ne hij] at hj
      exact hij (S.injF i j a ha hj)
/-- a name's own object is settled -/
theorem SR.calmAt (S : SR K T B M F H ρ σ) (h : ρ.at i = .own d) : ∃ F' v, Same F F' ∧ SR K T B M F' H (ρ.set i (.fz d)) σ ∧ σ[i]? = some (some v) ∧ Rep K T F' v d ∧ ∀ a ∈ foot H (σ[i]?) (ρ.at i), ∃ u, F' a = some u := by
  have hs := S.slot i
  rw [h] at hs
  obtain ⟨p, o, e, hF, hH, ro, _⟩ := hs
  have su : Same F (upd F p o) := same_upd hF
  have hi : i < ρ.length := Env.at_lt (by rw [h]; exact fun z => nomatch z)
  obtain ⟨S1, fr⟩ := S.forget i
  have hp : p ∈ foot H (σ[i]?) (ρ.at i) := by rw [h, e, foot_own]; exact List.mem_singleton.mpr rfl
  have S2 : SR K T B M (upd F p o) H (ρ.set i .no) σ := S1.settle hF hH (S.newown i d p h e) (fr p hp) (repO_tbl ro)
  have rr : Rep K T (upd F p o) (.ref p) d := .ref upd_same (ro.mono su)
  refine ⟨upd F p o, .ref p, su, ?_, e, rr, fun a ha => by rw [h, e, foot_own] at ha; rw [List.mem_singleton.mp ha]; exact ⟨_, upd_same⟩⟩
  have e3 : (ρ.set i .no).set i (.fz d) = ρ.set i (.fz d) := by simp
  have S3 : SR K T B M (upd F p o) H ((ρ.set i .no).set i (.fz d)) σ := S2.slots (by simp) fun j => by
    by_cases hj : i = j
    · subst hj; exact .inr (.inl ⟨d, Env.at_set_same (by simpa using hi), _, e, rr⟩)
    · exact .inl (Env.at_set_ne hj)
  rw [e3] at S3
  exact S3
theorem SR.calmAtT (S : SR K T B M F H ρ σ) (h : ρ.at i = .ownT d) : ∃ F' v, Same F F' ∧ SR K T B M F' H (ρ.set i (.fz d.calm)) σ ∧ σ[i]? = some (some v) ∧ Rep K T F' v d.calm ∧ ∀ a ∈ foot H (σ[i]?) (ρ.at i), ∃ u, F' a = some u := by
  have hs := S.slot i
  rw [h] at hs
  obtain ⟨p, o, e, hF, hH, ro, nd, _⟩ := hs
  have hi : i < ρ.length := Env.at_lt (by rw [h]; exact fun z => nomatch z)
  obtain ⟨S1, fr⟩ := S.forget i
  have fe : foot H (σ[i]?) (ρ.at i) = p :: footO o d := by rw [h, e, foot_ownT hH]
  obtain ⟨F', su, S2, rr, in', _⟩ := S1.settleT hF hH ro nd fun a ha => ⟨S.newO (fe ▸ ha), fr a (fe ▸ ha)⟩
  refine ⟨F', .ref p, su, ?_, e, rr, fun a ha => in' a (fe ▸ ha)⟩
  have e3 : (ρ.set i .no).set i (.fz d.calm) = ρ.set i (.fz d.calm) := by simp
  have S3 : SR K T B M F' H ((ρ.set i .no).set i (.fz d.calm)) σ := S2.slots (by simp) fun j => by
    by_cases hj : i = j
    · subst hj; exact .inr (.inl ⟨d.calm, Env.at_set_same (by simpa using hi), _, e, rr⟩)
    · exact .inl (Env.at_set_ne hj)
  rw [e3] at S3
  exact S3
end
end DL

set_option Elab.async false
set_option linter.all false
set_option autoImplicit false
set_option maxRecDepth 100000
/-! DLX2: readings by data; expressions. -/
namespace DL
open PySem PySem.Spec PyProof.Rows L2
/-- an exception as it lies -/
def ExR (K : PySem.W.Frag) (T : Tb) (F : Hp) (cls : Value) (d : Option Addr) (x : Exc) : Prop :=
  ∃ ei da v, T.ex x.cls = some ei ∧ cls = .ref ei.addr ∧ d = some da ∧ F da = some (.xd [(ei.field, v)]) ∧ Rep K T F v x.val
section
variable (K : PySem.W.Frag) (T : Tb) (B : Bs) (M : List Nat) (W : EK)
def lE (f : DE) : TE := fun σ H Q => ∃ F ρ Qd, SR K T B M F H ρ σ ∧ f ρ Qd W ∧ ∀ F' H' ρ' v r, Same F F' → SR K T B M F' H' ρ' σ → RetV K T B F' H' ρ' σ v r → Qd r ρ' → Q v H'
def lT (f : DT) : TT := fun σ H Q => ∃ F ρ Qd, SR K T B M F H ρ σ ∧ f ρ Qd W ∧ ∀ F' H' ρ' b, Same F F' → SR K T B M F' H' ρ' σ → Qd b ρ' → Q b H'
def lA (fs : List DE) : TA := fun σ H Q => ∃ F ρ Qd, SR K T B M F H ρ σ ∧ dArgs fs ρ Qd W ∧ ∀ F' H' ρ' vs ds, Same F F' → SR K T B M F' H' ρ' σ → RepL K T F' vs ds → Qd ds ρ' → Q vs H'
def lW : WX := fun cls d σ H => ∃ F ρ x, SR K T B M F H ρ σ ∧ ExR K T F cls d x ∧ W x ρ
/-- what a walked thing yields -/
def ItOk (K : PySem.W.Frag) (T : Tb) (F : Hp) (J : It) (xs : List D) : Prop :=
  ∀ i F1 H, Same F F1 → SmW F1 H → (i < xs.length → J.go i H ∧ ∀ x H', J.yld i H x H' → ∃ r, xs[i]? = some r.d ∧ NewR K T F1 H x H' r) ∧ (xs.length ≤ i → J.stop i H)
def lI (f : DI) : TI := fun σ H R => ∃ F ρ Qd, SR K T B M F H ρ σ ∧ f ρ Qd W ∧ ∀ F' H' ρ' xs J, Same F F' → SR K T B M F' H' ρ' σ → ItOk K T F' J xs → Qd xs ρ' → R J H'
end
section
variable (X : Cx) (T : Tb) (B : Bs) (M : List Nat) (W : EK)
abbrev PD (e : Expr) (f : DE) : Prop := PE X e (lE X.K T B M W f)
abbrev PDT (e : Expr) (f : DT) : Prop := PT X e (lT X.K T B M W f)
abbrev PDW (e : Expr) (f : DT) : Prop := PW X e (lT X.K T B M W f)
abbrev PDA (es : List Expr) (fs : List DE) : Prop := PA X es (lA X.K T B M W fs)
abbrev PDI (tg e : Expr) (f : DI) : Prop := PI X tg e (lI X.K T B M W f)
end
theorem pe_imp {X : Cx} {e : Expr} {t t' : TE} (h : PE X e t) (k : ∀ σ H Q, t' σ H Q → t σ H Q) : PE X e t' := ⟨fun pins s σ H Q I q => h.run pins s σ H Q I (k σ H Q q)⟩
theorem pt_imp {X : Cx} {e : Expr} {t t' : TT} (h : PT X e t) (k : ∀ σ H Q, t' σ H Q → t σ H Q) : PT X e t' := ⟨fun pins s σ H Q I q => h.run pins s σ H Q I (k σ H Q q)⟩
theorem pw_imp {X : Cx} {e : Expr} {t t' : TT} (h : PW X e t) (k : ∀ σ H Q, t' σ H Q → t σ H Q) : PW X e t' := ⟨fun w pins s σ H Q I q => h.run w pins s σ H Q I (k σ H Q q)⟩
theorem pa_imp {X : Cx} {es : List Expr} {t t' : TA} (h : PA X es t) (k : ∀ σ H Q, t' σ H Q → t σ H Q) : PA X es t' := ⟨fun pos pins s σ H Q I q => h.run pos pins s σ H Q I (k σ H Q q)⟩
theorem pi_imp {X : Cx} {tg e : Expr} {t t' : TI} (h : PI X tg e t) (k : ∀ σ H Q, t' σ H Q → t σ H Q) : PI X tg e t' := ⟨fun pins s σ H Q I q => h.run pins s σ H Q I (k σ H Q q)⟩
section
variable {X : Cx} {T : Tb} {B : Bs} {M : List Nat} {W : EK} {F H : Hp} {ρ : Env} {σ : L2.St}
/-- a part is read, its value settled -/
theorem lE_run {f : DE} {Qd : R → Env → Prop} {Q : VK} (S : SR X.K T B M F H ρ σ) (h : f ρ Qd W) (k : ∀ F' H' ρ' v r, Same F F' → SR X.K T B M F' H' ρ' σ → Rep X.K T F' v r.d → Qd r ρ' → Q v H') : lE X.K T B M W f σ H Q :=
  ⟨F, ρ, Qd, S, h, fun F' H' ρ' v r e S' R q => by
    obtain ⟨F2, e2, S2, R2⟩ := S'.fix R
    exact k F2 H' ρ' v r (e.trans e2) S2 R2 q⟩
theorem lT_run {f : DT} {Qd : Bool → Env → Prop} {Q : Bool → Hp → Prop} (S : SR X.K T B M F H ρ σ) (h : f ρ Qd W) (k : ∀ F' H' ρ' b, Same F F' → SR X.K T B M F' H' ρ' σ → Qd b ρ' → Q b H') : lT X.K T B M W f σ H Q := ⟨F, ρ, Qd, S, h, k⟩
theorem lA_run {fs : List DE} {Qd : List D → Env → Prop} {Q : List V → Hp → Prop} (S : SR X.K T B M F H ρ σ) (h : dArgs fs ρ Qd W) (k : ∀ F' H' ρ' vs ds, Same F F' → SR X.K T B M F' H' ρ' σ → RepL X.K T F' vs ds → Qd ds ρ' → Q vs H') : lA X.K T B M W fs σ H Q := ⟨F, ρ, Qd, S, h, k⟩
/-- the end of an operation -/
theorem lE_end {F0 : Hp} {Qd : R → Env → Prop} {Q : VK} {v : V} {H' : Hp} {r : R} (k : ∀ F' H' ρ' v r, Same F0 F' → SR X.K T B M F' H' ρ' σ → RetV X.K T B F' H' ρ' σ v r → Qd r ρ' → Q v H') (e : Same F0 F) (S : SR X.K T B M F H ρ σ) (n : NewR X.K T F H v H' r) (q : Qd r ρ) : Q v H' :=
  let ⟨S', R⟩ := S.new n
  k F H' ρ v r e S' R q
theorem NewR.fz {K : PySem.W.Frag} {v : V} {d : D} (h : Rep K T F v d) : NewR K T F H v H (.fz d) := .inl ⟨d, rfl, rfl, h⟩
theorem NewR.fr {K : PySem.W.Frag} {p : Addr} {o : HO} {d : D} (hp : H p = none) (h : RepO K T F o d) : NewR K T F H (.ref p) (upd H p o) (.fr d) := .inr ⟨p, o, d, rfl, rfl, hp, rfl, h⟩

/-! ### constants and names -/
theorem pd_const {e : Expr} {v : V} {d : D} (he : PE X e (tC v)) (r : ∀ F, Rep X.K T F v d) : PD X T B M W e (dC d) :=
  pe_imp he fun σ H Q ⟨F, ρ, Qd, S, h, k⟩ => k F H ρ v (.fz d) (Same.refl _) S (r F) h
theorem pd_int {i : Int} {j pos} : PD X T B M W (.Constant (.int i) j pos) (dC (.int i)) := pd_const pe_int fun _ => .int i
theorem pd_bl {b : Bool} {j pos} : PD X T B M W (.Constant (.bool b) j pos) (dC (.bl b)) := pd_const pe_bl fun _ => .bl b
theorem pd_non {j pos} : PD X T B M W (.Constant .none j pos) (dC .non) := pd_const pe_non fun _ => .non
def okTxB (l : Tx) : Bool := l.all (· < 0x110000) && decide (l.length ≤ 1000000)
theorem okTx_of {l : Tx} (h : okTxB l = true) : okTx l := by
  unfold okTxB at h
  rw [Bool.and_eq_true, List.all_eq_true] at h
  refine ⟨fun c hc => of_decide_eq_true (h.1 c hc), Nat.le_trans (of_decide_eq_true h.2) (by rw [sizeLine_eq]; decide)⟩
theorem pd_str {x : Str} {l : Tx} {j pos} (e : x = tx l) (h : okTxB l = true) : PD X T B M W (.Constant (.str x) j pos) (dC (.str l)) := by
  subst e
  exact pd_const pe_str fun _ => .str (okTx_of h)
theorem zaC {i : Nat} {x : Str} {pos : Pos} (hN : X.N[i]? = some x) (hv : Vis X.env.scope x) (hd : (x == ("__debug__" : Str)) = false := by decide) (hcd : (x == ("__classdict__" : Str)) = false := by decide) : PD X T B M W (.Name x pos) (dVar i) := by
  refine pe_imp (pe_var hN hv hd hcd) fun σ H Q ⟨F, ρ, Qd, S, h, k⟩ => ?_
  unfold dVar at h
  have hs := S.slot i
  cases e : ρ.at i with
  | no => rw [e] at h; exact h.elim
  | fz d =>
    rw [e] at h hs
    obtain ⟨v, e1, r⟩ := hs
    exact ⟨v, e1, k F H ρ v (.fz d) (Same.refl _) S r h⟩
  | own d =>
    rw [e] at h
    obtain ⟨F', v, su, S', e1, r, _⟩ := S.calmAt e
    exact ⟨v, e1, k F' H _ v (.fz d) su S' r h⟩
  | ownT d =>
    rw [e] at h
    obtain ⟨F', v, su, S', e1, r, _⟩ := S.calmAtT e
    exact ⟨v, e1, k F' H _ v (.fz d.calm) su S' r h⟩

/-! ### operators -/
/-- the rule r of an operator does what op says of data -/
def OpOk (K : PySem.W.Frag) (T : Tb) (op : D → D → (R → Prop) → Prop) (r : R2) : Prop :=
  ∀ F H x y dx dy k Q, SmW F H → Rep K T F x dx → Rep K T F y dy → op dx dy k → (∀ v H' t, NewR K T F H v H' t → k t → Q v H') → r x y H Q
def UnOk (K : PySem.W.Frag) (T : Tb) (op : D → (R → Prop) → Prop) (r : V → Hp → VK → Prop) : Prop :=
  ∀ F H x dx k Q, SmW F H → Rep K T F x dx → op dx k → (∀ v H' t, NewR K T F H v H' t → k t → Q v H') → r x H Q
theorem tOp_of {op : D → D → (R → Prop) → Prop} {r : R2} {f g : DE} (ho : OpOk X.K T op r) {H : Hp} {Q : VK} (h : lE X.K T B M W (dOp op f g) σ H Q) : tOp r (lE X.K T B M W f) (lE X.K T B M W g) σ H Q := by
  obtain ⟨F, ρ, Qd, S, h, k⟩ := h
  refine lE_run S h fun F1 H1 ρ1 v1 r1 e1 S1 R1 h1 => lE_run S1 h1 fun F2 H2 ρ2 v2 r2 e2 S2 R2 h2 => ?_
  exact ho F2 H2 v1 v2 _ _ _ _ S2.sub.toSmW (R1.mono e2) R2 h2 fun v H' t n q => lE_end k (e1.trans e2) S2 n q
variable {a b c e : Expr} {f g h : DE} {pos : Pos}
theorem pd_op {o : Operator} {op : D → D → (R → Prop) → Prop} {r : R2} (hr : OpR X (binaryOp o) r) (ho : OpOk X.K T op r) (ha : PD X T B M W a f) (hb : PD X T B M W b g) : PD X T B M W (.BinOp a o b pos) (dOp op f g) :=
  pe_imp (pe_op hr ha hb) fun σ H Q z => tOp_of ho z
theorem pd_cmp {o : CmpOp} {op : D → D → (R → Prop) → Prop} {r : R2} (hr : OpR X (compareOp o) r) (ho : OpOk X.K T op r) (ha : PD X T B M W a f) (hb : PD X T B M W b g) (hm : behindInMarks o b = false) : PD X T B M W (.Compare a [o] [b] pos) (dOp op f g) :=
  pe_imp (pe_cmpR hr ha hb hm) fun σ H Q z => tOp_of ho z
theorem pd_un {o : UnaryOp} {op : D → (R → Prop) → Prop} {r : V → Hp → VK → Prop} (hr : UnR X (unaryOp o) r) (ho : UnOk X.K T op r) (ha : PD X T B M W a f) : PD X T B M W (.UnaryOp o a pos) (dUn op f) := by
  refine pe_imp (pe_un hr ha) fun σ H Q ⟨F, ρ, Qd, S, h, k⟩ => ?_
  refine lE_run S h fun F1 H1 ρ1 v1 r1 e1 S1 R1 h1 => ?_
  exact ho F1 H1 v1 _ _ _ S1.sub.toSmW R1 h1 fun v H' t n q => lE_end k e1 S1 n q
/-- ints -/
theorem OpOk.ints {op : D → D → (R → Prop) → Prop} {C : Int → Int → Prop} {gv : Int → Int → V} (h : ∀ dx dy k, op dx dy k → ∃ i j d, dx = .int i ∧ dy = .int j ∧ C i j ∧ k (.fz d) ∧ ∀ F, Rep X.K T F (gv i j) d) : OpOk X.K T op (rI C gv) := by
  intro F H x y dx dy k Q s rx ry ho kk
  obtain ⟨i, j, d, rfl, rfl, hc, hk, hd⟩ := h dx dy k ho
  exact ⟨i, j, rx.int_inv, ry.int_inv, hc, kk _ _ _ (.fz (hd F)) hk⟩
theorem OpOk.ints0 {op : D → D → (R → Prop) → Prop} {gv : Int → Int → V} (h : ∀ dx dy k, op dx dy k → ∃ i j d, dx = .int i ∧ dy = .int j ∧ k (.fz d) ∧ ∀ F, Rep X.K T F (gv i j) d) : OpOk X.K T op (rI0 gv) := by
  intro F H x y dx dy k Q s rx ry ho kk
  obtain ⟨i, j, d, rfl, rfl, hk, hd⟩ := h dx dy k ho
  exact ⟨i, j, rx.int_inv, ry.int_inv, kk _ _ _ (.fz (hd F)) hk⟩
theorem ok_fdiv : OpOk X.K T fdivD (rI CDivW fun i j => .int (i / j)) := OpOk.ints fun dx dy k h => by
  cases dx <;> cases dy <;> first | exact h.elim | exact ⟨_, _, _, rfl, rfl, wide_div (b := 70) h.1.1 (by have h0 := h.1.1; have h1 := h.1.2; omega) (by decide) (by decide), h.2, fun _ => .int _⟩
theorem ok_mod : OpOk X.K T modD (rI (fun _ j => 0 < j) fun i j => .int (i % j)) := OpOk.ints fun dx dy k h => by
  cases dx <;> cases dy <;> first | exact h.elim | exact ⟨_, _, _, rfl, rfl, h.1, h.2, fun _ => .int _⟩
theorem ok_pow : OpOk X.K T powD (rI CPow fun i j => .int (i ^ j.toNat)) := OpOk.ints fun dx dy k h => by
  cases dx <;> cases dy <;> first | exact h.elim | exact ⟨_, _, _, rfl, rfl, h.1, h.2, fun _ => .int _⟩
theorem ok_gt : OpOk X.K T gtD (rI0 fun i j => .bl (decide (j < i))) := OpOk.ints0 fun dx dy k h => by
  cases dx <;> cases dy <;> first | exact h.elim | exact ⟨_, _, _, rfl, rfl, h, fun _ => .bl _⟩
theorem ok_ge : OpOk X.K T geD (rI0 fun i j => .bl (decide (j ≤ i))) := OpOk.ints0 fun dx dy k h => by
  cases dx <;> cases dy <;> first | exact h.elim | exact ⟨_, _, _, rfl, rfl, h, fun _ => .bl _⟩
theorem ok_neg : UnOk X.K T negD (rU fun i => .int (-i)) := by
  intro F H x dx k Q s rx ho kk
  cases dx with
  | int i => exact ⟨i, rx.int_inv, kk _ _ _ (.fz (.int _)) ho⟩
  | _ => exact ho.elim
theorem maxTx_eq : maxTx = sizeLine := by rw [sizeLine_eq]
theorem okTx.append {a b : Tx} (ha : okTx a) (hb : okTx b) (h : a.length + b.length ≤ maxTx) : okTx (a ++ b) :=
  ⟨fun c hc => (List.mem_append.mp hc).elim (ha.1 c) (hb.1 c), by rw [List.length_append, ← maxTx_eq]; exact h⟩
/-- a + b: ints, texts, lists -/
def rAddA (X : Cx) : R2 := fun x y H Q => (rI0 (fun i j => .int (i + j))) x y H Q ∨ (∃ i j, x = .str i ∧ y = .str j ∧ i.length + j.length ≤ sizeLine ∧ Q (.str (i ++ j)) H) ∨ rCat x y H Q
theorem op_addA : OpR X (binaryOp .Add) (rAddA X) := op_add.or (op_add_str.or op_cat)
theorem ok_add : OpOk X.K T addD (rAddA X) := by
  intro F H x y dx dy k Q s rx ry ho kk
  cases dx with
  | int i =>
    cases dy with
    | int j => exact .inl ⟨i, j, rx.int_inv, ry.int_inv, kk _ _ _ (.fz (.int _)) ho⟩
    | _ => exact ho.elim
  | str a =>
    cases dy with
    | str b =>
      obtain ⟨ex, ha⟩ := rx.str_inv
      obtain ⟨ey, hb⟩ := ry.str_inv
      have hl : (tx a).length + (tx b).length ≤ sizeLine := by rw [tx_len, tx_len, ← maxTx_eq]; exact ho.1
      refine .inr (.inl ⟨_, _, ex, ey, hl, ?_⟩)
      rw [tx_app]
      exact kk _ _ _ (.fz (.str (ha.append hb ho.1))) ho.2
    | _ => exact ho.elim
  | lst a =>
    cases dy with
    | lst b =>
      obtain ⟨p, vs, rfl, hp, ra⟩ := rx.lst_inv
      obtain ⟨q, ws, rfl, hq, rb⟩ := ry.lst_inv
      refine .inr (.inr ⟨p, q, vs, ws, rfl, rfl, s _ _ hp, s _ _ hq, by rw [ra.length, rb.length, ← maxTx_eq]; exact ho.1, fun z hz => ?_⟩)
      exact kk _ _ _ (.fr hz (.lst (ra.append rb))) ho.2
    | _ => exact ho.elim
  | _ => exact ho.elim
theorem CMul.of {i j : Int} (h : (-(2 ^ 64) < i ∧ i < 2 ^ 64) ∨ (-(2 ^ 64) < j ∧ j < 2 ^ 64)) : CMul i j := h
/-- what a text repeated is, comes later -/
def mulI : D → D → (R → Prop) → Prop
  | .int i, .int j, k => ((-(2 ^ 64) < i ∧ i < 2 ^ 64) ∨ (-(2 ^ 64) < j ∧ j < 2 ^ 64)) ∧ k (.fz (.int (i * j)))
  | _, _, _ => False
end
end DL

set_option Elab.async false
set_option linter.all false
set_option autoImplicit false
set_option maxRecDepth 100000
/-! DLX3: comparisons, subscripts, arguments, tests. -/
namespace DL
open PySem PySem.Spec PyProof.Rows L2
section
variable {X : Cx} {T : Tb} {B : Bs} {M : List Nat} {W : EK} {F H : Hp} {ρ : Env} {σ : L2.St}
variable {a b c e : Expr} {f g h : DE} {pos : Pos}
/-! ### equality -/
mutual
def D.toP : D → PyData
  | .non => .none
  | .bl b => .bool b
  | .int i => .int i
  | .str x => .str (tx x)
  | .lst xs => .list (D.toPL xs)
  | .tup xs => .tuple (D.toPL xs)
  | .dct _ => .none
  | .obj _ _ => .none
  | .frl _ => .none
  | .cls _ => .none
  | .prt _ => .none
  | .dcT _ => .none
  | .exc _ _ => .none
def D.toPL : List D → List PyData
  | [] => []
  | x :: xs => D.toP x :: D.toPL xs
end
theorem tx_beq (x y : Tx) : (tx x == tx y) = (x == y) := by
  by_cases h : x = y
  · subst h; simp
  · have : tx x ≠ tx y := fun z => h (tx_inj z)
    rw [beq_eq_false_iff_ne.mpr h, beq_eq_false_iff_ne.mpr this]
mutual
theorem eqv_toP : ∀ (n m : Nat) (x y : D), D.eqOk n x = true → D.eqOk m y = true → PyData.eqv x.toP y.toP = D.eqv x y
  | n, m, .non, y, _, h2 => by cases y <;> first | rfl | (cases m <;> cases h2)
  | n, m, .bl a, y, _, h2 => by cases y <;> first | rfl | (cases m <;> cases h2)
  | n, m, .int a, y, _, h2 => by cases y <;> first | rfl | (cases m <;> cases h2)
  | n, m, .str a, y, _, h2 => by
    cases y with
    | str b => exact tx_beq a b
    | _ => first | rfl | (cases m <;> cases h2)
  | 0, _, .lst xs, y, h1, _ => by cases h1
  | n + 1, m, .lst xs, y, h1, h2 => by
    cases y with
    | lst ys =>
      cases m with
      | zero => cases h2
      | succ m => exact eqvL_toP n m xs ys h1 h2
    | _ => first | rfl | (cases m <;> cases h2)
  | 0, _, .tup xs, y, h1, _ => by cases h1
  | n + 1, m, .tup xs, y, h1, h2 => by
    cases y with
    | tup ys =>
      cases m with
      | zero => cases h2
      | succ m => exact eqvL_toP n m xs ys h1 h2
    | _ => first | rfl | (cases m <;> cases h2)
  | n, _, .dct _, _, h1, _ => by cases n <;> cases h1
  | n, _, .dcT _, _, h1, _ => by cases n <;> cases h1
  | n, _, .exc _ _, _, h1, _ => by cases n <;> cases h1
  | n, _, .obj _ _, _, h1, _ => by cases n <;> cases h1
  | n, _, .frl _, _, h1, _ => by cases n <;> cases h1
theorem eqvL_toP : ∀ (n m : Nat) (xs ys : List D), D.eqOkL n xs = true → D.eqOkL m ys = true → PyData.eqvAll (D.toPL xs) (D.toPL ys) = D.eqvL xs ys
  | _, _, [], [], _, _ => rfl
  | _, _, [], _ :: _, _, _ => rfl
  | _, _, _ :: _, [], _, _ => rfl
  | n, m, x :: xs, y :: ys, h1, h2 => by
    unfold D.eqOkL at h1 h2
    rw [Bool.and_eq_true] at h1 h2
    show (PyData.eqv x.toP y.toP && PyData.eqvAll (D.toPL xs) (D.toPL ys)) = (D.eqv x y && D.eqvL xs ys)
    rw [eqv_toP n m x y h1.1 h2.1, eqvL_toP n m xs ys h1.2 h2.2]
end
mutual
theorem Rep.dp (s : SmW F H) : ∀ (n : Nat) (d : D) (v : V), D.eqOk n d = true → Rep X.K T F v d → Dp X.K H v d.toP ∧ d.toP.canLay0 = true ∧ d.toP.depth ≤ n
  | n, .non, v, _, r => by rw [r.non_inv]; exact ⟨.non, rfl, Nat.zero_le _⟩
  | n, .bl b, v, _, r => by rw [r.bl_inv]; exact ⟨.bl b, rfl, Nat.zero_le _⟩
  | n, .int b, v, _, r => by rw [r.int_inv]; exact ⟨.int b, rfl, Nat.zero_le _⟩
  | n, .str b, v, _, r => by
    obtain ⟨rfl, z⟩ := r.str_inv
    refine ⟨.str _, ?_, Nat.zero_le _⟩
    show PyData.strOk (tx b) = true
    unfold PyData.strOk tx
    simp only [List.all_toArray, List.all_eq_true, decide_eq_true_eq]
    exact z.1
  | 0, .lst _, _, h, _ => by cases h
  | n + 1, .lst xs, v, h, r => by
    obtain ⟨p, vs, rfl, hp, ra⟩ := r.lst_inv
    obtain ⟨h1, h2, h3⟩ := RepL.dp s n xs vs h ra
    exact ⟨.lst (.of (s _ _ hp)) h1, h2, Nat.succ_le_succ h3⟩
  | 0, .tup _, _, h, _ => by cases h
  | n + 1, .tup xs, v, h, r => by
    obtain ⟨p, vs, rfl, hp, ra⟩ := r.tup_inv
    obtain ⟨h1, h2, h3⟩ := RepL.dp s n xs vs h ra
    exact ⟨.tup (.of (s _ _ hp)) h1, h2, Nat.succ_le_succ h3⟩
  | n, .dct _, _, h, _ => by cases n <;> cases h
  | n, .dcT _, _, h, _ => by cases n <;> cases h
  | n, .exc _ _, _, h, _ => by cases n <;> cases h
  | n, .obj _ _, _, h, _ => by cases n <;> cases h
  | n, .frl _, _, h, _ => by cases n <;> cases h
theorem RepL.dp (s : SmW F H) : ∀ (n : Nat) (xs : List D) (vs : List V), D.eqOkL n xs = true → RepL X.K T F vs xs → DpAll X.K H vs (D.toPL xs) ∧ PyData.canLayAll0 (D.toPL xs) = true ∧ PyData.depthAll (D.toPL xs) ≤ n
  | n, [], _, _, .nil => ⟨.nil, rfl, Nat.zero_le _⟩
  | n, x :: xs, _, h, .cons r rs => by
    unfold D.eqOkL at h
    rw [Bool.and_eq_true] at h
    obtain ⟨a1, a2, a3⟩ := Rep.dp s n x _ h.1 r
    obtain ⟨b1, b2, b3⟩ := RepL.dp s n xs _ h.2 rs
    refine ⟨.cons a1 b1, ?_, ?_⟩
    · show (x.toP.canLay0 && PyData.canLayAll0 (D.toPL xs)) = true
      rw [a2, b2]; rfl
    · show max x.toP.depth (PyData.depthAll (D.toPL xs)) ≤ n
      exact Nat.max_le.mpr ⟨a3, b3⟩
end
theorem Rep.shaped (s : SmW F H) {d : D} {v : V} (h : d.eqOk 60 = true) (r : Rep X.K T F v d) : Dp X.K H v d.toP ∧ SeqAt.shaped d.toP = true := by
  obtain ⟨h1, h2, h3⟩ := Rep.dp s 60 d v h r
  refine ⟨h1, ?_⟩
  unfold SeqAt.shaped
  rw [h2, decide_eq_true (by omega)]
  rfl
def rEqA (X : Cx) : R2 := fun x y H Q => rEq x y H Q ∨ rEqD X.K x y H Q
def rNeA (X : Cx) : R2 := fun x y H Q => rNe x y H Q ∨ rNeD X.K x y H Q
theorem op_eqA (hu : X.A.units + 64 < cLine) : OpR X (compareOp .Eq) (rEqA X) := op_eq.or (op_eqD hu)
theorem op_neA (hu : X.A.units + 64 < cLine) : OpR X (compareOp .NotEq) (rNeA X) := op_ne.or (op_neD hu)
theorem scal_of {x y : D} {v w : V} (h : scalD x y = true) (rx : Rep X.K T F v x) (ry : Rep X.K T F w y) : scal v w = true ∧ decide (v = w) = D.eqv x y := by
  cases x <;> cases y <;> first
    | (cases h; done)
    | (rw [rx.non_inv, ry.non_inv]; exact ⟨rfl, rfl⟩)
    | (rw [rx.non_inv, ry.int_inv]; exact ⟨rfl, rfl⟩)
    | (rw [rx.int_inv, ry.non_inv]; exact ⟨rfl, rfl⟩)
    | (rw [rx.non_inv, ry.bl_inv]; exact ⟨rfl, rfl⟩)
    | (rw [rx.bl_inv, ry.non_inv]; exact ⟨rfl, rfl⟩)
    | (rw [rx.non_inv, ry.str_inv.1]; exact ⟨rfl, rfl⟩)
    | (rw [rx.str_inv.1, ry.non_inv]; exact ⟨rfl, rfl⟩)
    | (rw [rx.int_inv, ry.int_inv]; exact ⟨rfl, dec_int⟩)
    | (rw [rx.bl_inv, ry.bl_inv]; exact ⟨rfl, dec_bl⟩)
    | (rw [rx.str_inv.1, ry.str_inv.1]; exact ⟨rfl, dec_str.trans (tx_beq _ _)⟩)
    | (rw [rx.int_inv, ry.str_inv.1]; exact ⟨rfl, rfl⟩)
    | (rw [rx.str_inv.1, ry.int_inv]; exact ⟨rfl, rfl⟩)
    | (rw [rx.bl_inv, ry.str_inv.1]; exact ⟨rfl, rfl⟩)
    | (rw [rx.str_inv.1, ry.bl_inv]; exact ⟨rfl, rfl⟩)
theorem ok_eq : OpOk X.K T eqD (rEqA X) := by
  intro F H x y dx dy k Q s rx ry ho kk
  obtain ⟨hc, hk⟩ := ho
  rcases hc with hc | ⟨h1, h2⟩
  · obtain ⟨e1, e2⟩ := scal_of hc rx ry
    exact .inl ⟨e1, by rw [e2]; exact kk _ _ _ (.fz (.bl _)) hk⟩
  · obtain ⟨d1, s1⟩ := rx.shaped s h1
    obtain ⟨d2, s2⟩ := ry.shaped s h2
    exact .inr ⟨_, _, d1, d2, s1, s2, by rw [eqv_toP 60 60 _ _ h1 h2]; exact kk _ _ _ (.fz (.bl _)) hk⟩
theorem ok_ne : OpOk X.K T neD (rNeA X) := by
  intro F H x y dx dy k Q s rx ry ho kk
  obtain ⟨hc, hk⟩ := ho
  rcases hc with hc | ⟨h1, h2⟩
  · obtain ⟨e1, e2⟩ := scal_of hc rx ry
    exact .inl ⟨e1, by rw [e2]; exact kk _ _ _ (.fz (.bl _)) hk⟩
  · obtain ⟨d1, s1⟩ := rx.shaped s h1
    obtain ⟨d2, s2⟩ := ry.shaped s h2
    exact .inr ⟨_, _, d1, d2, s1, s2, by rw [eqv_toP 60 60 _ _ h1 h2]; exact kk _ _ _ (.fz (.bl _)) hk⟩
/-! ### is None -/
def rIsN : R2 := fun x y H Q => y = .non ∧ Q (.bl (decide (x = .non))) H
def rIsnN : R2 := fun x y H Q => y = .non ∧ Q (.bl (!decide (x = .non))) H
/-! ### in -/
theorem flat_of {K : PySem.W.Frag} {d : D} {v : V} (h : d.flat = true) (r : Rep K T F v d) : flatV v = true := by
  cases r <;> first | rfl | cases h | (rename_i o r; cases r <;> cases h)
theorem eqV_of {K : PySem.W.Frag} {x y : D} {v w : V} (hx : x.flat = true) (hy : y.flat = true) (rx : Rep K T F v x) (ry : Rep K T F w y) : eqV v w = D.eqv x y := by
  cases x <;> cases y <;> first
    | (cases hx; done)
    | (cases hy; done)
    | (rw [rx.non_inv, ry.non_inv]; rfl)
    | (rw [rx.non_inv, ry.int_inv]; rfl)
    | (rw [rx.int_inv, ry.non_inv]; rfl)
    | (rw [rx.non_inv, ry.bl_inv]; rfl)
    | (rw [rx.bl_inv, ry.non_inv]; rfl)
    | (rw [rx.non_inv, ry.str_inv.1]; rfl)
    | (rw [rx.str_inv.1, ry.non_inv]; rfl)
    | (rw [rx.int_inv, ry.int_inv]; first | rfl | simp [eqV, D.eqv])
    | (rw [rx.bl_inv, ry.bl_inv]; first | rfl | simp [eqV, D.eqv])
    | (rw [rx.bl_inv, ry.int_inv]; first | rfl | simp [eqV, D.eqv])
    | (rw [rx.int_inv, ry.bl_inv]; first | rfl | simp [eqV, D.eqv])
    | (rw [rx.str_inv.1, ry.str_inv.1]; simp only [eqV, D.eqv, tx_beq]; done)
    | (rw [rx.int_inv, ry.str_inv.1]; rfl)
    | (rw [rx.str_inv.1, ry.int_inv]; rfl)
    | (rw [rx.bl_inv, ry.str_inv.1]; rfl)
    | (rw [rx.str_inv.1, ry.bl_inv]; rfl)
theorem any_of {K : PySem.W.Frag} {x : D} {v : V} (hx : x.flat = true) (rx : Rep K T F v x) : ∀ {ys : List D} {vs : List V}, ys.all D.flat = true → RepL K T F vs ys → vs.all flatV = true ∧ inV v vs = ys.any fun y => D.eqv y x
  | _, _, _, .nil => ⟨rfl, rfl⟩
  | _ :: _, _ :: _, h, .cons r rs => by
    rw [List.all_cons, Bool.and_eq_true] at h
    obtain ⟨h1, h2⟩ := any_of hx rx h.2 rs
    refine ⟨by rw [List.all_cons, flat_of h.1 r, h1]; rfl, ?_⟩
    show ((_ :: _).any fun y => eqV y v) = _
    rw [List.any_cons, List.any_cons, eqV_of h.1 hx r rx, ← h2]
    rfl
def rInA (X : Cx) (n : Bool) : R2 := fun x y H Q => (∃ (c : Nat) (z : Str), x = .str ⟨#[c]⟩ ∧ y = .str z ∧ Q (.bl (if n then !decide (c ∈ z.cps.toList) else decide (c ∈ z.cps.toList))) H) ∨ rIn X.K n x y H Q
theorem op_inA : OpR X (compareOp .In) (rInA X false) := op_in_sign.or op_in_seq
theorem in_of {n : Bool} {x y : D} {v w : V} {k : Bool → Prop} {Q : VK} (s : SmW F H) (rx : Rep X.K T F v x) (ry : Rep X.K T F w y) (h : inD x y k) (kk : ∀ b, k b → Q (.bl (if n then !b else b)) H) : rInA X n v w H Q := by
  unfold inD at h
  split at h
  · obtain ⟨ex, _⟩ := rx.str_inv
    obtain ⟨ey, _⟩ := ry.str_inv
    refine .inl ⟨_, _, ex, ey, ?_⟩
    have := kk _ h
    rw [tx_list]
    exact this
  · obtain ⟨hx, hy, hk⟩ := h
    obtain ⟨p, vs, rfl, hp, ra⟩ := ry.lst_inv
    obtain ⟨h1, h2⟩ := any_of hx rx hy ra
    exact .inr ⟨p, vs, rfl, .inl (.of (s _ _ hp)), flat_of hx rx, h1, by rw [h2]; exact kk _ hk⟩
  · obtain ⟨hx, hy, hk⟩ := h
    obtain ⟨p, vs, rfl, hp, ra⟩ := ry.tup_inv
    obtain ⟨h1, h2⟩ := any_of hx rx hy ra
    exact .inr ⟨p, vs, rfl, .inr (.of (s _ _ hp)), flat_of hx rx, h1, by rw [h2]; exact kk _ hk⟩
  · exact h.elim
theorem ok_in : OpOk X.K T inDv (rInA X false) := by
  intro F H x y dx dy k Q s rx ry ho kk
  exact in_of s rx ry ho fun b hb => kk _ _ _ (.fz (.bl _)) hb
/-! ### subscripts -/
theorem ixN_eq (n : Nat) (i : Int) : DL.ixN n i = L2.ixN n i := rfl
theorem atI_of {α : Type} {xs : List α} {i : Int} {j : Nat} {v : α} (h1 : DL.ixN xs.length i = some j) (h2 : xs[j]? = some v) : atI xs i = some v := by
  unfold atI
  rw [← ixN_eq, h1]
  exact h2
theorem okTx.len {l : Tx} (h : okTx l) : (tx l).length ≤ sizeLine := by rw [tx_len]; exact h.2
theorem ok_ix : OpOk X.K T ixD (rIx X.K) := by
  intro F H x y dx dy k Q s rx ry ho kk
  unfold ixD at ho
  split at ho
  · obtain ⟨j, d, h1, h2, hk⟩ := ho
    obtain ⟨p, vs, rfl, hp, ra⟩ := rx.lst_inv
    obtain ⟨v, e1, e2⟩ := ra.get h2
    exact .inl ⟨p, vs, _, v, rfl, ry.int_inv, .of (s _ _ hp), atI_of (by rw [ra.length]; exact h1) e1, kk _ _ _ (.fz e2) hk⟩
  · obtain ⟨j, d, h1, h2, hk⟩ := ho
    obtain ⟨p, vs, rfl, hp, ra⟩ := rx.tup_inv
    obtain ⟨v, e1, e2⟩ := ra.get h2
    exact .inr (.inl ⟨p, vs, _, v, rfl, ry.int_inv, .of (s _ _ hp), atI_of (by rw [ra.length]; exact h1) e1, kk _ _ _ (.fz e2) hk⟩)
  · rename_i l i k
    obtain ⟨j, c, h1, h2, hk⟩ := ho
    obtain ⟨ex, z⟩ := rx.str_inv
    refine .inr (.inr ⟨_, _, c, ex, ry.int_inv, z.len, ?_, ?_⟩)
    · rw [tx_list]; exact atI_of h1 h2
    · have hc := z.1 c (List.mem_of_getElem? h2)
      exact kk (.str (tx [c])) _ _ (.fz (.str ⟨fun c' h => by rw [List.mem_singleton] at h; rw [h]; exact hc, by show 1 ≤ sizeLine; rw [sizeLine_eq]; decide⟩)) hk
  · exact ho.elim
theorem pd_ix (ha : PD X T B M W a f) (hb : PD X T B M W b g) (hs : PlainIx b := by exact fun _ _ => rfl) : PD X T B M W (.Subscript a b pos) (dOp ixD f g) :=
  pe_imp (pe_ix ix_seq ha hb hs) fun σ H Q z => tOp_of ok_ix z
theorem sIx_eq (n d : Nat) (o : Option Int) : DL.sIx n d o = HT.sIx n d o := by
  cases o with
  | none => rfl
  | some i => rfl
theorem RepL.cut {vs : List V} {xs : List D} (lo hi : Option Int) (h : RepL X.K T F vs xs) : RepL X.K T F (cutV vs lo hi) (DL.cut xs lo hi) := by
  unfold cutV DL.cut
  rw [sIx_eq, sIx_eq, h.length]
  exact (h.drop _).take _
end
end DL

set_option Elab.async false
set_option linter.all false
set_option autoImplicit false
set_option maxRecDepth 100000
/-! DLX4: slices, arguments, built-in functions, tests, and, or, not. -/
namespace DL
open PySem PySem.Spec PyProof.Rows L2
section
variable {X : Cx} {T : Tb} {B : Bs} {M : List Nat} {W : EK} {F H : Hp} {ρ : Env} {σ : L2.St}
variable {a b c e : Expr} {f g h : DE} {pos : Pos}
/-! ### slices -/
def lO (K : PySem.W.Frag) (T : Tb) (B : Bs) (M : List Nat) (W : EK) (o : Option DE) : TO := fun σ H Q => ∃ F ρ Qd, SR K T B M F H ρ σ ∧ dPart o ρ Qd W ∧ ∀ F' H' ρ' i, Same F F' → SR K T B M F' H' ρ' σ → Qd i ρ' → Q i H'
theorem po_imp {e : Option Expr} {t t' : TO} (h : PO X e t) (k : ∀ σ H Q, t' σ H Q → t σ H Q) : PO X e t' := ⟨fun pins s σ H Q I q => h.run pins s σ H Q I (k σ H Q q)⟩
theorem pdo_none : PO X none (lO X.K T B M W none) := po_imp po_none fun σ H Q ⟨F, ρ, Qd, S, h, k⟩ => k F H ρ none (Same.refl _) S h
theorem pdo_some (he : PD X T B M W e f) : PO X (some e) (lO X.K T B M W (some f)) := po_imp (po_some he) fun σ H Q ⟨F, ρ, Qd, S, h, k⟩ => by
  refine lE_run S h fun F1 H1 ρ1 v1 r1 e1 S1 R1 h1 => ?_
  cases hd : r1.d with
  | int i =>
    rw [hd] at h1 R1
    exact ⟨i, R1.int_inv, k F1 H1 ρ1 (some i) e1 S1 h1⟩
  | _ => rw [hd] at h1; exact h1.elim
def rSlA (X : Cx) : V → Option Int → Option Int → Hp → VK → Prop := fun x lo hi H Q => rSlL X.K x lo hi H Q ∨ rSlS x lo hi H Q
theorem sl_A : SlR X (rSlA X) := sl_list.or sl_str
theorem cutS_tx (l : Tx) (lo hi : Option Int) : cutS (tx l) lo hi = tx (DL.cut l lo hi) := by
  unfold cutS DL.cut
  rw [tx_len, tx_list, sIx_eq, sIx_eq]
  rfl
theorem okTx.cut {l : Tx} (h : okTx l) (lo hi : Option Int) : okTx (DL.cut l lo hi) := by
  unfold DL.cut
  refine ⟨fun c hc => h.1 c (List.mem_of_mem_drop (List.mem_of_mem_take hc)), ?_⟩
  rw [List.length_take, List.length_drop]
  exact Nat.le_trans (Nat.le_trans (Nat.min_le_right _ _) (Nat.sub_le _ _)) h.2
theorem pd_sl {lo hi : Option Expr} {l u : Option DE} {p2 : Pos} (he : PD X T B M W e f) (hl : PO X lo (lO X.K T B M W l)) (hh : PO X hi (lO X.K T B M W u)) : PD X T B M W (.Subscript e (.Slice lo hi none p2) pos) (dSl f l u) := by
  refine pe_imp (pe_slice sl_A he hl hh) fun σ H Q ⟨F, ρ, Qd, S, h, k⟩ => ?_
  refine lE_run S h fun F1 H1 ρ1 v1 r1 e1 S1 R1 h1 => ?_
  refine ⟨F1, ρ1, _, S1, h1, fun F2 H2 ρ2 i e2 S2 h2 => ?_⟩
  refine ⟨F2, ρ2, _, S2, h2, fun F3 H3 ρ3 j e3 S3 h3 => ?_⟩
  have R := R1.mono (e2.trans e3)
  have e := e1.trans (e2.trans e3)
  cases hd : r1.d with
  | lst xs =>
    rw [hd] at h3 R
    obtain ⟨p, vs, rfl, hp, ra⟩ := R.lst_inv
    exact .inl ⟨p, vs, rfl, .of (S3.sub _ _ hp), fun q hq => lE_end k e S3 (.fr hq (.lst (ra.cut i j))) h3⟩
  | frl xs =>
    rw [hd] at h3 R
    obtain ⟨p, vs, rfl, hp, ra⟩ := R.frl_inv
    exact .inl ⟨p, vs, rfl, S3.sub.seq hp, fun q hq => lE_end k e S3 (.fr hq (.lst (ra.cut i j))) h3⟩
  | str x =>
    rw [hd] at h3 R
    obtain ⟨ex, z⟩ := R.str_inv
    refine .inr ⟨_, ex, z.len, ?_⟩
    rw [cutS_tx]
    exact lE_end k e S3 (.fz (.str (z.cut i j))) h3
  | _ => rw [hd] at h3; exact h3.elim
/-! ### arguments, displays -/
theorem zaD : PDA X T B M W [] [] := pa_imp pa_nil fun σ H Q ⟨F, ρ, Qd, S, h, k⟩ => k F H ρ [] [] (Same.refl _) S .nil h
theorem zaA {es : List Expr} {fs : List DE} (he : PD X T B M W e f) (hr : PDA X T B M W es fs) (hs : starEach (e :: es) X.env = (false, eval e X.env) :: starEach es X.env := by rfl) : PDA X T B M W (e :: es) (f :: fs) :=
  pa_imp (pa_cons he hr hs) fun σ H Q ⟨F, ρ, Qd, S, h, k⟩ => by
    refine lE_run S h fun F1 H1 ρ1 v1 r1 e1 S1 R1 h1 => ?_
    refine lA_run S1 h1 fun F2 H2 ρ2 vs ds e2 S2 R2 h2 => ?_
    exact k F2 H2 ρ2 _ _ (e1.trans e2) S2 (.cons (R1.mono e2) R2) h2
theorem pd_lst {es : List Expr} {fs : List DE} (h : PDA X T B M W es fs) : PD X T B M W (.List es pos) (dLst fs) :=
  pe_imp (pe_lst h) fun σ H Q ⟨F, ρ, Qd, S, h, k⟩ => by
    refine lA_run S h fun F1 H1 ρ1 vs ds e1 S1 R1 h1 => ?_
    exact ⟨by rw [R1.length, ← maxTx_eq]; exact h1.1, fun p hp => lE_end k e1 S1 (.fr hp (.lst R1)) h1.2⟩
theorem pd_tup {x1} {es : List Expr} {fs : List DE} (h : PDA X T B M W es fs) : PD X T B M W (.Tuple es x1 pos) (dTup fs) :=
  pe_imp (pe_tup h) fun σ H Q ⟨F, ρ, Qd, S, h, k⟩ => by
    refine lA_run S h fun F1 H1 ρ1 vs ds e1 S1 R1 h1 => ?_
    exact ⟨by rw [R1.length, ← maxTx_eq]; exact h1.1, fun p hp => lE_end k e1 S1 (.fr hp (.tup R1)) h1.2⟩
/-- a built-in's rule does what op says of data -/
def FnR (K : PySem.W.Frag) (T : Tb) (op : List D → (R → Prop) → Prop) (r : List V → Hp → VK → Prop) : Prop :=
  ∀ F H vs ds k Q, SmW F H → RepL K T F vs ds → op ds k → (∀ v H' t, NewR K T F H v H' t → k t → Q v H') → r vs H Q
theorem tCB_of {op : List D → (R → Prop) → Prop} {r : List V → Hp → VK → Prop} {fs : List DE} (ho : FnR X.K T op r) {H : Hp} {Q : VK} (h : lE X.K T B M W (dFn op fs) σ H Q) : tCB r (lA X.K T B M W fs) σ H Q := by
  obtain ⟨F, ρ, Qd, S, h, k⟩ := h
  refine lA_run S h fun F1 H1 ρ1 vs ds e1 S1 R1 h1 => ?_
  exact ho F1 H1 vs ds _ _ S1.sub.toSmW R1 h1 fun v H' t n q => lE_end k e1 S1 n q
variable {es : List Expr} {fs : List DE} {x : Str} {p : Pos} {id : String} {op : List D → (R → Prop) → Prop} {r : List V → Hp → VK → Prop}
theorem pd_callB (ho : FnR X.K T op r) (hc : CallR X (.builtin id) r) (hg : Gl X x) (hm : X.mg x = none) (hv : bootBuiltins x = some (.builtin id)) (ha : PDA X T B M W (e :: es) fs) (hn : x ≠ "__name__" := by decide) (hdb : (x == ("__debug__" : Str)) = false := by decide)
    (he : starEach (e :: es) X.env = (false, eval e X.env) :: starEach es X.env := by rfl) (hpl : (backTo pos (starEach es X.env)).any (·.1) = false := by rfl) : PD X T B M W (.Call (.Name x p) (e :: es) [] pos) (dFn op fs) :=
  pe_imp (pe_callB hc hg hm hv ha hn hdb he hpl) fun σ H Q z => tCB_of ho z
theorem pd_callTy (ho : FnR X.K T op r) (hc : CallR X (.type id) r) (hg : Gl X x) (hm : X.mg x = none) (hv : bootBuiltins x = some (.type id)) (ha : PDA X T B M W (e :: es) fs) (hn : x ≠ "__name__" := by decide) (hdb : (x == ("__debug__" : Str)) = false := by decide)
    (he : starEach (e :: es) X.env = (false, eval e X.env) :: starEach es X.env := by rfl) (hpl : (backTo pos (starEach es X.env)).any (·.1) = false := by rfl) : PD X T B M W (.Call (.Name x p) (e :: es) [] pos) (dFn op fs) :=
  pe_imp (pe_callTy hc hg hm hv ha hn hdb he hpl) fun σ H Q z => tCB_of ho z
/-! ### tests -/
/-- a comparison as a test -/
theorem pdt_cmp {o : CmpOp} {op : D → D → (R → Prop) → Prop} {r : R2} (hr : OpR X (compareOp o) r) (ho : OpOk X.K T op r) (ha : PD X T B M W a f) (hb : PD X T B M W b g) (hm : behindInMarks o b = false) : PDT X T B M W (.Compare a [o] [b] pos) (tVal (dOp op f g)) :=
  pt_imp (pt_cmpR hr ha hb hm) fun σ H Q ⟨F, ρ, Qd, S, h, k⟩ => by
    refine tOp_of (op := op) (f := f) (g := g) ho ⟨F, ρ, _, S, h, fun F1 H1 ρ1 v1 r1 e1 S1 R1 h1 => ?_⟩
    obtain ⟨F2, e2, S2, R2⟩ := S1.fix R1
    cases hd : r1.d with
    | bl b => rw [hd] at h1 R2; exact ⟨b, R2.bl_inv, k F2 H1 ρ1 b (e1.trans e2) S2 h1⟩
    | _ => rw [hd] at h1; exact h1.elim
variable {tA tB' : DT} {rest : List Expr}
theorem pdw_or1 (ha : PDT X T B M W a tA) : PDW X T B M W (.BoolOp .Or [a] pos) tA := pw_or1 ha
theorem pdw_or (ha : PDT X T B M W a tA) (hb : PDW X T B M W (.BoolOp .Or (b :: rest) pos) tB') : PDW X T B M W (.BoolOp .Or (a :: b :: rest) pos) (DL.tOr tA tB') :=
  pw_imp (pw_or ha hb) fun σ H Q ⟨F, ρ, Qd, S, h, k⟩ => by
    refine lT_run S h fun F1 H1 ρ1 z e1 S1 h1 => ?_
    cases z with
    | false => exact ⟨F1, ρ1, _, S1, h1, fun F2 H2 ρ2 z e2 => k F2 H2 ρ2 z (e1.trans e2)⟩
    | true => exact k F1 H1 ρ1 true e1 S1 h1
theorem pdt_w (h : PDW X T B M W e tA) : PDT X T B M W e tA := h.pt
theorem ix_own {K : PySem.W.Frag} {p : Addr} {o : HO} {d dy : D} {w : V} {k : R → Prop} {Q : VK} (hH : H p = some o) (ro : RepO K T F o d) (ry : Rep K T F w dy) (h : ixD d dy k) (kk : ∀ v t, Rep K T F v t → k (.fz t) → Q v H) : rIx K (.ref p) w H Q := by
  cases ro with
  | lst ra =>
    cases dy with
    | int i =>
      obtain ⟨j, t, h1, h2, hk⟩ := h
      obtain ⟨v, e1, e2⟩ := ra.get h2
      exact .inl ⟨p, _, _, v, rfl, ry.int_inv, .of hH, atI_of (by rw [ra.length]; exact h1) e1, kk _ _ e2 hk⟩
    | _ => exact h.elim
  | tup ra =>
    cases dy with
    | int i =>
      obtain ⟨j, t, h1, h2, hk⟩ := h
      obtain ⟨v, e1, e2⟩ := ra.get h2
      exact .inr (.inl ⟨p, _, _, v, rfl, ry.int_inv, .of hH, atI_of (by rw [ra.length]; exact h1) e1, kk _ _ e2 hk⟩)
    | _ => exact h.elim
  | dct _ => cases dy <;> exact h.elim
  | obj _ _ _ => cases dy <;> exact h.elim
  | dcT _ => cases dy <;> exact h.elim
/-! ### an item of an object that stays its name's own -/
theorem pd_ixN {i : Nat} {x : Str} {px : Pos} (hN : X.N[i]? = some x) (hv : Vis X.env.scope x) (hb : PD X T B M W b g) (hs : PlainIx b := by exact fun _ _ => rfl) (hd : (x == ("__debug__" : Str)) = false := by decide) (hcd : (x == ("__classdict__" : Str)) = false := by decide) :
    PD X T B M W (.Subscript (.Name x px) b pos) (dIxN i g) :=
  pe_imp (pe_ix ix_seq (pe_var hN hv hd hcd) hb hs) fun σ H Q ⟨F, ρ, Qd, S, h, k⟩ => by
    unfold dIxN at h
    obtain ⟨hkn, h⟩ := h
    have hv0 : ∃ v, σ[i]? = some (some v) := by
      have hs := S.slot i
      cases e : ρ.at i with
      | no => rw [e] at hkn; cases hkn
      | fz d => rw [e] at hs; obtain ⟨v, q, _⟩ := hs; exact ⟨v, q⟩
      | own d => rw [e] at hs; obtain ⟨p, o, q, _⟩ := hs; exact ⟨_, q⟩
      | ownT d => rw [e] at hs; obtain ⟨p, o, q, _⟩ := hs; exact ⟨_, q⟩
    obtain ⟨v, ev⟩ := hv0
    refine ⟨v, ev, ?_⟩
    refine lE_run S h fun F1 H1 ρ1 v2 r1 e1 S1 R2 h1 => ?_
    have hs := S1.slot i
    cases hd : ρ1.at i with
    | no => rw [hd] at h1; exact h1.elim
    | ownT d => rw [hd] at h1; exact h1.elim
    | fz d =>
      rw [hd] at hs h1
      obtain ⟨v', ev', r⟩ := hs
      rw [ev] at ev'
      cases ev'
      exact ok_ix (X := X) F1 H1 v v2 d r1.d _ Q S1.sub.toSmW r R2 h1 fun v H' t n q => lE_end k e1 S1 n q
    | own d =>
      rw [hd] at hs h1
      obtain ⟨p, o, ep, hF, hH, ro, _⟩ := hs
      rw [ev] at ep
      cases ep
      have h1 : ixD d r1.d (fun t => Qd t ρ1) := h1
      exact ix_own hH ro R2 h1 fun v t r q => lE_end k e1 S1 (.fz r) q
end
end DL

set_option Elab.async false
set_option linter.all false
set_option autoImplicit false
set_option maxRecDepth 100000
/-! DLX5: what is walked, targets, statements, loops. -/
namespace DL
open PySem PySem.Spec PyProof.Rows L2
/-- what is wanted behind a statement, over data -/
def lS (K : PySem.W.Frag) (T : Tb) (B : Bs) (M : List Nat) (W : EK) (f : DS) : TS := fun J σ H => ∃ F ρ Jd, SR K T B M F H ρ σ ∧ f Jd ρ W ∧
  (∀ F' H' ρ' σ', Same F F' → SR K T B M F' H' ρ' σ' → Jd.nx ρ' → J.nx σ' H') ∧
  (∀ F' H' ρ' σ' v r, Same F F' → SR K T B M F' H' ρ' σ' → RetV K T B F' H' ρ' σ' v r → Jd.rt r ρ' → J.rt v H') ∧
  (∀ F' H' ρ' σ', Same F F' → SR K T B M F' H' ρ' σ' → Jd.bk ρ' → J.bk σ' H') ∧
  (∀ F' H' ρ' σ', Same F F' → SR K T B M F' H' ρ' σ' → Jd.ct ρ' → J.ct σ' H')
def lG (K : PySem.W.Frag) (T : Tb) (B : Bs) (M : List Nat) (g : DG) : TG := fun v σ H Q => ∃ F ρ d Qd, SR K T B M F H ρ σ ∧ Rep K T F v d ∧ g d ρ Qd ∧ ∀ F' H' ρ' σ', Same F F' → SR K T B M F' H' ρ' σ' → Qd ρ' → Q σ' H'
abbrev PDS (X : Cx) (T : Tb) (B : Bs) (M : List Nat) (W : EK) (s : Stmt) (f : DS) : Prop := PS X s (lS X.K T B M W f)
abbrev PDSs (X : Cx) (T : Tb) (B : Bs) (M : List Nat) (W : EK) (s : List Stmt) (f : DS) : Prop := PSs X s (lS X.K T B M W f)
abbrev PDG (X : Cx) (T : Tb) (B : Bs) (M : List Nat) (e : Expr) (g : DG) : Prop := PG X e (lG X.K T B M g)
theorem ps_imp {X : Cx} {s : Stmt} {t t' : TS} (h : PS X s t) (k : ∀ J σ H, t' J σ H → t J σ H) : PS X s t' := ⟨fun pins s σ H J I q => h.run pins s σ H J I (k J σ H q)⟩
theorem pss_imp {X : Cx} {s : List Stmt} {t t' : TS} (h : PSs X s t) (k : ∀ J σ H, t' J σ H → t J σ H) : PSs X s t' := ⟨fun pins s σ H J I q => h.run pins s σ H J I (k J σ H q)⟩
theorem pg_imp {X : Cx} {e : Expr} {t t' : TG} (h : PG X e t) (k : ∀ v σ H Q, t' v σ H Q → t v σ H Q) : PG X e t' := ⟨fun pins s σ H v u Q I r q => h.run pins s σ H v u Q I r (k v σ H Q q)⟩
section
variable {X : Cx} {T : Tb} {B : Bs} {M : List Nat} {W : EK} {F H : Hp} {ρ : Env} {σ : L2.St}
variable {a b c e : Expr} {f g h : DE} {pos : Pos} {tg : Expr}
/-! ### a name's slot is stored -/
theorem SR.put {i : Nat} {v : V} {s : Slot} (S : SR X.K T B M F H ρ σ) (hi : i ∉ M) (hs : SlotOk X.K T F H (some (some v)) s) (hn : ∀ a ∈ foot H (some (some v)) s, (B.H0 a = none ∨ B.O1 i a) ∧ ∀ j, j ≠ i → a ∉ foot H (σ[j]?) (ρ.at j)) :
    SR X.K T B M F H (ρ.set i s) (σ.set i (some v)) := by
  by_cases hl : i < ρ.length
  · have hl' : i < σ.length := by rw [← S.len]; exact hl
    have same : ((σ.set i (some v))[i]? = some (some v)) ∧ Env.at (ρ.set i s) i = s := ⟨List.getElem?_set_self hl', Env.at_set_same hl⟩
    have other : ∀ j, i ≠ j → (σ.set i (some v))[j]? = σ[j]? ∧ Env.at (ρ.set i s) j = ρ.at j := fun j hj => ⟨List.getElem?_set_ne hj, Env.at_set_ne hj⟩
    refine ⟨S.sub, S.keep, S.live, S.f0, S.fnew, by simp [S.len], fun j => ?_, fun j a ha => ?_, fun j k a h1 h2 => ?_, fun j hj => ?_, S.tabs⟩
    · by_cases hj : i = j
      · subst hj
        rw [same.1, same.2]
        exact hs
      · rw [(other j hj).1, (other j hj).2]
        exact S.slot j
    · by_cases hj : i = j
      · subst hj
        rw [same.1, same.2] at ha
        exact (hn a ha).1
      · rw [(other j hj).1, (other j hj).2] at ha
        exact S.newF j a ha
    · by_cases hj : i = j
      · subst hj
        by_cases hk : i = k
        · exact hk
        · rw [same.1, same.2] at h1
          rw [(other k hk).1, (other k hk).2] at h2
          exact absurd h2 ((hn a h1).2 k (Ne.symm hk))
      · by_cases hk : i = k
        · subst hk
          rw [same.1, same.2] at h2
          rw [(other j hj).1, (other j hj).2] at h1
          exact absurd h1 ((hn a h2).2 j (Ne.symm hj))
        · rw [(other j hj).1, (other j hj).2] at h1
          rw [(other k hk).1, (other k hk).2] at h2
          exact S.injF j k a h1 h2
    · have : i ≠ j := fun z => hi (z ▸ hj)
      rw [List.getElem?_set_ne this]
      exact S.pin j hj
  · rw [List.set_eq_of_length_le (by omega), List.set_eq_of_length_le (by rw [← S.len]; omega)]
    exact S
theorem SR.putFz {i : Nat} {v : V} {d : D} (S : SR X.K T B M F H ρ σ) (hi : i ∉ M) (r : Rep X.K T F v d) : SR X.K T B M F H (ρ.set i (.fz d)) (σ.set i (some v)) :=
  S.put hi ⟨v, rfl, r⟩ fun a ha => by rw [foot_fz] at ha; simp at ha
theorem SR.putOwn {i : Nat} {p : Addr} {o : HO} {d : D} (S : SR X.K T B M F H ρ σ) (hi : i ∉ M) (hF : F p = none) (hH : H p = some o) (ro : RepO X.K T F o d) (hn : B.H0 p = none ∨ B.O1 i p) (hno : ∀ j, p ∉ foot H (σ[j]?) (ρ.at j)) (nt : tupB o = false) : SR X.K T B M F H (ρ.set i (.own d)) (σ.set i (some (.ref p))) :=
  S.put hi ⟨p, o, rfl, hF, hH, ro, nt⟩ fun a ha => by
    rw [foot_own] at ha
    rw [List.mem_singleton.mp ha]
    exact ⟨hn, fun j _ => hno j⟩
theorem SR.putOwnT {i : Nat} {p : Addr} {o : HO} {d : D} (S : SR X.K T B M F H ρ σ) (hi : i ∉ M) (hF : F p = none) (hH : H p = some o) (ro : TreeO X.K T F H o d) (nd : (p :: footO o d).Nodup) (hn : ∀ a ∈ p :: footO o d, B.H0 a = none ∧ ∀ j, a ∉ foot H (σ[j]?) (ρ.at j)) (nt : tupB o = false) : SR X.K T B M F H (ρ.set i (.ownT d)) (σ.set i (some (.ref p))) :=
  S.put hi ⟨p, o, rfl, hF, hH, ro, nd, nt⟩ fun a ha => by
    rw [foot_ownT hH] at ha
    exact ⟨.inl (hn a ha).1, fun j _ => (hn a ha).2 j⟩
/-- what a store into an own name says of a result -/
def putNx (i : Nat) (ρ : Env) (nx : Env → Prop) (fz : D → Prop) : R → Prop
  | .fr (.tup _) => False
  | .ft (.tup _) => False
  | .fr d => nx (ρ.set i (.own d))
  | .ft d => nx (ρ.set i (.ownT d))
  | .fz d => fz d
theorem SR.putN {i : Nat} {v : V} {r : R} {nx : Env → Prop} {fz : D → Prop} {P : Prop} (S : SR X.K T B M F H ρ σ) (hi : i ∉ M) (h : RetV X.K T B F H ρ σ v r) (q : putNx i ρ nx fz r) (k1 : ∀ d, r = .fz d → fz d → P) (k2 : ∀ s, SR X.K T B M F H (ρ.set i s) (σ.set i (some v)) → nx (ρ.set i s) → P) : P := by
  cases r with
  | fz d => exact k1 d rfl q
  | fr d =>
    obtain ⟨p, o, rfl, hF, hH, ro, hn, hno⟩ := h
    have nt : ∀ xs, d ≠ .tup xs := fun xs z => by subst z; exact q
    have q : nx (ρ.set i (.own d)) := by cases d <;> first | exact q | exact q.elim
    exact k2 _ (S.putOwn hi hF hH ro (.inl hn) hno (repO_nt ro nt)) q
  | ft d =>
    obtain ⟨p, o, rfl, hF, hH, ro, nd, hn⟩ := h
    have nt : ∀ xs, d ≠ .tup xs := fun xs z => by subst z; exact q
    have q : nx (ρ.set i (.ownT d)) := by cases d <;> first | exact q | exact q.elim
    exact k2 _ (S.putOwnT hi hF hH ro nd hn (treeO_nt ro nt)) q
/-! ### targets -/
theorem pdg_name {i : Nat} {x : Str} (hN : X.N.Nodup) (hi : X.N[i]? = some x) (hx : Loc X.env.scope x) (hM : i ∉ M) (hf : X.fn x = true ∨ X.env.scope.names.lookup x = some .local := by first | exact .inl rfl | exact .inr rfl | assumption) : PDG X T B M (.Name x pos) (gN i) :=
  pg_imp (pg_name hN hi hx hf) fun v σ H Q ⟨F, ρ, d, Qd, S, r, h, k⟩ => k F H _ _ (Same.refl _) (S.putFz hM r) h
def lGs (K : PySem.W.Frag) (T : Tb) (B : Bs) (M : List Nat) (is : List Nat) : TGs := fun vs σ H Q => ∃ F ρ ds Qd, SR K T B M F H ρ σ ∧ RepL K T F vs ds ∧ gNs is ds ρ Qd ∧ ∀ F' H' ρ' σ', Same F F' → SR K T B M F' H' ρ' σ' → Qd ρ' → Q σ' H'
abbrev PDGs (X : Cx) (T : Tb) (B : Bs) (M : List Nat) (es : List Expr) (is : List Nat) : Prop := PGs X es (lGs X.K T B M is)
theorem pgs_imp {es : List Expr} {t t' : TGs} (h : PGs X es t) (k : ∀ v σ H Q, t' v σ H Q → t v σ H Q) : PGs X es t' := ⟨fun pins s σ H v u Q I r q => h.run pins s σ H v u Q I r (k v σ H Q q)⟩
theorem pdgs_nil : PDGs X T B M [] [] := pgs_imp pgs_nil fun vs σ H Q ⟨F, ρ, ds, Qd, S, r, h, k⟩ => by
  cases r with
  | nil => exact ⟨rfl, k F H ρ σ (Same.refl _) S h⟩
  | cons _ _ => exact h.elim
theorem pdgs_cons {es : List Expr} {is : List Nat} {i : Nat} {x : Str} (hN : X.N.Nodup) (hi : X.N[i]? = some x) (hx : Loc X.env.scope x) (hM : i ∉ M) (h2 : PDGs X T B M es is)
    (hs : (assignEach (Expr.Name x pos :: es) X.env).map (·.2) = assign (Expr.Name x pos) X.env :: (assignEach es X.env).map (·.2) := by rfl) (hf : X.fn x = true ∨ X.env.scope.names.lookup x = some .local := by first | exact .inl rfl | exact .inr rfl | assumption) : PDGs X T B M (.Name x pos :: es) (i :: is) :=
  pgs_imp (pgs_cons (pdg_name (T := T) (B := B) hN hi hx hM hf) h2 hs) fun vs σ H Q ⟨F, ρ, ds, Qd, S, r, h, k⟩ => by
    cases r with
    | nil => exact h.elim
    | @cons v d vs ds r rs =>
      refine ⟨v, vs, rfl, F, ρ, d, fun ρ' => gNs is ds ρ' Qd, S, r, h, fun F' H' ρ' σ' e' S' q' => ?_⟩
      exact ⟨F', ρ', ds, Qd, S', rs.mono e', q', fun F2 H2 ρ2 σ2 e2 => k F2 H2 ρ2 σ2 (e'.trans e2)⟩
theorem gNs_len : ∀ {is : List Nat} {ds : List D} {ρ : Env} {k : Env → Prop}, gNs is ds ρ k → ds.length = is.length
  | [], [], _, _, _ => rfl
  | _ :: is, _ :: ds, _, _, h => congrArg (· + 1) (gNs_len (is := is) (ds := ds) h)
  | [], _ :: _, _, _, h => h.elim
  | _ :: _, [], _, _, h => h.elim
theorem pdg_tup {es : List Expr} {k : Nat} {is : List Nat} (hc : X.calm = true) (h : PDGs X T B M es is) (hn : (assignEach es X.env).length = is.length := by rfl) (hst : (assignEach es X.env).findIdx? (·.1) = none := by rfl) : PDG X T B M (.Tuple es k pos) (gT is) :=
  pg_imp (pg_tup (n := is.length) hc h hn hst) fun v σ H Q ⟨F, ρ, d, Qd, S, r, h, k⟩ => by
    cases d with
    | tup ds =>
      obtain ⟨p, vs, rfl, hp, ra⟩ := r.tup_inv
      exact ⟨p, vs, rfl, .of (S.sub _ _ hp), by rw [ra.length]; exact gNs_len h, F, ρ, ds, Qd, S, ra, h, k⟩
    | _ => exact h.elim
/-! ### what is walked -/
theorem itOk_list {K : PySem.W.Frag} {p : Addr} {vs : List V} {xs : List D} (hp : F p = some (.lst vs)) (r : RepL K T F vs xs) : ItOk K T F (Itl K p) xs := fun i F1 H e1 e2 => by
  have hq : SqL K H p vs := .of (e2 _ _ (e1 _ _ hp))
  refine ⟨fun hi => ?_, fun hi => ⟨vs, hq, by rw [r.length]; exact hi⟩⟩
  obtain ⟨v, hv, rv⟩ := r.get (List.getElem?_eq_getElem hi)
  refine ⟨⟨vs, v, hq, hv⟩, fun x H' hy => ?_⟩
  obtain ⟨rfl, hx⟩ := hy
  have e := (hx vs hq).symm.trans hv
  cases e
  exact ⟨.fz xs[i], List.getElem?_eq_getElem hi, .fz (rv.mono e1)⟩
theorem pdi_lst (he : PD X T B M W e f) : PDI X T B M W tg e (iLst f) :=
  pi_imp (pi_list he) fun σ H R ⟨F, ρ, Qd, S, h, k⟩ => by
    refine lE_run S h fun F1 H1 ρ1 v1 r1 e1 S1 R1 h1 => ?_
    cases hd : r1.d with
    | lst xs =>
      rw [hd] at h1 R1
      obtain ⟨p, vs, rfl, hp, ra⟩ := R1.lst_inv
      exact ⟨p, rfl, ⟨vs, .of (S1.sub _ _ hp)⟩, k F1 H1 ρ1 xs _ e1 S1 (itOk_list hp ra) h1⟩
    | _ => rw [hd] at h1; exact h1.elim
theorem itOk_rng {K : PySem.W.Frag} {lo : Int} {n : Nat} : ItOk K T F (Itr lo n) (rng lo n) := fun i F1 H e1 e2 => by
  have hl : (rng lo n).length = n := by simp [rng]
  refine ⟨fun hi => ⟨by rw [hl] at hi; exact hi, fun x H' hy => ?_⟩, fun hi => by rw [hl] at hi; exact hi⟩
  obtain ⟨rfl, rfl⟩ := hy
  rw [hl] at hi
  refine ⟨.fz (.int (lo + i)), ?_, .fz (.int _)⟩
  simp [rng, hi, R.d]
theorem pdi_rng1 {p : Pos} (hg : Gl X "range") (hm : X.mg "range" = none) (ha : PD X T B M W a f) (hs : starEach [a] X.env = [(false, eval a X.env)] := by rfl) : PDI X T B M W tg (.Call (.Name "range" p) [a] [] pos) (DL.iRng1 f) :=
  pi_imp (pi_range1 hg hm (zaA ha zaD hs) hs) fun σ H R ⟨F, ρ, Qd, S, h, k⟩ => by
    refine lA_run (fs := [f]) (Qd := fun ds ρ1 => match ds with | [.int n] => (-(2 ^ 62) ≤ n ∧ n < 2 ^ 62) ∧ Qd (rng 0 n.toNat) ρ1 | _ => False) S ?_ fun F1 H1 ρ1 vs ds e1 S1 R1 h1 => ?_
    · refine (congrArg (fun z => f ρ z W) (funext fun r => funext fun ρ1 => ?_)).mp h
      show _ = (match [r.d] with | [.int n] => (-(2 ^ 62) ≤ n ∧ n < 2 ^ 62) ∧ Qd (rng 0 n.toNat) ρ1 | _ => False)
      cases r.d <;> rfl
    · split at h1
      · cases R1 with
        | cons r rs =>
          cases rs
          rw [r.int_inv]
          exact ⟨_, rfl, h1.1.1, h1.1.2, k F1 H1 ρ1 _ _ e1 S1 itOk_rng h1.2⟩
      · exact h1.elim
theorem enumD_len (xs : List D) : (enumD xs).length = xs.length := by simp [enumD]
theorem enumD_at {xs : List D} {i : Nat} {d : D} (h : xs[i]? = some d) : (enumD xs)[i]? = some (.tup [.int (i : Int), d]) := by
  have hi := (List.getElem?_eq_some_iff.mp h).1
  unfold enumD
  rw [List.getElem?_zipWith, h, List.getElem?_range hi]
theorem itOk_enum {K : PySem.W.Frag} {p : Addr} {vs : List V} {xs : List D} (hp : F p = some (.lst vs)) (r : RepL K T F vs xs) : ItOk K T F (Ite K p) (enumD xs) := fun i F1 H e1 e2 => by
  have hq : SqL K H p vs := .of (e2 _ _ (e1 _ _ hp))
  rw [enumD_len]
  refine ⟨fun hi => ?_, fun hi => ⟨vs, hq, by rw [r.length]; exact hi⟩⟩
  obtain ⟨v, hv, rv⟩ := r.get (List.getElem?_eq_getElem hi)
  refine ⟨⟨vs, v, hq, hv⟩, fun x H' hy => ?_⟩
  obtain ⟨t, y, rfl, ht, rfl, hx⟩ := hy
  have e := (hx vs hq).symm.trans hv
  cases e
  exact ⟨.fr (.tup [.int i, xs[i]]), enumD_at (List.getElem?_eq_getElem hi), .fr ht (.tup (.cons (.int _) (.cons (rv.mono e1) .nil)))⟩
theorem pdi_enum {p tpos : Pos} {elts : List Expr} {kk : Nat} (hg : Gl X "enumerate") (hm : X.mg "enumerate" = none) (ha : PD X T B M W e f) (hs : starEach [e] X.env = [(false, eval e X.env)] := by rfl) : PDI X T B M W (.Tuple elts kk tpos) (.Call (.Name "enumerate" p) [e] [] pos) (DL.iEnum f) :=
  pi_imp (pi_enum hg hm (zaA ha zaD hs) hs) fun σ H R ⟨F, ρ, Qd, S, h, k⟩ => by
    refine lA_run (fs := [f]) (Qd := fun ds ρ1 => match ds with | [.lst xs] => Qd (enumD xs) ρ1 | _ => False) S ?_ fun F1 H1 ρ1 vs ds e1 S1 R1 h1 => ?_
    · refine (congrArg (fun z => f ρ z W) (funext fun r => funext fun ρ1 => ?_)).mp h
      show _ = (match [r.d] with | [.lst xs] => Qd (enumD xs) ρ1 | _ => False)
      cases r.d <;> rfl
    · split at h1
      · cases R1 with
        | cons r rs =>
          cases rs
          obtain ⟨p, vs, rfl, hp, ra⟩ := r.lst_inv
          exact ⟨p, vs, rfl, .of (S1.sub _ _ hp), k F1 H1 ρ1 _ _ e1 S1 (itOk_enum hp ra) h1⟩
      · exact h1.elim
/-! ### statements -/
variable {st : Stmt} {sts : List Stmt} {u w : DS}
theorem pds_nil : PDSs X T B M W [] sNx := pss_imp pss_nil fun J σ H ⟨F, ρ, Jd, S, h, k, _⟩ => k F H ρ σ (Same.refl _) S h
theorem pds_cons (h1 : PDS X T B M W st u) (h2 : PDSs X T B M W sts w) : PDSs X T B M W (st :: sts) (sSeq u w) :=
  pss_imp (pss_cons h1 h2) fun J σ H ⟨F, ρ, Jd, S, h, k1, k2, k3, k4⟩ => by
    refine ⟨F, ρ, _, S, h, fun F1 H1 ρ1 σ1 e1 S1 q1 => ?_, k2, k3, k4⟩
    exact ⟨F1, ρ1, Jd, S1, q1, fun F2 H2 ρ2 σ2 e2 => k1 F2 H2 ρ2 σ2 (e1.trans e2), fun F2 H2 ρ2 σ2 v r e2 => k2 F2 H2 ρ2 σ2 v r (e1.trans e2), fun F2 H2 ρ2 σ2 e2 => k3 F2 H2 ρ2 σ2 (e1.trans e2), fun F2 H2 ρ2 σ2 e2 => k4 F2 H2 ρ2 σ2 (e1.trans e2)⟩
theorem pds_one (h1 : PDS X T B M W st u) : PDSs X T B M W [st] u := pss_one h1
theorem pds_ret (he : PD X T B M W e f) : PDS X T B M W (.Return (some e) pos) (sRet f) :=
  ps_imp (ps_ret he) fun J σ H ⟨F, ρ, Jd, S, h, _, k, _⟩ => ⟨F, ρ, _, S, h, fun F1 H1 ρ1 v r e1 S1 R q => k F1 H1 ρ1 σ v r e1 S1 R q⟩
theorem pds_if {c : Expr} {x y : List Stmt} {t : DT} (hc : PDT X T B M W c t) (hx : PDSs X T B M W x u) (hy : PDSs X T B M W y w) : PDS X T B M W (.If c x y pos) (sIf t u w) :=
  ps_imp (ps_if hc hx hy) fun J σ H ⟨F, ρ, Jd, S, h, k1, k2, k3, k4⟩ => by
    refine lT_run S h fun F1 H1 ρ1 z e1 S1 h1 => ?_
    have fin : ∀ {s : DS}, s Jd ρ1 W → lS X.K T B M W s J σ H1 := fun {s} q => ⟨F1, ρ1, Jd, S1, q, fun F2 H2 ρ2 σ2 e2 => k1 F2 H2 ρ2 σ2 (e1.trans e2), fun F2 H2 ρ2 σ2 v r e2 => k2 F2 H2 ρ2 σ2 v r (e1.trans e2), fun F2 H2 ρ2 σ2 e2 => k3 F2 H2 ρ2 σ2 (e1.trans e2), fun F2 H2 ρ2 σ2 e2 => k4 F2 H2 ρ2 σ2 (e1.trans e2)⟩
    cases z with
    | true => exact fin h1
    | false => exact fin h1
theorem pds_set {i : Nat} {x : Str} {px : Pos} (hN : X.N.Nodup) (hi : X.N[i]? = some x) (hx : Loc X.env.scope x) (hM : i ∉ M) (he : PD X T B M W e f) (hs : swapsWith e (some (.Name x px)) pos.line X.env = pure false := by rfl) (hf : X.fn x = true ∨ X.env.scope.names.lookup x = some .local := by first | exact .inl rfl | exact .inr rfl | assumption) :
    PDS X T B M W (.Assign [.Name x px] e pos) (sAsg (gN i) f) :=
  ps_imp (ps_set hN hi hx he hs hf) fun J σ H ⟨F, ρ, Jd, S, h, k, _⟩ => by
    refine lE_run S h fun F1 H1 ρ1 v r e1 S1 R1 q => ?_
    exact k F1 H1 _ _ e1 (S1.putFz hM R1) q
theorem pds_setO {i : Nat} {x : Str} {px : Pos} (hN : X.N.Nodup) (hi : X.N[i]? = some x) (hx : Loc X.env.scope x) (hM : i ∉ M) (he : PD X T B M W e f) (hs : swapsWith e (some (.Name x px)) pos.line X.env = pure false := by rfl) (hf : X.fn x = true ∨ X.env.scope.names.lookup x = some .local := by first | exact .inl rfl | exact .inr rfl | assumption) :
    PDS X T B M W (.Assign [.Name x px] e pos) (sAsgO i f) :=
  ps_imp (ps_set hN hi hx he hs hf) fun J σ H ⟨F, ρ, Jd, S, h, k, _⟩ => by
    refine ⟨F, ρ, _, S, h, fun F1 H1 ρ1 v r e1 S1 R1 q => ?_⟩
    exact S1.putN (fz := fun _ => False) hM R1 (by cases r <;> (rename_i d; cases d) <;> exact q) (fun _ _ z => z.elim) fun s S2 q2 => k F1 H1 _ _ e1 S2 q2
end
end DL

set_option Elab.async false
set_option linter.all false
set_option autoImplicit false
set_option maxRecDepth 100000
/-! DLX6: loops, stores into one's own objects, comprehensions. -/
namespace DL
open PySem PySem.Spec PyProof.Rows L2
section
variable {X : Cx} {T : Tb} {B : Bs} {M : List Nat} {W : EK} {F H : Hp} {ρ : Env} {σ : L2.St}
variable {a b c e : Expr} {f g h : DE} {pos : Pos} {tg : Expr} {u w : DS}
theorem drop_at {α : Type} {xs : List α} {i : Nat} {d : α} (h : xs[i]? = some d) : xs.drop i = d :: xs.drop (i + 1) := by
  obtain ⟨hi, e⟩ := List.getElem?_eq_some_iff.mp h
  rw [← e, List.drop_eq_getElem_cons hi]
theorem pds_for {iter : Expr} {body : List Stmt} {it : DI} {G : DG} (hp : PassesOwn (model X.prog X.w) X.A X.env X.xe) (hc : X.calm = true) (hi : PDI X T B M W tg iter it) (hg : PDG X T B M tg G) (hb : PDSs X T B M W body u)
    (hs : ∀ x, foldedSetIterable iter X.env x = pure x := by intro _; rfl) : PDS X T B M W (.For tg iter body [] pos) (sFor it G u) :=
  ps_imp (ps_for hp hc hi hg hb hs) fun J σ H ⟨F, ρ, Jd, S, h, k1, k2, k3, k4⟩ => by
    refine ⟨F, ρ, _, S, h, fun F1 H1 ρ1 xs It e1 S1 io q => ?_⟩
    refine ⟨fun i m σ' H' => m = xs.length - i ∧ i ≤ xs.length ∧ ∃ F' ρ', Same F1 F' ∧ SR X.K T B M F' H' ρ' σ' ∧ forL G u Jd W (xs.drop i) ρ', ⟨xs.length, by simp, Nat.zero_le _, F1, ρ1, Same.refl _, S1, q⟩, ?_⟩
    rintro i m σ' H' ⟨rfl, hi, F', ρ', e2, S2, q2⟩
    by_cases hlt : i < xs.length
    · obtain ⟨go, yl⟩ := (io i F' H' e2 S2.sub.toSmW).1 hlt
      refine .inr ⟨go, fun σ3 H3 => ∃ F3 ρ3, Same F1 F3 ∧ SR X.K T B M F3 H3 ρ3 σ3 ∧ forL G u Jd W (xs.drop (i + 1)) ρ3, fun σ3 H3 hN => ⟨xs.length - (i + 1), by omega, rfl, hlt, hN⟩, fun x H'' hy => ?_⟩
      obtain ⟨r, hx, n⟩ := yl x H'' hy
      obtain ⟨S3, RV⟩ := S2.new n
      obtain ⟨F3, e3, S3, R3⟩ := S3.fix RV
      rw [drop_at hx] at q2
      have q2 : G r.d ρ' (fun ρ1 => u { nx := forL G u Jd W (xs.drop (i + 1)), ct := forL G u Jd W (xs.drop (i + 1)), bk := Jd.nx, rt := Jd.rt } ρ1 W) := q2
      refine ⟨F3, ρ', r.d, _, S3, R3, q2, fun F4 H4 ρ4 σ4 e4 S4 q4 => ?_⟩
      have e5 := e1.trans (e2.trans (e3.trans e4))
      exact ⟨F4, ρ4, _, S4, q4, fun F5 H5 ρ5 σ5 e6 S5 q5 => ⟨F5, ρ5, e2.trans (e3.trans (e4.trans e6)), S5, q5⟩, fun F5 H5 ρ5 σ5 v r e6 => k2 F5 H5 ρ5 σ5 v r (e5.trans e6),
        fun F5 H5 ρ5 σ5 e6 => k1 F5 H5 ρ5 σ5 (e5.trans e6), fun F5 H5 ρ5 σ5 e6 S5 q5 => ⟨F5, ρ5, e2.trans (e3.trans (e4.trans e6)), S5, q5⟩⟩
    · have e : i = xs.length := by omega
      subst e
      rw [List.drop_length] at q2
      exact .inl ⟨(io _ F' H' e2 S2.sub.toSmW).2 (Nat.le_refl _), k1 F' H' ρ' σ' (e1.trans e2) S2 q2⟩
/-! ### name op= e -/
def IpOk (K : PySem.W.Frag) (T : Tb) (op : D → D → (R → Prop) → Prop) (r : R2) : Prop := OpOk K T op r
/-! ### stores into one's own objects -/
/-- a slot's own objects are changed: the heap elsewhere stays, what is new in the footprint is new -/
theorem SR.change {i : Nat} {s : Slot} {H' : Hp} (S : SR X.K T B M F H ρ σ) (hl : i < ρ.length) (ot : ∀ b, b ∉ foot H (σ[i]?) (ρ.at i) → (∀ o, H b = some o → H' b = some o)) (li : ∀ b ∈ foot H (σ[i]?) (ρ.at i), ∃ o, H' b = some o)
    (hs : SlotOk X.K T F H' (σ[i]?) s) (hn : ∀ a ∈ foot H' (σ[i]?) s, a ∈ foot H (σ[i]?) (ρ.at i) ∨ (B.H0 a = none ∧ ∀ j, a ∉ foot H (σ[j]?) (ρ.at j))) : SR X.K T B M F H' (ρ.set i s) σ := by
  have old : ∀ j, i ≠ j → Env.at (ρ.set i s) j = ρ.at j := fun j hj => Env.at_set_ne hj
  have same : Env.at (ρ.set i s) i = s := Env.at_set_same hl
  have ke : ∀ j, i ≠ j → ∀ a ∈ foot H (σ[j]?) (ρ.at j), H' a = H a := fun j hj a ha => by
    obtain ⟨_, o, e, _⟩ := S.priv ha
    rw [e]
    exact ot a (fun z => hj (S.injF i j a z ha)) o e
  have fe : ∀ j, i ≠ j → foot H' (σ[j]?) (ρ.at j) = foot H (σ[j]?) (ρ.at j) := fun j hj => foot_eq (ke j hj)
  have nfoot : ∀ b o, F b = some o → b ∉ foot H (σ[i]?) (ρ.at i) := fun b o e z => by
    have := (S.priv z).1
    rw [e] at this
    cases this
  have tabs : LamX.Tabs T.tabs H' := fun x hx => by
    obtain ⟨ps, e1, e2, e3⟩ := S.tabs.1 x hx
    refine ⟨ps, ot _ (fun z => ?_) _ e1, e2, fun pos cv hc => ?_⟩
    · obtain ⟨_, o, e, m, _⟩ := S.priv z
      rw [e1] at e
      exact m ps (Option.some.inj e).symm
    · obtain ⟨c, a, b⟩ := e3 pos cv hc
      refine ⟨c, a, ot _ (fun z => ?_) _ b⟩
      obtain ⟨_, o, e, _, m⟩ := S.priv z
      rw [b] at e
      exact m _ _ (Option.some.inj e).symm
  refine ⟨S.sub.step (fun b u e w _ z => ot b (nfoot b u e) w z), fun b u e n m => ?_, fun b u e => ?_, S.f0, S.fnew, by simp [S.len], fun j => ?_, fun j a ha => ?_, fun j k a h1 h2 => ?_, S.pin, tabs, S.tabs.2⟩
  · refine ot b (fun z => ?_) u (S.keep _ _ e n m)
    rcases S.newO z with q | q
    · rw [q] at e; cases e
    · exact n q
  · obtain ⟨u', e'⟩ := S.live _ _ e
    by_cases hb : b ∈ foot H (σ[i]?) (ρ.at i)
    · exact li b hb
    · exact ⟨u', ot b hb u' e'⟩
  · by_cases hj : i = j
    · subst hj
      rw [same]
      exact hs
    · rw [old j hj]
      exact (S.slot j).mono (Same.refl _) fun a ha => ⟨(S.priv ha).1, ke j hj a ha⟩
  · by_cases hj : i = j
    · subst hj
      rw [same] at ha
      rcases hn a ha with q | q
      · exact S.newF i a q
      · exact .inl q.1
    · rw [old j hj, fe j hj] at ha
      exact S.newF j a ha
  · have excl : ∀ j, i ≠ j → a ∈ foot H' (σ[i]?) s → a ∈ foot H (σ[j]?) (ρ.at j) → False := fun j hj z1 z2 => by
      rcases hn a z1 with q | q
      · exact hj (S.injF i j a q z2)
      · exact q.2 j z2
    by_cases hj : i = j
    · subst hj
      by_cases hk : i = k
      · exact hk
      · rw [same] at h1
        rw [old k hk, fe k hk] at h2
        exact (excl k hk h1 h2).elim
    · rw [old j hj, fe j hj] at h1
      by_cases hk : i = k
      · subst hk
        rw [same] at h2
        exact (excl j hj h2 h1).elim
      · rw [old k hk, fe k hk] at h2
        exact S.injF j k a h1 h2
theorem SR.store {i : Nat} {p : Addr} {d d' : D} {o' : HO} (S : SR X.K T B M F H ρ σ) (hi : ρ.at i = .own d) (hp : σ[i]? = some (some (.ref p))) (r : RepO X.K T F o' d') (nt : tupB o' = false := by rfl) : SR X.K T B M F (upd H p o') (ρ.set i (.own d')) σ := by
  have hf : foot H (σ[i]?) (ρ.at i) = [p] := by rw [hi, hp, foot_own]
  have hs := S.slot i
  rw [hi] at hs
  obtain ⟨p', o, e, hF, hH, ro, _⟩ := hs
  rw [hp] at e
  cases e
  refine S.change (Env.at_lt (by rw [hi]; exact fun z => nomatch z)) (fun b hb o e => ?_) (fun b hb => ?_) ?_ fun a ha => ?_
  · rw [hf] at hb
    rw [upd_ne fun z => hb (List.mem_singleton.mpr z)]
    exact e
  · rw [hf] at hb
    rw [List.mem_singleton.mp hb]
    exact ⟨_, upd_same⟩
  · exact ⟨p, o', hp, hF, upd_same, r, nt⟩
  · rw [hp, foot_own] at ha
    exact .inl (by rw [hf]; exact ha)
theorem ownL_inv {s : Slot} (h : s.ownL = true) : ∃ xs, s = .own (.lst xs) := by
  cases s with
  | own d => cases d <;> first | exact ⟨_, rfl⟩ | cases h
  | _ => cases h
theorem SR.ownAt {i : Nat} {d : D} (S : SR X.K T B M F H ρ σ) (hi : ρ.at i = .own d) : ∃ p o, σ[i]? = some (some (.ref p)) ∧ F p = none ∧ H p = some o ∧ RepO X.K T F o d := by
  have hs := S.slot i
  rw [hi] at hs
  obtain ⟨p, o, h1, h2, h3, h4, _⟩ := hs
  exact ⟨p, o, h1, h2, h3, h4⟩
theorem repO_lst {K : PySem.W.Frag} {o : HO} {xs : List D} (r : RepO K T F o (.lst xs)) : ∃ vs, o = .lst vs ∧ RepL K T F vs xs := by
  cases r with
  | lst r => exact ⟨_, rfl, r⟩
theorem pds_put {i : Nat} {x : Str} {px ppos : Pos} (hN : X.N[i]? = some x) (hv : Vis X.env.scope x) (he : PD X T B M W e f) (hk : PD X T B M W b g) (hd : (x == ("__debug__" : Str)) = false := by decide) (hcd : (x == ("__classdict__" : Str)) = false := by decide)
    (ha : ∀ v, assign (.Subscript (.Name x px) b ppos) X.env v = (do
      let ov ← holding [v] (eval (.Name x px) X.env)
      let iv ← holding [v, ov] (eval b X.env)
      standAt ppos
      holding [v, ov, iv] (setItem ov iv v)
      release [v, ov, iv] []) := by intro _; rfl)
    (hs : swapsWithSole [.Subscript (.Name x px) b ppos] e pos.line X.env = pure false := by rfl) (hw : swappedStores [.Subscript (.Name x px) b ppos] e X.env = pure none := by rfl)
    (h1 : (assignEach [.Subscript (.Name x px) b ppos] X.env).map (·.2) = [assign (.Subscript (.Name x px) b ppos) X.env] := by rfl) : PDS X T B M W (.Assign [.Subscript (.Name x px) b ppos] e pos) (sPut i g f) :=
  ps_imp (ps_asg he (pg_sub (pe_var hN hv hd hcd) hk set_list ha) hs hw h1) fun J σ H ⟨F, ρ, Jd, S, h, k1, k2, k3, k4⟩ => by
    refine lE_run S h fun F1 H1 ρ1 v1 r1 e1 S1 R1 q => ?_
    obtain ⟨h0, q⟩ := q
    obtain ⟨xs0, hx0⟩ := ownL_inv h0
    obtain ⟨p, o, ep, hF, hH, ro⟩ := S1.ownAt hx0
    refine ⟨.ref p, ep, ?_⟩
    refine lE_run S1 q fun F2 H2 ρ2 v2 r2 e2 S2 R2 q2 => ?_
    cases hd : ρ2.at i with
    | own d =>
      cases d with
      | lst xs =>
        rw [hd] at q2
        cases hz : r2.d with
        | int z =>
          rw [hz] at q2 R2
          obtain ⟨j, hj, q3⟩ := q2
          obtain ⟨p', o', ep', hF', hH', ro'⟩ := S2.ownAt hd
          rw [ep] at ep'
          cases ep'
          obtain ⟨ws, rfl, rb⟩ := repO_lst ro'
          refine ⟨p, ws, z, j, rfl, R2.int_inv, hH', by rw [rb.length]; exact hj, ?_⟩
          exact k1 F2 _ _ _ (e1.trans e2) (S2.store hd ep (.lst (rb.set j (R1.mono e2)))) q3
        | _ => rw [hz] at q2; exact q2.elim
      | _ => rw [hd] at q2; exact q2.elim
    | _ => rw [hd] at q2; exact q2.elim
end
end DL

set_option Elab.async false
set_option linter.all false
set_option autoImplicit false
set_option maxRecDepth 100000
/-! DLX7: comprehensions. -/
namespace DL
open PySem PySem.Spec PyProof.Rows L2
/-- the own objects of a frame -/
def OwnOf (H : Hp) (ρ : Env) (σ : L2.St) (b : Addr) : Prop := ∃ i, b ∈ foot H (σ[i]?) (ρ.at i)
/-- the base at a place within a body -/
def baseAt (B : Bs) (F H : Hp) (ρ : Env) (σ : L2.St) : Bs := ⟨F, H, fun i b => b ∈ foot H (σ[i]?) (ρ.at i), B.P⟩
section
variable {K : PySem.W.Frag} {T : Tb} {B : Bs} {M : List Nat} {F F2 H H2 : Hp} {ρ ρ2 : Env} {σ σ2 : L2.St}
theorem SR.base (S : SR K T B M F H ρ σ) : SR K T (baseAt B F H ρ σ) M F H ρ σ :=
  ⟨S.sub.toSmW.start (fun a o e ⟨i, z⟩ => absurd ((S.priv z).1.symm.trans e) (fun y => nomatch y)), fun b o e _ _ => e, fun b o e => ⟨o, e⟩, Same.refl _, fun b o e => .inl e, S.len, S.slot, fun i a ha => .inr ha, S.injF, S.pin, S.tabs⟩
theorem SR.gone (S : SR K T B M F H ρ σ) {b : Addr} (e : H b = none) : B.H0 b = none := by
  cases q : B.H0 b with
  | none => rfl
  | some o =>
    obtain ⟨o', z⟩ := S.live b o q
    rw [e] at z
    cases z
def R.slot : R → Slot
  | .fz _ => .no
  | .fr d => .own d
  | .ft d => .ownT d
/-- where a new result lies -/
def rfoot (H : Hp) (v : V) (r : R) : List Addr := foot H (some (some v)) r.slot
theorem SR.trans (S : SR K T B M F H ρ σ) (S2 : SR K T (baseAt B F H ρ σ) M F2 H2 ρ2 σ2) : SR K T B M F2 H2 ρ2 σ2 := by
  have own : ∀ b, OwnOf H ρ σ b → B.H0 b = none ∨ B.O0 b := fun b ⟨i, e1⟩ => S.newO e1
  refine ⟨S.sub.after S2.sub S2.fnew, fun b o e n m => ?_, fun b o e => ?_, S.f0.trans S2.f0, fun b o e => ?_, S2.len, S2.slot, fun i p e1 => ?_, S2.injF, S2.pin, S2.tabs⟩
  · refine S2.keep b o (S.keep b o e n m) (fun z => ?_) m
    rcases own b z with q | q
    · rw [q] at e; cases e
    · exact n q
  · obtain ⟨o', e'⟩ := S.live b o e
    exact S2.live b o' e'
  · rcases S2.fnew b o e with q | q | q | q
    · exact S.fnew b o q
    · exact .inr (.inl (S.gone q))
    · exact .inr ((own b q).elim .inl fun z => .inr (.inl z))
    · exact .inr (.inr (.inr q))
  · rcases S2.newF i p e1 with q | q
    · exact .inl (S.gone q)
    · exact S.newF i p q
/-- a loose object stays loose -/
theorem SR.loose (S : SR K T B M F H ρ σ) (S2 : SR K T (baseAt B F H ρ σ) M F2 H2 ρ2 σ2) {p : Addr} {o : HO} (hH : H p = some o) (hF : F p = none) (hn : ¬ OwnOf H ρ σ p) (hm : ∀ ps, o ≠ HO.tbl ps := by intro _ z; cases z) (nt : tupB o = false := by rfl) : H2 p = some o ∧ F2 p = none ∧ ¬ OwnOf H2 ρ2 σ2 p := by
  refine ⟨S2.keep p o hH hn hm, ?_, fun ⟨i, e1⟩ => ?_⟩
  · cases q : F2 p with
    | none => rfl
    | some u =>
      rcases S2.fnew p u q with z | z | z | z
      · have z : F p = some u := z
        rw [hF] at z; cases z
      · have z : H p = none := z
        rw [hH] at z; cases z
      · exact absurd z hn
      · have w := S2.sub.up q z
        rw [S2.keep p o hH hn hm] at w
        cases w
        rw [nt] at z
        cases z
  · rcases S2.newF i p e1 with z | z
    · have z : H p = none := z
      rw [hH] at z; cases z
    · exact hn ⟨i, z⟩
theorem wipeE_len : ∀ (vs : List Nat) (ρ : Env), (wipeE vs ρ).length = ρ.length
  | [], _ => rfl
  | v :: vs, ρ => by unfold wipeE; rw [List.length_set, wipeE_len vs ρ]
theorem backE_len : ∀ (vs : List Nat) (ρ0 ρ : Env), (backE vs ρ0 ρ).length = ρ.length
  | [], _, _ => rfl
  | v :: vs, ρ0, ρ => by unfold backE; rw [List.length_set, backE_len vs ρ0 ρ]
theorem wipeE_out : ∀ {vs : List Nat} {ρ : Env} {i : Nat}, i ∉ vs → (wipeE vs ρ).at i = ρ.at i
  | [], _, _, _ => rfl
  | v :: vs, ρ, i, h => by
    unfold wipeE
    rw [Env.at_set_ne (fun z => h (by rw [z]; exact List.mem_cons_self)), wipeE_out fun z => h (List.mem_cons_of_mem _ z)]
theorem at_oob {ρ : Env} {i : Nat} (h : ¬ i < ρ.length) : ρ.at i = .no := by
  unfold Env.at
  rw [List.getElem?_eq_none (by omega)]
  rfl
theorem wipeE_in : ∀ {vs : List Nat} {ρ : Env} {i : Nat}, i ∈ vs → (wipeE vs ρ).at i = .no
  | v :: vs, ρ, i, h => by
    unfold wipeE
    by_cases hi : v = i
    · subst hi
      by_cases hl : v < (wipeE vs ρ).length
      · rw [Env.at_set_same hl]
      · rw [at_oob (by simpa using hl)]
    · rw [Env.at_set_ne hi]
      exact wipeE_in ((List.mem_cons.mp h).resolve_left fun z => hi z.symm)
theorem backE_out : ∀ {vs : List Nat} {ρ0 ρ : Env} {i : Nat}, i ∉ vs → (backE vs ρ0 ρ).at i = ρ.at i
  | [], _, _, _, _ => rfl
  | v :: vs, ρ0, ρ, i, h => by
    unfold backE
    rw [Env.at_set_ne (fun z => h (by rw [z]; exact List.mem_cons_self)), backE_out fun z => h (List.mem_cons_of_mem _ z)]
theorem backE_in : ∀ {vs : List Nat} {ρ0 ρ : Env} {i : Nat}, i ∈ vs → (backE vs ρ0 ρ).at i = (ρ0.at i).noT ∨ (backE vs ρ0 ρ).at i = .no
  | v :: vs, ρ0, ρ, i, h => by
    unfold backE
    by_cases hi : v = i
    · subst hi
      by_cases hl : v < (backE vs ρ0 ρ).length
      · exact .inl (Env.at_set_same hl)
      · exact .inr (at_oob (by simpa using hl))
    · rw [Env.at_set_ne hi]
      exact backE_in ((List.mem_cons.mp h).resolve_left fun z => hi z.symm)
theorem wipe_out' {σ : L2.St} {i : Nat} : ∀ {vs : List Nat}, i ∉ vs → (wipe σ vs)[i]? = σ[i]?
  | [], _ => rfl
  | v :: vs, h => by
    unfold wipe
    rw [List.getElem?_set_ne (fun z => h (by rw [z]; exact List.mem_cons_self)), wipe_out' fun z => h (List.mem_cons_of_mem _ z)]
theorem wipe_set {σ : L2.St} {x : Option V} : ∀ {vs : List Nat} {i : Nat}, i ∈ vs → wipe (σ.set i x) vs = wipe σ vs
  | v :: vs, i, h => by
    unfold wipe
    by_cases hi : i ∈ vs
    · rw [wipe_set hi]
    · have hv : i = v := (List.mem_cons.mp h).resolve_right hi
      subst hv
      have : wipe (σ.set i x) vs = (wipe σ vs).set i x := by
        clear h
        induction vs with
        | nil => rfl
        | cons w vs ih =>
          unfold wipe
          rw [ih fun z => hi (List.mem_cons_of_mem _ z), List.set_comm _ _ (fun z => hi (by rw [z]; exact List.mem_cons_self))]
      rw [this, List.set_set]
theorem SR.wipe {vs : List Nat} (S : SR K T B M F H ρ σ) (hM : ∀ i ∈ M, i ∉ vs) : SR K T B M F H (wipeE vs ρ) (L2.wipe σ vs) := by
  have fact : ∀ i, (wipeE vs ρ).at i = .no ∨ ((wipeE vs ρ).at i = ρ.at i ∧ (L2.wipe σ vs)[i]? = σ[i]?) := fun i => by
    by_cases hi : i ∈ vs
    · exact .inl (wipeE_in hi)
    · exact .inr ⟨wipeE_out hi, wipe_out' hi⟩
  have own : ∀ i a, a ∈ foot H ((L2.wipe σ vs)[i]?) ((wipeE vs ρ).at i) → a ∈ foot H (σ[i]?) (ρ.at i) := fun i a e => by
    rcases fact i with q | ⟨q1, q2⟩
    · rw [q, foot_no] at e; simp at e
    · rw [q1, q2] at e; exact e
  refine ⟨S.sub, S.keep, S.live, S.f0, S.fnew, by rw [wipeE_len, wipe_length, S.len], fun i => ?_, fun i a e1 => S.newF i a (own i a e1), fun i j a e1 e2 => S.injF i j a (own i a e1) (own j a e2), fun i hi => ?_, S.tabs⟩
  · rcases fact i with q | ⟨q1, q2⟩
    · rw [q]; trivial
    · rw [q1, q2]; exact S.slot i
  · rw [wipe_out' (hM i hi)]
    exact S.pin i hi
/-- out of the block again -/
theorem SR.unwipe {vs : List Nat} (S : SR K T B M F H ρ σ) (hv : ∀ i ∈ vs, ∀ d, ρ.at i ≠ .own d) (e : Same F F2) (S2 : SR K T B M F2 H2 ρ2 (L2.wipe σ vs)) : SR K T B M F2 H2 (backE vs ρ ρ2) σ := by
  have fact : ∀ i, (backE vs ρ ρ2).at i = .no ∨ (i ∈ vs ∧ ∃ d, (backE vs ρ ρ2).at i = .fz d ∧ ρ.at i = .fz d) ∨ ((backE vs ρ ρ2).at i = ρ2.at i ∧ (L2.wipe σ vs)[i]? = σ[i]?) := fun i => by
    by_cases hi : i ∈ vs
    · rcases backE_in (ρ0 := ρ) (ρ := ρ2) hi with q | q
      · cases hd : ρ.at i with
        | no => rw [hd] at q; exact .inl q
        | own d => exact absurd hd (hv i hi d)
        | fz d => rw [hd] at q; exact .inr (.inl ⟨hi, d, q, rfl⟩)
        | ownT d => rw [hd] at q; exact .inl q
      · exact .inl q
    · exact .inr (.inr ⟨backE_out hi, wipe_out' hi⟩)
  have own : ∀ i a, a ∈ foot H2 (σ[i]?) ((backE vs ρ ρ2).at i) → a ∈ foot H2 ((L2.wipe σ vs)[i]?) (ρ2.at i) := fun i a h => by
    rcases fact i with q | ⟨_, d, q, _⟩ | ⟨q1, q2⟩
    · rw [q, foot_no] at h; simp at h
    · rw [q, foot_fz] at h; simp at h
    · rw [q1, ← q2] at h; exact h
  refine ⟨S2.sub, S2.keep, S2.live, S2.f0, S2.fnew, by rw [backE_len, S2.len, wipe_length], fun i => ?_, fun i a e1 => S2.newF i a (own i a e1), fun i j a e1 e2 => S2.injF i j a (own i a e1) (own j a e2), S.pin, S2.tabs⟩
  rcases fact i with q | ⟨_, d, q, hd⟩ | ⟨q1, q2⟩
  · rw [q]; trivial
  · have hs := S.slot i
    rw [hd] at hs
    obtain ⟨v, h1, h2⟩ := hs
    rw [q]
    exact ⟨v, h1, h2.mono e⟩
  · rw [q1, ← q2]; exact S2.slot i
end
/-! ### targets of a comprehension -/
theorem SR.storeLoose {K : PySem.W.Frag} {T : Tb} {B : Bs} {M : List Nat} {F H : Hp} {ρ : Env} {σ : L2.St} {p : Addr} {o o' : HO} (S : SR K T B M F H ρ σ) (hH : H p = some o) (hF : F p = none) (hn : ¬ OwnOf H ρ σ p) (hB : B.H0 p = none) (hm : ∀ ps, o ≠ HO.tbl ps := by intro _ z; cases z) (hc : ∀ c q, o ≠ LamX.CodeO c q := by intro _ _ z; unfold LamX.CodeO at z; cases z) : SR K T B M F (upd H p o') ρ σ := by
  have ke : ∀ i, ∀ a ∈ foot H (σ[i]?) (ρ.at i), upd H p o' a = H a := fun i a ha => upd_ne fun z => hn ⟨i, by rw [← z]; exact ha⟩
  have fe := S.footEq ke
  refine ⟨S.sub.step (fun b u e w _ z => ?_), fun b u e n m => ?_, fun b u e => ?_, S.f0, S.fnew, S.len, fun j => (S.slot j).mono (Same.refl _) fun a ha => ⟨(S.priv ha).1, ke j a ha⟩, fun i a ha => S.newF i a (fe i ▸ ha), fun i j a h1 h2 => S.injF i j a (fe i ▸ h1) (fe j ▸ h2), S.pin, tabs_upd S.tabs.1 hH hm hc, S.tabs.2⟩
  · have hb : b ≠ p := fun z => by subst z; rw [hF] at e; cases e
    rw [upd_ne hb]
    exact z
  · have hb : b ≠ p := fun z => by subst z; rw [hB] at e; cases e
    rw [upd_ne hb]
    exact S.keep _ _ e n m
  · by_cases hb : b = p
    · subst hb; exact ⟨_, upd_same⟩
    · rw [upd_ne hb]; exact S.live _ _ e
def gHs : List Nat → TGs
  | [] => gNil
  | i :: is => gCons (gName i) (gHs is)
def Tgt.h (K : PySem.W.Frag) : Tgt → TG
  | .one i => gName i
  | .tup is => gTup K is.length (gHs is)
section
variable {X : Cx} {T : Tb} {B : Bs} {M : List Nat} {W : EK} {F H : Hp} {ρ : Env} {σ : L2.St}
theorem gHs_of {vs : List Nat} : ∀ {is : List Nat} {ds : List D} {us : List V} {ρ : Env} {σ : L2.St} {k : Env → Prop}, SR X.K T B M F H ρ σ → RepL X.K T F us ds → gNs is ds ρ k → (∀ i ∈ is, i ∈ vs) → (∀ i ∈ is, i ∉ M) →
    gHs is us σ H fun σ2 H2 => wipe σ2 vs = wipe σ vs ∧ H2 = H ∧ ∃ ρ2, SR X.K T B M F H ρ2 σ2 ∧ k ρ2
  | [], [], _, ρ, σ, k, S, .nil, h, _, _ => ⟨rfl, rfl, rfl, ρ, S, h⟩
  | i :: is, d :: ds, _, ρ, σ, k, S, .cons (v := v) (vs := us) r rs, h, h1, h2 => by
    refine ⟨v, us, rfl, ?_⟩
    have q := gHs_of (vs := vs) (S.putFz (h2 i List.mem_cons_self) r) rs h (fun j hj => h1 j (List.mem_cons_of_mem _ hj)) (fun j hj => h2 j (List.mem_cons_of_mem _ hj))
    rw [wipe_set (h1 i List.mem_cons_self)] at q
    exact q
  | [], _ :: _, _, _, _, _, _, _, h, _, _ => h.elim
  | _ :: _, [], _, _, _, _, _, _, h, _, _ => h.elim
theorem Tgt.of {t : Tgt} {vs : List Nat} {v : V} {d : D} {k : Env → Prop} (S : SR X.K T B M F H ρ σ) (r : Rep X.K T F v d) (h : t.g d ρ k) (h1 : ∀ i ∈ t.is, i ∈ vs) (h2 : ∀ i ∈ t.is, i ∉ M) :
    t.h X.K v σ H fun σ2 H2 => wipe σ2 vs = wipe σ vs ∧ H2 = H ∧ ∃ ρ2, SR X.K T B M F H ρ2 σ2 ∧ k ρ2 := by
  cases t with
  | one i => exact ⟨wipe_set (h1 i List.mem_cons_self), rfl, _, S.putFz (h2 i List.mem_cons_self) r, h⟩
  | tup is =>
    cases d with
    | tup ds =>
      obtain ⟨p, us, rfl, hp, ra⟩ := r.tup_inv
      exact ⟨p, us, rfl, .of (S.sub _ _ hp), by rw [ra.length]; exact gNs_len h, gHs_of S ra h h1 h2⟩
    | _ => exact h.elim
theorem pgh_one {i : Nat} {x : Str} {pos : Pos} (hN : X.N.Nodup) (hi : X.N[i]? = some x) (hx : Loc X.env.scope x) (hf : X.fn x = true ∨ X.env.scope.names.lookup x = some .local := by first | exact .inl rfl | exact .inr rfl | assumption) : PG X (.Name x pos) ((Tgt.one i).h X.K) := pg_name hN hi hx hf
abbrev PDTs (X : Cx) (T : Tb) (B : Bs) (M : List Nat) (W : EK) (ifs : List Expr) (t : DT) : Prop := PTs X ifs (lT X.K T B M W t)
theorem pts_imp {ifs : List Expr} {t t' : TT} (h : PTs X ifs t) (k : ∀ σ H Q, t' σ H Q → t σ H Q) : PTs X ifs t' := ⟨fun pins s σ H Q I q => h.run pins s σ H Q I (k σ H Q q)⟩
theorem pdts_nil : PDTs X T B M W [] DL.tYes := pts_imp pts_nil fun σ H Q ⟨F, ρ, Qd, S, h, k⟩ => k F H ρ true (Same.refl _) S h
def lEx (K : PySem.W.Frag) (T : Tb) (M : List Nat) (W : EK) (f : DE) : TE := fun σ H Q => ∃ B, lE K T B M W f σ H Q
def lTx (K : PySem.W.Frag) (T : Tb) (M : List Nat) (W : EK) (f : DT) : TT := fun σ H Q => ∃ B, lT K T B M W f σ H Q
theorem pe_ex {e : Expr} {f : DE} (h : ∀ B, PD X T B M W e f) : PE X e (lEx X.K T M W f) := ⟨fun pins s σ H Q I ⟨B, q⟩ => (h B).run pins s σ H Q I q⟩
theorem pts_ex {e : List Expr} {f : DT} (h : ∀ B, PDTs X T B M W e f) : PTs X e (lTx X.K T M W f) := ⟨fun pins s σ H Q I ⟨B, q⟩ => (h B).run pins s σ H Q I q⟩
theorem wipe_in {σ : L2.St} {i : Nat} : ∀ {vs : List Nat}, i ∈ vs → (wipe σ vs)[i]? = if i < σ.length then some none else none
  | v :: vs, h => by
    unfold wipe
    by_cases hv : v = i
    · subst hv
      by_cases hl : v < σ.length
      · rw [List.getElem?_set_self (by rw [wipe_length]; exact hl), if_pos hl]
      · rw [List.getElem?_eq_none (by rw [List.length_set, wipe_length]; omega), if_neg hl]
    · rw [List.getElem?_set_ne hv]
      exact wipe_in ((List.mem_cons.mp h).resolve_left fun z => hv z.symm)
theorem wipe_wipe {σ : L2.St} {vs : List Nat} : wipe (wipe σ vs) vs = wipe σ vs := by
  apply List.ext_getElem?
  intro i
  by_cases h : i ∈ vs
  · rw [wipe_in h, wipe_in h, wipe_length]
  · rw [wipe_out' h]
theorem Tgt.h_mono {K : PySem.W.Frag} {t : Tgt} {v : V} {σ : L2.St} {H : Hp} {k k' : L2.St → Hp → Prop} (h : t.h K v σ H k) (hm : ∀ σ H, k σ H → k' σ H) : t.h K v σ H k' := by
  cases t with
  | one i => exact hm _ _ h
  | tup is =>
    obtain ⟨a, us, e1, e2, e3, h⟩ := h
    refine ⟨a, us, e1, e2, e3, ?_⟩
    clear e1 e2 e3
    induction is generalizing us σ H with
    | nil => exact ⟨h.1, hm _ _ h.2⟩
    | cons i is ih =>
      obtain ⟨w, r, e, h⟩ := h
      exact ⟨w, r, e, ih _ h⟩
theorem backE_foot {vs : List Nat} {ρ ρ2 : Env} {σ : L2.St} {H : Hp} {j : Nat} {a : Addr} (hv : ∀ i ∈ vs, ∀ d, ρ.at i ≠ .own d) (h : a ∈ foot H (σ[j]?) ((backE vs ρ ρ2).at j)) : a ∈ foot H (σ[j]?) (ρ2.at j) ∧ j ∉ vs := by
  by_cases hj : j ∈ vs
  · rcases backE_in (ρ0 := ρ) (ρ := ρ2) hj with q | q
    · rw [q] at h
      cases hd : ρ.at j with
      | no => rw [hd] at h; rw [show Slot.noT .no = Slot.no from rfl, foot_no] at h; simp at h
      | own d => exact absurd hd (hv j hj d)
      | fz d => rw [hd] at h; rw [show Slot.noT (.fz d) = Slot.fz d from rfl, foot_fz] at h; simp at h
      | ownT d => rw [hd] at h; rw [show Slot.noT (.ownT d) = Slot.no from rfl, foot_no] at h; simp at h
    · rw [q, foot_no] at h; simp at h
  · rw [backE_out hj] at h
    exact ⟨h, hj⟩
theorem not_own_wipe {vs : List Nat} {ρ : Env} {σ σ' : L2.St} {H : Hp} {b : Addr} (e : wipe σ' vs = wipe σ vs) (h : ¬ OwnOf H ρ σ' b) : ¬ OwnOf H (wipeE vs ρ) (wipe σ vs) b := fun ⟨i, e1⟩ => by
  by_cases hi : i ∈ vs
  · rw [wipeE_in hi, foot_no] at e1; simp at e1
  · rw [wipeE_out hi, ← e, wipe_out' hi] at e1
    exact h ⟨i, e1⟩
/-- the loop of a comprehension -/
theorem lc_of {it : DI} {t : Tgt} {tt : DT} {g : DE} {vs : List Nat} {TT' : TT} {TE' : TE} (h1 : ∀ i ∈ t.is, i ∈ vs) (h2 : ∀ i ∈ t.is, i ∉ M) (hM : ∀ i ∈ M, i ∉ vs) {H : Hp} {Q : VK}
    (h : lE X.K T B M W (dLc vs it t.g tt g) σ H Q) (hT : TT' = lTx X.K T M noE tt) (hE : TE' = lEx X.K T M noE g) :
    tLc (lI X.K T B M W it) (t.h X.K) TT' TE' vs σ H Q := by
  obtain ⟨F, ρ, Qd, S, h, k⟩ := h
  refine ⟨F, ρ, _, S, h, fun F1 H1 ρ1 xs J e1 S1 io q D' hD => ?_⟩
  obtain ⟨hv, q⟩ := q
  refine ⟨fun i m H' => m = xs.length - i ∧ i ≤ xs.length ∧ ∃ F' ρ' acc as, Same F1 F' ∧ SR X.K T B M F' H' ρ' (wipe σ vs) ∧ (H' D' = some (.lst acc) ∧ F' D' = none ∧ ¬ OwnOf H' ρ' (wipe σ vs) D' ∧ B.H0 D' = none) ∧ RepL X.K T F' acc as ∧
    lcL vs t.g tt g (fun acc ρ2 => Qd (.fr (.lst acc)) (backE vs ρ1 ρ2)) (xs.drop i) as ρ', ⟨xs.length, by simp, Nat.zero_le _, F1, _, [], [], Same.refl _, (S1.lay hD).wipe hM, ⟨upd_same, S1.sub.free hD, ?_, S1.gone hD⟩, .nil, q⟩, ?_⟩
  · rintro ⟨i, e2⟩
    have S0 := S1.wipe hM
    rw [S0.footEq (fun i a ha => upd_ne ((S0.priv ha).ne hD)) i] at e2
    exact (S0.priv e2).ne hD rfl
  rintro i m H' ⟨rfl, hi, F', ρ', acc, as, e2, S2, ⟨hD1, hD2, hD3, hD4⟩, ra, q2⟩
  by_cases hlt : i < xs.length
  · obtain ⟨go, yl⟩ := (io i F' H' e2 S2.sub.toSmW).1 hlt
    refine .inr ⟨go, fun H3 => ∃ F3 ρ3 acc as, Same F1 F3 ∧ SR X.K T B M F3 H3 ρ3 (wipe σ vs) ∧ (H3 D' = some (.lst acc) ∧ F3 D' = none ∧ ¬ OwnOf H3 ρ3 (wipe σ vs) D' ∧ B.H0 D' = none) ∧ RepL X.K T F3 acc as ∧
      lcL vs t.g tt g (fun acc ρ2 => Qd (.fr (.lst acc)) (backE vs ρ1 ρ2)) (xs.drop (i + 1)) as ρ3, fun H3 hN => ⟨xs.length - (i + 1), by omega, rfl, hlt, hN⟩, fun x H'' hy => ?_⟩
    obtain ⟨r, hx, n⟩ := yl x H'' hy
    have S2b := S2.base
    obtain ⟨S3b, RVb⟩ := S2b.new n
    obtain ⟨F3, e3, S3b, R3⟩ := S3b.fix RVb
    have S3 := S2.trans S3b
    obtain ⟨d1, d2, d3⟩ := S2.loose S3b hD1 hD2 hD3
    rw [drop_at hx] at q2
    have q2 : t.g r.d ρ' (fun ρ1' => tt ρ1' (fun b ρ2 => if b = true then g ρ2 (fun r' ρ3 => as.length < maxTx ∧ lcL vs t.g tt g (fun acc ρ2 => Qd (.fr (.lst acc)) (backE vs ρ1 ρ2)) (xs.drop (i + 1)) (as ++ [r'.d]) (wipeE vs ρ3)) noE
      else lcL vs t.g tt g (fun acc ρ2 => Qd (.fr (.lst acc)) (backE vs ρ1 ρ2)) (xs.drop (i + 1)) as (wipeE vs ρ2)) noE) := q2
    refine Tgt.h_mono (Tgt.of (X := X) (vs := vs) S3.base R3 q2 h1 h2) ?_
    rintro σ2 H2 ⟨hw, rfl, ρ4, S4, q4⟩
    have hw : wipe σ2 vs = wipe σ vs := hw.trans wipe_wipe
    refine ⟨hw, ?_⟩
    rw [hT]
    refine ⟨baseAt B F3 H2 ρ' (wipe σ vs), F3, ρ4, _, S4, q4, fun F5 H5 ρ5 b e5 S5 q5 => ?_⟩
    cases b with
    | false =>
      obtain ⟨l1, l2, l3⟩ := S3.loose S5 d1 d2 d3
      have S6 := (S3.trans S5).wipe hM
      rw [hw] at S6
      exact ⟨F5, _, acc, as, e2.trans (e3.trans e5), S6, ⟨l1, l2, not_own_wipe hw l3, hD4⟩, ra.mono (e3.trans e5), q5⟩
    | true =>
      have q5 : g ρ5 (fun r' ρ3 => as.length < maxTx ∧ lcL vs t.g tt g (fun acc ρ2 => Qd (.fr (.lst acc)) (backE vs ρ1 ρ2)) (xs.drop (i + 1)) (as ++ [r'.d]) (wipeE vs ρ3)) noE := q5
      show TE' σ2 H5 _
      rw [hE]
      refine ⟨baseAt B F3 H2 ρ' (wipe σ vs), lE_run (S5) q5 fun F6 H6 ρ6 v6 r6 e6 S6 R6 q6 => ?_⟩
      obtain ⟨l1, l2, l3⟩ := S3.loose S6 d1 d2 d3
      have S7 := (S3.trans S6).wipe hM
      rw [hw] at S7
      have l3' := not_own_wipe hw l3
      have hno' : ¬ OwnOf (upd H6 D' (.lst (acc ++ [v6]))) (wipeE vs ρ6) (wipe σ vs) D' := fun ⟨i, z⟩ => by
        rw [S7.footEq (fun i a ha => upd_ne fun z => l3' ⟨i, by rw [← z]; exact ha⟩) i] at z
        exact l3' ⟨i, z⟩
      refine ⟨acc, l1, by rw [ra.length, ← maxTx_eq]; exact q6.1, F6, _, _, _, e2.trans (e3.trans (e5.trans e6)), ?_, ⟨upd_same, l2, hno', hD4⟩, (ra.mono (e3.trans (e5.trans e6))).append (.cons R6 .nil), q6.2⟩
      exact S7.storeLoose l1 l2 l3' hD4
  · have e : i = xs.length := by omega
    subst e
    rw [List.drop_length] at q2
    refine .inl ⟨(io _ F' H' e2 S2.sub.toSmW).2 (Nat.le_refl _), ?_⟩
    exact k F' H' _ (.ref D') (.fr (.lst as)) (e1.trans e2) (S1.unwipe hv e2 S2) ⟨D', _, rfl, hD2, hD1, .lst ra, hD4, fun j hj => by
      obtain ⟨z1, z2⟩ := backE_foot hv hj
      exact hD3 ⟨j, by rw [wipe_out' z2]; exact z1⟩⟩ q2
variable {elt tg iter : Expr} {ifs : List Expr} {scope : Scope} {own : List (Str × Nat)} {pos : Pos} {it : DI} {t : Tgt} {tt : DT} {g : DE}
theorem pd_lc (hc : X.calm = true) (hN : X.N.Nodup) (hi : PDI X T B M W tg iter it) (ok : BlkOk X.N X.env.scope scope own) (hv : (t.is.all fun i => (own.map (·.2)).contains i && !M.contains i) = true) (hM : (M.all fun i => !(own.map (·.2)).contains i) = true)
    (hg : ∀ (s : Shared) (H : Hp) (C : Addr) (cl : List (Str × Addr)) (fp : List Addr), PG (X.blk s H scope (compEnvC scope cl C X.env) fp) tg (t.h X.K)) (ht : ∀ (s : Shared) (H : Hp) (C : Addr) (cl : List (Str × Addr)) (fp : List Addr) B, PDTs (X.blk s H scope (compEnvC scope cl C X.env) fp) T B M noE ifs tt)
    (he : ∀ (s : Shared) (H : Hp) (C : Addr) (cl : List (Str × Addr)) (fp : List Addr) B, PD (X.blk s H scope (compEnvC scope cl C X.env) fp) T B M noE elt g) (hs : ∀ x, foldedSetIterable iter X.env x = pure x := by intro _; rfl) :
    PD X T B M W (.ListComp elt [⟨tg, iter, ifs, 0⟩] scope pos) (dLc (own.map (·.2)) it t.g tt g) := by
  have a1 : ∀ i ∈ t.is, i ∈ own.map (·.2) ∧ i ∉ M := fun i h => by
    have := List.all_eq_true.mp hv i h
    rw [Bool.and_eq_true] at this
    exact ⟨by simpa using this.1, by simpa using this.2⟩
  have a2 : ∀ i ∈ M, i ∉ own.map (·.2) := fun i h => by
    have := List.all_eq_true.mp hM i h
    simpa using this
  refine pe_imp (pe_lc (te := lEx X.K T M noE g) (tt := lTx X.K T M noE tt) hc hN hi ok hg (fun s H C cl fp => pts_ex (ht s H C cl fp)) (fun s H C cl fp => pe_ex (he s H C cl fp)) hs) fun σ H Q z => ?_
  exact lc_of (fun i h => (a1 i h).1) (fun i h => (a1 i h).2) a2 z rfl rfl
end
end DL

set_option Elab.async false
set_option linter.all false
set_option autoImplicit false
set_option maxRecDepth 100000
set_option maxHeartbeats 2000000
/-! DLE: own exception classes with one field, over several built-in bases. -/
namespace DLE
open PySem PySem.W PySem.Calls PyProof.Rows PySem.HandSPX Builtin Builtin.ObjectAttr
/-- what is asked of a built-in exception class -/
structure EB (B newId initId : String) (tail : List Value) : Prop where
  facts : ∃ bb, ExcBaseFacts B newId initId bb
  inB : tail.contains (.type B) = true
  inA : tail.contains (.type "AttributeError") = false
  inN : tail.contains (.type "NameError") = false
  pass : ∀ self, refuseLoop self "__setattr__" tail = pure ()
  obj : tail.contains (.type "object") = true
theorem eb_ValueError : EB "ValueError" "ValueError.__new__" "ValueError.__init__" [.type "ValueError", .type "Exception", .type "BaseException", .type "object"] := ⟨⟨_, F.excBase_ValueError⟩, by decide +kernel, by decide +kernel, by decide +kernel, fun self => by kernel_rfl, by decide +kernel⟩
theorem eb_RuntimeError : EB "RuntimeError" "RuntimeError.__new__" "RuntimeError.__init__" [.type "RuntimeError", .type "Exception", .type "BaseException", .type "object"] := ⟨⟨_, F.excBase_RuntimeError⟩, by decide +kernel, by decide +kernel, by decide +kernel, fun self => by kernel_rfl, by decide +kernel⟩
theorem eb_OverflowError : EB "OverflowError" "OverflowError.__new__" "OverflowError.__init__" [.type "OverflowError", .type "ArithmeticError", .type "Exception", .type "BaseException", .type "object"] := ⟨⟨_, F.excBase_OverflowError⟩, by decide +kernel, by decide +kernel, by decide +kernel, fun self => by kernel_rfl, by decide +kernel⟩
theorem eb_LookupError : EB "LookupError" "LookupError.__new__" "LookupError.__init__" [.type "LookupError", .type "Exception", .type "BaseException", .type "object"] := ⟨⟨_, F.excBase_LookupError⟩, by decide +kernel, by decide +kernel, by decide +kernel, fun self => by kernel_rfl, by decide +kernel⟩
theorem eb_KeyError : EB "LookupError" "LookupError.__new__" "LookupError.__init__" [.type "KeyError", .type "LookupError", .type "Exception", .type "BaseException", .type "object"] := ⟨⟨_, F.excBase_LookupError⟩, by decide +kernel, by decide +kernel, by decide +kernel, fun self => by kernel_rfl, by decide +kernel⟩
/-! ### making an exception of an own class, whose base takes __new__ from a base of its own -/
section
variable {nm qn : Str} {C N : Addr} {bs tl bb : List Value} {hd : Bool} {sn : List Str} {sub : List Value} {ab : Bool} {col : Option Bool} {dd : Option Addr} {k0 k1 k2 k3 k5 : Option Value} {B nI iI : String}
theorem kx_check {M : Model} {A : Around} {E : Value → Shared → Prop} {hp : Heap} {g : Array GenState} {d : Drawn} {t : Nat} {os : OsState} (FF : ExcBaseFacts B nI iI bb) (cB : tl.contains (.type B) = true) {more : List Value} {kw : List (Str × Value)} {Q : Unit → Shared → Prop}
    (cC : hp.get? C = some (excClassObj nm qn C N bs tl hd sn sub ab col dd k0 k1 k2 k3 k5 nI)) (fin : Q () ⟨hp, g, d, t, os⟩) : wpAny M A (checkBuiltinCall nI ⟨.ref C :: more, kw⟩) Q E ⟨hp, g, d, t, os⟩ := by
  have c1 : (Value.ref C :: tl).contains (.type B) = true := by rw [List.contains_cons]; rw [cB]; rw [Bool.or_true]
  have st := FF.noStar
  simp only [checkBuiltinCall, FF.newRow, FF.newSplit, FF.newKind]
  repeat (first | (refine wpAny_isSubtype_exc cC ?_; rw [c1]) | refine wpAny_madeBy_exc cC ?_ | refine wpAny_loadPart_at cC ?_ | refine wpAny_staticBase_exc cC ?_ | simp only [bne_self_eq_false, if_false, Bool.false_eq_true] | wp_step)
  exact fin
variable {prog : Program} {w : World} {A : Around} {E : Value → Shared → Prop} {R : Result → Shared → Prop} {hp : Heap} {g : Array GenState} {d : Drawn} {t : Nat} {os : OsState}
theorem kx_new (FF : ExcBaseFacts B nI iI bb) (cB : tl.contains (.type B) = true) (cA : tl.contains (.type "AttributeError") = false) (cN : tl.contains (.type "NameError") = false) {more : List Value} {kw : List (Str × Value)}
    (cC : hp.get? C = some (excClassObj nm qn C N bs tl hd sn sub ab col dd k0 k1 k2 k3 k5 nI))
    (fin : R (.ok (.ret (.ref (hp.objs.size + 1)))) ⟨(hp.push { cls := .type "tuple", data := .seq more.toArray }).push { cls := .ref C, data := .fields #[.ref hp.objs.size, .none, .none, .none, .bool false, .none] }, g, d, t, os⟩) (few : more.length ≤ sizeLine) :
    codeAny (model prog w) A (.builtin nI ⟨.ref C :: more, kw⟩) R ⟨hp, g, d, t, os⟩ := by
  have en := FF.ends
  have c1 : (Value.ref C :: tl).contains (.type B) = true := by rw [List.contains_cons]; rw [cB]; rw [Bool.or_true]
  have c2 : (Value.ref C :: tl).contains (.type "AttributeError") = false := by rw [List.contains_cons]; rw [cA]; rfl
  have c3 : (Value.ref C :: tl).contains (.type "NameError") = false := by rw [List.contains_cons]; rw [cN]; rfl
  refine codeAny_builtinAt FF.entry ?_
  unfold «BaseException.__new__»
  refine PySem.wpAt_bind ?_
  show PySem.wpAt _ _ _ (stack >>= _) _ _ _
  refine PySem.wpAt_bind (PySem.wpAt_stack fun p1 p2 => PySem.wpAt_of_wpAny ?_)
  wp_walk
  refine PySem.wpAt_of_wpAny ?_
  rw [FF.owner]
  repeat (first | with_reducible refine wpAny_loadPart_at cC ?_ | with_reducible refine wpAny_madeHere_exc FF.canon cC ?_ | (with_reducible refine wpAny_isSubtype_exc cC ?_; first | rw [c1] | rw [c2] | rw [c3]) | wp_step)
  show R _ _
  rw [Heap.size_push]
  exact fin
theorem kx_tcall (FF : ExcBaseFacts B nI iI bb) (cB : tl.contains (.type B) = true) (cA : tl.contains (.type "AttributeError") = false) (cN : tl.contains (.type "NameError") = false) {more : List Value} {kw : List (Str × Value)} {fI : Addr} {Q : Fin → Shared → Prop}
    (cC : hp.get? C = some (excClassObj nm qn C N bs tl hd sn sub ab col dd k0 k1 k2 k3 k5 nI))
    (li : W.Looks (model prog w) hp (typeLookup (.ref C) "__init__") (some (.ref fI))) (bi : ∀ self, W.Looks (model prog w) hp (bindSpecial (.ref fI) self) (.ref fI, [self])) (few : more.length ≤ sizeLine)
    (fin : codeAny (model prog w) A (.call (.ref fI) ⟨.ref (hp.objs.size + 1) :: more, kw⟩) (fun r s' => match r with | .ok (.ret v) => v = .none ∧ Q (.done (.ret (.ref (hp.objs.size + 1)))) s' | .ok _ => False | .error e => E e s')
      ⟨(hp.push (W.kdv_tup more)).push (excO C hp.objs.size), g, d, t, os⟩) : wpAny (model prog w) A (Builtin.«type.__call__» ⟨.ref C :: more, kw⟩) Q E ⟨hp, g, d, t, os⟩ := by
  repeat (first | with_reducible refine wpAny_madeBy_exc cC ?_ | with_reducible refine wpAny_loadPart_at cC ?_ | wp_step)
  refine codeAny_call_builtin_code (Code.quiet_builtin _ FF.quiet) (kx_check FF cB cC ?_)
  refine kx_new FF cB cA cN cC ?_ few
  show wpAny _ _ _ _ _ _
  have kk : ∀ b o, hp.get? b = some o → ((hp.push (W.kdv_tup more)).push (excO C hp.objs.size)).get? b = some o := fun b o e => Heap.get?_push_of_some _ (Heap.get?_push_of_some _ e)
  have cC2 := kk _ _ cC
  have got : ((hp.push (W.kdv_tup more)).push (excO C hp.objs.size)).get? (hp.objs.size + 1) = some (excO C hp.objs.size) := by heap_get
  have cc : (Value.ref C :: tl).contains (.ref C) = true := by simp
  have li2 := li.keeps kk
  have bi2 := (bi (.ref (hp.objs.size + 1))).keeps kk
  unfold isInstance
  repeat (first | (with_reducible refine wpAny_isSubtype_exc cC2 ?_; rw [cc]) | with_reducible refine wpAny_loadPart_at got ?_ | wp_step)
  show wpAny _ _ (typeLookup (.ref C) _) _ _ _
  refine li2.at ?_
  refine wpAny_holding (wpAny_bind (bi2.at ?_))
  refine wpAny_bind (wpAny_call (codeAny_mono fin fun r s' y => ?_))
  rcases r with e | (v | _ | _ | _) <;> first
    | exact y
    | exact False.elim y
    | skip
  obtain ⟨rfl, yy⟩ := y
  first
    | exact wpAny_pure (wpAny_pure yy)
    | (wp_walk; exact yy)
theorem kx_call (FF : ExcBaseFacts B nI iI bb) (cB : tl.contains (.type B) = true) (cA : tl.contains (.type "AttributeError") = false) (cN : tl.contains (.type "NameError") = false) {more : List Value} {kw : List (Str × Value)} {fI : Addr}
    (cC : hp.get? C = some (excClassObj nm qn C N bs tl hd sn sub ab col dd k0 k1 k2 k3 k5 nI))
    (li : W.Looks (model prog w) hp (typeLookup (.ref C) "__init__") (some (.ref fI))) (bi : ∀ self, W.Looks (model prog w) hp (bindSpecial (.ref fI) self) (.ref fI, [self])) (few : more.length ≤ sizeLine)
    (fin : codeAny (model prog w) (A.under (.builtin "type.__call__" ⟨.ref C :: more, kw⟩)) (.call (.ref fI) ⟨.ref (hp.objs.size + 1) :: more, kw⟩) (W.InitBack (hp.objs.size + 1) R) ⟨(hp.push (W.kdv_tup more)).push (excO C hp.objs.size), g, d, t, os⟩) :
    codeAny (model prog w) A (.call (.ref C) ⟨more, kw⟩) R ⟨hp, g, d, t, os⟩ := by
  have l1 := tc_lookup
  have l2 := tc_bind (.ref C)
  have ty : (⟨hp, g, d, t, os⟩ : Shared).TypeIs (.ref C) "type" := ⟨_, cC, rfl⟩
  refine codeAny_of_tree ?_
  show wpAny _ _ (callAny (.ref C) _) _ _ _
  repeat (any_goals (first | with_reducible refine wpAny_loadPart_at cC ?_ | assumption | wp_step))
  refine ⟨rfl, ?_⟩
  refine codeAny_call_builtin_at (Code.quiet_builtin _ (by decide +kernel)) entry_typeCall (wpAny_check_type_call_sub cC (kx_tcall FF cB cA cN cC li bi few ?_))
  refine codeAny_mono fin fun r s' y => ?_
  rcases r with e | (v | _ | _ | _) <;> exact y
end
/-! ### the text of __init__(self, f): self.f = f -/
def iA (f : String) (p1 p2 : Pos) : Arguments := { posonlyargs := [], args := [{ arg := "self", annotation := none, pos := p1 }, { arg := f, annotation := none, pos := p2 }], vararg := none, kwonlyargs := [], kw_defaults := [], kwarg := none, defaults := [] }
def iB (f : String) (q1 q2 q3 q4 : Pos) : List Stmt := [.Assign [.Attribute (.Name "self" q1) f q2] (.Name f q3) q4]
def iS (f : String) : Scope := { kind := .function, names := [(PySem.Str.ofString "self", .local), (PySem.Str.ofString f, .local)], isGenerator := false, isCoroutine := false, more := [] }
/-- what the written part says of the class at C, and of its __init__, at fI -/
structure ETxt (K : Frag) (f : String) (newId initId B : String) (tail : List Value) (C fI : Addr) : Prop where
  eb : EB B newId initId tail
  fne : f ≠ "self" ∧ f ≠ "__debug__"
  bd : ∀ (qual : Str) (doc pm : Value) (an : Option Addr) (cdv ct : Value) (p1 p2 q1 q2 q3 q4 : Pos) (a b : Value), bindArgs (fnOf "__init__" qual (iA f p1 p2) (iB f q1 q2 q3 q4) (iS f) .none .none doc pm an cdv ct) ⟨[a, b], []⟩ = pure [(Str.ofString "self", a), (Str.ofString f, b)]
  bdk : ∀ (qual : Str) (doc pm : Value) (an : Option Addr) (cdv ct : Value) (p1 p2 q1 q2 q3 q4 : Pos) (a b : Value), bindArgs (fnOf "__init__" qual (iA f p1 p2) (iB f q1 q2 q3 q4) (iS f) .none .none doc pm an cdv ct) ⟨[a], [(Str.ofString f, b)]⟩ = pure [(Str.ofString "self", a), (Str.ofString f, b)]
  cls : ∃ nm q N bs sn sub ab col dd k0 k1 k2 k3 k5, K.lookup C = some (excClassObj nm q C N bs tail true sn sub ab col dd k0 k1 k2 k3 k5 newId)
  sa : findIn K (.ref C) "__setattr__" = some (some (.builtin "object.__setattr__"))
  ga : findIn K (.ref C) "__getattribute__" = some (some (.builtin "BaseException.__getattribute__"))
  gg : findIn K (.ref C) "__getattr__" = some none
  noN : findIn K (.ref C) f = some none
  iC : findIn K (.ref C) "__init__" = some (some (.ref fI))
  tC : typeIn K (.ref fI) = some (.type "function")
  kC : keepIn K (.ref C) = true
  exC : subIn K (.ref C) (.type "BaseException") = some true
  tyC : typeIn K (.ref C) = some (.type "type")
  hdC : hasDictIn K C = true
  fn : ∃ (qual : Str) (oc : Value) (od : Option Addr) (doc pm : Value) (an : Option Addr) (cdv ct : Value) (osl : Array (Option Value)) (p1 p2 q1 q2 q3 q4 : Pos),
    K.lookup fI = some ⟨oc, od, .func (fnOf "__init__" qual (iA f p1 p2) (iB f q1 q2 q3 q4) (iS f) .none .none doc pm an cdv ct), osl⟩ ∧ codeIn K cdv qual = true
theorem one_size (v : Value) : [v].length ≤ sizeLine := by
  rw [sizeLine_eq]
  exact (by decide : 1 ≤ 16777216)
section
variable {prog : Program} {w : World} {A : Around} {E : Value → Shared → Prop} {R : Result → Shared → Prop} {hp : Heap} {g : Array GenState} {d : Drawn} {t : Nat} {os : OsState}
theorem osa_new {K : W.Frag} {name : Str} {tk : Tok} {v : Value} {x C : Addr} {fv : Array Value} {cd : ClassData} {B newId initId : String} {tail : List Value} (T : EB B newId initId tail)
    (X : K.In hp) (hx : hp.get? x = some { cls := .ref C, data := .fields fv }) (hcd : W.clsIn K C = some cd) (hm : cd.mro = .ref C :: tail) (hh : cd.hasDict = true) (ha : W.findIn K (.ref C) name = some none)
    (hq : ∀ h' tk' dx, (∀ b o, b ≠ x → hp.get? b = some o → h'.get? b = some o) → hp.objs.size ≤ dx → dx ≠ x → h'.get? x = some { cls := .ref C, dict := some dx, data := .fields fv } →
      h'.Ns1 dx (fun y => if y = name then some v else none) → R (.ok (.ret .none)) ⟨h', g, d, tk', os⟩) :
    codeAny (model prog w) A (.call (.builtin "object.__setattr__") ⟨[.ref x, .str name tk, v], []⟩) R ⟨hp, g, d, t, os⟩ := by
  have I : W.InstAt hp x { cls := .ref C, data := .fields fv } C none := ⟨hx, rfl, rfl, trivial⟩
  have SF := F.store_object
  have ne : cd.mro.isEmpty = false := by rw [hm]; rfl
  have hob : cd.mro.contains (.type "object") = true := by rw [hm, List.contains_cons, T.obj, Bool.or_true]
  have hxs : x ≠ hp.objs.size := Nat.ne_of_lt (Heap.lt_size hx)
  have sub : W.Looks (model prog w) hp (isInstance (.ref x) (.type "object")) true := I.type.andThen (W.looks_mroIn X (by unfold W.mroIn; rw [hcd, Option.bind_some, if_neg (by rw [ne]; decide), hob]))
  refine codeAny_call_builtin SF.slot.plain SF.entry (@W.check_slot (model prog w) _ _ ⟨hp, g, d, t, os⟩ "object.__setattr__" "object" "__setattr__" (.ref x) [.str name tk, v] [] _ SF.kind SF.split sub (SF.args (.ref x) (.str name tk) v) ?_)
  have hmr : W.Looks (model prog w) hp (mroOf (.ref C)) cd.mro := (W.looks_clsIn X hcd).andThen .now
  have L3 : W.Looks (model prog w) hp (storeTaker? none) none := .now
  have hcls : W.Looks (model prog w) hp (classData C) cd := W.looks_clsIn X hcd
  rw [W.osa_eq, refuse_eq]
  refine wpAny_bind (wpAny_bind (I.type.at (wpAny_bind (hmr.at ?_))))
  rw [hm, refuseLoop_ref, T.pass]
  refine wpAny_pure (wpAny_bind (I.type.at (wpAny_bind ((W.looks_findIn X ha).at (wpAny_bind (L3.at ?_))))))
  show wpAny _ _ (Builtin.ObjectAttr.storeInOwnDict (.ref x) (.ref C) (.str name tk) name v false) _ _ _
  obtain ⟨nm, bs, mro, ns, qn, hd, sn, sb, ab, col, del⟩ := cd
  dsimp only at hh
  subst hh
  unfold Builtin.ObjectAttr.storeInOwnDict Builtin.ObjectAttr.ownDictForStores
  repeat (first | with_reducible refine store_in_new ?_ ?_ | with_reducible refine wpAny_loadPart_at hx ?_ | with_reducible refine hcls.at ?_ | wp_step)
  · exact ⟨_, #[], _, (Heap.get?_update_ne _ _ _ _ hxs.symm).trans (Heap.get?_push_at rfl rfl), rfl, fun e he => absurd he (by simp), fun _ => rfl⟩
  · intro h' tk' hn' hs
    have hx₁ : (hp.push { cls := .type "dict", data := .dict #[] }).get? x = some { cls := .ref C, data := .fields fv } := Heap.get?_push_of_some _ hx
    refine hq h' tk' hp.objs.size (fun b o hb ho => ?_) (Nat.le_refl _) hxs.symm ?_ hn'
    · exact (hs.2 b (Nat.ne_of_lt (Heap.lt_size ho))).trans ((Heap.get?_update_ne _ _ _ _ hb).trans (Heap.get?_push_of_some _ ho))
    · exact (hs.2 x hxs).trans (Heap.get?_update_self _ hx₁ rfl)
end
theorem ldC {M : Model} {s : Shared} {name : Str} {scope : Scope} {L a : Addr} {cd : Value} {m : Str → Option Value} {x : Str} {pos : Pos} {v : Value} {Q : Value → Shared → Prop} {A : Around} {E : Value → Shared → Prop} (hn : s.heap.Ns L m) (hv : m x = some v) (h : Q v s)
    (hk : scope.kind = .function) (hl : (envOfC name scope L a cd).kindOf x = some .local) (hd : (x == ("__debug__" : Str)) = false) :
    wpAny M A (eval (.Name x pos) (envOfC name scope L a cd)) Q E s := wpAny_Name (wpAny_loadName_local hk hl hn hv h) hd
/-- what __init__ leaves of a fresh exception at x -/
structure InitEnd (f : Str) (h h' : Heap) (x C dx t1 : Addr) (v : Value) : Prop where
  keep : ∀ b o, b ≠ x → h.get? b = some o → h'.get? b = some o
  obj : h'.get? x = some { cls := .ref C, dict := some dx, data := .fields #[.ref t1, .none, .none, .none, .bool false, .none] }
  dbig : h.objs.size ≤ dx
  dne : dx ≠ x
  ns : h'.Ns1 dx (fun y => if y = f then some v else none)
structure OwnMade (f : Str) (h h' : Heap) (e C d : Addr) (v : Value) : Prop where
  keep : ∀ b o, h.get? b = some o → h'.get? b = some o
  new : h.objs.size ≤ e
  obj : ∃ oe vs, h'.get? e = some oe ∧ oe.cls = .ref C ∧ oe.dict = some d ∧ oe.data = .fields vs ∧ vs[1]? = some .none ∧ vs[2]? = some .none ∧ 4 < vs.size
  dbig : h.objs.size ≤ d
  dne : d ≠ e
  ns : h'.Ns1 d (fun y => if y = f then some v else none)
theorem str_ne {a b : String} (h : a ≠ b) : (Str.ofString a) ≠ Str.ofString b := fun e => h (by
  rw [Str.ofString_eq_toList, Str.ofString_eq_toList] at e
  have e2 : a.toList.map Char.toNat = b.toList.map Char.toNat := by
    have := congrArg (fun s => s.cps.toList) e
    simpa using this
  have e3 : a.toList = b.toList := by
    have inj : ∀ {l m : List Char}, l.map Char.toNat = m.map Char.toNat → l = m := by
      intro l
      induction l with
      | nil => intro m h; cases m with
        | nil => rfl
        | cons _ _ => cases h
      | cons c l ih =>
        intro m h
        cases m with
        | nil => cases h
        | cons c' m =>
          have h1 : c.toNat = c'.toNat := List.head_eq_of_cons_eq h
          have h2 := ih (List.tail_eq_of_cons_eq h)
          rw [h2, Char.toNat_inj.mp h1]
    exact inj e2
  exact String.toList_inj.mp e3)
section
variable {prog : Program} {w : World} {A : Around} {E : Value → Shared → Prop} {R : Result → Shared → Prop} {s : Shared} {K : Frag} {f B newId initId : String} {tail : List Value} {C fI : Addr}
theorem own_init (T : ETxt K f newId initId B tail C fI) {x t0 : Addr} {v : Value} {args : Args} (hb : ∀ (qual : Str) (doc pm : Value) (an : Option Addr) (cdv ct : Value) (p1 p2 q1 q2 q3 q4 : Pos), bindArgs (fnOf "__init__" qual (iA f p1 p2) (iB f q1 q2 q3 q4) (iS f) .none .none doc pm an cdv ct) args = pure [(Str.ofString "self", .ref x), (Str.ofString f, v)]) (X : K.In s.heap) (hlim : s.heap.NoLimit) (hx : s.heap.get? x = some (excO C t0)) (hroom : A.depth < recursionLimit)
    (hq : ∀ h' tk dx, InitEnd f s.heap h' x C dx t0 v → R (.ok (.ret .none)) { s with heap := h', toks := tk }) :
    codeAny (model prog w) A (.call (.ref fI) args) R s := by
  obtain ⟨qual, oc, od, doc, pm, an, cdv, ct, osl, p1, p2, q1, q2, q3, q4, ho, hcd⟩ := T.fn
  obtain ⟨nm, q, N, bs, sn, sub, ab, col, dd, k0, k1, k2, k3, k5, hC⟩ := T.cls
  have hcl : clsIn K C = some { name := nm, bases := bs, mro := .ref C :: tail, ns := N, qualname := q, hasDict := true, slotNames := sn, subclasses := sub, abstract := ab, collection := col, hasDel := false } := by unfold clsIn; rw [hC] <;> rfl
  have nfs : Str.ofString f ≠ Str.ofString "self" := str_ne T.fne.1
  have look_self : (iS f).names.lookup (Str.ofString "self") = some .local := by simp [iS, List.lookup]
  have look_f : (iS f).names.lookup (Str.ofString f) = some .local := by
    have : (Str.ofString f == Str.ofString "self") = false := by simpa using nfs
    simp [iS, List.lookup, this]
  have dbg : (Str.ofString f == ("__debug__" : Str)) = false := by
    have := str_ne T.fne.2
    simpa using this
  refine Att.call_fn (binds := [(Str.ofString "self", .ref x), (Str.ofString f, v)]) X hlim ho hcd hroom (BindsTo.of_eq (hb _ _ _ _ _ _ _ _ _ _ _ _)) (by simp [look_self, look_f]) (fun s₁ IC => ?_) rfl rfl rfl
  obtain ⟨h₁, tk₁, rfl⟩ := IC.toInCall.same
  have k : ∀ b o, s.heap.get? b = some o → h₁.get? b = some o := IC.toInCall.keep
  have hn := IC.toInCall.ns
  have hxL : s.heap.objs.size ≠ x := Nat.ne_of_gt (Heap.lt_size hx)
  have X₁ : K.In h₁ := X.keeps k
  have hx₁ := k _ _ hx
  have ks : (envOfC qual (iS f) s.heap.objs.size fI cdv).kindOf (Str.ofString "self") = some .local := look_self
  have kf : (envOfC qual (iS f) s.heap.objs.size fI cdv).kindOf (Str.ofString f) = some .local := look_f
  -- self.f = f
  show wpAny _ _ (execs _ _) _ _ _
  refine wpAny_execs_cons (plainObj_wpAny_Assign_Attribute ?_)
  refine ldC (v := v) hn ?_ (ldC (v := .ref x) hn ?_ ?_ rfl ks rfl) rfl kf dbg
  · unfold bindL
    rw [show bindL (envOfC qual (iS f) s.heap.objs.size fI cdv).kindOf [(Str.ofString f, v)] _ = _ from rfl]
    unfold bindL
    simp [kf, bindL]
  · unfold bindL
    simp [ks, kf, bindL, Ne.symm nfs]
  refine set_plain X₁ (ox := excO C t0) (od := none) ⟨hx₁, rfl, rfl, trivial⟩ T.sa ?_
  refine osa_new T.eb X₁ hx₁ hcl rfl rfl T.noN (fun h₃ tk₃ dx k₃ dn dne hx₃ hn₃ => ?_)
  show wpAny _ _ (execs _ _) _ _ _
  have z : s.heap.objs.size < h₁.objs.size := hn.lt
  exact wpAny_execs_nil (hq h₃ tk₃ dx ⟨fun b o hb e => k₃ b o hb (k b o e), hx₃, Nat.le_of_lt (Nat.lt_of_lt_of_le z dn), dne, hn₃⟩)
theorem own_made (T : ETxt K f newId initId B tail C fI) {v : Value} (X : K.In s.heap) (hlim : s.heap.NoLimit) (hroom : A.depth + 1 < recursionLimit)
    (hq : ∀ h' tk e d, OwnMade f s.heap h' e C d v → R (.ok (.ret (.ref e))) { s with heap := h', toks := tk }) :
    codeAny (model prog w) A (.call (.ref C) ⟨[v], []⟩) R s := by
  obtain ⟨nm, q, N, bs, sn, sub, ab, col, dd, k0, k1, k2, k3, k5, hC⟩ := T.cls
  obtain ⟨hp, g, dr, tk, os⟩ := s
  have k : ∀ b o, hp.get? b = some o → ((hp.push (kdv_tup [v])).push (excO C hp.objs.size)).get? b = some o := fun b o e => Heap.get?_push_of_some _ (Heap.get?_push_of_some _ e)
  have hget : ((hp.push (kdv_tup [v])).push (excO C hp.objs.size)).get? (hp.objs.size + 1) = some (excO C hp.objs.size) := by heap_get
  obtain ⟨bb, FF⟩ := T.eb.facts
  refine kx_call FF T.eb.inB T.eb.inA T.eb.inN (X _ _ hC) (looks_findIn X T.iC) (fun self => bind_fn X self T.tC) (one_size v) ?_
  refine own_init (s := ⟨(hp.push (kdv_tup [v])).push (excO C hp.objs.size), g, dr, tk, os⟩) T (fun _ _ _ _ _ _ _ _ _ _ _ _ => T.bd _ _ _ _ _ _ _ _ _ _ _ _ _ _) (X.keeps k) (hlim.keeps k) hget ?_ fun h' tk' dx ⟨k', hx, dn, dne, hns⟩ => ?_
  · show A.depth + 1 < recursionLimit
    exact hroom
  · have old : ∀ b o, hp.get? b = some o → h'.get? b = some o := fun b o e => k' b o (Nat.ne_of_lt (Nat.lt_succ_of_lt (Heap.lt_size e))) (k b o e)
    have z : hp.objs.size + 1 + 1 ≤ dx := by
      first
        | (simpa only [Heap.size_push] using dn)
        | exact dn
        | (have q := dn; rw [Heap.size_push, Heap.size_push] at q; exact q)
    exact ⟨rfl, hq h' tk' (hp.objs.size + 1) dx ⟨old, Nat.le_succ _, ⟨_, _, hx, rfl, rfl, rfl, rfl, rfl, (by decide : (4 : Nat) < 6)⟩, Nat.le_trans (Nat.le_trans (Nat.le_succ _) (Nat.le_succ _)) z, dne, hns⟩⟩
theorem own_madeK (T : ETxt K f newId initId B tail C fI) {v : Value} (X : K.In s.heap) (hlim : s.heap.NoLimit) (hroom : A.depth + 1 < recursionLimit)
    (hq : ∀ h' tk e d, OwnMade f s.heap h' e C d v → R (.ok (.ret (.ref e))) { s with heap := h', toks := tk }) :
    codeAny (model prog w) A (.call (.ref C) ⟨[], [(Str.ofString f, v)]⟩) R s := by
  obtain ⟨nm, q, N, bs, sn, sub, ab, col, dd, k0, k1, k2, k3, k5, hC⟩ := T.cls
  obtain ⟨hp, g, dr, tk, os⟩ := s
  have k : ∀ b o, hp.get? b = some o → ((hp.push (kdv_tup [])).push (excO C hp.objs.size)).get? b = some o := fun b o e => Heap.get?_push_of_some _ (Heap.get?_push_of_some _ e)
  have hget : ((hp.push (kdv_tup [])).push (excO C hp.objs.size)).get? (hp.objs.size + 1) = some (excO C hp.objs.size) := by heap_get
  obtain ⟨bb, FF⟩ := T.eb.facts
  refine kx_call FF T.eb.inB T.eb.inA T.eb.inN (X _ _ hC) (looks_findIn X T.iC) (fun self => bind_fn X self T.tC) (Nat.zero_le _) ?_
  refine own_init (s := ⟨(hp.push (kdv_tup [])).push (excO C hp.objs.size), g, dr, tk, os⟩) T (fun _ _ _ _ _ _ _ _ _ _ _ _ => T.bdk _ _ _ _ _ _ _ _ _ _ _ _ _ _) (X.keeps k) (hlim.keeps k) hget ?_ fun h' tk' dx ⟨k', hx, dn, dne, hns⟩ => ?_
  · show A.depth + 1 < recursionLimit
    exact hroom
  · have old : ∀ b o, hp.get? b = some o → h'.get? b = some o := fun b o e => k' b o (Nat.ne_of_lt (Nat.lt_succ_of_lt (Heap.lt_size e))) (k b o e)
    have z : hp.objs.size + 1 + 1 ≤ dx := by
      first
        | (simpa only [Heap.size_push] using dn)
        | exact dn
        | (have q := dn; rw [Heap.size_push, Heap.size_push] at q; exact q)
    exact ⟨rfl, hq h' tk' (hp.objs.size + 1) dx ⟨old, Nat.le_succ _, ⟨_, _, hx, rfl, rfl, rfl, rfl, rfl, (by decide : (4 : Nat) < 6)⟩, Nat.le_trans (Nat.le_trans (Nat.le_succ _) (Nat.le_succ _)) z, dne, hns⟩⟩
end
end DLE

set_option Elab.async false
set_option linter.all false
set_option autoImplicit false
set_option maxRecDepth 100000
set_option maxHeartbeats 1000000
/-! DLZ: exceptions in the air: of those whose class is cold the context is known to be None. -/
namespace DL
open PySem PySem.Spec PyProof.Rows L2
/-- a class whose exceptions are raised where nothing is handled -/
def coldK (K : PySem.W.Frag) : Value → Bool
  | .ref C => match PySem.W.clsIn K C with
    | some cd => cd.name != "ParseError"
    | none => true
  | _ => true
/-- behind a call that let an exception out: both of the kit's forms -/
def CZ (K : PySem.W.Frag) (P : Program) (w : World) : CXT := fun outer H s E u s' =>
  L2N.CX P w outer H s (fun c d H' => coldK K c = true ∧ E c d H') u s' ∨ L2.CX P w outer H s (fun c d H' => coldK K c = false ∧ E c d H') u s'
structure Takes (X : Cx) (W : WX) : Prop where
  n : L2N.Takes X (fun c d σ H => coldK X.K c = true ∧ W c d σ H)
  z : L2.Takes X (fun c d σ H => coldK X.K c = false ∧ W c d σ H)
section
variable {X : Cx} {W W' : WX} {E : XK}
theorem Takes.imp (t : Takes X W) (h : ∀ c d σ H, W' c d σ H → W c d σ H) : Takes X W' :=
  ⟨L2N.Takes.imp t.n fun c d σ H q => ⟨q.1, h _ _ _ _ q.2⟩, L2.Takes.imp t.z fun c d σ H q => ⟨q.1, h _ _ _ _ q.2⟩⟩
theorem takes_of (hs : X.stack = X.env :: X.outer) (hf : X.env.frame = some X.env.locals) (hex : X.ex = []) {E₁ : Value → Shared → Prop}
    (hx : X.xe = fun e s' => wpAny (model X.prog X.w) X.A (leaving X.env e) (fun _ s'' => CZ X.K X.prog X.w X.outer X.H_0 X.s_0 E e s'') E₁ s') : Takes X (fun cls d _ H => E cls d H) := by
  refine ⟨fun u s' x => ?_, fun u s' x => ?_⟩
  · rw [hx]
    exact thn (L2N.XE.leave (E := fun c d H' => coldK X.K c = true ∧ E c d H') hs hf hex (fun _ _ _ _ h => h) x) fun _ _ z => .inl z
  · rw [hx]
    exact thn (L2.XE.leave (E := fun c d H' => coldK X.K c = false ∧ E c d H') hs hf hex (fun _ _ _ _ h => h) x) fun _ _ z => .inr z
theorem passAt (tk : Takes X W) (σ : L2.St) : PassesAt (CZ X.K X.prog X.w) X σ (WE W σ) := fun pins H s e s' I c => by
  rcases c with c | c
  · exact L2N.passAt tk.n σ pins H s e s' I c
  · exact L2.passAt tk.z σ pins H s e s' I c
end
end DL

set_option Elab.async false
set_option linter.all false
set_option autoImplicit false
set_option maxRecDepth 100000
/-! DLX9: raise; calls of defs; a def by its body. -/
namespace DL
open PySem PySem.Spec PyProof.Rows L2
theorem relO_f {f : Str} {v : V} {v' : Value} (r : RelV v v') (y : Str) : RelO (List.lookup y [(f, v)]) (if y = f then some v' else none) := by
  by_cases hw : y = f
  · subst hw
    rw [if_pos rfl]
    have q : List.lookup y [(y, v)] = some v := by simp [List.lookup]
    rw [q]
    exact r
  · rw [if_neg hw]
    have qw : (y == f) = false := by simpa using hw
    have q2 : List.lookup y [(f, v)] = none := by simp [List.lookup, qw]
    rw [q2]
    trivial
section
variable {X : Cx} {C fI : Addr} {f B newId initId : String} {tail : List Value}
/-- C(e), an own exception -/
def tMkE (C : Addr) (f : Str) (ta : TA) : L2.St → Hp → XK → Prop := fun σ H Q => ta σ H fun vs H1 => ∃ v, vs = [v] ∧ ∀ d, H1 d = none → Q (.ref C) (some d) (upd H1 d (.xd [(f, v)]))
/-- n.f, n the exception that the suite holds (at a; its class cls, its dict d) -/
def tByE (C : Addr) (f : Str) (a : Addr) (cls : Value) (d : Option Addr) (te : TE) : TE := fun σ H Q => te σ H fun x H1 => x = .ref a ∧ cls = .ref C ∧ ∃ (dd : Addr) (v : V), d = some dd ∧ H1 dd = some (.xd [(f, v)]) ∧ Q v H1
end
section
variable {X : Cx} {T : Tb} {B : Bs} {M : List Nat} {W : EK} {F H : Hp} {ρ : Env} {σ : L2.St}
end
end DL

set_option Elab.async false
set_option linter.all false
set_option autoImplicit false
set_option maxRecDepth 100000
/-! DLG: defs whose callers show no repr (no guard stands on the stack). -/
namespace DL
open PySem PySem.Spec PyProof.Rows L2
/-- room for k levels of calls (one frame each, and room to spare at the end) -/
structure RoomN (k : Nat) (A : Around) : Prop where
  hd : A.handled = none
  dp : A.depth + k + 60 < recursionLimit
  un : A.units + 16 * k + 440 < cLine
/-- room for k levels of calls, and no guard -/
structure RoomG (k : Nat) (A : Around) : Prop where
  rn : RoomN k A
  gd : A.guards = some []
namespace RoomN
variable {k : Nat} {A : Around}
theorem mono {j : Nat} (r : RoomN k A) (h : j ≤ k) : RoomN j A := ⟨r.hd, by have := r.dp; omega, by have := r.un; omega⟩
theorem deeper (r : RoomN (k + 1) A) (env : PySem.Env) : RoomN k (A.deeper env) := ⟨r.hd, by have := r.dp; show A.depth + 1 + k + 60 < _; omega, by have := r.un; show A.units + 3 + 16 * k + 440 < _; omega⟩
theorem depth (r : RoomN k A) : A.depth < recursionLimit := by have := r.dp; omega
end RoomN
namespace RoomG
variable {k : Nat} {A : Around}
theorem rm (r : RoomG k A) : Room 15 A := ⟨r.rn.hd, by have := r.rn.dp; omega, by have := r.rn.un; omega⟩
theorem mono {j : Nat} (r : RoomG k A) (h : j ≤ k) : RoomG j A := ⟨r.rn.mono h, r.gd⟩
theorem deeper (r : RoomG (k + 1) A) (env : PySem.Env) : RoomG k (A.deeper env) := ⟨r.rn.deeper env, r.gd⟩
theorem un0 (r : RoomG k A) : A.units + 200 < cLine := by have := r.rm.un; omega
theorem units (r : RoomG k A) : A.units + 64 < cLine := r.rm.units
end RoomG
/-- a def's promise where no guard stands -/
structure FnG (P : Program) (w : World) (K : PySem.W.Frag) (mg : Str → Option Value) (base : Heap) (CX : CXT) (k : Nat) (f : Addr) (fd : FuncData) (ps : List Str) (sp : Sp) : Prop where
  len : ∀ vs H Q E, sp vs H Q E → vs.length = ps.length
  run : ∀ (A : Around) (outer : List PySem.Env) (s : Shared) (H : Hp) (args : Args) (us : List Value) (vs : List V) (Q : VK) (E : XK), RoomG k A → Env0 P w K mg base A outer s H →
    BindsTo s fd args (ps.zip us) → Vals vs us → sp vs H Q E → codeAny (model P w) A (.call (.ref f) args) (CR CX outer P w H s Q E) s
section
variable {P : Program} {w : World} {K : PySem.W.Frag} {mg : Str → Option Value} {base : Heap} {CX : CXT} {k : Nat} {f : Addr} {fd : FuncData} {ps : List Str} {sp sp' : Sp}
theorem FnG.imp (G : FnG P w K mg base CX k f fd ps sp) (h : ∀ vs H Q E, sp' vs H Q E → sp vs H Q E) : FnG P w K mg base CX k f fd ps sp' where
  len vs H Q E q := G.len vs H Q E (h _ _ _ _ q)
  run A outer s H args us vs Q E hr e0 hb hv hs := G.run A outer s H args us vs Q E hr e0 hb hv (h _ _ _ _ hs)
theorem FnG.of (G : FnOk P w K mg base CX k f fd ps sp) (hk : k ≤ 15 := by decide) : FnG P w K mg base CX k f fd ps sp where
  len := G.len
  run A outer s H args us vs Q E hr := G.run A outer s H args us vs Q E (hr.rm.mono hk)
theorem fnG_of {x qual : Str} {st : Stmt} {N : List Str} (Fn : Fun K x qual st f fd) (S : FnScope N ps (defScope st)) (len : ∀ vs H Q E, sp vs H Q E → vs.length = ps.length)
    (hbody : ∀ (cdv : Value), fd.code = cdv → ∀ (A : Around) (outer : List PySem.Env) (s : Shared) (H : Hp) (vs : List V) (Q : VK) (E : XK), RoomG k (A.deeper (envOfC qual (defScope st) s.heap.objs.size f cdv)) → sp vs H Q E →
      ∃ t, PSs (cxOf (CZ K P w) P w K mg base N qual (defScope st) f cdv A outer s H E) (defBody st) t ∧ t { nx := fun _ H' => Q .non H', rt := Q } (start N vs) H) : FnG P w K mg base (CZ K P w) (k + 1) f fd ps sp := by
  obtain ⟨oc, od, kV, doc, pm, an, cdv, ct, osl, rfl, lk, hcd⟩ := Fn.ex
  refine ⟨len, fun A outer s H args us vs Q E hr e0 hb r hsp => ?_⟩
  refine StX.run_bnd (G := fun vs' H' => vs' = vs ∧ H' = H) lk hcd S (show Room (14 + 1) A from hr.rm) e0 (fun A' Ex Q' h => ?_) fun s2 H2 vs2 g hr2 => ?_
  · exact hb _ _ _ _ (h s H vs us e0 Un.refl rfl (fun e s' z => z) r (len _ _ _ _ hsp) ⟨rfl, rfl⟩)
  · obtain ⟨rfl, rfl⟩ := g
    exact hbody cdv rfl A outer s2 H2 vs2 Q E (hr.deeper _) hsp
end
section
variable {X : Cx} {CX : CXT} {k : Nat} {f : Addr} {fd : FuncData} {ps : List Str} {sp : Sp} {E : L2.St → XK} {x : Str} {p pos : Pos} {e : Expr} {es : List Expr} {t : TA} {σ : L2.St} {H : Hp}
theorem run_fnG {pins : List (Addr × Obj)} {s : Shared} {Q : VK} {us : List Value} {vs : List V} (G : FnG X.prog X.w X.K X.mg X.base CX k f fd ps sp) (hr : RoomG k X.A) (hb : Binds X.K fd ps []) (hx : PassesAt CX X σ (E σ))
    (I : Inv X pins σ H s) (r : Vals vs us) (h : sp vs H Q (E σ)) : wpAny (model X.prog X.w) X.A (call (.ref f) us) (EP X pins σ Q) X.xe s := by
  have hl := G.len _ _ _ _ h
  rw [r.length] at hl
  have bd := hb s us I.kIn (by simpa using hl)
  simp only [List.append_nil] at bd
  refine wpAny_call (codeAny_mono (G.run X.A X.stack s H ⟨us, []⟩ us vs Q (E σ) hr I.env0 bd r h) fun res s' z => ?_)
  match res, z with
  | .error e, z => exact hx pins H s e s' I z
  | .ok (.ret u), z => exact I.after z
theorem pe_callG (G : FnG X.prog X.w X.K X.mg X.base CX k f fd ps sp) (hr : RoomG k X.A) (hg : Gl X x) (hm : X.mg x = some (.ref f)) (hk : PySem.W.keepIn X.K (.ref f) = true) (hb : Binds X.K fd ps []) (hx : ∀ σ, PassesAt CX X σ (E σ))
    (ha : PA X (e :: es) t) (hdb : (x == ("__debug__" : Str)) = false := by decide) (he : starEach (e :: es) X.env = (false, eval e X.env) :: starEach es X.env := by rfl) (hpl : (backTo pos (starEach es X.env)).any (·.1) = false := by rfl) :
    PE X (.Call (.Name x p) (e :: es) [] pos) (tCallS sp E t) where
  run pins s σ H Q I h := by
    refine wpAny_Call_Name_kw (ld_glob I hg hm (PySem.W.callWith_K (h₀ := X.base) I.ok.mod.kin hk (thn (ha.run pos pins s σ H _ I h) ?_) he hpl) hdb)
    rintro us s1 ⟨vs, H1, I1, r, q⟩
    exact ⟨I1.kIn, run_fnG G hr hb (hx σ) I1 r q⟩
end
end DL

set_option Elab.async false
set_option linter.all false
set_option autoImplicit false
set_option maxRecDepth 100000
/-! DLX10: calls of defs; a def by its body. -/
namespace DL
open PySem PySem.Spec PyProof.Rows L2
section
variable (K : PySem.W.Frag) (T : Tb)
/-- an argument as it is handed in -/
def ArgOk (F H : Hp) (v : V) : Slot → Prop
  | .no => True
  | .fz d => Rep K T F v d
  | .own d => ∃ p o, v = .ref p ∧ F p = none ∧ H p = some o ∧ RepO K T F o d ∧ tupB o = false
  | .ownT d => ∃ p o, v = .ref p ∧ F p = none ∧ H p = some o ∧ TreeO K T F H o d ∧ (p :: footO o d).Nodup ∧ tupB o = false
theorem ArgOk.slot {F H : Hp} {v : V} {s : Slot} (h : ArgOk K T F H v s) : SlotOk K T F H (some (some v)) s := by
  cases s with
  | no => trivial
  | fz d => exact ⟨v, rfl, h⟩
  | own d => obtain ⟨p, o, rfl, z⟩ := h; exact ⟨p, o, rfl, z⟩
  | ownT d => obtain ⟨p, o, rfl, z⟩ := h; exact ⟨p, o, rfl, z⟩
theorem ArgOk.of {F H : Hp} {v : V} {s : Slot} (h : SlotOk K T F H (some (some v)) s) : ArgOk K T F H v s := by
  cases s with
  | no => trivial
  | fz d => obtain ⟨v', e, z⟩ := h; cases e; exact z
  | own d => obtain ⟨p, o, e, z⟩ := h; cases e; exact ⟨p, o, rfl, z⟩
  | ownT d => obtain ⟨p, o, e, z⟩ := h; cases e; exact ⟨p, o, rfl, z⟩
/-- the objects that are handed in to be changed -/
def OwnI (H : Hp) (vs : List V) (args : List Slot) (i : Nat) (b : Addr) : Prop := ∃ v s, vs[i]? = some v ∧ args[i]? = some s ∧ b ∈ foot H (some (some v)) s
def OwnA (H : Hp) (vs : List V) (args : List Slot) (b : Addr) : Prop := ∃ i, OwnI H vs args i b
/-- behind a call -/
structure Aft (M : List Nat) (F H : Hp) (vs : List V) (args : List Slot) (F' H' : Hp) (outs : List Slot) : Prop where
  same : Same F F'
  sub : SmB H (OwnA H vs args) F' H'
  keep : ∀ b o, H b = some o → ¬ OwnA H vs args b → (∀ ps, o ≠ .tbl ps) → H' b = some o
  live : ∀ b o, H b = some o → ∃ o', H' b = some o'
  fnew : ∀ b o, F' b = some o → F b = some o ∨ H b = none ∨ OwnA H vs args b ∨ tupB o = true
  len : outs.length = args.length
  out : ∀ i ∈ M, ∀ v s, vs[i]? = some v → outs[i]? = some s → ArgOk K T F' H' v s
  outF : ∀ i ∈ M, ∀ b, OwnI H' vs outs i b → H b = none ∨ OwnI H vs args i b
  outJ : ∀ i ∈ M, ∀ j ∈ M, ∀ b, OwnI H' vs outs i b → OwnI H' vs outs j b → i = j
  tabs : TabsF T.tabs F' H'
/-- a result by itself -/
def RetC (M : List Nat) (vs : List V) (outs : List Slot) (F H H' : Hp) (v : V) : R → Prop
  | .fz d => Rep K T F v d
  | .fr d => ∃ p o, v = .ref p ∧ F p = none ∧ H' p = some o ∧ RepO K T F o d ∧ H p = none ∧ ∀ i ∈ M, ¬ OwnI H' vs outs i p
  | .ft d => ∃ p o, v = .ref p ∧ F p = none ∧ H' p = some o ∧ TreeO K T F H' o d ∧ (p :: footO o d).Nodup ∧ ∀ a ∈ p :: footO o d, H a = none ∧ ∀ i ∈ M, ¬ OwnI H' vs outs i a
/-- a def's promise, from its contract over data -/
def spC (n : Nat) (M : List Nat) (con : Con) : Sp := fun vs H Q E => ∃ F args Qc Ec, vs.length = n ∧ args.length = n ∧ (SmW F H ∧ TabsF T.tabs F H) ∧ (∀ (i : Nat) (v : V) (s : Slot), vs[i]? = some v → args[i]? = some s → ArgOk K T F H v s) ∧
  (∀ (i j : Nat) (p : Addr), OwnI H vs args i p → OwnI H vs args j p → i = j) ∧ (∀ (i : Nat) (p : Addr), OwnI H vs args i p → i ∈ M) ∧ con args Qc Ec ∧
  (∀ F' H' v r outs, Aft K T M F H vs args F' H' outs → RetC K T M vs outs F' H H' v r → Qc r outs → Q v H') ∧
  (∀ F' H' cls d x outs, Aft K T M F H vs args F' H' outs → ExR K T F' cls d x → Ec x outs → E cls d H')
end
/-- a def as callers know it -/
structure Def (P : Program) (w : World) (K : PySem.W.Frag) (mg : Str → Option Value) (base : Heap) (T : Tb) (k : Nat) (f : Addr) (fd : FuncData) (ps : List Str) (M : List Nat) (con : Con) : Prop where
  ok : FnG P w K mg base (CZ K P w) k f fd ps (spC K T ps.length M con)
  kp : PySem.W.keepIn K (.ref f) = true
section
variable {X : Cx} {T : Tb} {B : Bs} {M : List Nat} {W : EK} {F H : Hp} {ρ : Env} {σ : L2.St}
/-! ### arguments -/
def AVs (K : PySem.W.Frag) (T : Tb) (F : Hp) (σ : L2.St) : List V → List AV → Prop
  | [], [] => True
  | v :: vs, .v d :: as => Rep K T F v d ∧ AVs K T F σ vs as
  | v :: vs, .m i :: as => σ[i]? = some (some v) ∧ AVs K T F σ vs as
  | _, _ => False
theorem AVs.mono {K : PySem.W.Frag} {F' : Hp} (h : Same F F') : ∀ {vs : List V} {as : List AV}, AVs K T F σ vs as → AVs K T F' σ vs as
  | [], [], _ => trivial
  | _ :: _, .v _ :: _, q => ⟨q.1.mono h, AVs.mono h q.2⟩
  | _ :: _, .m _ :: _, q => ⟨q.1, AVs.mono h q.2⟩
  | [], _ :: _, q => q.elim
  | _ :: _, [], q => q.elim
/-- which arguments: m-slots as written, ref-like where the def may change -/
def AMatch : List DA → List AV → Prop
  | [], [] => True
  | .v _ :: as, .v _ :: bs => AMatch as bs
  | .r _ :: as, .v d :: bs => d.isRef = true ∧ AMatch as bs
  | .m i :: as, .m j :: bs => i = j ∧ AMatch as bs
  | _, _ => False
def lAV (K : PySem.W.Frag) (T : Tb) (B : Bs) (M : List Nat) (W : EK) (as : List DA) : TA := fun σ H Q => ∃ F ρ Qd, SR K T B M F H ρ σ ∧ dAVs as ρ Qd W ∧ ∀ F' H' ρ' vs bs, Same F F' → SR K T B M F' H' ρ' σ → AVs K T F' σ vs bs → AMatch as bs → Qd bs ρ' → Q vs H'
abbrev PDAV (X : Cx) (T : Tb) (B : Bs) (M : List Nat) (W : EK) (es : List Expr) (as : List DA) : Prop := PA X es (lAV X.K T B M W as)
variable {e : Expr} {es : List Expr} {f : DE} {as : List DA} {pos : Pos}
theorem pav_nil : PDAV X T B M W [] [] := pa_imp pa_nil fun σ H Q ⟨F, ρ, Qd, S, h, k⟩ => k F H ρ [] [] (Same.refl _) S trivial trivial h
theorem pav_v (he : PD X T B M W e f) (hr : PDAV X T B M W es as) (hs : starEach (e :: es) X.env = (false, eval e X.env) :: starEach es X.env := by rfl) : PDAV X T B M W (e :: es) (.v f :: as) :=
  pa_imp (pa_cons he hr hs) fun σ H Q ⟨F, ρ, Qd, S, h, k⟩ => by
    refine lE_run S h fun F1 H1 ρ1 v1 r1 e1 S1 R1 h1 => ?_
    exact ⟨F1, ρ1, _, S1, h1, fun F2 H2 ρ2 vs bs e2 S2 R2 mt h2 => k F2 H2 ρ2 _ (.v r1.d :: bs) (e1.trans e2) S2 ⟨R1.mono e2, R2⟩ mt h2⟩
theorem SR.known {i : Nat} (S : SR X.K T B M F H ρ σ) (h : (ρ.at i).known = true) : ∃ v, σ[i]? = some (some v) := by
  have hs := S.slot i
  cases e : ρ.at i with
  | no => rw [e] at h; cases h
  | fz d => rw [e] at hs; obtain ⟨v, q, _⟩ := hs; exact ⟨v, q⟩
  | own d => rw [e] at hs; obtain ⟨p, o, q, _⟩ := hs; exact ⟨_, q⟩
  | ownT d => rw [e] at hs; obtain ⟨p, o, q, _⟩ := hs; exact ⟨_, q⟩
theorem pav_m {i : Nat} {x : Str} {px : Pos} (hN : X.N[i]? = some x) (hv : Vis X.env.scope x) (hr : PDAV X T B M W es as) (hs : starEach (Expr.Name x px :: es) X.env = (false, eval (.Name x px) X.env) :: starEach es X.env := by rfl) (hd : (x == ("__debug__" : Str)) = false := by decide) (hcd : (x == ("__classdict__" : Str)) = false := by decide) :
    PDAV X T B M W (.Name x px :: es) (.m i :: as) :=
  pa_imp (pa_cons (pe_var hN hv hd hcd) hr hs) fun σ H Q ⟨F, ρ, Qd, S, ⟨h0, h⟩, k⟩ => by
    obtain ⟨v, ev⟩ := S.known h0
    exact ⟨v, ev, F, ρ, _, S, h, fun F2 H2 ρ2 vs bs e2 S2 R2 mt h2 => k F2 H2 ρ2 _ (.m i :: bs) e2 S2 ⟨ev, R2⟩ ⟨rfl, mt⟩ h2⟩
/-! ### what a call leaves -/
theorem AVs.len {K : PySem.W.Frag} : ∀ {vs : List V} {bs : List AV}, AVs K T F σ vs bs → vs.length = bs.length
  | [], [], _ => rfl
  | _ :: _, .v _ :: _, q => congrArg (· + 1) (AVs.len q.2)
  | _ :: _, .m _ :: _, q => congrArg (· + 1) (AVs.len q.2)
  | [], _ :: _, q => q.elim
  | _ :: _, [], q => q.elim
theorem AVs.getV {K : PySem.W.Frag} : ∀ {vs : List V} {bs : List AV} {i : Nat} {v : V} {d : D}, AVs K T F σ vs bs → vs[i]? = some v → bs[i]? = some (.v d) → Rep K T F v d
  | v :: vs, .v d :: bs, 0, _, _, q, h1, h2 => by simp at h1 h2; subst h1; subst h2; exact q.1
  | v :: vs, .m j :: bs, 0, _, _, q, h1, h2 => by simp at h2
  | v :: vs, .v d :: bs, i + 1, _, _, q, h1, h2 => AVs.getV (i := i) q.2 (by simpa using h1) (by simpa using h2)
  | v :: vs, .m j :: bs, i + 1, _, _, q, h1, h2 => AVs.getV (i := i) q.2 (by simpa using h1) (by simpa using h2)
  | [], [], _, _, _, _, h1, _ => by simp at h1
  | [], _ :: _, _, _, _, q, _, _ => q.elim
  | _ :: _, [], _, _, _, q, _, _ => q.elim
theorem AVs.getM {K : PySem.W.Frag} : ∀ {vs : List V} {bs : List AV} {i j : Nat} {v : V}, AVs K T F σ vs bs → vs[i]? = some v → bs[i]? = some (.m j) → σ[j]? = some (some v)
  | v :: vs, .v d :: bs, 0, _, _, q, h1, h2 => by simp at h2
  | v :: vs, .m j :: bs, 0, _, _, q, h1, h2 => by simp at h1 h2; subst h1; subst h2; exact q.1
  | v :: vs, .v d :: bs, i + 1, _, _, q, h1, h2 => AVs.getM (i := i) q.2 (by simpa using h1) (by simpa using h2)
  | v :: vs, .m j :: bs, i + 1, _, _, q, h1, h2 => AVs.getM (i := i) q.2 (by simpa using h1) (by simpa using h2)
  | [], [], _, _, _, _, h1, _ => by simp at h1
  | [], _ :: _, _, _, _, q, _, _ => q.elim
  | _ :: _, [], _, _, _, q, _, _ => q.elim
def mslots (bs : List AV) : List Nat := bs.filterMap fun a => match a with | .m i => some i | _ => none
theorem mem_mslots {bs : List AV} {i j : Nat} (h : bs[i]? = some (.m j)) : j ∈ mslots bs := List.mem_filterMap.mpr ⟨_, List.mem_of_getElem? h, rfl⟩
theorem nodup_m : ∀ {bs : List AV} {i j a : Nat}, (mslots bs).Nodup → bs[i]? = some (.m a) → bs[j]? = some (.m a) → i = j
  | [], _, _, _, _, h, _ => by simp at h
  | .v d :: bs, 0, _, _, _, h, _ => by simp at h
  | .v d :: bs, _, 0, _, _, _, h => by simp at h
  | .v d :: bs, i + 1, j + 1, a, nd, h1, h2 => by
    have nd' : (mslots bs).Nodup := nd
    exact congrArg (· + 1) (nodup_m (i := i) (j := j) nd' (by simpa using h1) (by simpa using h2))
  | .m b :: bs, 0, 0, _, _, _, _ => rfl
  | .m b :: bs, 0, j + 1, a, nd, h1, h2 => by
    have e : b = a := by simpa using h1
    subst e
    have nd' : (b :: mslots bs).Nodup := nd
    exact absurd (mem_mslots (by simpa using h2)) (List.nodup_cons.mp nd').1
  | .m b :: bs, i + 1, 0, a, nd, h1, h2 => by
    have e : b = a := by simpa using h2
    subst e
    have nd' : (b :: mslots bs).Nodup := nd
    exact absurd (mem_mslots (by simpa using h1)) (List.nodup_cons.mp nd').1
  | .m b :: bs, i + 1, j + 1, a, nd, h1, h2 => by
    have nd' : (b :: mslots bs).Nodup := nd
    exact congrArg (· + 1) (nodup_m (i := i) (j := j) (List.nodup_cons.mp nd').2 (by simpa using h1) (by simpa using h2))
theorem AMatch.slots : ∀ {as : List DA} {bs : List AV}, AMatch as bs → mslots bs = as.filterMap DA.slot?
  | [], [], _ => rfl
  | .v _ :: as, .v _ :: bs, h => AMatch.slots (as := as) (bs := bs) h
  | .r _ :: as, .v _ :: bs, h => AMatch.slots (as := as) (bs := bs) h.2
  | .m i :: as, .m j :: bs, h => by
    obtain ⟨rfl, h⟩ := h
    show i :: mslots bs = i :: as.filterMap DA.slot?
    rw [AMatch.slots h]
  | [], _ :: _, h => h.elim
  | .v _ :: _, [], h => h.elim
  | .r _ :: _, [], h => h.elim
  | .m _ :: _, [], h => h.elim
  | .v _ :: _, .m _ :: _, h => h.elim
  | .r _ :: _, .m _ :: _, h => h.elim
  | .m _ :: _, .v _ :: _, h => h.elim
theorem AMatch.len : ∀ {as : List DA} {bs : List AV}, AMatch as bs → as.length = bs.length
  | [], [], _ => rfl
  | .v _ :: as, .v _ :: bs, h => congrArg (· + 1) (AMatch.len (as := as) (bs := bs) h)
  | .r _ :: as, .v _ :: bs, h => congrArg (· + 1) (AMatch.len (as := as) (bs := bs) h.2)
  | .m i :: as, .m j :: bs, h => congrArg (· + 1) (AMatch.len h.2)
  | [], _ :: _, h => h.elim
  | .v _ :: _, [], h => h.elim
  | .r _ :: _, [], h => h.elim
  | .m _ :: _, [], h => h.elim
  | .v _ :: _, .m _ :: _, h => h.elim
  | .r _ :: _, .m _ :: _, h => h.elim
  | .m _ :: _, .v _ :: _, h => h.elim
theorem AMatch.at_m : ∀ {as : List DA} {bs : List AV} {i j : Nat}, AMatch as bs → bs[i]? = some (.m j) → ∃ a, as[i]? = some a ∧ a.mut = true
  | .m a :: as, .m b :: bs, 0, j, h, e => ⟨_, rfl, rfl⟩
  | .v _ :: as, .v _ :: bs, 0, j, h, e => by simp at e
  | .r _ :: as, .v _ :: bs, 0, j, h, e => by simp at e
  | .v _ :: as, .v _ :: bs, i + 1, j, h, e => by simpa using AMatch.at_m (as := as) (bs := bs) (i := i) (j := j) h (by simpa using e)
  | .r _ :: as, .v _ :: bs, i + 1, j, h, e => by simpa using AMatch.at_m (as := as) (bs := bs) (i := i) (j := j) h.2 (by simpa using e)
  | .m _ :: as, .m _ :: bs, i + 1, j, h, e => by simpa using AMatch.at_m (as := as) (bs := bs) (i := i) (j := j) h.2 (by simpa using e)
  | [], [], _, _, _, e => by simp at e
  | [], _ :: _, _, _, h, _ => h.elim
  | .v _ :: _, [], _, _, h, _ => h.elim
  | .r _ :: _, [], _, _, h, _ => h.elim
  | .m _ :: _, [], _, _, h, _ => h.elim
  | .v _ :: _, .m _ :: _, _, _, h, _ => h.elim
  | .r _ :: _, .m _ :: _, _, _, h, _ => h.elim
  | .m _ :: _, .v _ :: _, _, _, h, _ => h.elim
theorem backA_len : ∀ (bs : List AV) (outs : List Slot) (ρ : Env), (backA bs outs ρ).length = ρ.length
  | [], _, _ => rfl
  | .m i :: bs, [], _ => rfl
  | .v _ :: bs, [], _ => rfl
  | .m i :: bs, s :: ss, ρ => by
    show (backA bs ss (ρ.set i s)).length = _
    rw [backA_len bs ss, List.length_set]
  | .v _ :: bs, _ :: ss, ρ => backA_len bs ss ρ
theorem backA_at : ∀ {bs : List AV} {outs : List Slot} {ρ : Env} {j : Nat}, outs.length = bs.length → ((∀ (i : Nat), bs[i]? ≠ some (AV.m j)) ∧ (backA bs outs ρ).at j = ρ.at j) ∨ (∃ (i : Nat), bs[i]? = some (AV.m j) ∧ outs[i]? = some ((backA bs outs ρ).at j)) ∨ (backA bs outs ρ).at j = .no
  | [], _, _, _, _ => .inl ⟨fun i h => by simp at h, rfl⟩
  | _ :: bs, [], _, _, h => by simp at h
  | .v _ :: bs, s :: ss, ρ, j, hl => by
    rcases backA_at (bs := bs) (outs := ss) (ρ := ρ) (j := j) (by simpa using hl) with ⟨h1, h2⟩ | ⟨i, h1, h2⟩ | h
    · refine .inl ⟨fun i => ?_, h2⟩
      cases i with
      | zero => simp
      | succ i => simpa using h1 i
    · exact .inr (.inl ⟨i + 1, by simpa using h1, by rw [List.getElem?_cons_succ]; exact h2⟩)
    · exact .inr (.inr h)
  | .m i :: bs, s :: ss, ρ, j, hl => by
    rcases backA_at (bs := bs) (outs := ss) (ρ := ρ.set i s) (j := j) (by simpa using hl) with ⟨h1, h⟩ | ⟨i', h1, h2⟩ | h
    · have e : (backA (.m i :: bs) (s :: ss) ρ).at j = Env.at (ρ.set i s) j := h
      by_cases hj : i = j
      · subst hj
        by_cases hlt : i < ρ.length
        · rw [Env.at_set_same hlt] at e
          exact .inr (.inl ⟨0, rfl, by rw [e]; rfl⟩)
        · have z : Env.at (ρ.set i s) i = .no := at_oob (by simpa using hlt)
          exact .inr (.inr (e.trans z))
      · rw [Env.at_set_ne hj] at e
        refine .inl ⟨fun i' => ?_, e⟩
        cases i' with
        | zero => intro z; simp at z; exact hj z
        | succ i' => simpa using h1 i'
    · exact .inr (.inl ⟨i' + 1, by simpa using h1, by rw [List.getElem?_cons_succ]; exact h2⟩)
    · exact .inr (.inr h)
theorem OwnI.arg {H : Hp} {σ : L2.St} {vs : List V} {bs : List AV} {K : PySem.W.Frag} {F : Hp} (R : AVs K T F σ vs bs) {i : Nat} {b : Addr} (h : OwnI H vs (bs.map (avSlot ρ)) i b) : ∃ j, bs[i]? = some (.m j) ∧ b ∈ foot H (σ[j]?) (ρ.at j) := by
  obtain ⟨v, s, h1, h2, h3⟩ := h
  rw [List.getElem?_map] at h2
  cases e : bs[i]? with
  | none => rw [e] at h2; cases h2
  | some a =>
    rw [e] at h2
    cases h2
    cases a with
    | v d => rw [show avSlot ρ (.v d) = Slot.fz d from rfl, foot_fz] at h3; simp at h3
    | m j => exact ⟨j, rfl, by rw [R.getM h1 e]; exact h3⟩
theorem SR.after {Mc : List Nat} {F' H' : Hp} {vs : List V} {bs : List AV} {outs : List Slot} (S : SR X.K T B M F H ρ σ) (R : AVs X.K T F σ vs bs) (hm : ∀ (i j : Nat), bs[i]? = some (.m j) → i ∈ Mc)
    (A : Aft X.K T Mc F H vs (bs.map (avSlot ρ)) F' H' outs) : SR X.K T B M F' H' (backA bs outs ρ) σ := by
  have hlen : outs.length = bs.length := by rw [A.len, List.length_map]
  have valAt : ∀ (i j : Nat), bs[i]? = some (.m j) → ∃ v, vs[i]? = some v ∧ σ[j]? = some (some v) := fun i j h => by
    have hi : i < bs.length := (List.getElem?_eq_some_iff.mp h).1
    have hv : i < vs.length := by rw [R.len]; exact hi
    exact ⟨_, List.getElem?_eq_getElem hv, R.getM (List.getElem?_eq_getElem hv) h⟩
  -- what is handed in to be changed is own
  have ownA : ∀ b, OwnA H vs (bs.map (avSlot ρ)) b → ∃ j, b ∈ foot H (σ[j]?) (ρ.at j) := fun b ⟨i, h⟩ => by
    obtain ⟨j, _, h⟩ := OwnI.arg R h
    exact ⟨j, h⟩
  -- names that were not handed in keep their objects
  have stay : ∀ j, (∀ (i : Nat), bs[i]? ≠ some (AV.m j)) → ∀ a ∈ foot H (σ[j]?) (ρ.at j), F' a = none ∧ H' a = H a := fun j hin a ha => by
    have nA : ¬ OwnA H vs (bs.map (avSlot ρ)) a := fun ⟨i, z⟩ => by
      obtain ⟨l, z1, z2⟩ := OwnI.arg R z
      exact hin i (by rw [z1, S.injF j l a ha z2])
    obtain ⟨f, o, e, m, _⟩ := S.priv ha
    refine ⟨?_, by rw [e]; exact A.keep a o e nA m⟩
    cases y : F' a with
    | none => rfl
    | some u =>
      rcases A.fnew a u y with r | r | r | r
      · rw [f] at r; cases r
      · rw [e] at r; cases r
      · exact absurd r nA
      · have w := A.sub.up y r
        rw [A.keep a o e nA m] at w
        cases w
        rw [S.notup ha e] at r
        cases r
  -- where a footprint behind the call comes from
  have back : ∀ j a, a ∈ foot H' (σ[j]?) ((backA bs outs ρ).at j) → ((∀ (i : Nat), bs[i]? ≠ some (AV.m j)) ∧ a ∈ foot H (σ[j]?) (ρ.at j)) ∨ ∃ i, bs[i]? = some (.m j) ∧ OwnI H' vs outs i a := fun j a ha => by
    rcases backA_at (bs := bs) (outs := outs) (ρ := ρ) (j := j) hlen with ⟨h1, q⟩ | ⟨i, h1, h2⟩ | q
    · rw [q, foot_eq fun b hb => (stay j h1 b hb).2] at ha
      exact .inl ⟨h1, ha⟩
    · obtain ⟨v, hv, hs⟩ := valAt i j h1
      rw [hs] at ha
      exact .inr ⟨i, h1, v, _, hv, h2, ha⟩
    · rw [q, foot_no] at ha; simp at ha
  refine ⟨S.sub.after A.sub A.fnew, fun b o e n m => ?_, fun b o e => ?_, S.f0.trans A.same, fun b o e => ?_, by rw [backA_len, S.len], fun j => ?_, fun j a ha => ?_, fun j k a e1 e2 => ?_, S.pin, A.tabs⟩
  · refine A.keep b o (S.keep b o e n m) (fun z => ?_) m
    obtain ⟨j, z1⟩ := ownA b z
    rcases S.newO z1 with q | q
    · rw [q] at e; cases e
    · exact n q
  · obtain ⟨o', e'⟩ := S.live b o e
    exact A.live b o' e'
  · rcases A.fnew b o e with q | q | q | q
    · exact S.fnew b o q
    · exact .inr (.inl (S.gone q))
    · obtain ⟨j, z1⟩ := ownA b q
      exact .inr ((S.newO z1).elim .inl fun z => .inr (.inl z))
    · exact .inr (.inr (.inr q))
  · rcases backA_at (bs := bs) (outs := outs) (ρ := ρ) (j := j) hlen with ⟨hin, q⟩ | ⟨i, h1, h2⟩ | q
    · rw [q]
      exact (S.slot j).mono A.same (stay j hin)
    · obtain ⟨v, hv, hs⟩ := valAt i j h1
      rw [hs]
      exact (A.out i (hm i j h1) v _ hv h2).slot
    · rw [q]; trivial
  · rcases back j a ha with ⟨_, q⟩ | ⟨i, h1, q⟩
    · exact S.newF j a q
    · rcases A.outF i (hm i j h1) a q with z | z
      · exact .inl (S.gone z)
      · obtain ⟨l, z1, z2⟩ := OwnI.arg R z
        rw [h1] at z1
        cases z1
        exact S.newF _ a z2
  · have excl : ∀ j k i, (∀ (i : Nat), bs[i]? ≠ some (AV.m j)) → a ∈ foot H (σ[j]?) (ρ.at j) → bs[i]? = some (.m k) → OwnI H' vs outs i a → False := fun j k i h1 q1 h2 q2 => by
      rcases A.outF i (hm i k h2) a q2 with z | z
      · exact (S.priv q1).ne z rfl
      · obtain ⟨l, z1, z2⟩ := OwnI.arg R z
        exact h1 i (by rw [z1, S.injF j l a q1 z2])
    rcases back j a e1 with ⟨h1, q1⟩ | ⟨i1, h1, q1⟩ <;> rcases back k a e2 with ⟨h2, q2⟩ | ⟨i2, h2, q2⟩
    · exact S.injF j k a q1 q2
    · exact (excl j k i2 h1 q1 h2 q2).elim
    · exact (excl k j i1 h2 q2 h1 q1).elim
    · have := A.outJ i1 (hm i1 j h1) i2 (hm i2 k h2) a q1 q2
      subst this
      rw [h1] at h2
      exact AV.m.inj (Option.some.inj h2)
/-! ### the call -/
/-- the def's arguments fit its places that may be changed -/
def fitA (as : List DA) (Mc : List Nat) : Bool := decide ((as.filterMap DA.slot?).Nodup) && (List.range as.length).all fun i => match as[i]? with
  | some a => a.mut == Mc.contains i
  | none => true
theorem fitA_of {as : List DA} {bs : List AV} {Mc : List Nat} (h : fitA as Mc = true) (m : AMatch as bs) : (mslots bs).Nodup ∧ ∀ (i j : Nat), bs[i]? = some (.m j) → i ∈ Mc := by
  unfold fitA at h
  rw [Bool.and_eq_true] at h
  refine ⟨by rw [m.slots]; exact of_decide_eq_true h.1, fun i j e => ?_⟩
  obtain ⟨a, h1, h2⟩ := m.at_m e
  have hi := (List.getElem?_eq_some_iff.mp h1).1
  have := List.all_eq_true.mp h.2 i (List.mem_range.mpr hi)
  rw [h1] at this
  simp only [h2, beq_iff_eq] at this
  simpa using this.symm
theorem call_of {con : Con} {as : List DA} {n : Nat} {Mc : List Nat} {H : Hp} {Q : VK} (hn : as.length = n) (hf : fitA as Mc = true) (h : lE X.K T B M W (dCall con as) σ H Q) :
    lAV X.K T B M W as σ H fun vs H1 => spC X.K T n Mc con vs H1 Q (WE (lW X.K T B M W) σ) := by
  obtain ⟨F, ρ, Qd, S, h, k⟩ := h
  refine ⟨F, ρ, _, S, h, fun F1 H1 ρ1 vs bs e1 S1 R1 mt q => ?_⟩
  obtain ⟨ok, q⟩ := q
  obtain ⟨nd, hm⟩ := fitA_of hf mt
  have hlen : vs.length = n := by rw [R1.len, ← mt.len, hn]
  have argAt : ∀ (i : Nat), (bs.map (avSlot ρ1))[i]? = (bs[i]?).map (avSlot ρ1) := fun i => by rw [List.getElem?_map]
  refine ⟨F1, bs.map (avSlot ρ1), _, _, hlen, by rw [List.length_map, ← mt.len, hn], ⟨S1.sub, S1.tabs⟩, fun i v s h1 h2 => ?_, fun i j p h1 h2 => ?_, fun i p h1 => ?_, q, fun F2 H2 v r outs A R q2 => ?_, fun F2 H2 cls d x outs A ex q2 => ?_⟩
  · rw [argAt] at h2
    cases e : bs[i]? with
    | none => rw [e] at h2; cases h2
    | some a =>
      rw [e] at h2
      cases h2
      cases a with
      | v d => exact R1.getV h1 e
      | m j =>
        have hs := S1.slot j
        rw [R1.getM h1 e] at hs
        exact ArgOk.of _ _ hs
  · obtain ⟨a, e1, f1⟩ := OwnI.arg R1 h1
    obtain ⟨b, e2, f2⟩ := OwnI.arg R1 h2
    have := S1.injF a b p f1 f2
    subst this
    exact nodup_m nd e1 e2
  · obtain ⟨a, e1, f1⟩ := OwnI.arg R1 h1
    exact hm i a e1
  · have S2 := S1.after R1 hm A
    refine k F2 H2 _ v r (e1.trans A.same) S2 ?_ q2
    have hlen2 : outs.length = bs.length := by rw [A.len, List.length_map]
    have nof : ∀ a, H1 a = none → (∀ i ∈ Mc, ¬ OwnI H2 vs outs i a) → ∀ j, a ∉ foot H2 (σ[j]?) ((backA bs outs ρ1).at j) := fun a ha hno j hj => by
      rcases backA_at (bs := bs) (outs := outs) (ρ := ρ1) (j := j) hlen2 with ⟨h1, y⟩ | ⟨i, y1, y2⟩ | y
      · have stay : ∀ b ∈ foot H1 (σ[j]?) (ρ1.at j), H2 b = H1 b := fun b hb => by
          obtain ⟨f, o, e, m, _⟩ := S1.priv hb
          rw [e]
          refine A.keep b o e (fun ⟨i, z⟩ => ?_) m
          obtain ⟨l, z1, z2⟩ := OwnI.arg R1 z
          exact h1 i (by rw [z1, S1.injF j l b hb z2])
        rw [y, foot_eq stay] at hj
        exact (S1.priv hj).ne ha rfl
      · have hi : i < bs.length := (List.getElem?_eq_some_iff.mp y1).1
        have hv : i < vs.length := by rw [R1.len]; exact hi
        have hs := R1.getM (List.getElem?_eq_getElem hv) y1
        rw [hs] at hj
        exact hno i (hm i j y1) ⟨_, _, List.getElem?_eq_getElem hv, y2, hj⟩
      · rw [y, foot_no] at hj; simp at hj
    cases r with
    | fz d => exact R
    | fr d =>
      obtain ⟨p, o, rfl, z1, z2, z3, z4, z5⟩ := R
      exact ⟨p, o, rfl, z1, z2, z3, S1.gone z4, nof p z4 z5⟩
    | ft d =>
      obtain ⟨p, o, rfl, z1, z2, z3, z4, z5⟩ := R
      exact ⟨p, o, rfl, z1, z2, z3, z4, fun a ha => ⟨S1.gone (z5 a ha).1, nof a (z5 a ha).1 (z5 a ha).2⟩⟩
  · exact ⟨F2, _, x, S1.after R1 hm A, ex, q2⟩
variable {k : Nat} {fa : Addr} {fd : FuncData} {ps : List Str} {Mc : List Nat} {con : Con} {x : Str} {p : Pos}
theorem pd_call (G : Def X.prog X.w X.K X.mg X.base T k fa fd ps Mc con) (hr : RoomG k X.A) (tk : Takes X (lW X.K T B M W)) (hg : Gl X x) (hm : X.mg x = some (.ref fa)) (hb : Binds X.K fd ps []) (ha : PDAV X T B M W (e :: es) as) (hn : as.length = ps.length := by rfl) (hf : fitA as Mc = true := by rfl)
    (hdb : (x == ("__debug__" : Str)) = false := by decide) (he : starEach (e :: es) X.env = (false, eval e X.env) :: starEach es X.env := by rfl) (hpl : (backTo pos (starEach es X.env)).any (·.1) = false := by rfl) :
    PD X T B M W (.Call (.Name x p) (e :: es) [] pos) (dCall con as) :=
  pe_imp (pe_callG G.ok hr hg hm G.kp hb (fun σ => passAt tk σ) ha hdb he hpl) fun σ H Q z => call_of hn hf z
/-! ### a def by its body -/
theorem start_at {N : List Str} {vs : List V} {i : Nat} {v : V} (h : vs[i]? = some v) : (L2.start N vs)[i]? = some (some v) := by
  have hi := (List.getElem?_eq_some_iff.mp h).1
  unfold L2.start
  rw [List.getElem?_append_left (by simpa using hi), List.getElem?_map, h]
  rfl
theorem startE_at {n : Nat} {args : List Slot} {i : Nat} : Env.at (startE n args) i = (args[i]?).getD .no := by
  unfold Env.at startE
  by_cases h : i < args.length
  · rw [List.getElem?_append_left h]
  · rw [List.getElem?_append_right (by omega), List.getElem?_eq_none (by omega : args.length ≤ i), List.getElem?_replicate]
    split <;> rfl
end
section
variable {P : Program} {w : World} {K : PySem.W.Frag} {mg : Str → Option Value} {base : Heap} {T : Tb}
/-- the context of a def's body -/
abbrev BX (P : Program) (w : World) (K : PySem.W.Frag) (mg : Str → Option Value) (base : Heap) (N : List Str) (qual : Str) (sc : Scope) (f : Addr) (cdv : Value) (A : Around) (outer : List PySem.Env) (s : Shared) (H : Hp) (E : XK) : Cx := cxOf (CZ K P w) P w K mg base N qual sc f cdv A outer s H E
theorem outsE_len : ∀ (n : Nat) (ρ : Env), (outsE n ρ).length = n
  | 0, _ => rfl
  | n + 1, [] => congrArg (· + 1) (outsE_len n [])
  | n + 1, _ :: ρ => congrArg (· + 1) (outsE_len n ρ)
theorem outsE_at : ∀ {n i : Nat} {ρ : Env}, i < n → (outsE n ρ)[i]? = some (ρ.at i)
  | n + 1, 0, [], _ => rfl
  | n + 1, 0, _ :: _, _ => rfl
  | n + 1, i + 1, [], h => by
    show (outsE n [])[i]? = _
    rw [outsE_at (by omega)]
    rfl
  | n + 1, i + 1, _ :: ρ, h => by
    show (outsE n ρ)[i]? = _
    rw [outsE_at (by omega)]
    rfl
theorem bodyD {code : Value → Prop} {qual : Str} {st : Stmt} {f : Addr} {N ps : List Str} {M : List Nat} {k : Nat} {body : DS} {con : Con} (S : FnScope N ps (defScope st)) (hM : (M.all fun i => decide (i < ps.length)) = true)
    (der : ∀ (cdv : Value), code cdv → ∀ (A : Around) (outer : List PySem.Env) (s : Shared) (H : Hp) (E : XK) (B : Bs) (W : EK), RoomG k (A.deeper (envOfC qual (defScope st) s.heap.objs.size f cdv)) → Takes (BX P w K mg base N qual (defScope st) f cdv A outer s H E) (lW K T B M W) →
      PassesOwn (model P w) (BX P w K mg base N qual (defScope st) f cdv A outer s H E).A (BX P w K mg base N qual (defScope st) f cdv A outer s H E).env (BX P w K mg base N qual (defScope st) f cdv A outer s H E).xe → (∀ k p, B.O1 k p → k ∈ M) →
      PDSs (BX P w K mg base N qual (defScope st) f cdv A outer s H E) T B M W (defBody st) body)
    (h : ∀ args Q E, args.length = ps.length → con args Q E → runD N.length body args Q E) :
    ∀ (cdv : Value), code cdv → ∀ (A : Around) (outer : List PySem.Env) (s : Shared) (H : Hp) (vs : List V) (Q : VK) (E : XK), RoomG k (A.deeper (envOfC qual (defScope st) s.heap.objs.size f cdv)) → spC K T ps.length M con vs H Q E →
      ∃ t, PSs (BX P w K mg base N qual (defScope st) f cdv A outer s H E) (defBody st) t ∧ t { nx := fun _ H' => Q .non H', rt := Q } (start N vs) H := by
  intro cdv hcode A outer s H vs Q E hr hsp
  obtain ⟨F0, args, Qc, Ec, hl, hal, ⟨hsame, htabs⟩, hargs, hinj, hown, hcon, hQ, hE⟩ := hsp
  have hpl : ps.length ≤ N.length := by have := congrArg List.length S.pre; rw [List.length_take] at this; omega
  let B : Bs := ⟨F0, H, OwnI H vs args, fun i => (vs[i]?).getD .non⟩
  have ft : ∀ i a, a ∈ foot H ((L2.start N vs)[i]?) (Env.at (startE N.length args) i) → OwnI H vs args i a := fun i a ha => by
    rw [startE_at] at ha
    by_cases hi : i < args.length
    · have hv : i < vs.length := by omega
      rw [start_at (List.getElem?_eq_getElem hv), List.getElem?_eq_getElem hi] at ha
      exact ⟨_, _, List.getElem?_eq_getElem hv, List.getElem?_eq_getElem hi, ha⟩
    · have z : args[i]? = none := List.getElem?_eq_none (by omega)
      rw [z, show (none : Option Slot).getD .no = .no from rfl, foot_no] at ha
      simp at ha
  have S0 : SR K T B M F0 H (startE N.length args) (L2.start N vs) := by
    refine ⟨hsame.start (fun a o e ⟨i, v, s, h1, h2, h3⟩ => absurd ((((hargs i v s h1 h2).slot).priv a h3).1.symm.trans e) (fun y => nomatch y)), fun b o e _ _ => e, fun b o e => ⟨o, e⟩, Same.refl _, fun b o e => .inl e, ?_, fun i => ?_, fun i a ha => .inr (ft i a ha), fun i j a h1 h2 => hinj i j a (ft i a h1) (ft j a h2), fun i hi => ?_, htabs⟩
    · unfold startE L2.start
      rw [List.length_append, List.length_append, List.length_map, List.length_replicate, List.length_replicate, hal, hl]
    · rw [startE_at]
      by_cases hi : i < args.length
      · rw [List.getElem?_eq_getElem hi]
        have hv : i < vs.length := by omega
        rw [start_at (List.getElem?_eq_getElem hv)]
        exact (hargs i _ _ (List.getElem?_eq_getElem hv) (List.getElem?_eq_getElem hi)).slot
      · have z : args[i]? = none := List.getElem?_eq_none (by omega)
        rw [z]
        trivial
    · have hi' : i < ps.length := of_decide_eq_true (List.all_eq_true.mp hM i hi)
      have hv : i < vs.length := by omega
      rw [start_at (List.getElem?_eq_getElem hv)]
      show _ = some (some ((vs[i]?).getD .non))
      rw [List.getElem?_eq_getElem hv]
      rfl
  have outI : ∀ {F' H' : Hp} {ρ' : Env} {σ' : L2.St}, SR K T B M F' H' ρ' σ' → ∀ i ∈ M, ∀ b, OwnI H' vs (outsE args.length ρ') i b → b ∈ foot H' (σ'[i]?) (ρ'.at i) := fun {F' H' ρ' σ'} S' i hi b ⟨v, s, h1, h2, h3⟩ => by
    have hi' : i < args.length := by rw [hal]; exact of_decide_eq_true (List.all_eq_true.mp hM i hi)
    rw [outsE_at hi'] at h2
    have hp := S'.pin i hi
    have hP : B.P i = v := by show (vs[i]?).getD .non = v; rw [h1]; rfl
    rw [hP] at hp
    rw [hp, Option.some.inj h2]
    exact h3
  have aft : ∀ {F' H' : Hp} {ρ' : Env} {σ' : L2.St}, SR K T B M F' H' ρ' σ' → Aft K T M F0 H vs args F' H' (outsE args.length ρ') := fun {F' H' ρ' σ'} S' => by
    refine ⟨S'.f0, S'.sub, S'.keep, S'.live, S'.fnew, ?_, fun i hi v s hv hs => ?_, fun i hi b hb => S'.newF i b (outI S' i hi b hb), fun i hi j hj b h1 h2 => S'.injF i j b (outI S' i hi b h1) (outI S' j hj b h2), S'.tabs⟩
    · exact outsE_len _ _
    · have hi' : i < args.length := by rw [hal]; exact of_decide_eq_true (List.all_eq_true.mp hM i hi)
      rw [outsE_at hi'] at hs
      have hs' : ρ'.at i = s := Option.some.inj hs
      have hp := S'.pin i hi
      have hP : B.P i = v := by show (vs[i]?).getD .non = v; rw [hv]; rfl
      rw [hP] at hp
      have sl := S'.slot i
      rw [hs', hp] at sl
      exact ArgOk.of _ _ sl
  have ret : ∀ {F' H' : Hp} {ρ' : Env} {σ' : L2.St} {v : V} {r : R}, SR K T B M F' H' ρ' σ' → RetV K T B F' H' ρ' σ' v r → RetC K T M vs (outsE args.length ρ') F' H H' v r := fun {F' H' ρ' σ' v r} S' R => by
    cases r with
    | fz d => exact R
    | fr d =>
      obtain ⟨p, o, z1, z2, z3, z4, z5, z6⟩ := R
      exact ⟨p, o, z1, z2, z3, z4, z5, fun i hi q => z6 i (outI S' i hi p q)⟩
    | ft d =>
      obtain ⟨p, o, z1, z2, z3, z4, z5, z6⟩ := R
      exact ⟨p, o, z1, z2, z3, z4, z5, fun a ha => ⟨(z6 a ha).1, fun i hi q => (z6 a ha).2 i (outI S' i hi a q)⟩⟩
  have hB : ∀ k p, B.O1 k p → k ∈ M := hown
  have body_ok := h args Qc Ec hal hcon
  have tk : Takes (BX P w K mg base N qual (defScope st) f cdv A outer s H E) (lW K T B M fun x ρ => Ec x (outsE args.length ρ)) :=
    Takes.imp (takes_of rfl rfl rfl rfl) fun c d σ' H' ⟨F', ρ', x, S', ex, q⟩ => hE F' H' c d x _ (aft S') ex q
  refine ⟨_, der cdv hcode A outer s H E B _ hr tk (passes_of rfl) hB, F0, _, _, S0, body_ok, fun F' H' ρ' σ' _ S' q => ?_, fun F' H' ρ' σ' v r _ S' R q => ?_, fun _ _ _ _ _ _ q => q, fun _ _ _ _ _ _ q => q⟩
  · exact hQ F' H' .non (.fz .non) _ (aft S') .non q
  · exact hQ F' H' v r _ (aft S') (ret S' R) q
theorem fnD {x qual : Str} {st : Stmt} {f : Addr} {fd : FuncData} {N ps : List Str} {M : List Nat} {k : Nat} {body : DS} {con : Con} (F : Fun K x qual st f fd) (S : FnScope N ps (defScope st)) (hM : (M.all fun i => decide (i < ps.length)) = true)
    (der : ∀ (cdv : Value), fd.code = cdv → ∀ (A : Around) (outer : List PySem.Env) (s : Shared) (H : Hp) (E : XK) (B : Bs) (W : EK), RoomG k (A.deeper (envOfC qual (defScope st) s.heap.objs.size f cdv)) → Takes (BX P w K mg base N qual (defScope st) f cdv A outer s H E) (lW K T B M W) →
      PassesOwn (model P w) (BX P w K mg base N qual (defScope st) f cdv A outer s H E).A (BX P w K mg base N qual (defScope st) f cdv A outer s H E).env (BX P w K mg base N qual (defScope st) f cdv A outer s H E).xe → (∀ k p, B.O1 k p → k ∈ M) →
      PDSs (BX P w K mg base N qual (defScope st) f cdv A outer s H E) T B M W (defBody st) body)
    (h : ∀ args Q E, args.length = ps.length → con args Q E → runD N.length body args Q E) : Def P w K mg base T (k + 1) f fd ps M con :=
  ⟨fnG_of F S (fun vs H Q E ⟨_, _, _, _, hl, _⟩ => hl) (bodyD S hM der h), F.kp⟩
end
end DL

set_option Elab.async false
set_option linter.all false
set_option autoImplicit false
set_option maxRecDepth 100000
/-! DLX11: built-in functions, methods of texts. -/
namespace DL
open PySem PySem.Spec PyProof.Rows L2
section
variable {X : Cx} {T : Tb} {B : Bs} {M : List Nat} {W : EK} {F H : Hp} {ρ : Env} {σ : L2.St}
variable {a b c e : Expr} {f g h : DE} {pos : Pos}
theorem repL1 {K : PySem.W.Frag} {vs : List V} {d : D} (r : RepL K T F vs [d]) : ∃ v, vs = [v] ∧ Rep K T F v d := by
  cases r with
  | cons r rs => cases rs; exact ⟨_, rfl, r⟩
theorem repL2 {K : PySem.W.Frag} {vs : List V} {d e : D} (r : RepL K T F vs [d, e]) : ∃ v w, vs = [v, w] ∧ Rep K T F v d ∧ Rep K T F w e := by
  cases r with
  | cons r rs =>
    obtain ⟨w, rfl, r2⟩ := repL1 rs
    exact ⟨_, w, rfl, r, r2⟩
/-! ### len -/
def rLen (X : Cx) : List V → Hp → VK → Prop := fun xs H Q => (∃ x n, xs = [x] ∧ LenV X.K x H n ∧ Q (.int n) H) ∨ ∃ a kvs, xs = [V.ref a] ∧ Rd H a (.dK kvs) ∧ Q (.int kvs.length) H
theorem call_lenDR {X : Cx} : CallR X (.builtin "len") (fun xs H Q => ∃ a kvs, xs = [V.ref a] ∧ Rd H a (.dK kvs) ∧ Q (.int kvs.length) H) := by
  intro pins s σ H xs us Q I r h
  obtain ⟨a, kvs, rfl, ha, q⟩ := h
  obtain ⟨u, rfl, ru⟩ := vals1 r
  cases ru
  exact d_len I ha fun t s' I' => ⟨.int kvs.length, H, I', ⟨t, rfl⟩, q⟩
theorem call_lenA : CallR X (.builtin "len") (rLen X) := call_len.or call_lenDR
/-- a value's type; a dict with tuples as keys may be locked -/
inductive TyZ (K : PySem.W.Frag) (H : Hp) : V → Value → Prop where
  | x {v : V} {t : Value} (h : TyX K H v t) : TyZ K H v t
  | fT {a : Addr} {o : Obj} {kvs : List (List Key × V)} (e : H a = some (.frz o (.dT kvs))) : TyZ K H (.ref a) (.type "dict")
theorem TyZ.base {K : PySem.W.Frag} {H : Hp} {v : V} {t : Value} (h : TyOf K H v t) : TyZ K H v t := .x (.base h)
def rIsZ (K : PySem.W.Frag) : List V → Hp → VK → Prop := fun xs H Q => ∃ (x c : V) (t u : Value) (b : Bool), xs = [x, c] ∧ ClsV c u ∧ TyZ K H x t ∧ PySem.W.kitOne K t u = some b ∧ Q (.bl b) H
theorem ok_len : DL.FnR X.K T lenF (rLen X) := by
  intro F H vs ds k Q s r ho kk
  cases ds with
  | nil => exact ho.elim
  | cons x rest =>
    cases rest with
    | cons _ _ => exact ho.elim
    | nil =>
      obtain ⟨v, rfl, r1⟩ := repL1 r
      have ho : lenD x k := ho
      cases x with
      | str l =>
        obtain ⟨rfl, z⟩ := r1.str_inv
        exact .inl ⟨_, l.length, rfl, ⟨z.len, (tx_len l).symm⟩, kk _ _ _ (.fz (.int _)) ho⟩
      | lst xs =>
        obtain ⟨p, vs, rfl, hp, ra⟩ := r1.lst_inv
        exact .inl ⟨_, xs.length, rfl, .inl ⟨vs, .of (s _ _ hp), ra.length.symm⟩, kk _ _ _ (.fz (.int _)) ho⟩
      | tup xs =>
        obtain ⟨p, vs, rfl, hp, ra⟩ := r1.tup_inv
        exact .inl ⟨_, xs.length, rfl, .inr ⟨vs, .of (s _ _ hp), ra.length.symm⟩, kk _ _ _ (.fz (.int _)) ho⟩
      | frl xs =>
        obtain ⟨p, vs, rfl, hp, ra⟩ := r1.frl_inv
        exact .inl ⟨_, xs.length, rfl, .inl ⟨vs, s.seq hp, ra.length.symm⟩, kk _ _ _ (.fz (.int _)) ho⟩
      | dct kvs =>
        obtain ⟨p, vs, rfl, hp, ra⟩ := r1.dct_inv
        exact .inr ⟨p, vs, rfl, s.rd hp, by rw [ra.length]; exact kk _ _ _ (.fz (.int _)) ho⟩
      | _ => exact ho.elim
/-! ### lists of one kind -/
theorem repL_ints {K : PySem.W.Frag} : ∀ {bs : List Int} {vs : List V}, RepL K T F vs (bs.map D.int) → vs = bs.map V.int
  | [], _, .nil => rfl
  | b :: bs, _, .cons r rs => by rw [r.int_inv, repL_ints rs]; rfl
def rMaxA (X : Cx) : List V → Hp → VK → Prop := fun xs H Q => (∃ i j, xs = [.int i, .int j] ∧ Q (.int (if j > i then j else i)) H) ∨ rMax X.K xs H Q
def rMinA (X : Cx) : List V → Hp → VK → Prop := fun xs H Q => (∃ i j, xs = [.int i, .int j] ∧ Q (.int (if j < i then j else i)) H) ∨ rMin X.K xs H Q
theorem call_maxA (hc : X.calm = true) : CallR X (.builtin "max") (rMaxA X) := (call_max2 hc).or (cr_max hc)
theorem call_minA (hc : X.calm = true) : CallR X (.builtin "min") (rMinA X) := (call_min2 hc).or (cr_min hc)
theorem ok_max : DL.FnR X.K T maxF (rMaxA X) := by
  intro F H vs ds k Q s r ho kk
  unfold maxF at ho
  split at ho
  · obtain ⟨v, w, rfl, r1, r2⟩ := repL2 r
    exact .inl ⟨_, _, by rw [r1.int_inv, r2.int_inv], kk _ _ _ (.fz (.int _)) ho⟩
  · obtain ⟨ns, rfl, h0, hk⟩ := ho
    obtain ⟨v, rfl, r1⟩ := repL1 r
    obtain ⟨p, us, rfl, hp, ra⟩ := r1.lst_inv
    exact .inr ⟨p, ns, rfl, by rw [← repL_ints ra]; exact .of (s _ _ hp), h0, fun m h1 h2 => kk _ _ _ (.fz (.int _)) (hk m h1 h2)⟩
  · exact ho.elim
theorem ok_min : DL.FnR X.K T minF (rMinA X) := by
  intro F H vs ds k Q s r ho kk
  unfold minF at ho
  split at ho
  · obtain ⟨v, w, rfl, r1, r2⟩ := repL2 r
    exact .inl ⟨_, _, by rw [r1.int_inv, r2.int_inv], kk _ _ _ (.fz (.int _)) ho⟩
  · obtain ⟨ns, rfl, h0, hk⟩ := ho
    obtain ⟨v, rfl, r1⟩ := repL1 r
    obtain ⟨p, us, rfl, hp, ra⟩ := r1.lst_inv
    exact .inr ⟨p, ns, rfl, by rw [← repL_ints ra]; exact .of (s _ _ hp), h0, fun m h1 h2 => kk _ _ _ (.fz (.int _)) (hk m h1 h2)⟩
  · exact ho.elim
def rInt1 : List V → Hp → VK → Prop := fun xs H Q => (∃ i, xs = [.int i] ∧ Q (.int i) H) ∨ ∃ k, xs = [.bl k] ∧ Q (.int (if k then 1 else 0)) H
theorem ok_int : DL.FnR X.K T intF rInt1 := by
  intro F H vs ds k Q s r ho kk
  unfold intF at ho
  split at ho
  · obtain ⟨v, rfl, r1⟩ := repL1 r
    exact .inl ⟨_, by rw [r1.int_inv], kk _ _ _ (.fz (.int _)) ho⟩
  · obtain ⟨v, rfl, r1⟩ := repL1 r
    exact .inr ⟨_, by rw [r1.bl_inv], kk _ _ _ (.fz (.int _)) ho⟩
  · exact ho.elim
/-! ### isinstance -/
def Ty.name : Ty → String
  | .str => "str" | .int => "int" | .bool => "bool" | .list => "list" | .tuple => "tuple" | .dict => "dict"
/-! ### methods of texts -/
def MsR (K : PySem.W.Frag) (T : Tb) (op : Tx → List D → (R → Prop) → Prop) (r : V → List V → Hp → VK → Prop) : Prop :=
  ∀ F H a vs ds k Q, SmW F H → okTx a → RepL K T F vs ds → op a ds k → (∀ v H' t, NewR K T F H v H' t → k t → Q v H') → r (.str (tx a)) vs H Q
open TL in
open TL in
/-! ### * -/
def rMulS : R2 := fun x y H Q => ∃ a n, x = .str a ∧ y = .int n ∧ MulOk a n ∧ Q (.str (Txt.mul a n)) H
theorem op_mulS : OpR X (binaryOp .Mult) rMulS := by
  intro pins s σ H x y v u Q I rx ry h
  obtain ⟨a, n, rfl, rfl, ok, q⟩ := h
  obtain ⟨t, rfl⟩ := rx
  obtain ⟨t', rfl⟩ := ry
  exact SB.mul ok fun t2 k => ⟨.str _, H, I.tok k, ⟨t2, rfl⟩, q⟩
def rMulA (X : Cx) : R2 := fun x y H Q => rI CMul (fun i j => .int (i * j)) x y H Q ∨ rMulS x y H Q ∨ rRep x y H Q
theorem op_mulA : OpR X (binaryOp .Mult) (rMulA X) := op_mul.or (op_mulS.or op_rep)
theorem foldl_cps (x : Array Nat) : ∀ (n : Nat) (acc : Array Nat), (List.replicate n x).foldl (· ++ ·) acc = acc ++ ((List.replicate n x.toList).flatten).toArray
  | 0, acc => by simp
  | n + 1, acc => by
    rw [List.replicate_succ, List.foldl_cons, foldl_cps x n, List.replicate_succ, List.flatten_cons]
    apply Array.toList_inj.mp
    simp
theorem mul_tx (a : Tx) (n : Int) : Txt.mul (tx a) n = tx (List.replicate n.toNat a).flatten := by
  unfold Txt.mul
  by_cases h1 : n < 1
  · rw [if_pos h1]
    have : n.toNat = 0 := by omega
    rw [this]
    rfl
  · rw [if_neg h1]
    by_cases h2 : (n == 1 || (tx a).length == 0) = true
    · rw [if_pos h2]
      rw [Bool.or_eq_true] at h2
      rcases h2 with h | h
      · have : n = 1 := beq_iff_eq.mp h
        subst this
        show tx a = tx (List.replicate 1 a).flatten
        simp
      · have : a = [] := by
          have := (beq_iff_eq.mp h)
          rw [tx_len] at this
          exact List.eq_nil_of_length_eq_zero this
        subst this
        have : (List.replicate n.toNat ([] : Tx)).flatten = [] := by simp
        rw [this]
    · rw [if_neg h2, foldl_cps]
      unfold tx
      simp
theorem okTx.rep {a : Tx} (h : okTx a) {n : Nat} (hl : a.length * n ≤ maxTx) : okTx (List.replicate n a).flatten := by
  refine ⟨fun c hc => ?_, ?_⟩
  · obtain ⟨y, h1, h2⟩ := List.mem_flatten.mp hc
    rw [(List.mem_replicate.mp h1).2] at h2
    exact h.1 c h2
  · rw [List.length_flatten, List.map_replicate, List.sum_replicate_nat, ← maxTx_eq, Nat.mul_comm]
    exact hl
theorem repL_rep {K : PySem.W.Frag} {vs : List V} {xs : List D} (h : RepL K T F vs xs) : ∀ n : Nat, RepL K T F (List.replicate n vs).flatten (List.replicate n xs).flatten
  | 0 => .nil
  | n + 1 => by
    rw [List.replicate_succ, List.replicate_succ, List.flatten_cons, List.flatten_cons]
    exact h.append (repL_rep h n)
theorem mulOk_of {a : Tx} {n : Int} (h1 : -(2 ^ 62) ≤ n) (h2 : n < 2 ^ 62) (h3 : a.length * n.toNat ≤ maxTx) : MulOk (tx a) n := by
  refine ⟨?_, fun hn _ => ?_, fun hn _ => ?_⟩
  · rw [decide_eq_false (by omega), decide_eq_false (by omega)]; decide
  · rw [tx_len]
    have hn' : 0 < n := by omega
    have : ((a.length : Int)) * n ≤ 16777216 := by
      have e : (n.toNat : Int) = n := Int.toNat_of_nonneg (by omega)
      have : ((a.length * n.toNat : Nat) : Int) ≤ 16777216 := Int.ofNat_le.mpr h3
      rw [Int.natCast_mul, e] at this
      exact this
    have : (a.length : Int) ≤ (2 ^ 63 - 1) / n := (Int.le_ediv_iff_mul_le hn').mpr (by omega)
    omega
  · rw [tx_len]
    have e : PySem.Builtin.Str.tooLong (a.length * n.toNat) = decide (a.length * n.toNat > sizeLine) := by
      unfold PySem.Builtin.Str.tooLong
      rfl
    rw [e, decide_eq_false]
    rw [← maxTx_eq]
    omega
theorem ok_mul : OpOk X.K T mulD (rMulA X) := by
  intro F H x y dx dy k Q s rx ry ho kk
  unfold mulD at ho
  split at ho
  · exact .inl ⟨_, _, rx.int_inv, ry.int_inv, ho.1, kk _ _ _ (.fz (.int _)) ho.2⟩
  · obtain ⟨ex, z⟩ := rx.str_inv
    refine .inr (.inl ⟨_, _, ex, ry.int_inv, mulOk_of ho.1.1 ho.1.2.1 ho.1.2.2, ?_⟩)
    rw [mul_tx]
    exact kk _ _ _ (.fz (.str (z.rep ho.1.2.2))) ho.2
  · obtain ⟨p, us, rfl, hp, ra⟩ := rx.lst_inv
    refine .inr (.inr ⟨p, _, us, rfl, ry.int_inv, s _ _ hp, by omega, by omega, by rw [ra.length, ← maxTx_eq]; exact ho.1.2.2, fun q hq => ?_⟩)
    exact kk _ _ _ (.fr hq (.lst (repL_rep ra _))) ho.2
  · exact ho.elim
end
end DL

set_option Elab.async false
set_option linter.all false
set_option autoImplicit false
set_option maxRecDepth 100000
/-! DLX12: own classes: attributes, making, methods. -/
namespace DL
open PySem PySem.Spec PyProof.Rows L2
section
variable {X : Cx} {T : Tb} {B : Bs} {M : List Nat} {W : EK} {F H : Hp} {ρ : Env} {σ : L2.St}
variable {a e : Expr} {es : List Expr} {f g : DE} {fs : List DE} {as : List DA} {pos : Pos}
/-! ### attributes by place -/
/-- what an own class must have for its attributes to be read and stored -/
structure ClD (K : PySem.W.Frag) (T : Tb) (c : Nat) (ci : CI) : Prop where
  at_ : T.cl c = some ci
  nd : ci.names.Nodup
  cls : Cls K ci.addr
end
end DL

set_option Elab.async false
set_option linter.all false
set_option autoImplicit false
set_option maxRecDepth 100000
/-! DLX13: making, methods. -/
namespace DL
open PySem PySem.Spec PyProof.Rows L2
section
variable {X : Cx} {T : Tb} {B : Bs} {M : List Nat} {W : EK} {F H : Hp} {ρ : Env} {σ : L2.St}
variable {a e o : Expr} {es : List Expr} {f g : DE} {fs : List DE} {as : List DA} {pos apos : Pos}
/-- behind a call that changed new objects at most -/
theorem SR.aft {Mc : List Nat} {F' H' : Hp} {vs : List V} {args outs : List Slot} (S : SR X.K T B M F H ρ σ) (A : Aft X.K T Mc F H vs args F' H' outs) (hn : ∀ b, OwnA H vs args b → B.H0 b = none ∧ ∀ i, b ∉ foot H (σ[i]?) (ρ.at i)) : SR X.K T B M F' H' ρ σ ∧ ∀ i, foot H' (σ[i]?) (ρ.at i) = foot H (σ[i]?) (ρ.at i) := by
  have stay : ∀ j, ∀ a ∈ foot H (σ[j]?) (ρ.at j), F' a = none ∧ H' a = H a := fun j a ha => by
    have nA : ¬ OwnA H vs args a := fun z => (hn a z).2 j ha
    obtain ⟨f, o, e, m, _⟩ := S.priv ha
    refine ⟨?_, by rw [e]; exact A.keep a o e nA m⟩
    cases y : F' a with
    | none => rfl
    | some u =>
      rcases A.fnew a u y with r | r | r | r
      · rw [f] at r; cases r
      · rw [e] at r; cases r
      · exact absurd r nA
      · have w := A.sub.up y r
        rw [A.keep a o e nA m] at w
        cases w
        rw [S.notup ha e] at r
        cases r
  have fe := S.footEq fun i a ha => (stay i a ha).2
  refine ⟨⟨S.sub.after A.sub A.fnew, fun b o e n m => ?_, fun b o e => ?_, S.f0.trans A.same, fun b o e => ?_, S.len, fun j => (S.slot j).mono A.same (stay j), fun i a ha => S.newF i a (fe i ▸ ha), fun i j a h1 h2 => S.injF i j a (fe i ▸ h1) (fe j ▸ h2), S.pin, A.tabs⟩, fe⟩
  · refine A.keep b o (S.keep b o e n m) (fun z => ?_) m
    rw [(hn b z).1] at e
    cases e
  · obtain ⟨o', e'⟩ := S.live b o e
    exact A.live b o' e'
  · rcases A.fnew b o e with q | q | q | q
    · exact S.fnew b o q
    · exact .inr (.inl (S.gone q))
    · exact .inr (.inl (hn b q).1)
    · exact .inr (.inr (.inr q))
/-! ### C(..) -/
variable {k : Nat} {fa : Addr} {fd : FuncData} {ps : List Str} {con : Con} {x : Str} {p : Pos}
def tMakeS (C : Addr) (sp : Sp) (E : L2.St → XK) (t : TA) : TE := fun σ H Q => t σ H fun vs H1 => ∀ x dx, H1 x = none → H1 dx = none → dx ≠ x →
  sp (.ref x :: vs) (upd (upd H1 dx (.own x)) x (.ins C dx [])) (fun v H2 => v = .non ∧ Q (.ref x) H2) (E σ)
theorem noOwn {H : Hp} {vs : List V} {ds : List D} (i : Nat) (b : Addr) : ¬ OwnI H vs (ds.map Slot.fz) i b := fun ⟨v, s, h1, h2, h3⟩ => by
  rw [List.getElem?_map] at h2
  cases e : ds[i]? with
  | none => rw [e] at h2; cases h2
  | some d => rw [e] at h2; cases h2; rw [foot_fz] at h3; simp at h3
end
end DL

set_option Elab.async false
set_option linter.all false
set_option autoImplicit false
set_option maxRecDepth 100000
/-! DLX14: static methods, class methods, methods. -/
namespace DL
open PySem PySem.Spec PyProof.Rows L2
/-- C.m is a staticmethod: its record at p, its def at g -/
structure SMet (K : PySem.W.Frag) (C : Addr) (mc : Value) (m : Str) (p g : Addr) : Prop where
  at_ : PySem.W.findCls K (.ref C) mc m = some (.get (.builtin "staticmethod.__get__") (.ref p) .none (.ref C))
  rc : ∃ rest, PySem.W.recIn K p "staticmethod" = some (.ref g :: rest)
section
variable {X : Cx} {T : Tb} {B : Bs} {M : List Nat} {W : EK} {F H : Hp} {ρ : Env} {σ : L2.St}
variable {a e o : Expr} {es : List Expr} {f g : DE} {fs : List DE} {as : List DA} {pos apos : Pos}
variable {k : Nat} {fa C pA : Addr} {mc : Value} {fd : FuncData} {ps : List Str} {con : DL.Con} {x m : Str} {p : Pos} {CX : CXT} {sp : Sp} {E : L2.St → XK} {t : TA} {te : TE} {pl : Sem Bool}
/-! ### over data -/
end
end DL

set_option Elab.async false
set_option linter.all false
set_option autoImplicit false
set_option maxRecDepth 100000
/-! DLX15: what callers know, in short; the law's end. -/
namespace DL
open PySem PySem.Spec PyProof.Rows L2


section
variable (P : Program) (w : World) (K : PySem.W.Frag) (mg : Str → Option Value) (base : Heap) (T : Tb)
/-- a def of the module -/
def Cal (x : Str) (k : Nat) (ps : List Str) (M : List Nat) (con : Con) : Prop := ∃ fa fd, Def P w K mg base T k fa fd ps M con ∧ Binds K fd ps [] ∧ mg x = some (.ref fa)
/-- a method of the class at C -/
def CalM (C : Addr) (m : Str) (k : Nat) (ps : List Str) (M : List Nat) (con : Con) : Prop := ∃ fa fd, Def P w K mg base T k fa fd ps M con ∧ Binds K fd ps [] ∧ Meth K C m fa
def CalS (C : Addr) (m : Str) (k : Nat) (ps : List Str) (M : List Nat) (con : Con) : Prop := ∃ fa fd pA, Def P w K mg base T k fa fd ps M con ∧ Binds K fd ps [] ∧ SMet K C (.type "type") m pA fa
def CalC (C : Addr) (m : Str) (k : Nat) (ps : List Str) (con : Con) : Prop := ∃ fa fd pA, Def P w K mg base T k fa fd ps [] con ∧ Binds K fd ps [] ∧ ClX.CMet K C (.type "type") m pA fa
def CalI (C : Addr) (k : Nat) (ps : List Str) (con : Con) : Prop := ∃ fa fd, Def P w K mg base T k fa fd ps [0] con ∧ Binds K fd ps [] ∧ Mk K C fa
/-- a property that hands out an attribute -/
def CalP (C : Addr) (pn fn : Str) (k : Nat) : Prop := ∃ p gA fd, PropOf K C pn p gA ∧ FnOk P w K mg base (CZ K P w) k gA fd ["self"] (getSp C fn) ∧ Binds K fd ["self"] []
/-- an own exception class -/
def ErrX (x : Str) (c : Nat) : Prop := ∃ f newId initId B tail C fI, DLE.ETxt K f newId initId B tail C fI ∧ T.ex c = some ⟨C, Str.ofString f⟩ ∧ mg x = some (.ref C)
/-- an own class of the module -/
structure Own (x : Str) (c : Nat) (ci : CI) : Prop where
  cl : ClD K T c ci
  rd : ClX.CRead K ci.addr (.type "type")
  mg : mg x = some (.ref ci.addr)
end
section
variable {X : Cx} {T : Tb} {B : Bs} {M : List Nat} {W : EK} {F H : Hp} {ρ : Env} {σ : L2.St}
variable {a e o : Expr} {es : List Expr} {f g : DE} {fs : List DE} {as : List DA} {pos apos : Pos}
variable {k c i j : Nat} {C : Addr} {ci : CI} {ps : List Str} {con : Con} {x m : Str} {p : Pos} {Mc : List Nat} {pl : Sem Bool}
theorem pd_callC (G : Cal X.prog X.w X.K X.mg X.base T x k ps Mc con) (hr : RoomG k X.A) (tk : Takes X (lW X.K T B M W)) (hg : Gl X x) (ha : PDAV X T B M W (e :: es) as) (hn : as.length = ps.length := by rfl) (hf : fitA as Mc = true := by rfl)
    (hdb : (x == ("__debug__" : Str)) = false := by decide) (he : starEach (e :: es) X.env = (false, eval e X.env) :: starEach es X.env := by rfl) (hpl : (backTo pos (starEach es X.env)).any (·.1) = false := by rfl) :
    PD X T B M W (.Call (.Name x p) (e :: es) [] pos) (dCall con as) := by
  obtain ⟨fa, fd, D, hb, hm⟩ := G
  exact pd_call D hr tk hg hm hb ha hn hf hdb he hpl
end
/-! ### the law -/
def lawCon : Con := fun args Q _ => ∃ ns : List Int, ns.length ≤ 63 ∧ args = [.fz (.frl (ns.map .int))] ∧ ∀ outs, Q (.fz (.bl true)) outs
def spLaw (K : PySem.W.Frag) (L : List (Addr × Str)) : Sp := fun vs H Q _ => ∃ (a : Addr) (ns : List Int), vs = [.ref a] ∧ SqL K H a (ns.map V.int) ∧ ns.length ≤ 63 ∧ LamX.Tabs L H ∧ ∀ H', Q (.bl true) H'
/-- without the tables -/
def noT (H : Hp) : Hp := fun b => match H b with
  | some (.tbl _) => none
  | z => z
theorem noT_same (H : Hp) : Same (noT H) H := fun b o e => by
  unfold noT at e
  split at e
  · cases e
  · exact e
theorem noT_none (H : Hp) : ∀ b ps, noT H b ≠ some (.tbl ps) := fun b ps e => by
  unfold noT at e
  split at e
  · cases e
  · rename_i h; exact h ps e
theorem noT_at {H : Hp} {b : Addr} {o : HO} (e : H b = some o) (h : ∀ ps, o ≠ .tbl ps) : noT H b = some o := by
  unfold noT
  rw [e]
  split
  · rename_i ps z; exact absurd (Option.some.inj z) (h ps)
  · rfl
theorem noT_sq {K : PySem.W.Frag} {H : Hp} {a : Addr} {xs : List V} (h : SqL K H a xs) : SqL K (noT H) a xs := by
  rcases h with (h | ⟨o, h⟩) | h
  · exact .inl (.inl (noT_at h fun _ z => nomatch z))
  · exact .inl (.inr ⟨o, noT_at h fun _ z => nomatch z⟩)
  · exact .inr h
theorem ints_rep {K : PySem.W.Frag} {T : Tb} {F : Hp} : ∀ ns : List Int, RepL K T F (ns.map V.int) (ns.map D.int)
  | [] => .nil
  | n :: ns => .cons (.int n) (ints_rep ns)
theorem lawFn {P : Program} {w : World} {K : PySem.W.Frag} {mg : Str → Option Value} {base : Heap} {T : Tb} {k : Nat} {fa : Addr} {fd : FuncData} {x : Str} (G : Def P w K mg base T k fa fd [x] [] lawCon) {L : List (Addr × Str)} (ht : T.tabs = L := by rfl) :
    FnG P w K mg base (CZ K P w) k fa fd [x] (spLaw K L) :=
  G.ok.imp fun vs H Q E ⟨a, ns, e, hs, hl, hT, hq⟩ => by
    subst e
    refine ⟨noT H, [.fz (.frl (ns.map .int))], fun r _ => r = .fz (.bl true), fun _ _ => False, rfl, rfl, ⟨.of (noT_same H), by rw [ht]; exact ⟨hT, noT_none H⟩⟩, fun i v s h1 h2 => ?_, fun i j p h1 => absurd h1 (noOwn (ds := [.frl (ns.map .int)]) i p), fun i p h1 => absurd h1 (noOwn (ds := [.frl (ns.map .int)]) i p), ⟨ns, hl, rfl, fun _ => rfl⟩, fun F' H' v r outs A R q => ?_, fun _ _ _ _ _ _ _ _ q => q.elim⟩
    · cases i with
      | zero =>
        simp at h1 h2
        subst h1; subst h2
        exact .frl (noT_sq hs) (ints_rep ns)
      | succ i => simp at h1
    · subst q
      have : v = .bl true := Rep.bl_inv R
      subst this
      exact hq H'
/-- the abstract heap in which nothing but the script stands, if it is not the module's own -/
def scriptH (vs : List Value) (ns : List Int) (own : Bool) (a : Addr) : Hp := fun b => if own = false ∧ b = a then some (.frz { cls := .type "list", data := .seq vs.toArray } (.lst (ns.map V.int))) else none
theorem scriptH_some {vs : List Value} {ns : List Int} {own : Bool} {a b : Addr} {u : HO} (h : scriptH vs ns own a b = some u) : own = false ∧ b = a ∧ u = .frz { cls := .type "list", data := .seq vs.toArray } (.lst (ns.map V.int)) := by
  unfold scriptH at h
  split at h
  · rename_i q
    cases h
    exact ⟨q.1, q.2, rfl⟩
  · cases h
theorem law_at {P : Program} {w : World} {K : PySem.W.Frag} {mg mb : Str → Option Value} {k : Nat} {fa a : Addr} {fd : FuncData} {x : Str} {s₁ : Shared} {vs : List Value} {ns : List Int}
    (kin : K.In s₁.heap) (gl : s₁.heap.Ns mainGlobals mg) (bi : s₁.heap.Ns builtinsNs mb) (bb : ∀ x : Str, x ≠ "__name__" → mb x = bootBuiltins x) (lim : s₁.heap.NoLimit) (gens : s₁.gens = #[])
    (sc : s₁.heap.get? a = some { cls := .type "list", data := .seq vs.toArray }) (isI : IntsAre vs ns) (few : ns.length ≤ 63) (hr : RoomN k callerA)
    (F : ∀ base : Heap, K.In base → base.Ns mainGlobals mg → FnG P w K mg base (CZ K P w) k fa fd [x] (spLaw K [])) (hbind : ∀ (s : Shared) (u : Value), BindsTo s fd ⟨[u], []⟩ [(x, u)]) :
    codeAny (model P w) callerA (.call (.ref fa) ⟨[.ref a], []⟩) (fun r s' => r = .ok (.ret (.bool true)) ∧ OldK s₁.heap s'.heap ∧ s'.os = s₁.os ∧ AllBare s'.gens) s₁ := by
  have line : ns.length ≤ sizeLine := Nat.le_trans few (by rw [sizeLine_eq]; decide)
  obtain ⟨own, hown⟩ : ∃ own : Bool, own = (K.lookup a).isSome := ⟨_, rfl⟩
  let H : Hp := scriptH vs ns own a
  have H_a : ∀ {b : Addr} {u : HO}, H b = some u → b = a ∧ K.lookup a = none ∧ u = .frz { cls := .type "list", data := .seq vs.toArray } (.lst (ns.map V.int)) := fun {b u} e => by
    obtain ⟨h1, h2, h3⟩ := scriptH_some e
    rw [h1] at hown
    exact ⟨h2, by simpa using hown.symm, h3⟩
  have free : ∀ {b : Addr}, b ≠ a → H b = none := fun {b} hb => by
    cases e : H b with
    | none => rfl
    | some u => exact absurd (H_a e).1 hb
  have seq : SqL K H a (ns.map V.int) := by
    cases ho : own with
    | true =>
      have : (K.lookup a).isSome = true := by rw [← hown, ho]
      obtain ⟨o, hk⟩ := Option.isSome_iff_exists.mp this
      have e := kin a o hk
      rw [sc] at e
      cases e
      have lv : vs.length = ns.length := isI.length
      refine .inr ⟨_, vs.toArray, _, hk, rfl, rfl, rfl, ?_, by simpa using vals_ints isI⟩
      show vs.toArray.size ≤ sizeLine
      rw [List.size_toArray, lv]
      exact line
    | false =>
      refine .inl (.inr ⟨{ cls := .type "list", data := .seq vs.toArray }, ?_⟩)
      show scriptH vs ns own a a = _
      unfold scriptH
      exact if_pos ⟨ho, rfl⟩
  have hok : HOk P w H s₁.heap := fun b u e => by
    obtain ⟨rfl, _, rfl⟩ := H_a e
    exact ⟨sc, by rw [List.length_map]; exact line, vs, _, vals_ints isI, sc⟩
  have tabs : ∀ {b : Addr} {o : Obj} {es : Array DictEntry} {ep : Nat}, s₁.heap.get? b = some o → o.data = .dict es ep → H b = none := fun {b o es ep} e d => free fun hb => by
    subst hb
    rw [sc] at e
    cases e
    exact Data.noConfusion (show Data.seq vs.toArray _ = Data.dict es ep from d)
  have keepNs : ∀ {b : Addr} {m : Str → Option Value}, s₁.heap.Ns b m → (hidT s₁.heap H).Ns b m := fun {b m} ⟨o, es, ep, e, d, r⟩ => ⟨o, es, ep, hidT_get e (tabs e d), d, r⟩
  have kin2 : K.In (hidT s₁.heap H) := fun b o e => hidT_get (kin b o e) (by
    cases q : H b with
    | none => rfl
    | some u =>
      obtain ⟨rfl, hk, _⟩ := H_a q
      rw [hk] at e
      cases e)
  have md : Mod K mg (hidT s₁.heap H) := ⟨kin2, keepNs gl, ⟨mb, keepNs bi, bb⟩, let ⟨mc, h1, h2⟩ := lim; ⟨mc, keepNs h1, h2⟩⟩
  have start : Env0 P w K mg (hidT s₁.heap H) callerA [] s₁ H := ⟨rfl, md, fun b o e => of_hidT e, Nat.le_of_eq (hidT_size _ _), trivial, (fun b hb => absurd (show b ∈ ([] : List Addr) from hb) List.not_mem_nil), hok, .of_eq gens⟩
  refine codeAny_mono ((F _ kin2 (keepNs gl)).run callerA [] s₁ H ⟨[.ref a], []⟩ [.ref a] [.ref a] (fun v _ => v = .bl true) (fun _ _ _ => False) ⟨hr, rfl⟩ start (hbind s₁ (.ref a)) (.cons rfl .nil) ⟨a, ns, rfl, seq, few, (fun p hp => nomatch hp), fun _ => rfl⟩) fun r s' z => ?_
  match r, z with
  | .error e, .inl ⟨_, _, _, _, _, _, _, _, _, _, _, _, q⟩ => exact q.2.elim
  | .error e, .inr ⟨_, _, _, _, _, _, _, _, _, _, _, _, q⟩ => exact q.2.elim
  | .ok (.ret u), ⟨v, H', os, bare, un, hok', rv, q⟩ =>
    have q : v = .bl true := q
    subst q
    cases (show u = Value.bool true from rv)
    refine ⟨rfl, OldK.of_keep fun b o e => ?_, os, bare⟩
    cases hb : H b with
    | none => exact un.keep b o e hb (fun z => absurd (show b ∈ ([] : List Addr) from z) List.not_mem_nil) List.not_mem_nil
    | some u =>
      obtain ⟨rfl, _, rfl⟩ := H_a hb
      obtain ⟨now, _⟩ := hok' _ _ (un.frzs _ _ _ hb)
      rw [sc] at e
      cases e
      exact now
theorem walkD {l : PySem.W.OpenLaw} {q : Program} {loose : List Str} {XP : (Str → Option Value) → Heap → Prop} {YP : World → Heap → Prop} {d : DefRec} {K : Params → PySem.W.Frag} {k : Nat} {x : Str} (hn : l.most = some 63) (hdf : d.params.defaults = []) (hk : RoomN k callerA)
    (hY : ∀ (w : World) (h : Heap), YP w h → (K w.params).In h)
    (F : ∀ (w : World) (mg : Str → Option Value) (fa : Addr) (h : Heap), (K w.params).In h → h.Ns mainGlobals mg → mg d.name = some (.ref fa) →
      ∃ fd : FuncData, (∀ (s : Shared) (u : Value), BindsTo s fd ⟨[u], []⟩ [(x, u)]) ∧ ∀ base : Heap, (K w.params).In base → base.Ns mainGlobals mg → FnG l.prog w (K w.params) mg base (CZ (K w.params) l.prog w) k fa fd [x] (spLaw (K w.params) [])) :
    PySem.W.WalkO q loose XP YP l.row.toRowW d [] (fun f vs => PySem.call f vs) := by
  refine Att.attach_call hn hdf fun w s₀ s₁ mg mb fa o pm cd doc a vs ns gr y _ _ _ hmg sc isI few gens => ?_
  obtain ⟨fd, hb, hF⟩ := F w mg fa _ (hY w _ y) gr.T.g hmg
  exact law_at (hY w _ y) gr.T.g gr.T.b gr.T.builtins gr.T.nolimit gens sc isI few hk hF hb
end DL

set_option Elab.async false
set_option linter.all false
set_option autoImplicit false
set_option maxRecDepth 100000
/-! DLX17: isinstance with an own class. -/
namespace DL
open PySem PySem.Spec PyProof.Rows L2
/-- isinstance's word of an own class -/
structure KitC (K : PySem.W.Frag) (C : Addr) : Prop where
  self : PySem.W.kitOne K (.ref C) (.ref C) = some true
  non : PySem.W.kitOne K (.type "NoneType") (.ref C) = some false
  bl : PySem.W.kitOne K (.type "bool") (.ref C) = some false
  int : PySem.W.kitOne K (.type "int") (.ref C) = some false
  str : PySem.W.kitOne K (.type "str") (.ref C) = some false
  lst : PySem.W.kitOne K (.type "list") (.ref C) = some false
  tup : PySem.W.kitOne K (.type "tuple") (.ref C) = some false
  dct : PySem.W.kitOne K (.type "dict") (.ref C) = some false
  at_ : PySem.W.findIn K (.ref C) "__class__" = some (some (.builtin "object.__class__"))
  hn : PySem.W.specialIn K (.builtin "object.__class__") "__get__" = some (some (.builtin "getset_descriptor.__get__"))
  tk : PySem.W.takesIn K (.builtin "object.__class__") = some true
  top : PySem.W.mroIn K C (.type "object") = some true
/-- isinstance's word of the other own classes -/
def KitX (K : PySem.W.Frag) (T : Tb) (c : Nat) (C : Addr) : Prop := ∀ c' ci', T.cl c' = some ci' → c' < 1000 → c' ≠ c → Cls K ci'.addr ∧ KitC K ci'.addr ∧ PySem.W.kitOne K (.ref ci'.addr) (.ref C) = some false
section
variable {X : Cx} {T : Tb} {B : Bs} {M : List Nat} {W : EK} {F H : Hp} {ρ : Env} {σ : L2.St} {e : Expr} {f : DE} {pos : Pos}
end
end DL

set_option Elab.async false
set_option linter.all false
set_option autoImplicit false
set_option maxRecDepth 100000
/-! DLX18: try .. except C as e. -/
namespace DL
open PySem PySem.Spec PyProof.Rows L2
/-- the exception's field is seen by the suite as a datum -/
def sTryAs (i c : Nat) (body : DS) (suite : Exc → DS) : DS := fun D ρ E => body D ρ fun x ρ1 => if x.cls = c then i < ρ1.length ∧ suite x { nx := fun ρ' => D.nx (ρ'.set i .no), rt := D.rt, bk := fun ρ' => D.bk (ρ'.set i .no), ct := fun ρ' => D.ct (ρ'.set i .no) } (ρ1.set i .no) noE else E x ρ1
section
variable {X : Cx} {T : Tb} {B : Bs} {M : List Nat} {W : EK} {F H F2 H2 : Hp} {ρ ρ2 : Env} {σ σ2 : L2.St}
/-- the base of a suite: the exception's place pinned -/
def baseE (B : Bs) (F H : Hp) (ρ : Env) (σ : L2.St) (i : Nat) (a : Addr) : Bs := ⟨F, H, fun i b => b ∈ foot H (σ[i]?) (ρ.at i), fun j => if j = i then .ref a else B.P j⟩
theorem SR.baseE {i : Nat} {a : Addr} (S : SR X.K T B M F H ρ σ) (hi : i ∉ M) (hs : σ[i]? = some (some (.ref a))) : SR X.K T (baseE B F H ρ σ i a) (i :: M) F H ρ σ := by
  have Z := S.base
  refine ⟨Z.sub, Z.keep, Z.live, Z.f0, Z.fnew, Z.len, Z.slot, Z.newF, Z.injF, fun j hj => ?_, Z.tabs⟩
  rcases List.mem_cons.mp hj with e | e
  · subst e
    show _ = some (some (if j = j then .ref a else B.P j))
    rw [if_pos rfl]
    exact hs
  · show _ = some (some (if j = i then .ref a else B.P j))
    rw [if_neg (fun h : j = i => hi (h ▸ e))]
    exact S.pin j e
variable {x n : Str} {c i : Nat} {body suite : List Stmt} {b₀ : Stmt} {np pos pos' : Pos} {fb : DS} {fs : Exc → DS}
/-- what «except C» says of the exceptions that may come: of C itself yes, of the others no -/
def ExM (K : PySem.W.Frag) (T : Tb) (c : Nat) (C : Value) : Prop := ∀ k ei, T.ex k = some ei → PySem.W.exmOne K (.ref ei.addr) C = some (decide (k = c))
end
end DL

set_option Elab.async false
set_option linter.all false
set_option autoImplicit false
set_option maxRecDepth 100000
set_option maxHeartbeats 2000000
/-! DLX20: isinstance of a caught exception that has a field. -/
namespace DLK
open PySem PySem.W PySem.Spec PySem.Calls PyProof.Rows L2
section
variable {prog : Program} {w : World} {A : Around} {E : Value → Shared → Prop} {s : Shared} {K : Frag} {x D : Addr} {ox od : Obj}
theorem classOf {Q : Option Value → Shared → Prop} (C : ExcC K D) (X : K.In s.heap) (I : InstAt s.heap x ox D (some od)) (h : Q (some (.ref D)) { s with toks := s.toks + 1 }) :
    wpAny (model prog w) A (getAttr? (.ref x) "__class__") Q E s := by
  have hc : (clsIn K D).isSome = true := by
    obtain ⟨cd, e, _⟩ := any_some C.hd
    rw [e]; rfl
  have hf : findObj K D (some od) "__class__" = some (.bind (.builtin "getset_descriptor.__get__") (.builtin "object.__class__")) := findObj_data hc C.ha C.hn C.ht
  obtain ⟨hp, g, d, t, os⟩ := s
  have A0 := I.type (M := model prog w)
  have A1 := looks_findIn (M := model prog w) X C.hg
  have A2 := looks_findIn (M := model prog w) X C.hk
  have A3 := looks_find (M := model prog w) X I hf
  have isE : Looks (model prog w) hp (isInstance (.ref x) (.type "BaseException")) true := A0.andThen (looks_subIn X C.hs)
  have z2 : (Value.builtin "BaseException.__getattribute__" == Value.builtin "object.__getattribute__") = false := by decide +kernel
  have z1 : (onTheHeap (Value.ref D) && Value.builtin "BaseException.__getattribute__" == Value.builtin "object.__getattribute__") = false := by rw [z2]; rfl
  have z0 : (false && onTheHeap (Value.builtin "BaseException.__getattribute__")) = false := rfl
  unfold getAttr? getAttrBy? getAttrBy
  refine wpAny_bind (wpAny_mkText (wpAny_bind (wpAny_attempt (wpAny_holding (wpAny_bind (A0.at (wpAny_bind (A1.at ?_))))))))
  show wpAny _ _ (if (onTheHeap (Value.ref D) && Value.builtin "BaseException.__getattribute__" == Value.builtin "object.__getattribute__") = true then _ else _) _ _ _
  rw [z1, if_neg Bool.false_ne_true]
  unfold getAttrByItsOwn hookBefore
  refine wpAny_bind ?_
  rw [if_pos (show onTheHeap (Value.ref D) = true from rfl)]
  refine A2.at (wpAny_bind (wpAny_attempt (wpAny_holding ?_)))
  unfold callGetattribute
  rw [z0, if_neg Bool.false_ne_true]
  unfold boundAndCalled
  rw [PySem.F.excAttr_ValueError.ga.bind (.ref x)]
  refine wpAny_bind (wpAny_pure ?_)
  show wpAny _ _ (call (.builtin "BaseException.__getattribute__") [.ref x, .str "__class__" t]) _ _ _
  refine wpAny_call (codeAny_call_builtin PySem.F.excAttr_ValueError.ga.plain PySem.F.entry_bexc_ga ?_)
  refine @check_slot (model prog w) _ _ ⟨hp, g, d, t + 1, os⟩ "BaseException.__getattribute__" "BaseException" "__getattribute__" (.ref x) [.str "__class__" t] [] _ (by decide +kernel) (by decide +kernel) isE (PySem.F.args_bexc_ga (.ref x) (.str "__class__" t)) ?_
  unfold Builtin.«object.__getattribute__»
  refine wpAny_bind (wpAny_of_eq (a := ((Value.ref x : Value), [Value.str "__class__" t])) (by first | rfl | (simp only [slotArgs]; rfl)) ?_)
  refine wpAny_bind (wpAny_pure (wpAny_bind (A0.at (wpAny_bind (A3.at ?_)))))
  show wpAny _ _ (holding [Value.builtin "object.__class__"] (call (.builtin "getset_descriptor.__get__") [.builtin "object.__class__", .ref x, .ref D]) >>= ret) _ _ _
  refine wpAny_bind (wpAny_holding (wpAny_call (class_get (s := ⟨hp, g, d, t + 1, os⟩) (ox := ox) (od := some od) X I C.hm (wpAny_pure ?_))))
  show wpAny _ _ (handedOut (.ref D)) _ _ _
  rw [handedOut_of (v := .ref D) rfl]
  first
    | exact wpAny_pure (wpAny_pure h)
    | exact wpAny_pure h
    | exact wpAny_pure (wpAny_bind (wpAny_pure (wpAny_pure h)))
theorem kitE (C : ExcC K D) : KitX K (.ref x) (.ref D) (fun h => ∃ od, InstAt h x ox D (some od)) where
  ty := fun _ _ _ ⟨od, I⟩ => I.type
  it := fun _ _ X _ => by
    obtain ⟨cdD, hcD, _⟩ := any_some C.hd
    unfold clsIn at hcD
    split at hcD
    · rename_i ho
      intro A' Q' E' s' k q
      unfold isType loadHead
      exact wpAny_bind (wpAny_loadPart (k _ _ (X _ _ ho)) (wpAny_pure q))
    · cases hcD
  ne := fun h tp dd its n sl X htp => by
    obtain ⟨cdD, hcD, _⟩ := any_some C.hd
    refine Bool.eq_false_iff.mpr fun q => ?_
    have e : D = tp := Value.ref.inj (beq_iff_eq.mp q)
    subst e
    unfold clsIn at hcD
    split at hcD
    · rename_i ho
      cases (X _ _ ho).symm.trans htp
    · cases hcD
  ca := fun X ⟨od, I⟩ k => classOf C X I k
end
end DLK
namespace DL
open PySem PySem.Spec PyProof.Rows L2
section
variable {X : Cx} {T : Tb} {B : Bs} {M : List Nat} {W : EK}
end
end DL

set_option Elab.async false
set_option linter.all false
set_option autoImplicit false
set_option maxRecDepth 100000
/-! DLX21: repr of data. -/
namespace DL
open PySem PySem.Spec PyProof.Rows L2
theorem tx_ofString (s : String) : Str.ofString s = tx (s.toList.map Char.toNat) := by
  unfold Str.ofString tx
  rw [cpsOfBytes_string]
theorem repL_len : ∀ xs : List D, (D.repL xs).length = xs.length
  | [] => rfl
  | x :: xs => congrArg (· + 1) (repL_len xs)
/-! ints -/
theorem nat_repr_len {n : Nat} (h : n < 10 ^ 120) : (Nat.repr n).toList.length ≤ 120 := by
  have e : (Nat.repr n).toList = Nat.toDigits 10 n := by simp [Nat.repr]
  rw [e]
  exact PyProof.Rows.digits10_le (by decide) h
theorem intT_len {i : Int} (h : i.natAbs < 10 ^ 120) : (intT i).length ≤ 128 := by
  unfold intT
  rw [List.length_map]
  cases i with
  | ofNat n =>
    have := nat_repr_len (n := n) h
    exact Nat.le_trans this (by decide)
  | negSucc n =>
    have := nat_repr_len (n := n + 1) h
    show (("-" ++ Nat.repr (n + 1)) : String).toList.length ≤ 128
    rw [String.toList_append, List.length_append]
    show 1 + _ ≤ 128
    omega
theorem log_small {n : Nat} (h : n < 10 ^ 120) : n.log2 < 1920 := by
  by_cases z : n = 0
  · rw [z]; decide
  · exact (Nat.log2_lt z).mpr (Nat.lt_of_lt_of_le h (by decide))
theorem print_ok : ∀ c : Nat, okC c = true → Unicode.isPrintable c = true := by
  have h : ∀ c : Fin 127, okC c.val = true → Unicode.isPrintable c.val = true := by decide +kernel
  intro c hc
  have : c < 127 := by
    unfold okC at hc
    simp only [Bool.and_eq_true, decide_eq_true_eq] at hc
    exact hc.1.1.2
  exact h ⟨c, this⟩ hc
theorem okC_inv {c : Nat} (h : okC c = true) : 32 ≤ c ∧ c < 127 ∧ c ≠ 39 ∧ c ≠ 92 := by
  unfold okC at h
  simp only [Bool.and_eq_true, decide_eq_true_eq, bne_iff_ne] at h
  exact ⟨h.1.1.1, h.1.1.2, h.1.2, h.2⟩
theorem repr_sign {c : Nat} (h : okC c = true) : Builtin.Str.reprChar 39 c = [c] := by
  obtain ⟨h1, h2, h3, h4⟩ := okC_inv h
  unfold Builtin.Str.reprChar
  have e1 : (c == 39 || c == 92) = false := by simp [h3, h4]
  have e2 : (c == 10) = false := by simp; omega
  have e3 : (c == 13) = false := by simp; omega
  have e4 : (c == 9) = false := by simp; omega
  simp only [e1, e2, e3, e4, print_ok c h, Bool.false_eq_true, if_false, if_true]
theorem repr_fold (l : Tx) : ∀ acc : Array Nat, l.all okC = true → l.foldl (fun out c => out ++ (Builtin.Str.reprChar 39 c).toArray) acc = acc ++ l.toArray := by
  induction l with
  | nil => intro acc _; simp
  | cons c l ih =>
    intro acc h
    rw [List.all_cons, Bool.and_eq_true] at h
    rw [List.foldl_cons, repr_sign h.1, ih _ h.2]
    simp
theorem reprText_of {x : Tx} (h : x.all okC = true) : reprText (tx x) = tx (39 :: (x ++ [39])) := by
  have q : reprQuote (tx x) = 39 := by
    unfold reprQuote tx
    have z : 39 ∉ x := fun z => (okC_inv (List.all_eq_true.mp h 39 z)).2.2.1 rfl
    simp [z]
  unfold reprText
  rw [q]
  show (⟨(x.toArray.foldl (fun out c => out ++ (Builtin.Str.reprChar 39 c).toArray) #[39]).push 39⟩ : Str) = _
  rw [List.foldl_toArray', repr_fold x _ h]
  unfold tx
  simp
  rfl
/-! lists -/
theorem tx_join (S : Tx) : ∀ ts : List Tx, Str.join (tx S) (ts.map tx) = tx (joinT S ts)
  | [] => rfl
  | [p] => rfl
  | p :: q :: r => by
    have ih := tx_join S (q :: r)
    show tx p ++ tx S ++ Str.join (tx S) ((q :: r).map tx) = tx (p ++ (S ++ joinT S (q :: r)))
    rw [ih, tx_app, tx_app, List.append_assoc]
theorem textFrom_pos : ∀ (ts : List Tx) (k : Nat) (acc : Tx), 0 < k → textFrom k (tx acc) (ts.map tx) = tx (acc ++ (ts.map fun t => [44, 32] ++ t).flatten)
  | [], k, acc, _ => by simp [textFrom]
  | t :: ts, k, acc, hk => by
    have e : (Str.ofString (if k > 0 then ", " else "" : String)) = tx [44, 32] := by rw [if_pos hk]; rfl
    show textFrom (k + 1) (tx acc ++ Str.ofString (if k > 0 then ", " else "" : String) ++ tx t) (ts.map tx) = _
    rw [e, tx_app, tx_app, textFrom_pos ts (k + 1) _ (Nat.succ_pos k)]
    simp
theorem joinT_cons (t : Tx) (ts : List Tx) : joinT [44, 32] (t :: ts) = t ++ (ts.map fun t => [44, 32] ++ t).flatten := by
  induction ts generalizing t with
  | nil => simp [joinT]
  | cons u us ih =>
    show t ++ ([44, 32] ++ joinT [44, 32] (u :: us)) = _
    rw [ih u]
    simp
theorem listText_of (ts : List Tx) : listText (ts.map tx) = tx (91 :: (joinT [44, 32] ts ++ [93])) := by
  unfold listText
  cases ts with
  | nil => rfl
  | cons t ts =>
    show textFrom 1 (Str.ofString "[" ++ Str.ofString "" ++ tx t) (ts.map tx) ++ Str.ofString "]" = _
    have e : Str.ofString "[" ++ Str.ofString "" ++ tx t = tx (91 :: t) := by
      have h1 : Str.ofString "[" ++ Str.ofString "" = tx [91] := rfl
      rw [h1, tx_app]; rfl
    rw [e, textFrom_pos ts 1 _ (by decide), joinT_cons]
    have h2 : Str.ofString "]" = tx [93] := rfl
    rw [h2, tx_app]
    simp
theorem tupleText_of (ts : List Tx) : tupleText (ts.map tx) = tx (40 :: (joinT [44, 32] ts ++ (if ts.length == 1 then [44, 41] else [41]))) := by
  unfold tupleText
  have h1 : Str.ofString "(" = tx [40] := rfl
  have h2 : Str.ofString ", " = tx [44, 32] := rfl
  rw [h1, h2, tx_join, List.length_map, tx_app]
  cases e : ts.length == 1 with
  | true =>
    have h3 : Str.ofString (if true = true then ",)" else ")" : String) = tx [44, 41] := rfl
    rw [h3, tx_app]; simp
  | false =>
    have h3 : Str.ofString (if false = true then ",)" else ")" : String) = tx [41] := rfl
    rw [h3, tx_app]; simp
theorem joinR_len : ∀ ts : List Tx, (joinT [44, 32] ts).length ≤ (ts.map fun t => t.length + 2).sum
  | [] => Nat.le_refl _
  | [p] => by simp [joinT]
  | p :: q :: r => by
    have ih := joinR_len (q :: r)
    show (p ++ ([44, 32] ++ joinT [44, 32] (q :: r))).length ≤ _
    rw [List.length_append, List.length_append, List.map_cons, List.sum_cons]
    show _ + (2 + _) ≤ _
    omega
mutual
theorem shown_of : ∀ (n : Nat) (d : D), d.repOk n = true → d.toP.shown = tx d.rep ∧ d.toP.showable = true ∧ d.toP.hasDict = false ∧ d.toP.depth ≤ n ∧ d.rep.length ≤ d.wt
  | n, .non, _ => ⟨rfl, rfl, rfl, Nat.zero_le _, by show 4 ≤ 5; decide⟩
  | n, .bl b, _ => ⟨by cases b <;> rfl, rfl, rfl, Nat.zero_le _, by cases b <;> (show _ ≤ 5; decide)⟩
  | n, .int i, h => by
    have h : i.natAbs < 10 ^ 120 := by cases n <;> exact of_decide_eq_true h
    refine ⟨tx_ofString _, ?_, rfl, Nat.zero_le _, intT_len h⟩
    show decide (i.natAbs.log2 < 1920) = true
    exact decide_eq_true (log_small h)
  | n, .str x, h => by
    have h : x.all okC = true := by cases n <;> exact h
    refine ⟨reprText_of h, rfl, rfl, Nat.zero_le _, ?_⟩
    show (39 :: (x ++ [39])).length ≤ x.length + 2
    rw [List.length_cons, List.length_append]
    exact Nat.le_refl _
  | 0, .lst xs, h => by cases h
  | n + 1, .lst xs, h => by
    obtain ⟨h1, h2, h3, h4, h5⟩ := shownAll_of n xs h
    refine ⟨?_, h2, h3, Nat.succ_le_succ h4, ?_⟩
    · show listText (PyData.shownAll (D.toPL xs)) = _
      rw [h1, listText_of]; rfl
    · show (91 :: (joinT [44, 32] (D.repL xs) ++ [93])).length ≤ D.wtL xs + 2
      have := joinR_len (D.repL xs)
      rw [List.length_cons, List.length_append]
      show _ + 1 + 1 ≤ _
      omega
  | 0, .tup xs, h => by cases h
  | n + 1, .tup xs, h => by
    obtain ⟨h1, h2, h3, h4, h5⟩ := shownAll_of n xs h
    refine ⟨?_, h2, h3, Nat.succ_le_succ h4, ?_⟩
    · show tupleText (PyData.shownAll (D.toPL xs)) = _
      rw [h1, tupleText_of, repL_len]; rfl
    · show (40 :: (joinT [44, 32] (D.repL xs) ++ (if xs.length == 1 then [44, 41] else [41]))).length ≤ D.wtL xs + 4
      have := joinR_len (D.repL xs)
      rw [List.length_cons, List.length_append]
      have : (if xs.length == 1 then [44, 41] else [41] : Tx).length ≤ 2 := by split <;> decide
      omega
  | n, .dct _, h => by cases n <;> cases h
  | n, .dcT _, h => by cases n <;> cases h
  | n, .exc _ _, h => by cases n <;> cases h
  | n, .obj _ _, h => by cases n <;> cases h
  | n, .frl _, h => by cases n <;> cases h
  | n, .cls _, h => by cases n <;> cases h
  | n, .prt _, h => by cases n <;> cases h
theorem shownAll_of : ∀ (n : Nat) (xs : List D), D.repOkL n xs = true → PyData.shownAll (D.toPL xs) = (D.repL xs).map tx ∧ PyData.showableAll (D.toPL xs) = true ∧ PyData.hasDictAll (D.toPL xs) = false ∧ PyData.depthAll (D.toPL xs) ≤ n ∧ ((D.repL xs).map fun t => t.length + 2).sum ≤ D.wtL xs
  | n, [], _ => ⟨rfl, rfl, rfl, Nat.zero_le _, Nat.le_refl _⟩
  | n, x :: xs, h => by
    unfold D.repOkL at h
    rw [Bool.and_eq_true] at h
    obtain ⟨a1, a2, a3, a4, a5⟩ := shown_of n x h.1
    obtain ⟨b1, b2, b3, b4, b5⟩ := shownAll_of n xs h.2
    refine ⟨?_, ?_, ?_, Nat.max_le.mpr ⟨a4, b4⟩, ?_⟩
    · show x.toP.shown :: PyData.shownAll (D.toPL xs) = _
      rw [a1, b1]; rfl
    · show (x.toP.showable && PyData.showableAll (D.toPL xs)) = true
      rw [a2, b2]; rfl
    · show (x.toP.hasDict || PyData.hasDictAll (D.toPL xs)) = false
      rw [a3, b3]; rfl
    · show ((x.rep :: D.repL xs).map fun t => t.length + 2).sum ≤ x.wt + 2 + D.wtL xs
      rw [List.map_cons, List.sum_cons]
      omega
end
mutual
theorem eqOk_of : ∀ (n : Nat) (d : D), d.repOk n = true → d.eqOk n = true
  | n, .non, _ => by cases n <;> rfl
  | n, .bl _, _ => by cases n <;> rfl
  | n, .int _, _ => by cases n <;> rfl
  | n, .str _, _ => by cases n <;> rfl
  | 0, .lst xs, h => by cases h
  | n + 1, .lst xs, h => eqOkL_of n xs h
  | 0, .tup xs, h => by cases h
  | n + 1, .tup xs, h => eqOkL_of n xs h
  | n, .dct _, h => by cases n <;> cases h
  | n, .dcT _, h => by cases n <;> cases h
  | n, .exc _ _, h => by cases n <;> cases h
  | n, .obj _ _, h => by cases n <;> cases h
  | n, .frl _, h => by cases n <;> cases h
  | n, .cls _, h => by cases n <;> cases h
  | n, .prt _, h => by cases n <;> cases h
theorem eqOkL_of : ∀ (n : Nat) (xs : List D), D.repOkL n xs = true → D.eqOkL n xs = true
  | n, [], _ => by unfold D.eqOkL; rfl
  | n, x :: xs, h => by
    unfold D.repOkL at h
    rw [Bool.and_eq_true] at h
    unfold D.eqOkL
    rw [eqOk_of n x h.1, eqOkL_of n xs h.2]
    rfl
end
theorem join_sign {S : Tx} (hS : ∀ c ∈ S, c < 0x110000) : ∀ {ts : List Tx}, (∀ t ∈ ts, ∀ c ∈ t, c < 0x110000) → ∀ c ∈ joinT S ts, c < 0x110000
  | [], _, c, hc => by simp [joinT] at hc
  | [p], h, c, hc => h p List.mem_cons_self c hc
  | p :: q :: r, h, c, hc => by
    have hc : c ∈ p ++ (S ++ joinT S (q :: r)) := hc
    rcases List.mem_append.mp hc with z | z
    · exact h p List.mem_cons_self c z
    · rcases List.mem_append.mp z with z | z
      · exact hS c z
      · exact join_sign hS (fun t ht => h t (List.mem_cons_of_mem _ ht)) c z
mutual
theorem rep_sign : ∀ (n : Nat) (d : D), d.repOk n = true → ∀ c ∈ d.rep, c < 0x110000
  | n, .non, _, c, hc => by revert c; decide
  | n, .bl b, _, c, hc => by cases b <;> (revert c; decide)
  | n, .int i, _, c, hc => by
    have hc : c ∈ (toString i).toList.map Char.toNat := hc
    obtain ⟨ch, _, rfl⟩ := List.mem_map.mp hc
    have := ch.valid
    show ch.val.toNat < _
    simp only [UInt32.isValidChar, Nat.isValidChar] at this
    omega
  | n, .str x, h, c, hc => by
    have h : x.all okC = true := by cases n <;> exact h
    have hc : c ∈ 39 :: (x ++ [39]) := hc
    rcases List.mem_cons.mp hc with z | z
    · omega
    · rcases List.mem_append.mp z with z | z
      · have := (okC_inv (List.all_eq_true.mp h c z)).2.1
        omega
      · have : c = 39 := by simpa using z
        omega
  | 0, .lst xs, h, _, _ => by cases h
  | n + 1, .lst xs, h, c, hc => by
    have hc : c ∈ 91 :: (joinT [44, 32] (D.repL xs) ++ [93]) := hc
    rcases List.mem_cons.mp hc with z | z
    · omega
    · rcases List.mem_append.mp z with z | z
      · exact join_sign (by decide) (repL_sign n xs h) c z
      · have : c = 93 := by simpa using z
        omega
  | 0, .tup xs, h, _, _ => by cases h
  | n + 1, .tup xs, h, c, hc => by
    have hc : c ∈ 40 :: (joinT [44, 32] (D.repL xs) ++ (if xs.length == 1 then [44, 41] else [41])) := hc
    rcases List.mem_cons.mp hc with z | z
    · omega
    · rcases List.mem_append.mp z with z | z
      · exact join_sign (by decide) (repL_sign n xs h) c z
      · split at z
        · simp at z; omega
        · simp at z; omega
  | n, .dct _, h, _, _ => by cases n <;> cases h
  | n, .dcT _, h, _, _ => by cases n <;> cases h
  | n, .exc _ _, h, _, _ => by cases n <;> cases h
  | n, .obj _ _, h, _, _ => by cases n <;> cases h
  | n, .frl _, h, _, _ => by cases n <;> cases h
  | n, .cls _, h, _, _ => by cases n <;> cases h
  | n, .prt _, h, _, _ => by cases n <;> cases h
theorem repL_sign : ∀ (n : Nat) (xs : List D), D.repOkL n xs = true → ∀ t ∈ D.repL xs, ∀ c ∈ t, c < 0x110000
  | n, [], _, t, ht => by cases ht
  | n, x :: xs, h, t, ht => by
    unfold D.repOkL at h
    rw [Bool.and_eq_true] at h
    have ht : t ∈ x.rep :: D.repL xs := ht
    rcases List.mem_cons.mp ht with z | z
    · subst z; exact rep_sign n x h.1
    · exact repL_sign n xs h.2 t z
end
/-! data with dicts in it -/
theorem ky_len {k : Ky} (h : kyOk k = true) : (kyRep k).length ≤ kyWt k := by
  cases k with
  | int i => exact intT_len (of_decide_eq_true h)
  | str x =>
    show (39 :: (x ++ [39])).length ≤ x.length + 2
    rw [List.length_cons, List.length_append]
    exact Nat.le_refl _
mutual
theorem q_len : ∀ (n : Nat) (d : D), d.shOk n = true → d.rep.length ≤ d.wt
  | n, .non, _ => by show 4 ≤ 5; decide
  | n, .bl b, _ => by cases b <;> (show _ ≤ 5; decide)
  | n, .int i, h => intT_len (by cases n <;> exact of_decide_eq_true h)
  | n, .str x, h => by
    show (39 :: (x ++ [39])).length ≤ x.length + 2
    rw [List.length_cons, List.length_append]
    exact Nat.le_refl _
  | 0, .lst xs, h => by cases h
  | n + 1, .lst xs, h => by
    have h5 := qL_len n xs h
    show (91 :: (joinT [44, 32] (D.repL xs) ++ [93])).length ≤ D.wtL xs + 2
    have := joinR_len (D.repL xs)
    rw [List.length_cons, List.length_append]
    show _ + 1 + 1 ≤ _
    omega
  | 0, .tup xs, h => by cases h
  | n + 1, .tup xs, h => by
    have h5 := qL_len n xs h
    show (40 :: (joinT [44, 32] (D.repL xs) ++ (if xs.length == 1 then [44, 41] else [41]))).length ≤ D.wtL xs + 4
    have := joinR_len (D.repL xs)
    rw [List.length_cons, List.length_append]
    have : (if xs.length == 1 then [44, 41] else [41] : Tx).length ≤ 2 := by split <;> decide
    omega
  | 0, .dct ks, h => by cases h
  | n + 1, .dct ks, h => by
    have h5 := qK_len n ks h
    show (123 :: (joinT [44, 32] (D.repK ks) ++ [125])).length ≤ D.wtK ks + 5
    have := joinR_len (D.repK ks)
    rw [List.length_cons, List.length_append]
    show _ + 1 + 1 ≤ _
    omega
  | n, .obj _ _, h => by cases n <;> cases h
  | n, .frl _, h => by cases n <;> cases h
  | n, .cls _, h => by cases n <;> cases h
  | n, .prt _, h => by cases n <;> cases h
theorem qL_len : ∀ (n : Nat) (xs : List D), D.shOkL n xs = true → ((D.repL xs).map fun t => t.length + 2).sum ≤ D.wtL xs
  | n, [], _ => Nat.le_refl _
  | n, x :: xs, h => by
    unfold D.shOkL at h
    rw [Bool.and_eq_true] at h
    have h1 := q_len n x h.1
    have h2 := qL_len n xs h.2
    show ((x.rep :: D.repL xs).map fun t => t.length + 2).sum ≤ x.wt + 2 + D.wtL xs
    rw [List.map_cons, List.sum_cons]
    omega
theorem qK_len : ∀ (n : Nat) (ks : List (Ky × D)), D.shOkK n ks = true → ((D.repK ks).map fun t => t.length + 2).sum ≤ D.wtK ks
  | n, [], _ => Nat.le_refl _
  | n, (k, d) :: ks, h => by
    unfold D.shOkK at h
    rw [Bool.and_eq_true, Bool.and_eq_true] at h
    have h0 := ky_len h.1
    have h1 := q_len n d h.2.1
    have h2 := qK_len n ks h.2.2
    show (((kyRep k ++ (58 :: 32 :: d.rep)) :: D.repK ks).map fun t => t.length + 2).sum ≤ kyWt k + 2 + d.wt + 2 + D.wtK ks
    rw [List.map_cons, List.sum_cons, List.length_append, List.length_cons, List.length_cons]
    omega
end
theorem sq_sign {x : Tx} (h : x.all okC = true) : ∀ c ∈ 39 :: (x ++ [39]), c < 0x110000 := fun c hc => by
  rcases List.mem_cons.mp hc with z | z
  · omega
  · rcases List.mem_append.mp z with z | z
    · have := (okC_inv (List.all_eq_true.mp h c z)).2.1
      omega
    · have : c = 39 := by simpa using z
      omega
theorem int_sign {i : Int} : ∀ c ∈ intT i, c < 0x110000 := fun c hc => by
  have hc : c ∈ (toString i).toList.map Char.toNat := hc
  obtain ⟨ch, _, rfl⟩ := List.mem_map.mp hc
  have := ch.valid
  show ch.val.toNat < _
  simp only [UInt32.isValidChar, Nat.isValidChar] at this
  omega
theorem ky_sign {k : Ky} (h : kyOk k = true) : ∀ c ∈ kyRep k, c < 0x110000 := by
  cases k with
  | int i => exact int_sign
  | str x => exact sq_sign h
mutual
theorem q_sign : ∀ (n : Nat) (d : D), d.shOk n = true → ∀ c ∈ d.rep, c < 0x110000
  | n, .non, _, c, hc => by revert c; decide
  | n, .bl b, _, c, hc => by cases b <;> (revert c; decide)
  | n, .int i, _, c, hc => int_sign c hc
  | n, .str x, h, c, hc => sq_sign (by cases n <;> exact h) c hc
  | 0, .lst xs, h, _, _ => by cases h
  | n + 1, .lst xs, h, c, hc => by
    have hc : c ∈ 91 :: (joinT [44, 32] (D.repL xs) ++ [93]) := hc
    rcases List.mem_cons.mp hc with z | z
    · omega
    · rcases List.mem_append.mp z with z | z
      · exact join_sign (by decide) (qL_sign n xs h) c z
      · have : c = 93 := by simpa using z
        omega
  | 0, .tup xs, h, _, _ => by cases h
  | n + 1, .tup xs, h, c, hc => by
    have hc : c ∈ 40 :: (joinT [44, 32] (D.repL xs) ++ (if xs.length == 1 then [44, 41] else [41])) := hc
    rcases List.mem_cons.mp hc with z | z
    · omega
    · rcases List.mem_append.mp z with z | z
      · exact join_sign (by decide) (qL_sign n xs h) c z
      · split at z
        · simp at z; omega
        · simp at z; omega
  | 0, .dct ks, h, _, _ => by cases h
  | n + 1, .dct ks, h, c, hc => by
    have hc : c ∈ 123 :: (joinT [44, 32] (D.repK ks) ++ [125]) := hc
    rcases List.mem_cons.mp hc with z | z
    · omega
    · rcases List.mem_append.mp z with z | z
      · exact join_sign (by decide) (qK_sign n ks h) c z
      · have : c = 125 := by simpa using z
        omega
  | n, .obj _ _, h, _, _ => by cases n <;> cases h
  | n, .frl _, h, _, _ => by cases n <;> cases h
  | n, .cls _, h, _, _ => by cases n <;> cases h
  | n, .prt _, h, _, _ => by cases n <;> cases h
theorem qL_sign : ∀ (n : Nat) (xs : List D), D.shOkL n xs = true → ∀ t ∈ D.repL xs, ∀ c ∈ t, c < 0x110000
  | n, [], _, t, ht => by cases ht
  | n, x :: xs, h, t, ht => by
    unfold D.shOkL at h
    rw [Bool.and_eq_true] at h
    have ht : t ∈ x.rep :: D.repL xs := ht
    rcases List.mem_cons.mp ht with z | z
    · subst z; exact q_sign n x h.1
    · exact qL_sign n xs h.2 t z
theorem qK_sign : ∀ (n : Nat) (ks : List (Ky × D)), D.shOkK n ks = true → ∀ t ∈ D.repK ks, ∀ c ∈ t, c < 0x110000
  | n, [], _, t, ht => by cases ht
  | n, (k, d) :: ks, h, t, ht => by
    unfold D.shOkK at h
    rw [Bool.and_eq_true, Bool.and_eq_true] at h
    have ht : t ∈ (kyRep k ++ (58 :: 32 :: d.rep)) :: D.repK ks := ht
    rcases List.mem_cons.mp ht with z | z
    · subst z
      intro c hc
      rcases List.mem_append.mp hc with z | z
      · exact ky_sign h.1 c z
      · rcases List.mem_cons.mp z with z | z
        · omega
        · rcases List.mem_cons.mp z with z | z
          · omega
          · exact q_sign n d h.2.1 c z
    · exact qK_sign n ks h.2.2 t z
end
section
variable {X : Cx} {T : Tb} {σ : L2.St} {H F : Hp} {pins : List (Addr × Obj)} {s : Shared}
theorem dictText_of (ts : List Tx) : dictText (ts.map tx) = tx (123 :: (joinT [44, 32] ts ++ [125])) := by
  unfold dictText
  have h1 : ("{" : Str) = tx [123] := rfl
  have h2 : (", " : Str) = tx [44, 32] := rfl
  have h3 : ("}" : Str) = tx [125] := rfl
  rw [h1, h2, h3, tx_join, tx_app, tx_app]
  simp
/-- what is known of a thing that is to be shown -/
def ShQ (X : Cx) (s : Shared) (u : Value) (n : Nat) (t : Tx) : Prop := ∃ pd as bs, Reads s.heap u pd as ∧ ReadAtMost s.heap pd.depth bs ∧ ReprK X.prog X.w bs s.heap pd.depth u (tx t) ∧ pd.depth ≤ n
def ShL (X : Cx) (s : Shared) (us : List Value) (n : Nat) (ts : List Tx) : Prop := ∃ pds as bs, ReadsAll s.heap us pds as ∧ ReadAtMost s.heap (PyData.depthAll pds) bs ∧ ReprAllK X.prog X.w bs s.heap (PyData.depthAll pds) us (ts.map tx) ∧ PyData.depthAll pds ≤ n
def ShK (X : Cx) (s : Shared) (es : List DictEntry) (n : Nat) (ts : List Tx) : Prop := ∃ pds as cs bs, ReadsAll s.heap (es.map (·.key)) (pds.map (·.1)) as ∧ ReadsAll s.heap (es.map (·.val)) (pds.map (·.2)) cs ∧ ReadAtMost s.heap (PyData.depthKv pds) bs ∧ ReprEntriesK X.prog X.w bs s.heap (PyData.depthKv pds) es (ts.map tx) ∧ PyData.depthKv pds ≤ n
theorem ShQ.scal (I : Inv X pins σ H s) (sm : SmW F H) {n : Nat} {d : D} {v : V} {u : Value} (h : d.repOk 0 = true) (r : Rep X.K T F v d) (q : RelV v u) (hw : d.wt ≤ maxTx) : ShQ X s u n d.rep := by
  obtain ⟨h1, h2, h3, h4, h5⟩ := shown_of 0 d h
  obtain ⟨dp, _, _⟩ := Rep.dp (X := X) sm 0 d v (eqOk_of 0 d h) r
  obtain ⟨as, rd⟩ := Dp.reads I d.toP v u dp q
  have hz : d.toP.shown.length ≤ sizeLine := by rw [h1, tx_len, ← maxTx_eq]; exact Nat.le_trans h5 hw
  obtain ⟨bs, hb, k⟩ := ReprK.of_reads (prog := X.prog) (w := X.w) rd h2 (fun z => by rw [h3] at z; cases z) hz
  rw [h1] at k
  exact ⟨d.toP, as, bs, rd, hb, k, Nat.le_trans h4 (Nat.zero_le _)⟩
theorem ShL.cons {u : Value} {us : List Value} {n : Nat} {t : Tx} {ts : List Tx} (h : ShQ X s u n t) (hs : ShL X s us n ts) : ShL X s (u :: us) n (t :: ts) := by
  obtain ⟨pd, as1, b1, q1, q2, q3, q4⟩ := h
  obtain ⟨pds, as2, b2, p1, p2, p3, p4⟩ := hs
  refine ⟨pd :: pds, _, b1 ++ b2, .cons q1 p1, fun b hb => ?_, ?_, Nat.max_le.mpr ⟨q4, p4⟩⟩
  · rcases List.mem_append.mp hb with z | z
    · obtain ⟨d', as', r', hd'⟩ := q2 b z
      exact ⟨d', as', r', Nat.le_trans hd' (Nat.le_max_left _ _)⟩
    · obtain ⟨d', as', r', hd'⟩ := p2 b z
      exact ⟨d', as', r', Nat.le_trans hd' (Nat.le_max_right _ _)⟩
  · exact .cons ((q3.more fun b hb => List.mem_append_left _ hb).level_le (Nat.le_max_left _ _)) (p3.more_le (fun b hb => List.mem_append_right _ hb) (Nat.le_max_right _ _))
theorem _root_.PySem.ReprEntriesK.more_le {prog : Program} {w : World} {h₀ : Heap} {as as' : List Addr} {d d' : Nat} (hsub : ∀ b ∈ as, b ∈ as') (hd : d ≤ d') : ∀ {l : List DictEntry} {ts : List Str}, ReprEntriesK prog w as h₀ d l ts → ReprEntriesK prog w as' h₀ d' l ts
  | _, _, .nil => .nil
  | _, _, .cons hk hx hl => .cons ((hk.more hsub).level_le hd) ((hx.more hsub).level_le hd) (PySem.ReprEntriesK.more_le hsub hd hl)
theorem ShK.cons {e : DictEntry} {es : List DictEntry} {n : Nat} {k t : Tx} {ts : List Tx} (hk : ShQ X s e.key n k) (h : ShQ X s e.val n t) (hs : ShK X s es n ts) : ShK X s (e :: es) n ((k ++ (58 :: 32 :: t)) :: ts) := by
  obtain ⟨kd, as0, b0, k1, k2, k3, k4⟩ := hk
  obtain ⟨pd, as1, b1, q1, q2, q3, q4⟩ := h
  obtain ⟨pds, as2, cs2, b2, p1, p1', p2, p3, p4⟩ := hs
  have m0 : kd.depth ≤ PyData.depthKv ((kd, pd) :: pds) := by simp only [PyData.depthKv]; omega
  have m1 : pd.depth ≤ PyData.depthKv ((kd, pd) :: pds) := by simp only [PyData.depthKv]; omega
  have m2 : PyData.depthKv pds ≤ PyData.depthKv ((kd, pd) :: pds) := by simp only [PyData.depthKv]; omega
  refine ⟨(kd, pd) :: pds, _, _, b0 ++ (b1 ++ b2), .cons k1 p1, .cons q1 p1', (k2.mono m0).append ((q2.mono m1).append (p2.mono m2)), ?_, by simp only [PyData.depthKv]; omega⟩
  have z := ReprEntriesK.cons (e := e) ((k3.more (as' := b0 ++ (b1 ++ b2)) fun b hb => List.mem_append_left _ hb).level_le m0) ((q3.more (as' := b0 ++ (b1 ++ b2)) fun b hb => List.mem_append_right _ (List.mem_append_left _ hb)).level_le m1)
    (p3.more_le (as' := b0 ++ (b1 ++ b2)) (fun b hb => List.mem_append_right _ (List.mem_append_right _ hb)) m2)
  have e2 : (": " : Str) = tx [58, 32] := rfl
  rw [e2, tx_app, tx_app, List.append_assoc] at z
  exact z
theorem ShQ.key {n : Nat} {k : Ky} {u : Value} (h : kyOk k = true) (z : keyIs (kyV k) u = true) (hw : kyWt k ≤ maxTx) : ShQ X s u n (kyRep k) := by
  rcases keyIs_shape z with ⟨i, t, e, rfl⟩ | ⟨x, t, e, rfl⟩
  · cases k with
    | int j =>
      cases e
      have hi : i.natAbs < 10 ^ 120 := of_decide_eq_true h
      refine ⟨.int i, [], [], .int i t, (fun _ z => nomatch z), ?_, Nat.zero_le _⟩
      have e : tx (kyRep (.int i)) = toString i := (tx_ofString _).symm
      rw [e]
      exact .of_is (ReprIs.int t (log_small hi)) _ _ _
    | str y => cases e
  · cases k with
    | int j => cases e
    | str y =>
      cases e
      refine ⟨.str (tx y), [], [], .str _ t, (fun _ z => nomatch z), ?_, Nat.zero_le _⟩
      have e : tx (kyRep (.str y)) = reprText (tx y) := (reprText_of h).symm
      rw [e]
      refine .of_is (ReprIs.str _ t ?_) _ _ _
      rw [← e, tx_len, ← maxTx_eq]
      exact Nat.le_trans (ky_len h) hw
theorem ShL.list (I : Inv X pins σ H s) {a : Addr} {vs : List V} {n : Nat} {xs : List D} (ha : H a = some (.lst vs)) (h : ∀ us, Vals vs us → ShL X s us n (D.repL xs)) (hx : xs = [] ↔ vs = []) : ShQ X s (.ref a) (n + 1) (D.lst xs).rep := by
  obtain ⟨z, its, m, r, e⟩ := I.hok a _ ha
  obtain ⟨pds, as, bs, p1, p2, p3, p4⟩ := h _ r
  have rd : Reads s.heap (.ref a) (.list pds) (a :: as) := .list e rfl rfl p1
  have hna : a ∉ bs := not_mem_of_deeper rd (by simp only [PyData.depth]; omega) p2
  refine ⟨_, _, a :: bs, rd, ReadAtMost.cons rd (by simp only [PyData.depth]; omega) p2, ?_, Nat.succ_le_succ p4⟩
  simp only [PyData.depth]
  have t : tx (D.lst xs).rep = listText ((D.repL xs).map tx) := (listText_of _).symm
  rw [t]
  cases vs with
  | nil =>
    cases r
    rw [hx.mpr rfl]
    exact ReprK.listEmpty e rfl rfl
  | cons v vs =>
    cases r with
    | cons r1 r2 => exact ReprK.list e rfl rfl hna (by simpa using p3.length_eq) (fun i y hy => p3.item i y (by simpa using hy))
theorem repL_nil {vs : List V} {xs : List D} (r : RepL X.K T F vs xs) : xs = [] ↔ vs = [] := by
  cases r with
  | nil => exact ⟨fun _ => rfl, fun _ => rfl⟩
  | cons => exact ⟨(fun z => nomatch z), (fun z => nomatch z)⟩
theorem ShL.tuple (I : Inv X pins σ H s) {a : Addr} {vs : List V} {n : Nat} {xs : List D} (ha : H a = some (.tup vs)) (h : ∀ us, Vals vs us → ShL X s us n (D.repL xs)) : ShQ X s (.ref a) (n + 1) (D.tup xs).rep := by
  obtain ⟨z, its, r, o, e1, e2, m, e3⟩ := (show ObjOk X.prog X.w H s.heap a (.tup vs) from I.hok a _ ha)
  obtain ⟨pds, as, bs, p1, p2, p3, p4⟩ := h _ r
  have rd : Reads s.heap (.ref a) (.tuple pds) as := .tuple e1 e2 e3 (by simpa using p1)
  have hna : a ∉ bs := not_mem_of_deeper rd (by simp only [PyData.depth]; omega) p2
  refine ⟨_, _, a :: bs, rd, ReadAtMost.cons rd (by simp only [PyData.depth]; omega) p2, ?_, Nat.succ_le_succ p4⟩
  simp only [PyData.depth]
  have t : tx (D.tup xs).rep = tupleText ((D.repL xs).map tx) := by rw [tupleText_of, repL_len]; rfl
  rw [t]
  exact ReprK.tuple e1 e2 e3 hna (by simpa using p3)
theorem ShK.dict (I : Inv X pins σ H s) {a : Addr} {kvs : List (Key × V)} {n : Nat} {ks : List (Ky × D)} (ha : Rd H a (.dK kvs)) (h : ∀ vs es, KV kvs vs → Pairs (mixKind X.prog X.w) es vs → ShK X s es n (D.repK ks)) : ShQ X s (.ref a) (n + 1) (D.dct ks).rep := by
  obtain ⟨_, hs, vs, kv, o, es, ep, ho, ex, hd, _, pr, _⟩ := dk_rd I.hok ha
  obtain ⟨pds, as, cs, bs, p1, p1', p2, p3, p4⟩ := h vs es.toList kv pr
  have rd : Reads s.heap (.ref a) (.dict pds) (a :: as ++ cs) := .dict ho ex.1 hd p1 p1'
  have hna : a ∉ bs := not_mem_of_deeper rd (by simp only [PyData.depth]; omega) p2
  refine ⟨_, _, a :: bs, rd, ReadAtMost.cons rd (by simp only [PyData.depth]; omega) p2, ?_, Nat.succ_le_succ p4⟩
  simp only [PyData.depth]
  have t : tx (D.dct ks).rep = dictText ((D.repK ks).map tx) := (dictText_of _).symm
  rw [t]
  exact ReprK.dict ho ex.1 hd hs hna p3
mutual
theorem sh_of (I : Inv X pins σ H s) (sm : SmW F H) : ∀ (n : Nat) (d : D) (v : V) (u : Value), d.shOk n = true → Rep X.K T F v d → RelV v u → d.wt ≤ maxTx → ShQ X s u n d.rep
  | n, .non, v, u, h, r, q, hw => .scal I sm rfl r q hw
  | n, .bl b, v, u, h, r, q, hw => .scal I sm rfl r q hw
  | n, .int i, v, u, h, r, q, hw => .scal I sm (by cases n <;> exact h) r q hw
  | n, .str x, v, u, h, r, q, hw => .scal I sm (by cases n <;> exact h) r q hw
  | 0, .lst xs, v, u, h, r, q, hw => by cases h
  | n + 1, .lst xs, v, u, h, r, q, hw => by
    obtain ⟨p, vs, rfl, hp, ra⟩ := r.lst_inv
    cases q
    have hw : D.wtL xs + 2 ≤ maxTx := hw
    exact ShL.list I (sm _ _ hp) (fun us r => shL_of I sm n xs vs us h ra r (by omega)) (repL_nil ra)
  | 0, .tup xs, v, u, h, r, q, hw => by cases h
  | n + 1, .tup xs, v, u, h, r, q, hw => by
    obtain ⟨p, vs, rfl, hp, ra⟩ := r.tup_inv
    cases q
    have hw : D.wtL xs + 4 ≤ maxTx := hw
    exact ShL.tuple I (sm _ _ hp) (fun us r => shL_of I sm n xs vs us h ra r (by omega))
  | 0, .dct ks, v, u, h, r, q, hw => by cases h
  | n + 1, .dct ks, v, u, h, r, q, hw => by
    obtain ⟨a, us, rfl, ha, rk⟩ := r.dct_inv
    cases q
    have hw : D.wtK ks + 5 ≤ maxTx := hw
    exact ShK.dict I (sm.rd ha) (fun vs es kv pr => shK_of I sm n ks us vs es h rk kv pr (by omega))
  | n, .obj _ _, _, _, h, _, _, _ => by cases n <;> cases h
  | n, .frl _, _, _, h, _, _, _ => by cases n <;> cases h
  | n, .cls _, _, _, h, _, _, _ => by cases n <;> cases h
  | n, .prt _, _, _, h, _, _, _ => by cases n <;> cases h
theorem shL_of (I : Inv X pins σ H s) (sm : SmW F H) : ∀ (n : Nat) (xs : List D) (vs : List V) (us : List Value), D.shOkL n xs = true → RepL X.K T F vs xs → Vals vs us → D.wtL xs ≤ maxTx → ShL X s us n (D.repL xs)
  | n, [], _, _, _, .nil, q, _ => by
    cases q
    exact ⟨[], _, [], .nil, (fun _ h => nomatch h), .nil, Nat.zero_le _⟩
  | n, x :: xs, _, _, h, .cons r rs, .cons q qs, hw => by
    unfold D.shOkL at h
    rw [Bool.and_eq_true] at h
    have hw : x.wt + 2 + D.wtL xs ≤ maxTx := hw
    exact ShL.cons (sh_of I sm n x _ _ h.1 r q (by omega)) (shL_of I sm n xs _ _ h.2 rs qs (by omega))
theorem shK_of (I : Inv X pins σ H s) (sm : SmW F H) : ∀ (n : Nat) (ks : List (Ky × D)) (kvs : List (Key × V)) (vs : List (Key × Value)) (es : List DictEntry), D.shOkK n ks = true → RepK X.K T F kvs ks → KV kvs vs → Pairs (mixKind X.prog X.w) es vs → D.wtK ks ≤ maxTx → ShK X s es n (D.repK ks)
  | n, [], _, _, _, _, .nil, q, p, _ => by
    cases q
    cases p
    exact ⟨[], _, _, [], .nil, .nil, (fun _ h => nomatch h), .nil, Nat.zero_le _⟩
  | n, (k, d) :: ks, _, _, _, h, .cons z r rs, q, p, hw => by
    unfold D.shOkK at h
    rw [Bool.and_eq_true, Bool.and_eq_true] at h
    have hw : kyWt k + 2 + d.wt + 2 + D.wtK ks ≤ maxTx := hw
    cases q with
    | cons q qs =>
      rename_i kv vs
      cases p with
      | cons p1 p2 ps =>
        obtain ⟨e1, e2⟩ := q
        refine ShK.cons (.key h.1 ?_ (by omega)) (sh_of I sm n d _ _ h.2.1 r ?_ (by omega)) (shK_of I sm n ks _ _ _ h.2.2 rs qs ps (by omega))
        · have e1 : kyV k = kv.1 := e1
          rw [e1]
          exact p1
        · rw [p2]; exact e2
end
/-- .. at the call -/
def rRepr (X : Cx) (T : Tb) : List V → Hp → VK → Prop := fun xs H Q => ∃ (v : V) (d : D) (F : Hp), xs = [v] ∧ SmW F H ∧ Rep X.K T F v d ∧ d.shOk 40 = true ∧ d.wt ≤ maxTx ∧ Q (.str (tx d.rep)) H
theorem q_fits {n : Nat} {d : D} (h : d.shOk n = true) (hw : d.wt ≤ maxTx) : (tx d.rep).length ≤ sizeLine := by
  rw [tx_len, ← maxTx_eq]
  exact Nat.le_trans (q_len n d h) hw
theorem call_reprA (un : X.A.units + 200 < cLine) (gd : X.A.guards = some []) : CallR X (.builtin "repr") (rRepr X T) := by
  intro pins s σ H xs us Q I r h
  obtain ⟨v, d, F, rfl, sm, rp, ok, wt, q⟩ := h
  obtain ⟨u, rfl, ru⟩ := vals1 r
  have hz := q_fits ok wt
  have room := un
  have fin : ∀ (h' : Heap) (t tk : Nat), (∀ b o, s.heap.get? b = some o → h'.get? b = some o) → EP X pins σ Q (.str (tx d.rep) t) { s with heap := h', toks := tk } := fun h' t tk k => ⟨.str (tx d.rep), H, I.kept k, ⟨_, rfl⟩, q⟩
  cases d with
  | non =>
    rw [rp.non_inv] at ru
    cases ru
    exact PySem.P.repr_of_none (fin s.heap _ _ fun b o e => e)
  | bl b =>
    rw [rp.bl_inv] at ru
    cases ru
    have := fin s.heap
    cases b <;> exact PySem.P.repr_of_bool (this _ _ fun b o e => e)
  | int i =>
    rw [rp.int_inv] at ru
    obtain ⟨t, rfl⟩ := ru
    have hi : i.natAbs < 10 ^ 120 := of_decide_eq_true ok
    have e : tx (D.rep (.int i)) = toString i := (tx_ofString _).symm
    rw [e] at fin
    exact PySem.P.repr_of_int (log_small hi) (fin s.heap _ _ fun b o e => e)
  | str x =>
    rw [rp.str_inv.1] at ru
    obtain ⟨t, rfl⟩ := ru
    have e : tx (D.rep (.str x)) = reprText (tx x) := (reprText_of ok).symm
    rw [e] at fin hz
    exact PySem.P.repr_of_str (fin s.heap _ _ fun b o e => e) hz
  | lst xs =>
    obtain ⟨a, vs, rfl, ha, ra⟩ := rp.lst_inv
    cases ru
    have ha := sm _ _ ha
    have wt' : D.wtL xs + 2 ≤ maxTx := wt
    obtain ⟨z, its, n, r, e⟩ := I.hok a _ ha
    obtain ⟨pds, as, bs, p1, p2, p3, p4⟩ := shL_of I sm 39 xs vs _ ok ra r (by omega)
    have rd : Reads s.heap (.ref a) (.list pds) (a :: as) := .list e rfl rfl p1
    have hna : a ∉ bs := not_mem_of_deeper rd (by simp only [PyData.depth]; omega) p2
    have t : tx (D.lst xs).rep = listText ((D.repL xs).map tx) := (listText_of _).symm
    rw [t] at fin hz
    refine call_repr_slot (by omega) ⟨_, e, rfl⟩ PySem.F.slot_list_repr.toG ?_
    cases vs with
    | nil =>
      cases r
      have e0 := (repL_nil ra).mpr rfl
      subst e0
      exact call_list_repr_empty ⟨_, e, rfl⟩ e rfl ⟨_, _, rfl, fin s.heap _ _ fun b o e => e⟩
    | cons v vs =>
      cases r with
      | cons r1 r2 => exact call_list_reprK (h₀ := s.heap) (as := bs) (d := PyData.depthAll pds) e rfl rfl hna (by simpa using p3.length_eq) (fun i y hy => p3.item i y (by simpa using hy)) gd (fun b _ => Clear.nil b) (by show X.A.units + 1 + _ < _; omega) (fun b o e => e) (fun h' u tk k => ⟨_, _, rfl, fin h' u tk k⟩) hz
  | tup xs =>
    obtain ⟨a, vs, rfl, ha, ra⟩ := rp.tup_inv
    cases ru
    have ha := sm _ _ ha
    have wt' : D.wtL xs + 4 ≤ maxTx := wt
    obtain ⟨z, its, r, o, e1, e2, m, e3⟩ := (show ObjOk X.prog X.w H s.heap a (.tup vs) from I.hok a _ ha)
    obtain ⟨pds, as, bs, p1, p2, p3, p4⟩ := shL_of I sm 39 xs vs _ ok ra r (by omega)
    have rd : Reads s.heap (.ref a) (.tuple pds) as := .tuple e1 e2 e3 (by simpa using p1)
    have hna : a ∉ bs := not_mem_of_deeper rd (by simp only [PyData.depth]; omega) p2
    have t : tx (D.tup xs).rep = tupleText ((D.repL xs).map tx) := by rw [tupleText_of, repL_len]; rfl
    rw [t] at fin hz
    refine call_repr_slot (by omega) ⟨o, e1, e2⟩ PySem.F.slot_tuple_repr ?_
    exact call_tuple_reprK (h₀ := s.heap) (as := bs) (d := PyData.depthAll pds) e1 e2 e3 hna (by simpa using p3) gd (fun b _ => Clear.nil b) (by show X.A.units + 1 + _ < _; omega) (fun b o e => e) (fun h' u tk k => ⟨_, _, rfl, fin h' u tk k⟩) hz
  | dct ks =>
    obtain ⟨a, kvs, rfl, ha, rk⟩ := rp.dct_inv
    cases ru
    have wt' : D.wtK ks + 5 ≤ maxTx := wt
    obtain ⟨_, hs, vs, kv, o, es, ep, ho, ex, hd, _, pr, _⟩ := dk_rd I.hok (sm.rd ha)
    obtain ⟨pds, as, cs, bs, p1, p1', p2, p3, p4⟩ := shK_of I sm 39 ks kvs vs es.toList ok rk kv pr (by omega)
    have rd : Reads s.heap (.ref a) (.dict pds) (a :: as ++ cs) := .dict ho ex.1 hd p1 p1'
    have hna : a ∉ bs := not_mem_of_deeper rd (by simp only [PyData.depth]; omega) p2
    have t : tx (D.dct ks).rep = dictText ((D.repK ks).map tx) := (dictText_of _).symm
    rw [t] at fin hz
    refine call_repr_slot (by omega) ⟨o, ho, ex.1⟩ PySem.F.slot_dict_repr ?_
    exact call_dict_reprK (h₀ := s.heap) (as := bs) (d := PyData.depthKv pds) ho ex.1 hd hs hna p3 gd (fun b _ => Clear.nil b) (by show X.A.units + 1 + _ < _; omega) (fun b o e => e) (fun h' u tk k => ⟨_, _, rfl, fin h' u tk k⟩) hz
  | obj _ _ => cases ok
  | dcT _ => cases ok
  | exc _ _ => cases ok
  | frl _ => cases ok
  | cls _ => cases ok
  | prt _ => cases ok
end
mutual
theorem shOk_of : ∀ (n : Nat) (d : D), d.repOk n = true → d.shOk n = true
  | n, .non, _ => by cases n <;> rfl
  | n, .bl _, _ => by cases n <;> rfl
  | n, .int _, h => by cases n <;> exact h
  | n, .str _, h => by cases n <;> exact h
  | 0, .lst xs, h => by cases h
  | n + 1, .lst xs, h => shOkL_of n xs h
  | 0, .tup xs, h => by cases h
  | n + 1, .tup xs, h => shOkL_of n xs h
  | n, .dct _, h => by cases n <;> cases h
  | n, .dcT _, h => by cases n <;> cases h
  | n, .exc _ _, h => by cases n <;> cases h
  | n, .obj _ _, h => by cases n <;> cases h
  | n, .frl _, h => by cases n <;> cases h
  | n, .cls _, h => by cases n <;> cases h
  | n, .prt _, h => by cases n <;> cases h
theorem shOkL_of : ∀ (n : Nat) (xs : List D), D.repOkL n xs = true → D.shOkL n xs = true
  | n, [], _ => by unfold D.shOkL; rfl
  | n, x :: xs, h => by
    unfold D.repOkL at h
    rw [Bool.and_eq_true] at h
    unfold D.shOkL
    rw [shOk_of n x h.1, shOkL_of n xs h.2]
    rfl
end
theorem repF_ok {d : D} (h : (d.repOk 40 = true ∧ d.wt ≤ maxTx) ∨ d.noD = true) : d.shOk 40 = true ∧ d.wt ≤ maxTx := by
  rcases h with ⟨h1, h2⟩ | h
  · exact ⟨shOk_of 40 d h1, h2⟩
  · unfold D.noD at h
    rw [Bool.and_eq_true, decide_eq_true_iff] at h
    exact h
theorem okTx_q {n : Nat} {d : D} (h : d.shOk n = true) (hw : d.wt ≤ maxTx) : okTx d.rep := by
  refine ⟨q_sign n d h, ?_⟩
  rw [← maxTx_eq]
  exact Nat.le_trans (q_len n d h) hw
section
variable {X : Cx} {T : Tb}
theorem ok_repr : DL.FnR X.K T repF (rRepr X T) := by
  intro F H vs ds k Q s r ho kk
  unfold repF at ho
  split at ho
  · rename_i k d
    obtain ⟨v, rfl, r1⟩ := repL1 r
    obtain ⟨hd, hk⟩ := ho
    obtain ⟨h1, h2⟩ := repF_ok hd
    exact ⟨v, d, F, rfl, s, r1, h1, h2, kk _ _ _ (.fz (.str (okTx_q h1 h2))) hk⟩
  · exact ho.elim
end
end DL

set_option Elab.async false
set_option linter.all false
set_option autoImplicit false
set_option maxRecDepth 100000
/-! DLX22: defs with *args; is True; a, b, c = x, y, z; xs[::-1]. -/
namespace DL
open PySem PySem.Spec PyProof.Rows L2
/-- def f(*v): what is handed in is one tuple -/
structure DefV (P : Program) (w : World) (K : PySem.W.Frag) (mg : Str → Option Value) (base : Heap) (T : Tb) (k : Nat) (f : Addr) (con : Con) : Prop where
  run : ∀ (A : Around) (outer : List PySem.Env) (s : Shared) (H : Hp) (us : List Value) (vs : List V) (Q : VK) (E : XK), RoomG k A → Env0 P w K mg base A outer s H → Vals vs us → vs.length ≤ sizeLine →
    (∀ p, H p = none → spC K T 1 [] con [.ref p] (upd H p (.tup vs)) Q E) → codeAny (model P w) A (.call (.ref f) ⟨us, []⟩) (CR (CZ K P w) outer P w H s Q E) s
  kp : PySem.W.keepIn K (.ref f) = true
section
variable {P : Program} {w : World} {K : PySem.W.Frag} {mg : Str → Option Value} {base : Heap} {T : Tb}
end
section
variable {X : Cx} {T : Tb} {B : Bs} {M : List Nat} {W : EK} {F H : Hp} {ρ : Env} {σ : L2.St}
variable {k : Nat} {fa : Addr} {con : Con} {x : Str} {p pos : Pos} {e : Expr} {es : List Expr} {f : DE} {fs : List DE}
theorem RepL.reverse : ∀ {vs : List V} {xs : List D}, RepL X.K T F vs xs → RepL X.K T F vs.reverse xs.reverse
  | _, _, .nil => .nil
  | _, _, .cons a b => by rw [List.reverse_cons, List.reverse_cons]; exact (RepL.reverse b).append (.cons a .nil)
def CalV (P : Program) (w : World) (K : PySem.W.Frag) (mg : Str → Option Value) (base : Heap) (T : Tb) (x : Str) (k : Nat) (con : Con) : Prop := ∃ fa, DefV P w K mg base T k fa con ∧ mg x = some (.ref fa)
def tCallV (K : PySem.W.Frag) (T : Tb) (con : Con) (E : L2.St → XK) (t : TA) : TE := fun σ H Q => t σ H fun vs H1 => vs.length ≤ sizeLine ∧ ∀ p, H1 p = none → spC K T 1 [] con [.ref p] (upd H1 p (.tup vs)) Q (E σ)
end
/-! ### is, is not with a truth value -/
section
variable {X : Cx} {T : Tb} {B : Bs} {M : List Nat} {W : EK} {F H : Hp} {ρ : Env} {σ : L2.St}
variable {a b c e : Expr} {f g h : DE} {pos : Pos}
/-! ### a, b, c = x, y, z -/
theorem pds_par3 {i j l : Nat} {x y z : Str} {px py pz pt pt2 : Pos} {kt k2} (hc : X.calm = true) (hN : X.N.Nodup) (hi : X.N[i]? = some x) (hj : X.N[j]? = some y) (hl : X.N[l]? = some z) (hij : i ≠ j) (hil : i ≠ l) (hjl : j ≠ l) (hiM : i ∉ M) (hjM : j ∉ M) (hlM : l ∉ M)
    (hx : X.env.scope.names.lookup x = some .local) (hy : X.env.scope.names.lookup y = some .local) (hz : X.env.scope.names.lookup z = some .local) (ha : PDA X T B M W [a, b, c] [f, g, h])
    (hw : swappedStores [.Tuple [.Name x px, .Name y py, .Name z pz] kt pt] (.Tuple [a, b, c] k2 pt2) X.env = pure (some [x, y, z]) := by rfl)
    (hs : swapsWithSole [.Tuple [.Name x px, .Name y py, .Name z pz] kt pt] (.Tuple [a, b, c] k2 pt2) pos.line X.env = pure false := by rfl) :
    PDS X T B M W (.Assign [.Tuple [.Name x px, .Name y py, .Name z pz] kt pt] (.Tuple [a, b, c] k2 pt2) pos) (sPar3 i j l f g h) :=
  ps_imp (ps_par3 hc hN hi hj hl hij hil hjl hx hy hz ha hw hs) fun J σ H ⟨F, ρ, Jd, S, q, k, _⟩ => by
    refine lA_run (fs := [f, g, h]) (Qd := fun ds ρ2 => ∃ d d' d'', ds = [d, d', d''] ∧ Jd.nx (((ρ2.set i (.fz d)).set j (.fz d')).set l (.fz d''))) S ?_ fun F1 H1 ρ1 vs ds e1 S1 R1 h1 => ?_
    · refine (congrArg (fun z => f ρ z W) (funext fun r => funext fun ρ1 => congrArg (fun z => g ρ1 z W) (funext fun s => funext fun ρ2 => congrArg (fun z => h ρ2 z W) (funext fun t => funext fun ρ3 => propext ⟨fun q => ⟨_, _, _, rfl, q⟩, fun ⟨d, d', d'', e, q⟩ => ?_⟩)))).mp q
      cases e
      exact q
    · obtain ⟨d, d', d'', rfl, q⟩ := h1
      cases R1 with
      | cons r rs =>
        cases rs with
        | cons r' rs' =>
          cases rs' with
          | cons r'' rs'' =>
            cases rs''
            exact ⟨_, _, _, rfl, k F1 H1 _ _ e1 (((S1.putFz hiM r).putFz hjM r').putFz hlM r'') q⟩
/-! ### xs[::-1] -/
end
end DL

set_option Elab.async false
set_option linter.all false
set_option autoImplicit false
set_option maxRecDepth 100000
set_option maxHeartbeats 1000000
/-! DLX23: try with several clauses that name what they catch. -/
namespace DL
open PySem PySem.Spec PyProof.Rows L2
abbrev Clause := Value × Nat × (Addr → Value → Option Addr → TS)
/-- the ends of a clause whose name (at i) goes behind it -/
def unnamed (i : Nat) (D : Ends) : Ends := { nx := fun σ H => D.nx (σ.set i none) H, rt := D.rt, bk := fun σ H => D.bk (σ.set i none) H, ct := fun σ H => D.ct (σ.set i none) H }
/-- the clauses' wish, one behind the other -/
def wCls (K : PySem.W.Frag) (Wout : WX) (D : Ends) : List Clause → WX
  | [] => Wout
  | (c, i, ts) :: r => fun cls d σ H => ∃ hit, PySem.W.exmOne K cls c = some hit ∧ (hit = true → ∀ a, H a = none → ts a cls d (unnamed i D) (σ.set i (some (.ref a))) H) ∧ (hit = false → wCls K Wout D r cls d σ H)
inductive ClsOk (X : Cx) : List ExceptHandler → List Clause → Prop
  | nil : ClsOk X [] []
  | cons {x n : Str} {c : Value} {i : Nat} {ts : Addr → Value → Option Addr → TS} {st : Stmt} {sts : List Stmt} {np hp : Pos} {hds : List ExceptHandler} {l : List Clause} (names : Names X x c) (at_ : X.N[i]? = some n) (own : X.env.kindOf n = some .local)
      (suite : ∀ (a : Addr) (oe : Obj) (cls : Value) (d : Option Addr) (pn : List (Addr × Obj)), Zc cls d oe → (∃ vs, oe.data = .fields vs) → PSs (X.suite a ((a, oe) :: pn)) (st :: sts) (ts a cls d)) (rest : ClsOk X hds l) :
      ClsOk X (.ExceptHandler (some (.Name x np)) (some n) (st :: sts) hp :: hds) ((c, i, ts) :: l)
section
variable {X : Cx} {body : List Stmt} {h₀ : ExceptHandler} {hds : List ExceptHandler} {l : List Clause} {pos : Pos} {tb : WX → TS} {Wout : WX}
/-- from a suite's state to the one behind it -/
theorem behind {pins : List (Addr × Obj)} {D : Ends} {i : Nat} {n : Str} {hp : Pos} {a : Addr} {oe : Obj} {fl : Flow} {s6 : Shared} (ok : X.Ok) (hN : X.N.Nodup) (at_ : X.N[i]? = some n) (own : X.env.kindOf n = some .local)
    (hsp : SP (X.suite a ((a, oe) :: (X.pn ++ pins))) [] (unnamed i D) fl s6) :
    wpAny (model X.prog X.w) X.A (do bindName X.env n .none; unbindBehindTheSuite X.env n hp) (fun _ s7 => SP X pins D fl s7) X.xe s6 := by
  cases fl with
  | next => obtain ⟨σ6, H6, S6, q⟩ := hsp; exact gone_ok (S6.unsuite ok) hN at_ own fun s7 J7 => ⟨_, _, J7, q⟩
  | brk => obtain ⟨σ6, H6, S6, q⟩ := hsp; exact gone_ok (S6.unsuite ok) hN at_ own fun s7 J7 => ⟨_, _, J7, q⟩
  | cont => obtain ⟨σ6, H6, S6, q⟩ := hsp; exact gone_ok (S6.unsuite ok) hN at_ own fun s7 J7 => ⟨_, _, J7, q⟩
  | ret u => obtain ⟨v, σ6, H6, S6, r, q⟩ := hsp; exact gone_ok (S6.unsuite ok) hN at_ own fun s7 J7 => ⟨_, _, _, J7, r, q⟩
end
/-! ### over data -/
def suiteT (X : Cx) (T : Tb) (M : List Nat) (i c : Nat) (fs : Exc → DS) : Addr → Value → Option Addr → TS := fun a cls d D σ H => ∃ y B', B'.P i = .ref a ∧ ExR X.K T B'.F0 cls d y ∧ y.cls = c ∧ lS X.K T B' (i :: M) noE (fs y) D σ H
inductive ClsD (X : Cx) (T : Tb) (M : List Nat) : List ExceptHandler → List DClause → List Clause → Prop
  | nil : ClsD X T M [] [] []
  | cons {x n : Str} {C : Value} {i c : Nat} {fs : Exc → DS} {st : Stmt} {sts : List Stmt} {np hp : Pos} {hds : List ExceptHandler} {cl : List DClause} {l : List Clause} (names : Names X x C) (at_ : X.N[i]? = some n) (own : X.env.kindOf n = some .local) (free : i ∉ M) (kind : ExM X.K T c C)
      (suite : ∀ (a : Addr) (oe : Obj) (cls : Value) (d : Option Addr) (pn : List (Addr × Obj)) (y : Exc) (B' : Bs), Zc cls d oe → (∃ vs, oe.data = .fields vs) → B'.P i = .ref a → ExR X.K T B'.F0 cls d y → y.cls = c →
        PDSs (X.suite a ((a, oe) :: pn)) T B' (i :: M) noE (st :: sts) (fs y)) (rest : ClsD X T M hds cl l) :
      ClsD X T M (.ExceptHandler (some (.Name x np)) (some n) (st :: sts) hp :: hds) ((i, c, fs) :: cl) ((C, i, suiteT X T M i c fs) :: l)
section
variable {X : Cx} {T : Tb} {B : Bs} {M : List Nat} {W : EK} {F H : Hp} {ρ : Env} {σ : L2.St}
theorem ClsD.ok : ∀ {hds : List ExceptHandler} {cl : List DClause} {l : List Clause}, ClsD X T M hds cl l → ClsOk X hds l
  | _, _, _, .nil => .nil
  | _, _, _, .cons names at_ own free kind suite rest => .cons names at_ own (fun a oe cls d pn hz hf => ⟨fun pins s σ H J I ⟨y, B', h1, h2, h3, q⟩ => (suite a oe cls d pn y B' hz hf h1 h2 h3).run pins s σ H J I q⟩) rest.ok
variable {body : List Stmt} {h₀ : ExceptHandler} {hds : List ExceptHandler} {pos : Pos} {fb : DS} {cl : List DClause} {l : List Clause}
end
/-! ### isinstance of what a suite holds -/
/-- own exceptions' word of a class -/
def ErrI (K : PySem.W.Frag) (T : Tb) (c : Nat) (cv : Value) (b : Bool) : Prop := ∀ ei, T.ex c = some ei → ExcC K ei.addr ∧ PySem.W.kitOne K (.ref ei.addr) cv = some b
section
variable {X : Cx} {T : Tb} {B : Bs} {M : List Nat} {W : EK}
end
end DL

set_option Elab.async false
set_option linter.all false
set_option autoImplicit false
set_option maxRecDepth 100000
/-! DLX24: clauses from what a module says of its exceptions; {}. -/
namespace DL
open PySem PySem.Spec PyProof.Rows L2
/-- an own exception class as what is caught -/
def ErrN (K : PySem.W.Frag) (mg : Str → Option Value) (T : Tb) (x : Str) (c : Nat) : Prop := ∃ C, mg x = some (.ref C) ∧ ExM K T c (.ref C)
def ClsE (X : Cx) (T : Tb) (M : List Nat) (hds : List ExceptHandler) (cl : List DClause) : Prop := ∃ l, ClsD X T M hds cl l
section
variable {X : Cx} {T : Tb} {B : Bs} {M : List Nat} {W : EK} {F H : Hp} {ρ : Env} {σ : L2.St}
theorem pd_dct0 {pos : Pos} : PD X T B M W (.Dict [] [] pos) dDct0 :=
  pe_imp pe_dnewK fun σ H Q ⟨F, ρ, Qd, S, h, k⟩ => fun d hd => lE_end k (Same.refl _) S (.fr hd (.dct .nil)) h
end
end DL

set_option Elab.async false
set_option linter.all false
set_option autoImplicit false
set_option maxRecDepth 100000
/-! DLX25: what isinstance and except ask of own classes, from what the written part says. -/
namespace DL
open PySem PySem.Spec PyProof.Rows L2
section
variable {K : PySem.W.Frag} {C D : Addr} {b : Bool}
theorem clsIn_of (h : PySem.W.hasDictIn K C = true) : (PySem.W.clsIn K C).isSome = true := by
  unfold PySem.W.hasDictIn at h
  cases e : PySem.W.clsIn K C with
  | none => rw [e] at h; cases h
  | some cd => rfl
theorem kitCls_of {t : Value} (hd : PySem.W.hasDictIn K C = true) (ty : PySem.W.typeIn K (.ref C) = some (.type "type")) (h : PySem.W.subIn K t (.ref C) = some b) : PySem.W.kitCls K t (.ref C) = some b := by
  show (if ((PySem.W.clsIn K C).isSome && PySem.W.typeIn K (.ref C) == some (.type "type")) = true then PySem.W.subIn K t (.ref C) else none) = _
  rw [clsIn_of hd, ty, h]
  simp
theorem kit_self : PySem.W.kitOne K (.ref C) (.ref C) = some true := by
  unfold PySem.W.kitOne
  simp
def mroT : List String := ["NoneType", "bool", "int", "str", "list", "tuple", "dict"]
theorem kit_err {t : String} (hm : PySem.W.kitMeta t = true) (h : PySem.W.subIn K (.ref D) (.type t) = some b) : PySem.W.kitOne K (.ref D) (.type t) = some b := by
  unfold PySem.W.kitOne
  rw [if_neg (by simp)]
  show (if PySem.W.kitMeta t = true then PySem.W.subIn K (.ref D) (.type t) else none) = _
  rw [if_pos hm, h]
theorem kit_cls (hd : PySem.W.hasDictIn K C = true) (ty : PySem.W.typeIn K (.ref C) = some (.type "type")) (hs : PySem.W.mroIn K C (.ref C) = some true) (h : PySem.W.mroIn K D (.ref C) = some false) : PySem.W.kitOne K (.ref D) (.ref C) = some false := by
  have hne : ((Value.ref D) == (Value.ref C)) = false := by
    cases e : (Value.ref D) == (Value.ref C) with
    | false => rfl
    | true =>
      have e := eq_of_beq e
      injection e with e
      rw [e, hs] at h
      cases h
  unfold PySem.W.kitOne
  rw [hne]
  exact kitCls_of hd ty h
end
end DL

set_option Elab.async false
set_option linter.all false
set_option autoImplicit false
set_option maxRecDepth 100000
/-! DLX37: {k: e, ..} with written keys; d[k]; a constant of a class. -/
namespace DL
open PySem PySem.Spec PyProof.Rows L2
section
variable {X : Cx} {T : Tb} {B : Bs} {M : List Nat} {W : EK} {F H : Hp} {ρ : Env} {σ : L2.St}
variable {a b e : Expr} {f g : DE} {pos : Pos}
/-! keys that are tuples -/
/-! ### displays -/
abbrev trsD (K : PySem.W.Frag) (T : Tb) (M : List Nat) (ks : List Ky) (fs : List DE) : List (TE × TE) := (ks.zip fs).map fun z => (tC (kV (kyV z.1)), lEx K T M noE z.2)
abbrev PDP (X : Cx) (T : Tb) (M : List Nat) (pos : Pos) (keys : List (Option Expr)) (values : List Expr) (ks : List Ky) (fs : List DE) : Prop := PPs X pos keys values (trsD X.K T M ks fs)
theorem pdp_nil : PDP X T M pos [] [] [] [] := pps_nil
theorem pdp_str {x : Str} {l : Tx} {j : Nat} {p : Pos} {keys : List (Option Expr)} {values : List Expr} {ks : List Ky} {fs : List DE} (hx : x = tx l) (hv : ∀ B, PD X T B M noE e f) (hr : PDP X T M pos keys values ks fs) : PDP X T M pos (some (.Constant (.str x) j p) :: keys) (e :: values) (.str l :: ks) (f :: fs) := by
  subst hx
  exact pps_cons (tk := tC (.str (tx l))) pe_str (pe_ex hv) hr
theorem pairs_of {p : Addr} : ∀ {ks : List Ky} {fs : List DE} {B : Bs} {F H : Hp} {ρ : Env} {Qd : List D → Env → Prop} {Q : List (V × V) → Hp → Prop}, ks.length = fs.length → SR X.K T B M F H ρ σ → (H p = some (.dK []) ∧ F p = none ∧ ¬ OwnOf H ρ σ p) → dArgs fs ρ Qd noE →
    (∀ F' H' ρ' vs ds, Same F F' → SR X.K T B M F' H' ρ' σ → (H' p = some (.dK []) ∧ F' p = none ∧ ¬ OwnOf H' ρ' σ p) → RepL X.K T F' vs ds → vs.length = ks.length → Qd ds ρ' → Q ((ks.zip vs).map fun z => (kV (kyV z.1), z.2)) H') → tPairs (trsD X.K T M ks fs) σ H Q
  | [], [], B, F, H, ρ, Qd, Q, _, S, hp, h, k => k F H ρ [] [] (Same.refl _) S hp .nil rfl h
  | ky :: ks, f :: fs, B, F, H, ρ, Qd, Q, hl, S, hp, h, k => by
    have h : f ρ (fun r ρ1 => dArgs fs ρ1 (fun ds ρ2 => Qd (r.d :: ds) ρ2) noE) noE := h
    refine ⟨baseAt B F H ρ σ, lE_run S.base h fun F1 H1 ρ1 v1 r1 e1 S1 R1 h1 => ?_⟩
    obtain ⟨l1, l2, l3⟩ := S.loose S1 hp.1 hp.2.1 hp.2.2
    refine pairs_of (by simpa using hl) (S.trans S1) ⟨l1, l2, l3⟩ h1 fun F2 H2 ρ2 vs ds e2 S2 hp2 R2 hn q => ?_
    exact k F2 H2 ρ2 (v1 :: vs) (r1.d :: ds) (e1.trans e2) S2 hp2 (.cons (R1.mono e2) R2) (by simp [hn]) q
theorem putK_new {kvs : List (Key × V)} {k : Key} {v : V} (h : ∀ p ∈ kvs, p.1 ≠ k) : putK kvs k v = kvs ++ [(k, v)] := by
  unfold putK
  rw [if_neg]
  intro q
  obtain ⟨p, hp, hq⟩ := List.any_eq_true.mp q
  exact h p hp (of_decide_eq_true hq)
theorem mergeK_new : ∀ {more acc : List (Key × V)}, (∀ p ∈ acc, ∀ q ∈ more, p.1 ≠ q.1) → (more.map (·.1)).Nodup → mergeK acc more = acc ++ more
  | [], acc, _, _ => by simp [mergeK]
  | q :: more, acc, h, hn => by
    have hn' := List.nodup_cons.mp hn
    show mergeK (putK acc q.1 q.2) more = _
    rw [putK_new fun p hp => h p hp q List.mem_cons_self, mergeK_new ?_ hn'.2, List.append_assoc]
    · rfl
    · intro p hp z hz
      rcases List.mem_append.mp hp with hp | hp
      · exact h p hp z (List.mem_cons_of_mem _ hz)
      · rw [List.mem_singleton] at hp
        subst hp
        exact fun e => hn'.1 (List.mem_map.mpr ⟨z, hz, Eq.symm e⟩)
theorem repK_zip {K : PySem.W.Frag} : ∀ {ks : List Ky} {vs : List V} {ds : List D}, (∀ k ∈ ks, okKy k) → ks.length = vs.length → RepL K T F vs ds → RepK K T F ((ks.zip vs).map fun z => (kyV z.1, z.2)) (ks.zip ds)
  | [], _, _, _, _, _ => .nil
  | k :: ks, _, _, _, hl, .nil => by simp at hl
  | k :: ks, _, _, h, hl, .cons a b => .cons (h k List.mem_cons_self) a (repK_zip (fun z hz => h z (List.mem_cons_of_mem _ hz)) (by simpa using hl) b)
def okKyB : Ky → Bool
  | .int _ => true
  | .str x => okTxB x
theorem okKy_of {k : Ky} (h : okKyB k = true) : okKy k := by
  cases k with
  | int i => trivial
  | str x => exact okTx_of h
theorem pd_disp {keys : List (Option Expr)} {values : List Expr} {ks : List Ky} {fs : List DE} (h : PDP X T M pos keys values ks fs) (hk : (ks.all okKyB && decide ks.Nodup && decide (ks.length = fs.length) && decide (ks.length ≤ 15)) = true)
    (hall : keys.all (·.isSome) = true := by rfl) (hl : keys.length = values.length := by rfl) (h0 : keys ≠ [] := by exact fun z => nomatch z) (h15 : keys.length ≤ 15 := by decide) : PD X T B M W (.Dict keys values pos) (dDisp ks fs) := by
  simp only [Bool.and_eq_true, decide_eq_true_eq, List.all_eq_true] at hk
  obtain ⟨⟨⟨k1, k2⟩, k3⟩, k4⟩ := hk
  refine pe_imp (pe_disp h hall hl h0 h15) fun σ H Q ⟨F, ρ, Qd, S, q, kk⟩ => fun p hp => ?_
  have S1 := S.lay (o := .dK []) hp
  have hno : ¬ OwnOf (upd H p (.dK [])) ρ σ p := fun ⟨i, z1⟩ => S.lay_new hp i z1
  refine pairs_of k3 S1 ⟨upd_same, S.sub.free hp, hno⟩ q fun F' H' ρ' vs ds e1 S2 hp2 R hn q2 => ⟨hp2.1, (ks.zip vs).map fun z => (kyV z.1, z.2), by rw [List.map_map]; rfl, by rw [List.length_map, List.length_zip]; omega, ?_⟩
  have nd : ((ks.zip vs).map fun z => ((kyV z.1, z.2) : Key × V)).map (·.1) = ks.map kyV := by
    rw [List.map_map]
    have : (fun z : Key × V => z.1) ∘ (fun z : Ky × V => ((kyV z.1, z.2) : Key × V)) = kyV ∘ Prod.fst := rfl
    rw [this, ← List.map_map, List.map_fst_zip (by omega)]
  rw [mergeK_new (fun p hp => absurd hp List.not_mem_nil) (by rw [nd]; exact k2.map kyV fun a b hab => mt kyV_inj hab), List.nil_append]
  have S3 := S2.storeLoose (o' := .dK ((ks.zip vs).map fun z => (kyV z.1, z.2))) hp2.1 hp2.2.1 hp2.2.2 (S.gone hp)
  have hno' : ∀ i, p ∉ foot (upd H' p (.dK ((ks.zip vs).map fun z => (kyV z.1, z.2)))) (σ[i]?) (ρ'.at i) := fun i z => by
    rw [S2.footEq (fun i a ha => upd_ne fun z => hp2.2.2 ⟨i, by rw [← z]; exact ha⟩) i] at z
    exact hp2.2.2 ⟨i, z⟩
  exact kk F' _ ρ' (.ref p) (.fr (.dct (ks.zip ds))) e1 S3 ⟨p, _, rfl, hp2.2.1, upd_same, .dct (repK_zip (fun k hk => okKy_of (k1 k hk)) (by omega) R), S.gone hp, hno'⟩ q2
/-! ### a constant of a class -/
/-- C.f is a constant, whose data is d -/
def CCon (K : PySem.W.Frag) (C : Addr) (n : Str) (d : D) : Prop := ∃ v u, ClX.CVal K C (.type "type") n v u ∧ ∀ T F, Rep K T F v d
end
end DL

set_option linter.all false
set_option autoImplicit false
namespace DL
/-! thunks: told(lambda: e) -/
/-- the names that the thunk uses are settled -/
def calmE : List Nat → Env → Env
  | [], ρ => ρ
  | i :: is, ρ => calmE is (match ρ.at i with
    | .own d => ρ.set i (.fz d)
    | .ownT d => ρ.set i (.fz d.calm)
    | _ => ρ)
/-- what a name keeps for itself the thunk does not see -/
def hideE (ρ : Env) : Env := ρ.map fun s => match s with
  | .own _ => .no
  | .ownT _ => .no
  | z => z
/-- try: return x() / except C as e: .. -/
def dTold (is : List Nat) (n : Nat) (cl : List DClause) (f : DE) : DE := fun ρ Q _ => f (hideE (calmE is ρ)) (fun r _ => Q r (calmE is ρ)) fun x _ => catchD cl { nx := fun _ => Q (.fz .non) (calmE is ρ), rt := fun r _ => Q r (calmE is ρ) } noE x (List.replicate n .no)
/-- try: x() / except C as e: .. / behind it: return t -/
def dToldB (is : List Nat) (n : Nat) (cl : List DClause) (t : Tx) (f : DE) : DE := fun ρ Q _ => f (hideE (calmE is ρ)) (fun _ _ => Q (.fz (.str t)) (calmE is ρ)) fun x _ => catchD cl { nx := fun _ => Q (.fz (.str t)) (calmE is ρ), rt := fun r _ => Q r (calmE is ρ) } noE x (List.replicate n .no)
/-- try: return len(x()) / except C as e: .., len by the own __len__ of what x() hands back -/
def dToldO (is : List Nat) (n : Nat) (cl : List DClause) (c : Nat) (con : Con) (f : DE) : DE := fun ρ Q _ => f (hideE (calmE is ρ)) (fun r _ => r.d.isObj c = true ∧ con [.fz r.d] (fun t _ => ∃ m : Nat, t.d = .int m ∧ m < 2 ^ 62 ∧ Q (.fz (.int m)) (calmE is ρ)) fun _ _ => False)
  fun x _ => catchD cl { nx := fun _ => Q (.fz .non) (calmE is ρ), rt := fun r _ => Q r (calmE is ρ) } noE x (List.replicate n .no)
/-- isinstance with a built-in class: an own object is none of it -/
def D.isTyO (t : Ty) (c : Nat) : D → Option Bool
  | .obj c' _ => if c' = c then some false else none
  | d => d.isTy t
def dIsiO (t : Ty) (c : Nat) (f : DE) : DE := fun ρ Q E => f ρ (fun r ρ1 => ∃ b, r.d.isTyO t c = some b ∧ Q (.fz (.bl b)) ρ1) E
/-- a call of the def that a name holds -/
def dCallF (i : Nat) (tbl : List (Nat × Con)) (as : List DA) : DE := fun ρ Q E => match ρ.at i with
  | .fz (.cls n) => (match tbl.lookup n with
    | some con => dCall con as ρ Q E
    | none => False)
  | _ => False
end DL

set_option Elab.async false
set_option linter.all false
set_option autoImplicit false
set_option maxRecDepth 100000
/-! DLPU: more data definitions. -/
namespace DL
/-- [o, o] != [o, o] by an own __eq__, the equal case -/
def dNeL (c : Nat) (con : Con) (f g : DE) : DE := fun ρ Q E => f ρ (fun r ρ1 => g ρ1 (fun s ρ2 => ∃ o1 o2 p1 p2, r.d = .lst [o1, o2] ∧ s.d = .lst [p1, p2] ∧ (o1.isObj c = true ∧ o2.isObj c = true ∧ p1.isObj c = true ∧ p2.isObj c = true) ∧
  (Q (.fz (.bl false)) ρ2 ∧ con [.fz o2, .fz p2] (fun t _ => ∃ b, t.d = .bl b ∧ (R.fz (.bl b) = .fz (.bl true) ∧ Q (.fz (.bl false)) ρ2)) fun _ _ => False) ∧
  con [.fz o1, .fz p1] (fun t _ => ∃ b, t.d = .bl b ∧ (R.fz (.bl b) = .fz (.bl true) ∧ (Q (.fz (.bl false)) ρ2 ∧ con [.fz o2, .fz p2] (fun t _ => ∃ b, t.d = .bl b ∧ (R.fz (.bl b) = .fz (.bl true) ∧ Q (.fz (.bl false)) ρ2)) fun _ _ => False))) fun _ _ => False) E) E
/-! objects with parts of their own -/
def putL : List D → Nat → D → List D
  | [], _, d => [d]
  | _ :: xs, 0, d => d :: xs
  | x :: xs, j + 1, d => x :: putL xs j d
/-- a field's new value: a part of its own, or settled -/
def kidOf : Bool → R → (D → Prop) → Prop
  | true, .fr (.tup _), _ => False
  | true, .fr d, k => k (.prt d)
  | true, _, _ => False
  | false, r, k => k r.d
/-- x.f = e, x the name's own object -/
def sFldT (i c j : Nat) (b : Bool) (f : DE) : DS := fun D ρ E => f ρ (fun r ρ1 => match ρ1.at i with
  | .own (.obj c' fs) => c' = c ∧ j ≤ fs.length ∧ kidOf b r fun d => D.nx (ρ1.set i (.ownT (.obj c (putL fs j d))))
  | .ownT (.obj c' fs) => c' = c ∧ j ≤ fs.length ∧ kidOf b r fun d => D.nx (ρ1.set i (.ownT (.obj c (putL fs j d))))
  | _ => False) E
/-- x.f.append(e), the field a list of its object's own -/
def sAppF (i c j : Nat) (f : DE) : DS := fun D ρ _ => match ρ.at i with
  | .ownT (.obj c' fs) => c' = c ∧ ∃ xs, fs[j]? = some (.prt (.lst xs)) ∧ f (ρ.map Slot.calm) (fun r _ => r.d.flat = true ∧ xs.length < maxTx ∧ D.nx (ρ.set i (.ownT (.obj c (putL fs j (.prt (.lst (xs ++ [r.d])))))))) noE
  | _ => False
/-- x.f op= e, flat values -/
def sFldAugT (i c j : Nat) (op : D → D → (R → Prop) → Prop) (f : DE) : DS := fun D ρ _ => match ρ.at i with
  | .ownT (.obj c' fs) => c' = c ∧ ∃ x, fs[j]? = some x ∧ x.flat = true ∧ f (ρ.map Slot.calm) (fun r _ => op x r.d fun t => t.d.flat = true ∧ D.nx (ρ.set i (.ownT (.obj c (putL fs j t.d))))) noE
  | _ => False
/-! == where the left one may be None -/
def eqNone (c : Nat) (con : Con) (x y : D) (k : Bool → Prop) : Prop := match x with
  | .non => (match y with
    | .non => k true
    | y => y.isObj c = true ∧ con [.fz y, .fz .non] (fun t _ => ∃ b, t.d = .bl b ∧ k b) fun _ _ => False)
  | x => x.isObj c = true ∧ y.eqTo c = true ∧ con [.fz x, .fz y] (fun t _ => ∃ b, t.d = .bl b ∧ k b) fun _ _ => False
def dEqN (c : Nat) (con : Con) (f g : DE) : DE := fun ρ Q E => f ρ (fun r ρ1 => g ρ1 (fun s ρ2 => eqNone c con r.d s.d fun b => Q (.fz (.bl b)) ρ2) E) E
/-- x.p, p a property whose getter computes -/
def dProp (c : Nat) (con : Con) (f : DE) : DE := fun ρ Q E => f ρ (fun r ρ1 => r.d.isObj c = true ∧ con [.fz r.d] (fun t _ => Q t ρ1) (fun _ _ => False)) E
/-- str(i) -/
def strF : List D → (R → Prop) → Prop
  | [.int i], k => i.natAbs < 10 ^ 120 ∧ k (.fz (.str (intT i)))
  | _, _ => False
end DL

set_option Elab.async false
set_option linter.all false
set_option autoImplicit false
set_option maxRecDepth 100000
/-! DLPV: more data definitions. -/
namespace DL
/-! != where either may be None -/
def neNone (c : Nat) (con : Con) (x y : D) (k : Bool → Prop) : Prop := match x with
  | .non => (match y with
    | .non => k false
    | y => y.isObj c = true ∧ con [.fz y, .fz .non] (fun t _ => ∃ b, t.d = .bl b ∧ k (!b)) fun _ _ => False)
  | x => x.isObj c = true ∧ (match y with
    | .non => con [.fz x, .fz .non] (fun t _ => ∃ b, t.d = .bl b ∧ k (!b)) fun _ _ => False
    | y => y.isObj c = true ∧ con [.fz x, .fz y] (fun t _ => ∃ b, t.d = .bl b ∧ k (!b)) fun _ _ => False)
def dNeN (c : Nat) (con : Con) (f g : DE) : DE := fun ρ Q E => f ρ (fun r ρ1 => g ρ1 (fun s ρ2 => neNone c con r.d s.d fun b => Q (.fz (.bl b)) ρ2) E) E
/-- a new object of flat things -/
def D.flat1 : D → Bool
  | .lst xs => xs.all D.flat
  | .tup xs => xs.all D.flat
  | .dct ks => ks.all fun p => p.2.flat
  | _ => false
/-- read with one's own objects as they stand, for a new object of flat things -/
def dLookL (f : DE) : DE := fun ρ Q _ => f (ρ.map Slot.calm) (fun r _ => ∃ d, r = .fr d ∧ d.flat1 = true ∧ Q (.fr d) ρ) noE
/-! targets of any kind -/
/-- x.f, x the name's own object -/
def gA (i c j : Nat) : DG := fun d ρ k => match ρ.at i with
  | .own (.obj c' fs) => c' = c ∧ j ≤ fs.length ∧ k (ρ.set i (.own (.obj c (putL fs j d))))
  | _ => False
/-- x.f, x a name that keeps its own object -/
def dFldN (i c j : Nat) : DE := fun ρ Q _ => match ρ.at i with
  | .own (.obj c' fs) => c' = c ∧ ∃ d, fs[j]? = some d ∧ Q (.fz d) ρ
  | .fz (.obj c' fs) => c' = c ∧ ∃ d, fs[j]? = some d ∧ Q (.fz d) ρ
  | _ => False
def gGs : List DG → List D → Env → (Env → Prop) → Prop
  | [], [], ρ, k => k ρ
  | g :: gs, d :: ds, ρ, k => g d ρ fun ρ1 => gGs gs ds ρ1 k
  | _, _, _, _ => False
def gTG (gs : List DG) : DG := fun d ρ k => match d with
  | .tup ds => gGs gs ds ρ k
  | _ => False
/-- a = b = .. = f -/
def gAll : List DG → D → Env → (Env → Prop) → Prop
  | [], _, ρ, k => k ρ
  | g :: gs, d, ρ, k => g d ρ fun ρ1 => gAll gs d ρ1 k
def sAsgs (gs : List DG) (f : DE) : DS := fun D ρ E => f ρ (fun r ρ1 => gAll gs r.d ρ1 D.nx) E
/-- x.clear(), x the name's own list or dict -/
def sClr (i : Nat) : DS := fun D ρ _ => match ρ.at i with
  | .own (.lst _) => D.nx (ρ.set i (.own (.lst [])))
  | .own (.dct _) => D.nx (ρ.set i (.own (.dct [])))
  | _ => False
/-- a new object becomes the name's own; a settled value is stored as it is -/
def sAsgN (i : Nat) (f : DE) : DS := fun D ρ E => f ρ (fun r ρ1 => match r with | .fr (.tup _) => False | .ft (.tup _) => False | .fr d => D.nx (ρ1.set i (.own d)) | .ft d => D.nx (ρ1.set i (.ownT d)) | .fz d => D.nx (ρ1.set i (.fz d))) E
/-- x.index(e), x a list: the first place of an equal thing -/
def firstEq : List D → D → Nat → Option Nat
  | [], _, _ => none
  | y :: ys, d, i => if D.eqv y d = true then some i else firstEq ys d (i + 1)
def dLix (f g : DE) : DE := fun ρ Q E => f ρ (fun r ρ1 => match r.d with
  | .lst ys => g ρ1 (fun s ρ2 => D.eqOkL 59 ys = true ∧ s.d.eqOk 60 = true ∧ ∃ i : Nat, firstEq ys s.d 0 = some i ∧ Q (.fz (.int (i : Int))) ρ2) E
  | _ => False) E
/-! texts in their order -/
def leT : Tx → Tx → Bool
  | [], _ => true
  | _ :: _, [] => false
  | x :: xs, y :: ys => if x < y then true else if y < x then false else leT xs ys
def insT (x : Tx) : List Tx → List Tx
  | [] => [x]
  | y :: ys => if leT x y then x :: y :: ys else y :: insT x ys
def srtT : List Tx → List Tx
  | [] => []
  | x :: xs => insT x (srtT xs)
def ddT : List Tx → List Tx
  | [] => []
  | x :: xs => if x ∈ xs then ddT xs else x :: ddT xs
/-- len(set(e)), sorted(set(e)): e a list of texts -/
def dLenSet (f : DE) : DE := fun ρ Q E => f ρ (fun r ρ1 => match r.d with
  | .lst xs => ∃ ys : List Tx, xs = ys.map D.str ∧ ys.length < 4000 ∧ Q (.fz (.int (ddT ys).length)) ρ1
  | _ => False) E
def dSrtSet (f : DE) : DE := fun ρ Q E => f ρ (fun r ρ1 => match r.d with
  | .lst xs => ∃ ys : List Tx, xs = ys.map D.str ∧ ys.length < 4000 ∧ (ddT ys).length < 64 ∧ Q (.fr (.lst ((srtT (ddT ys)).map D.str))) ρ1
  | _ => False) E
/-- sorted(x) of a list of texts, or of a dict whose keys are texts -/
def kyT : Ky → Tx
  | .str x => x
  | .int _ => []
def Ky.isT : Ky → Bool
  | .str _ => true
  | .int _ => false
def sortedF : List D → (R → Prop) → Prop
  | [.lst xs], k => ∃ ys : List Tx, xs = ys.map D.str ∧ ys.length ≤ maxTx ∧ k (.fr (.lst ((srtT ys).map D.str)))
  | [.dct kvs], k => (kvs.all (fun p => p.1.isT) = true ∧ kvs.length ≤ maxTx) ∧ k (.fr (.lst ((srtT (kvs.map fun p => kyT p.1)).map D.str)))
  | _, _ => False
end DL

set_option Elab.async false
set_option linter.all false
set_option autoImplicit false
set_option maxRecDepth 100000
/-! DLPW: texts in order: sorting, dropping repetitions. -/
namespace DL
abbrev RisT (xs : List Tx) : Prop := xs.Pairwise fun a b => leT a b = true
end DL

set_option linter.all false
set_option autoImplicit false
/-! DLPX: dicts: walks over them, comprehensions, .get, d[k] = v, `in`. -/
namespace DL
def kyD : Ky → D
  | .int i => .int i
  | .str x => .str x
def kyOf : D → Option Ky
  | .int i => some (.int i)
  | .str x => some (.str x)
  | _ => none
/-- d.items(), d.values(), d itself, walked over -/
def iWk (f : DE) (xs : List (Ky × D) → List D) : DI := fun ρ Q E => f ρ (fun r ρ1 => match r.d with
  | .dct ds => Q (xs ds) ρ1
  | _ => False) E
def itmX (ds : List (Ky × D)) : List D := ds.map fun p => .tup [kyD p.1, p.2]
def valX (ds : List (Ky × D)) : List D := ds.map (·.2)
def keyX (ds : List (Ky × D)) : List D := ds.map fun p => kyD p.1
/-- a loop of which nothing raises -/
def sForN (it : DI) (g : DG) (body : DS) : DS := fun D ρ E => it ρ (fun xs ρ1 => forL g body D noE xs ρ1) E
/-- in its place, or at the end -/
def putD (ds : List (Ky × D)) (k : Ky) (d : D) : List (Ky × D) := if ds.any (fun p => decide (p.1 = k)) = true then ds.map (fun p => if p.1 = k then (p.1, d) else p) else ds ++ [(k, d)]
def dcL (vs : List Nat) (g : DG) (t : DT) (ek e : DE) (Q : List (Ky × D) → Env → Prop) : List D → List (Ky × D) → Env → Prop
  | [], acc, ρ => Q acc ρ
  | x :: xs, acc, ρ => g x ρ fun ρ1 => t ρ1 (fun b ρ2 => if b = true then ek ρ2 (fun rk ρ3 => e ρ3 (fun r ρ4 => ∃ k, kyOf rk.d = some k ∧ acc.length < maxTx ∧ dcL vs g t ek e Q xs (putD acc k r.d) (wipeE vs ρ4)) noE) noE
    else dcL vs g t ek e Q xs acc (wipeE vs ρ2)) noE
/-- {k: e for x in ..} -/
def dDc (vs : List Nat) (it : DI) (g : DG) (t : DT) (ek e : DE) : DE := fun ρ Q E => it ρ (fun xs ρ1 => (∀ i ∈ vs, ∀ d, ρ1.at i ≠ .own d) ∧
  dcL vs g t ek e (fun acc ρ2 => Q (.fr (.dct acc)) (backE vs ρ1 ρ2)) xs [] (wipeE vs ρ1)) E
/-- d.get(k, x): a settled dict; the name's own dict -/
def dGet (f g h : DE) : DE := fun ρ Q E => f ρ (fun r ρ1 => (match r.d with | .dct _ => True | _ => False) ∧ g ρ1 (fun s ρ2 => h ρ2 (fun t ρ3 => match r.d with
  | .dct ds => ∃ k, kyOf s.d = some k ∧ Q (.fz ((lookD ds k).getD t.d)) ρ3
  | _ => False) E) E) E
def ownK : Slot → Bool
  | .own (.dct _) => true
  | _ => false
def dGetN (i : Nat) (g h : DE) : DE := fun ρ Q E => ownK (ρ.at i) = true ∧ g ρ (fun s ρ1 => h ρ1 (fun t ρ2 => match ρ2.at i with
  | .own (.dct ds) => ∃ k, kyOf s.d = some k ∧ Q (.fz ((lookD ds k).getD t.d)) ρ2
  | _ => False) E) E
/-- x[k], x the name's own dict -/
def dIxK (i : Nat) (g : DE) : DE := fun ρ Q E => ownK (ρ.at i) = true ∧ g ρ (fun s ρ1 => match ρ1.at i with
  | .own (.dct ds) => ∃ k, kyOf s.d = some k ∧ ∃ d, lookD ds k = some d ∧ Q (.fz d) ρ1
  | _ => False) E
/-- x[k] = e, x the name's own dict -/
def sPutK (i : Nat) (k : DE) (f : DE) : DS := fun D ρ E => f ρ (fun r ρ1 => ownK (ρ1.at i) = true ∧ k ρ1 (fun s ρ2 => match ρ2.at i with
  | .own (.dct ds) => ∃ ky, kyOf s.d = some ky ∧ ds.length < maxTx ∧ D.nx (ρ2.set i (.own (.dct (putD ds ky r.d))))
  | _ => False) E) E
/-- == (!=) of dicts that are found equal, their values flat -/
def eqKv (b : Bool) (x y : D) (k : R → Prop) : Prop := match x, y with
  | .dct as, .dct bs => as.length = bs.length ∧ (∀ p ∈ as, lookD bs p.1 = some p.2 ∧ p.2.flat = true) ∧ k (.fz (.bl b))
  | _, _ => False
/-- k in d -/
def inKv (x d : D) (k : R → Prop) : Prop := match d with
  | .dct ds => ∃ ky, kyOf x = some ky ∧ k (.fz (.bl (ds.any fun p => decide (p.1 = ky))))
  | .dcT ds => ∃ xs ks, x = .tup xs ∧ kysOf xs = some ks ∧ k (.fz (.bl (ds.any fun p => decide (p.1 = ks))))
  | _ => False
def putT (ds : List (List Ky × D)) (k : List Ky) (d : D) : List (List Ky × D) := if ds.any (fun p => decide (p.1 = k)) = true then ds.map (fun p => if p.1 = k then (p.1, d) else p) else ds ++ [(k, d)]
/-- {k: e}, the key a tuple -/
def dDspT (fk f : DE) : DE := fun ρ Q E => fk ρ (fun rk ρ1 => f ρ1 (fun r ρ2 => ∃ xs ks, rk.d = .tup xs ∧ kysOf xs = some ks ∧ Q (.fr (.dcT [(ks, r.d)])) ρ2) noE) noE
def ownKT : Slot → Bool
  | .own (.dcT _) => true
  | _ => false
/-- x[k] = e, x the name's own dict, the key a tuple -/
def sPutT (i : Nat) (k : DE) (f : DE) : DS := fun D ρ E => f ρ (fun r ρ1 => ownKT (ρ1.at i) = true ∧ k ρ1 (fun s ρ2 => match ρ2.at i with
  | .own (.dcT ds) => ∃ xs ks, s.d = .tup xs ∧ kysOf xs = some ks ∧ ds.length < maxTx ∧ D.nx (ρ2.set i (.own (.dcT (putT ds ks r.d))))
  | _ => False) E) E
/-- {k: e}, the key computed -/
def dDsp1 (fk f : DE) : DE := fun ρ Q E => fk ρ (fun rk ρ1 => f ρ1 (fun r ρ2 => ∃ k, kyOf rk.d = some k ∧ Q (.fr (.dct [(k, r.d)])) ρ2) noE) noE
/-- list(d.items()) -/
def dLitm (f : DE) : DE := fun ρ Q E => f ρ (fun r ρ1 => match r.d with
  | .dct ds => Q (.fr (.lst (itmX ds))) ρ1
  | _ => False) E
/-- dict(d), dict([(k, v), ..]) -/
def prD : D → Option (Ky × D)
  | .tup [a, b] => (kyOf a).map fun k => (k, b)
  | _ => none
def dictF : List D → (R → Prop) → Prop
  | [.dct ds], k => k (.fr (.dct ds))
  | [.lst xs], k => ∃ ps : List (Ky × D), xs.map prD = ps.map some ∧ ps.length ≤ maxTx ∧ k (.fr (.dct (ps.foldl (fun acc p => putD acc p.1 p.2) [])))
  | _, _ => False
/-- x < y of texts -/
def ltSD (x y : D) (k : R → Prop) : Prop := match x, y with
  | .str a, .str b => k (.fz (.bl (decide (a < b))))
  | _, _ => False
/-- sorted(x), x a list of ints -/
def insI (x : Int) : List Int → List Int
  | [] => [x]
  | y :: ys => if x ≤ y then x :: y :: ys else y :: insI x ys
def srtI : List Int → List Int
  | [] => []
  | x :: xs => insI x (srtI xs)
def sortedIF : List D → (R → Prop) → Prop
  | [.lst xs], k => ∃ ns : List Int, xs = ns.map D.int ∧ ns.length ≤ maxTx ∧ k (.fr (.lst ((srtI ns).map D.int)))
  | _, _ => False
end DL

set_option linter.all false
set_option autoImplicit false
/-! DLPY: tuples that take own objects with them, and back. -/
namespace DL
/-- own objects leave their names for a tuple -/
def giveE : List AV → Env → (List D → Env → Prop) → Prop
  | [], ρ, k => k [] ρ
  | .v d :: xs, ρ, k => giveE xs ρ fun ds ρ1 => k (d :: ds) ρ1
  | .m i :: xs, ρ, k => match ρ.at i with
    | .own d => giveE xs (ρ.set i .no) fun ds ρ1 => k (.prt d :: ds) ρ1
    | .fz d => giveE xs ρ fun ds ρ1 => k (d :: ds) ρ1
    | _ => False
/-- (x, e, ..), x a name that gives its own object away -/
def dTupK (as : List DA) : DE := fun ρ Q E => dAVs as ρ (fun vs ρ1 => vs.length ≤ maxTx ∧ giveE vs ρ1 fun ds ρ2 => Q (.ft (.tup ds)) ρ2) E
def R.raw : R → D
  | .fz d => d
  | .fr d => d
  | .ft d => d
def D.isPrt : D → Bool
  | .prt _ => true
  | _ => false
def unpK1 (b : Bool) (i : Nat) (d : D) (ρ : Env) (k : Env → Prop) : Prop := match d with
  | .prt d => b = true ∧ k (ρ.set i (.own d))
  | d => k (ρ.set i (.fz d))
def unpK : List (Nat × Bool) → List D → Env → (Env → Prop) → Prop
  | [], [], ρ, k => k ρ
  | (i, b) :: is, d :: ds, ρ, k => unpK1 b i d ρ fun ρ1 => unpK is ds ρ1 k
  | _, _, _, _ => False
/-- a, b = f, the parts of a new tuple becoming the names' own -/
def sAsgK (is : List (Nat × Bool)) (f : DE) : DS := fun D ρ E => f ρ (fun r ρ1 => match r.raw with
  | .tup ds => unpK is ds ρ1 D.nx
  | _ => False) E
end DL
namespace DL
/-- k not in d -/
def ninKv (x d : D) (k : R → Prop) : Prop := match d with
  | .dct ds => ∃ ky, kyOf x = some ky ∧ k (.fz (.bl (!ds.any fun p => decide (p.1 = ky))))
  | .dcT ds => ∃ xs ks, x = .tup xs ∧ kysOf xs = some ks ∧ k (.fz (.bl (!ds.any fun p => decide (p.1 = ks))))
  | _ => False
/-- ==, != of dicts whose values are flat -/
def eqKB (as bs : List (Ky × D)) : Bool := (as.length == bs.length) && as.all fun p => match lookD bs p.1 with
  | some d => D.eqv p.2 d
  | none => false
def eqKg (b : Bool) (x y : D) (k : R → Prop) : Prop := match x, y with
  | .dct as, .dct bs => (as.all (fun p => p.2.flat) = true ∧ bs.all (fun p => p.2.flat) = true) ∧ k (.fz (.bl (b == eqKB as bs)))
  | _, _ => False
end DL

set_option linter.all false
set_option autoImplicit false
set_option maxRecDepth 100000
/-! DLPZ: sums of a dict's values; floor division by wide numbers. -/
namespace DL
def intsOf : List D → Option (List Int)
  | [] => some []
  | .int i :: ds => (intsOf ds).map (i :: ·)
  | _ => none
/-- sum(d.values()) -/
def dSumV (f : DE) : DE := fun ρ Q E => f ρ (fun r ρ1 => match r.d with
  | .dct ds => ∃ is, intsOf (ds.map (·.2)) = some is ∧ Q (.fz (.int is.sum)) ρ1
  | _ => False) E
/-- i // j for a wide j -/
def fdivWD : D → D → (R → Prop) → Prop
  | .int i, .int j, k => (0 < j ∧ j < 2 ^ 1000) ∧ k (.fz (.int (i / j)))
  | _, _, _ => False
/-- an own object with flat parts -/
def D.flatO (c : Nat) : D → Bool
  | .obj c' xs => c' == c && xs.all D.flat
  | _ => false
/-- == of two dicts of own objects with an own __eq__ -/
def eqKs (con : Con) (ds2 : List (Ky × D)) (Q : R → Prop) : List (Ky × D) → Prop
  | [] => Q (.fz (.bl true))
  | (k, d) :: r => match lookD ds2 k with
    | none => Q (.fz (.bl false))
    | some e => (d = e → eqKs con ds2 Q r) ∧ con [.fz d, .fz e] (fun t _ => ∃ b, t.d = .bl b ∧ (if b = true then eqKs con ds2 Q r else Q (.fz (.bl false)))) fun _ _ => False
def dEqKO (c : Nat) (con : Con) (f g : DE) : DE := fun ρ Q E => f ρ (fun r ρ1 => g ρ1 (fun s ρ2 => match r.d, s.d with
  | .dct ds1, .dct ds2 => (ds1.all (fun p => p.2.flatO c) = true ∧ ds2.all (fun p => p.2.flatO c) = true) ∧ (if ds1.length = ds2.length then eqKs con ds2 (fun t => Q t ρ2) ds1 else Q (.fz (.bl false)) ρ2)
  | _, _ => False) E) E
/-- d | e -/
def mergeD (a b : List (Ky × D)) : List (Ky × D) := b.foldl (fun acc p => putD acc p.1 p.2) a
def orKD : D → D → (R → Prop) → Prop
  | .dct a, .dct b, k => a.length + b.length ≤ maxTx ∧ k (.fr (.dct (mergeD a b)))
  | _, _, _ => False
/-- min(xs, key=f, default=None) -/
def minUp (d : D) (n : Int) : Option (D × Int) → D × Int
  | none => (d, n)
  | some p => if n < p.2 then (d, n) else p
def minKs (con : Con) (Q : R → Prop) : List D → Option (D × Int) → Prop
  | [], none => Q (.fz .non)
  | [], some p => Q (.fz p.1)
  | d :: r, b => con [.fz d] (fun t _ => ∃ n : Int, t.d = .int n ∧ minKs con Q r (some (minUp d n b))) fun _ _ => False
def dMinK (con : Con) (f : DE) : DE := fun ρ Q E => f ρ (fun r ρ1 => match r.d with
  | .lst xs => minKs con (fun t => Q t ρ1) xs none
  | _ => False) E
/-- statements that are never reached -/
def sDead : DS := fun _ _ _ => False
end DL

set_option linter.all false
set_option autoImplicit false
set_option maxRecDepth 100000
/-! DLQ: lists of own lists and dicts (parts). -/
namespace DL
/-- a result as a part of what keeps it -/
def R.kid : R → Option D
  | .fz d => some d
  | .fr (.tup _) => none
  | .fr d => some (.prt d)
  | .ft _ => none
def Slot.lstT : Slot → Option (List D)
  | .own (.lst xs) => some xs
  | .ownT (.lst xs) => some xs
  | _ => none
/-- x.append(e): a new thing becomes a part of x's own list -/
def sAppP (i : Nat) (f : DE) : DS := fun D ρ E => (∃ xs, (ρ.at i).lstT = some xs) ∧ f ρ (fun r ρ1 => ∃ xs d, (ρ1.at i).lstT = some xs ∧ r.kid = some d ∧ xs.length < maxTx ∧ D.nx (ρ1.set i (.ownT (.lst (xs ++ [d]))))) E
/-- return x: x's own list leaves with its parts -/
def sRetT (i : Nat) (M : List Nat) : DS := fun D ρ _ => (M.all fun k => (ρ.at k).isOwn) = true ∧ ∃ xs, (ρ.at i).lstT = some xs ∧ D.rt (.ft (.lst xs)) (ρ.set i .no)
/-- x + y, new lists with parts -/
def dCatT (f g : DE) : DE := fun ρ Q E => dVals [f, g] ρ (fun rs ρ1 => match rs with
  | [.ft (.lst a), .ft (.lst b)] => a.length + b.length ≤ maxTx ∧ Q (.ft (.lst (a ++ b))) ρ1
  | _ => False) E
/-- an item taken out of a list that goes -/
def outR : D → R
  | .prt d => .fr d
  | d => .fz d
/-- min(xs, key=f, default=None) of a new list with parts -/
def minKT (con : Con) (Q : R → Prop) : List D → Option (D × Int) → Prop
  | [], none => Q (.fz .non)
  | [], some p => Q (outR p.1)
  | d :: r, b => con [.fz d.unm] (fun t _ => ∃ n : Int, t.d = .int n ∧ minKT con Q r (some (minUp d n b))) fun _ _ => False
def dMinKT (con : Con) (f : DE) : DE := fun ρ Q E => f ρ (fun r ρ1 => match r with
  | .ft (.lst xs) => minKT con (fun t => Q t ρ1) xs none
  | _ => False) E
/-- == (!=) of dicts of flat values, or None -/
def eqKN (b : Bool) (x y : D) (k : R → Prop) : Prop := match x, y with
  | .dct ks, .dct ls => eqKg b (.dct ks) (.dct ls) k
  | .dct _, .non => k (.fz (.bl (!b)))
  | .non, .dct _ => k (.fz (.bl (!b)))
  | .non, .non => k (.fz (.bl b))
  | _, _ => False
/-- list(d) -/
def listKF : List D → (R → Prop) → Prop
  | [.dct ds], k => k (.fr (.lst (ds.map fun p => kyD p.1)))
  | _, _ => False
/-- list(text) -/
def listSF : List D → (R → Prop) → Prop
  | [.str x], k => k (.fr (.lst (x.map fun c => .str [c])))
  | _, _ => False
end DL

set_option linter.all false
set_option autoImplicit false
set_option maxRecDepth 100000
/-! DLR: tuples joined, cut, repeated; lists and dicts of own lists, changed in their place. -/
namespace DL
/-- x + y of tuples (one of them may come back as it is) -/
def catTD : D → D → (R → Prop) → Prop
  | .tup a, .tup b, k => a.length + b.length ≤ maxTx ∧ ∀ r : R, r.d = .tup (a ++ b) → k r
  | _, _, _ => False
/-- x * n of a tuple -/
def repTD : D → D → (R → Prop) → Prop
  | .tup a, .int n, k => (a ≠ [] ∧ 1 ≤ n ∧ n ≤ 1000 ∧ a.length ≤ 1000) ∧ ∀ r : R, r.d = .tup (List.replicate n.toNat a).flatten → k r
  | _, _, _ => False
/-- x[lo:hi] of a tuple -/
def dSlT (f : DE) (lo hi : Option DE) : DE := fun ρ Q E => f ρ (fun r ρ1 => dPart lo ρ1 (fun l ρ2 => dPart hi ρ2 (fun h ρ3 => match r.d with
  | .tup xs => ∀ t : R, t.d = .tup (cut xs l h) → Q t ρ3
  | _ => False) E) E) E
end DL
namespace DL
/-- x[n].append(e): one of x's own lists -/
def sAppAt (i : Nat) (g f : DE) : DS := fun D ρ _ => match ρ.at i with
  | .ownT (.lst xs) => g (ρ.map Slot.calm) (fun ri _ => ri.d.flat = true ∧ ∃ n j ys, ri.d = .int n ∧ ixN xs.length n = some j ∧ xs[j]? = some (.prt (.lst ys)) ∧
    f (ρ.map Slot.calm) (fun r _ => r.d.flat = true ∧ ys.length < maxTx ∧ D.nx (ρ.set i (.ownT (.lst (xs.set j (.prt (.lst (ys ++ [r.d]))))))) ) noE) noE
  | _ => False
/-- the first entry with a key, changed -/
def updD : List (Ky × D) → Ky → D → List (Ky × D)
  | [], _, _ => []
  | (k', d') :: r, k, d => if k' = k then (k', d) :: r else (k', d') :: updD r k d
/-- d[k].append(e): one of d's own lists -/
def sAppAtK (i : Nat) (g f : DE) : DS := fun D ρ _ => match ρ.at i with
  | .ownT (.dct ds) => g (ρ.map Slot.calm) (fun ri _ => ri.d.flat = true ∧ ∃ ky ys, kyOf ri.d = some ky ∧ lookD ds ky = some (.prt (.lst ys)) ∧
    f (ρ.map Slot.calm) (fun r _ => r.d.flat = true ∧ ys.length < maxTx ∧ D.nx (ρ.set i (.ownT (.dct (updD ds ky (.prt (.lst (ys ++ [r.d]))))))) ) noE) noE
  | _ => False
/-- d[k].pop(0) of one of d's own lists -/
def dPopAtK (i : Nat) (g : DE) : DE := fun ρ Q _ => match ρ.at i with
  | .ownT (.dct ds) => g (ρ.map Slot.calm) (fun ri _ => ri.d.flat = true ∧ ∃ ky y ys, kyOf ri.d = some ky ∧ lookD ds ky = some (.prt (.lst (y :: ys))) ∧
    Q (.fz y) (ρ.set i (.ownT (.dct (updD ds ky (.prt (.lst ys))))))) noE
  | _ => False
def Slot.dctT : Slot → Option (List (Ky × D))
  | .own (.dct ds) => some ds
  | .ownT (.dct ds) => some ds
  | _ => none
/-- e not in d.setdefault(k, []): flat things in d's own lists -/
def tNinSet (i : Nat) (f g : DE) : DT := fun ρ Q _ => (∃ ds, (ρ.at i).dctT = some ds) ∧ f (ρ.map Slot.calm) (fun r _ => r.d.flat = true ∧ r.d.flat = true ∧ g (ρ.map Slot.calm) (fun rk _ => rk.d.flat = true ∧ ∃ ky ds, (ρ.at i).dctT = some ds ∧ kyOf rk.d = some ky ∧ ds.length < maxTx ∧ (match lookD ds ky with
  | none => Q true (ρ.set i (.ownT (.dct (ds ++ [(ky, .prt (.lst []))]))))
  | some (.prt (.lst ys)) => ys.all D.flat = true ∧ Q (!(ys.any fun y => D.eqv y r.d)) ρ
  | _ => False)) noE) noE
end DL
namespace DL
def lcLP (vs : List Nat) (g : DG) (t : DT) (e : DE) (Q : List D → Env → Prop) : List D → List D → Env → Prop
  | [], acc, ρ => Q acc ρ
  | x :: xs, acc, ρ => g x ρ fun ρ1 => t ρ1 (fun b ρ2 => if b = true then e ρ2 (fun r ρ3 => ∃ d, r.kid = some d ∧ acc.length < maxTx ∧ lcLP vs g t e Q xs (acc ++ [d]) (wipeE vs ρ3)) noE
    else lcLP vs g t e Q xs acc (wipeE vs ρ2)) noE
/-- [e for ..], the items' new things its parts -/
def dLcP (vs : List Nat) (it : DI) (g : DG) (t : DT) (e : DE) : DE := fun ρ Q E => it ρ (fun xs ρ1 => (∀ i ∈ vs, ∀ d, ρ1.at i ≠ .own d) ∧
  lcLP vs g t e (fun acc ρ2 => Q (.ft (.lst acc)) (backE vs ρ1 ρ2)) xs [] (wipeE vs ρ1)) E
end DL
namespace DL
/-- a new dict: its entries, once its parts are settled -/
def R.dctN : R → Option (List (Ky × D))
  | .fr (.dct ds) => some ds
  | .ft (.dct ds) => some (ds.map fun p => (p.1, p.2.unm))
  | _ => none
/-- [e for .. in .. for .. in f().items()], the inner dict a new one -/
def lc2L (vs vs1 : List Nat) (g : DG) (t : DT) (f : DE) (xf : List (Ky × D) → List D) (g1 : DG) (t1 : DT) (e : DE) (Q : List D → Env → Prop) : List D → List D → Env → Prop
  | [], acc, ρ => Q acc ρ
  | x :: xs, acc, ρ => g x ρ fun ρ1 => t ρ1 (fun b ρ2 => if b = true then f ρ2 (fun r ρ3 => ∃ ds, r.dctN = some ds ∧
      lcL vs1 g1 t1 e (fun acc' ρ4 => lc2L vs vs1 g t f xf g1 t1 e Q xs acc' (wipeE vs ρ4)) (xf ds) acc (wipeE vs1 ρ3)) noE
    else lc2L vs vs1 g t f xf g1 t1 e Q xs acc (wipeE vs ρ2)) noE
def dLc2 (vs vs1 : List Nat) (it : DI) (g : DG) (t : DT) (f : DE) (xf : List (Ky × D) → List D) (g1 : DG) (t1 : DT) (e : DE) : DE := fun ρ Q E => it ρ (fun xs ρ1 => (∀ i ∈ vs, ∀ d, ρ1.at i ≠ .own d) ∧
  lc2L vs vs1 g t f xf g1 t1 e (fun acc ρ2 => Q (.fr (.lst acc)) (backE vs ρ1 ρ2)) xs [] (wipeE vs ρ1)) E
end DL
namespace DL
/-- x[k] op= e, x the name's own dict -/
def sAugK (i : Nat) (op : D → D → (R → Prop) → Prop) (g f : DE) : DS := fun D ρ E => ownK (ρ.at i) = true ∧ g ρ (fun s ρ1 => match ρ1.at i with
  | .own (.dct ds) => ∃ ky d, kyOf s.d = some ky ∧ lookD ds ky = some d ∧ ds.length < maxTx ∧ f ρ1 (fun r ρ2 => ρ2.at i = .own (.dct ds) ∧ op d r.d fun t => D.nx (ρ2.set i (.own (.dct (putD ds ky t.d))))) E
  | _ => False) E
/-- sorted(d, reverse=True), the keys texts -/
def dSrtRev (f : DE) : DE := fun ρ Q E => f ρ (fun r ρ1 => match r.d with
  | .dct ds => (ds.all (fun p => p.1.isT) = true ∧ ds.length ≤ maxTx) ∧ Q (.fr (.lst ((srtT (ds.map fun p => kyT p.1)).reverse.map D.str))) ρ1
  | _ => False) E
end DL
namespace DL
/-- return of an own dict, its lists its parts -/
def sRetTK (i : Nat) (M : List Nat) : DS := fun D ρ _ => (M.all fun k => (ρ.at k).isOwn) = true ∧ ∃ ds, (ρ.at i).dctT = some ds ∧ D.rt (.ft (.dct ds)) (ρ.set i .no)
end DL
namespace DL
/-- sorted(d), the keys ints -/
def sortedKIF : List D → (R → Prop) → Prop
  | [.dct ds], k => ∃ ns : List Int, ds.map (·.1) = ns.map Ky.int ∧ ns.length < 64 ∧ k (.fr (.lst ((srtI ns).map D.int)))
  | _, _ => False
end DL

set_option linter.all false
set_option autoImplicit false
set_option maxRecDepth 100000
/-! DLV: texts cut at a sign, read as numbers; every second item; an own list moved into another; what is never reached. -/
namespace DL
/-- the pieces between the signs s -/
def splT (s : Nat) : Tx → Tx → List Tx
  | acc, [] => [acc]
  | acc, c :: r => if c = s then acc :: splT s [] r else splT s (acc ++ [c]) r
def splitM (a : Tx) : List D → (R → Prop) → Prop
  | [.str [s]], k => a.length + 2 ≤ maxTx ∧ s < 256 ∧ k (.fr (.lst ((splT s [] a).map .str)))
  | _, _ => False
/-- what stands ahead of the first s, and behind it -/
def parT (s : Nat) : Tx → Tx → Option (Tx × Tx)
  | _, [] => none
  | acc, c :: r => if c = s then some (acc, r) else parT s (acc ++ [c]) r
def partL (s : Nat) (a : Tx) : List Tx := match parT s [] a with
  | some (p, r) => [p, [s], r]
  | none => [a, [], []]
def partM (a : Tx) : List D → (R → Prop) → Prop
  | [.str [s]], k => a.length ≤ maxTx ∧ s < 256 ∧ k (.fr (.tup ((partL s a).map .str)))
  | _, _ => False
def digV (x : Tx) : Nat := x.foldl (fun a c => a * 10 + (c - 48)) 0
/-- int(x) of a text of digits -/
def intTF : List D → (R → Prop) → Prop
  | [.str x], k => (x ≠ [] ∧ (∀ c ∈ x, 48 ≤ c ∧ c ≤ 57) ∧ x.length ≤ 640) ∧ k (.fz (.int (digV x : Int)))
  | _, _ => False
def evT {α : Type} : List α → List α
  | [] => []
  | [a] => [a]
  | a :: _ :: r => a :: evT r
/-- x[k::2] of a short list -/
def dStp (k : Nat) (f : DE) : DE := fun ρ Q E => f ρ (fun r ρ1 => match r.d with
  | .lst xs => xs.length ≤ 8 ∧ Q (.fr (.lst (evT (xs.drop k)))) ρ1
  | _ => False) E
/-- a name's own list leaves the name -/
def dTake (i : Nat) : DE := fun ρ Q _ => match ρ.at i with
  | .own d => Q (.fr d) (ρ.set i .no)
  | _ => False
def dNo : DE := fun _ _ _ => False
def sNo : DS := fun _ _ _ => False
/-- try: body / except c as the name at i: raise c2(n) from it -/
def sTryF (i c c2 : Nat) (n : Int) (fb : DS) : DS := fun D ρ E => fb D ρ (fun x ρ1 => if x.cls = c then i < ρ1.length ∧ E ⟨c2, .int n⟩ (ρ1.set i .no) else E x ρ1)
/-- every s becomes z -/
def repS (s : Nat) (z : Tx) : Tx → Tx
  | [] => []
  | c :: r => if c = s then z ++ repS s z r else c :: repS s z r
/-- x.replace(s, z), x a name -/
def dRep (i : Nat) (y z : Tx) : DE := fun ρ Q _ => match ρ.at i, y with
  | .fz (.str a), [s] => (a.length + (a.length + 1) * z.length ≤ maxTx ∧ s < 256 ∧ ∀ c ∈ z, c < 256) ∧ Q (.fz (.str (repS s z a))) ρ
  | _, _ => False
/-- x.update(d): dicts with tuples as keys -/
def mergeT (a b : List (List Ky × D)) : List (List Ky × D) := b.foldl (fun acc p => putT acc p.1 p.2) a
def sUpdT (i : Nat) (f : DE) : DS := fun D ρ E => ownKT (ρ.at i) = true ∧ f ρ (fun r ρ1 => match ρ1.at i, r.d with
  | .own (.dcT as), .dcT bs => (as ≠ [] ∨ bs.length ≤ 1) ∧ as.length + bs.length ≤ maxTx ∧ D.nx (ρ1.set i (.own (.dcT (mergeT as bs))))
  | _, _ => False) E
/-- {} as a dict with tuples as keys; d[k] of one's own -/
def dDct0T : DE := fun ρ Q _ => Q (.fr (.dcT [])) ρ
def dIxKT (i : Nat) (g : DE) : DE := fun ρ Q E => ownKT (ρ.at i) = true ∧ g ρ (fun s ρ1 => match ρ1.at i with
  | .own (.dcT ds) => ∃ xs ks, s.d = .tup xs ∧ kysOf xs = some ks ∧ ∃ d, lookT ds ks = some d ∧ Q (.fz d) ρ1
  | _ => False) E
/-- x * n of a tuple, n may be 0 -/
def repZD : D → D → (R → Prop) → Prop
  | .tup a, .int n, k => (a ≠ [] ∧ 0 ≤ n ∧ n ≤ 1000 ∧ a.length ≤ 1000) ∧ ∀ r : R, r.d = .tup (List.replicate n.toNat a).flatten → k r
  | _, _, _ => False
/-- d != {}, the keys tuples -/
def neEmp : D → D → (R → Prop) → Prop
  | .dcT a, .dct [], k => k (.fz (.bl (!a.isEmpty)))
  | _, _, _ => False
/-- d.items(), d itself, walked over: dicts with tuples as keys -/
def iWkT (f : DE) (xs : List (List Ky × D) → List D) : DI := fun ρ Q E => f ρ (fun r ρ1 => match r.d with
  | .dcT ds => Q (xs ds) ρ1
  | _ => False) E
def itmT (ds : List (List Ky × D)) : List D := ds.map fun p => .tup [.tup (p.1.map kyD), p.2]
def keyT (ds : List (List Ky × D)) : List D := ds.map fun p => .tup (p.1.map kyD)
/-- sorted(d) of a dict whose keys are tuples of ints: some order of them -/
def dSrtKT (f : DE) : DE := fun ρ Q E => f ρ (fun r ρ1 => match r.d with
  | .dcT ds => ∃ ns : List (List Int), ds.map (·.1) = ns.map (List.map Ky.int) ∧ (∀ n ∈ ns, n ≠ []) ∧ ∀ L : List (List Int), L.Perm ns → Q (.fr (.lst (L.map fun n => .tup (n.map .int)))) ρ1
  | _ => False) E
/-! own exceptions as values -/
def dMkX (c : Nat) (g : DE) : DE := fun ρ Q E => g ρ (fun r ρ1 => Q (.fz (.exc c r.d)) ρ1) E
def dFldX (ns : List Nat) (g : DE) : DE := fun ρ Q E => g ρ (fun r ρ1 => match r.d with
  | .exc n d => ns.contains n = true ∧ Q (.fz d) ρ1
  | _ => False) E
def dIsX (c : Nat) (g : DE) : DE := fun ρ Q E => g ρ (fun r ρ1 => match r.d with
  | .exc n _ => Q (.fz (.bl (n == c))) ρ1
  | _ => False) E
def dIsXT (l : List (Nat × Bool)) (g : DE) : DE := fun ρ Q E => g ρ (fun r ρ1 => match r.d with
  | .exc n _ => ∃ b, l.lookup n = some b ∧ Q (.fz (.bl b)) ρ1
  | _ => False) E
end DL

set_option Elab.async false
set_option linter.all false
set_option autoImplicit false
set_option maxRecDepth 100000
/-! DLX114: own exceptions as values: made, their field read, asked by isinstance. -/
namespace DL
open PySem PySem.Spec PyProof.Rows L2
section
variable {P : Program} {w : World} {H : Hp} {h : Heap} {a dx : Addr} {cls : Value}
theorem exV_ok {oe : Obj} {vs : Array Value} (e : h.get? a = some oe) (z : Zc cls (some dx) oe) (d : oe.data = .fields vs) : ObjOk P w H h a (ExV cls a dx) :=
  ⟨⟨oe, vs, e, z, d⟩, ⟨oe, e⟩, fun _ _ ⟨o, v, q, r⟩ k => ⟨o, v, k o q, r⟩⟩
theorem exV_at (x : HOk P w H h) (e : H a = some (ExV cls a dx)) : ∃ (oe : Obj) (vs : Array Value), h.get? a = some oe ∧ Zc cls (some dx) oe ∧ oe.data = .fields vs :=
  (show ObjOk P w H h a (.ext _) from x a _ e).1
end
theorem Rep.exc_inv {K : PySem.W.Frag} {T : Tb} {F : Hp} {v : V} {n : Nat} {d : D} (r : Rep K T F v (.exc n d)) : ∃ ei a dx u, v = .ref a ∧ T.ex n = some ei ∧ F a = some (ExV (.ref ei.addr) a dx) ∧ F dx = some (.xd [(ei.field, u)]) ∧ Rep K T F u d := by
  cases r with
  | ref e r => cases r
  | exc e f g r => exact ⟨_, _, _, _, rfl, e, f, g, r⟩
section
variable {X : Cx} {C fI : Addr} {f B newId initId : String} {tail : List Value}
theorem mkX_inv {pins : List (Addr × Obj)} {σ : L2.St} {H : Hp} {hp h' : Heap} {g : Array GenState} {dr : Drawn} {tk tk' : Nat} {os : OsState} {e d : Addr} {v : V} {v' : Value} (I1 : Inv X pins σ H ⟨hp, g, dr, tk, os⟩) (rv : RelV v v')
    (M : DLE.OwnMade (Str.ofString f) hp h' e C d v') : Inv X pins σ (upd (upd H d (.xd [(Str.ofString f, v)])) e (ExV (.ref C) e d)) ⟨h', g, dr, tk', os⟩ ∧ H e = none ∧ H d = none ∧ e ≠ d := by
  obtain ⟨oe, fv, hoe, hc, hd, hdat, h1, h2, hz⟩ := M.obj
  have hns := M.ns
  obtain ⟨G', g1, g2⟩ := restrict h' fun b => decide (b ≠ e)
  have gk : ∀ b, b ≠ e → G'.get? b = h'.get? b := fun b hb => g1 b (decide_eq_true hb)
  have ge : G'.get? e = none := g2 e (by simp)
  have old : ∀ b o, hp.get? b = some o → G'.get? b = some o := fun b o q => (gk b (Nat.ne_of_lt (Nat.lt_of_lt_of_le (Heap.lt_size q) M.new))).trans (M.keep b o q)
  have ob : ObjOk X.prog X.w (upd H d (.xd [(Str.ofString f, v)])) G' d (.xd [(Str.ofString f, v)]) :=
    ⟨_, hns.at (fun o q => (gk d M.dne).trans q), fun f => relO_f rv f⟩
  have J : Inv X pins σ (upd H d (.xd [(Str.ofString f, v)])) ⟨G', g, dr, tk', os⟩ := I1.laid (t' := tk') old M.dbig ob
  have he : H e = none := I1.hok.fresh M.new
  refine ⟨J.laidN (h' := h') (t' := tk') (fun b o q => ?_) ge (by rw [upd_ne (Ne.symm M.dne)]; exact he) (exV_ok hoe ⟨hc, hd⟩ hdat), he, I1.hok.fresh M.dbig, Ne.symm M.dne⟩
  by_cases hb : b = e
  · have q' : G'.get? b = some o := q
    rw [hb, ge] at q'; cases q'
  · exact (gk b hb).symm.trans q
/-- C(e), C(f = e): an own exception as a value -/
def tMkX (C : Addr) (f : Str) (ta : TA) : TE := fun σ H Q => ta σ H fun vs H1 => ∃ v, vs = [v] ∧ ∀ e d, H1 e = none → H1 d = none → e ≠ d → Q (.ref e) (upd (upd H1 d (.xd [(f, v)])) e (ExV (.ref C) e d))
theorem pe_mkX {a : Expr} {ta : TA} {x : Str} {p pos : Pos} (T : DLE.ETxt X.K f newId initId B tail C fI) (hr : X.A.depth + 1 < recursionLimit) (ha : PA X [a] ta) (hg : Gl X x) (hm : X.mg x = some (.ref C)) (hdb : (x == ("__debug__" : Str)) = false := by decide)
    (he : starEach (a :: []) X.env = (false, eval a X.env) :: starEach [] X.env := by rfl) (hpl : (backTo pos (starEach [] X.env)).any (·.1) = false := by rfl) :
    PE X (.Call (.Name x p) [a] [] pos) (tMkX C (Str.ofString f) ta) := by
  refine ⟨fun pins s σ H Q I h => ?_⟩
  refine wpAny_Call_Name_kw (ld_glob I hg hm ?_ hdb)
  refine PySem.W.callWith_K (h₀ := X.base) I.ok.mod.kin T.kC (thn (ha.run pos pins s σ H _ I h) fun us s1 hh => ?_) he hpl
  obtain ⟨vs, H1, I1, r1, v, ev, q1⟩ := hh
  subst ev
  refine ⟨I1.kIn, ?_⟩
  cases r1 with
  | cons rv rn =>
    rename_i v' us'
    cases rn
    show wpAny _ _ (call (.ref C) [v']) _ _ _
    have hlim := I1.nolimit
    obtain ⟨hp, g, dr, tk, os⟩ := s1
    refine wpAny_call (DLE.own_made T I1.kIn hlim hr fun h' tk' e d M => ?_)
    obtain ⟨J, n1, n2, ne⟩ := mkX_inv (tk' := tk') I1 rv M
    exact ⟨.ref e, _, J, rfl, q1 e d n1 n2 ne⟩
theorem pe_mkXK {a : Expr} {ta : TA} {x fld : Str} {p pos kp : Pos} (T : DLE.ETxt X.K f newId initId B tail C fI) (hfld : Str.ofString f = fld) (hr : X.A.depth + 1 < recursionLimit) (ha : PK X [⟨some fld, a, kp⟩] ta) (hg : Gl X x) (hm : X.mg x = some (.ref C)) (hdb : (x == ("__debug__" : Str)) = false := by decide)
    (hall : (backToKw pos (keywordEach [⟨some fld, a, kp⟩] X.env)).all (·.1.isSome) = true := by rfl) (hks : (backToKw pos (keywordEach [⟨some fld, a, kp⟩] X.env)).filterMap (·.1) = [fld] := by rfl)
    (hpl : ((backTo pos (starEach [] X.env)).any (·.1) || (backToKw pos (keywordEach [⟨some fld, a, kp⟩] X.env)).any (·.1.isNone)) = false := by rfl) :
    PE X (.Call (.Name x p) [] [⟨some fld, a, kp⟩] pos) (tMkX C (Str.ofString f) ta) := by
  refine ⟨fun pins s σ H Q I h => ?_⟩
  refine wpAny_Call_Name_kw (ld_glob I hg hm ?_ hdb)
  refine PySem.W.callWith_KW0 (h₀ := X.base) I.ok.mod.kin T.kC hall (thn (ha.run pos pins s σ H _ I h) fun us s1 hh => ?_) hpl
  obtain ⟨vs, H1, I1, r1, v, ev, q1⟩ := hh
  subst ev
  refine ⟨I1.kIn, ?_⟩
  rw [hks]
  cases r1 with
  | cons rv rn =>
    rename_i v' us'
    cases rn
    subst hfld
    show wpAny _ _ (call (.ref C) [] [(Str.ofString f, v')]) _ _ _
    have hlim := I1.nolimit
    obtain ⟨hp, g, dr, tk, os⟩ := s1
    refine wpAny_call (DLE.own_madeK T I1.kIn hlim hr fun h' tk' e d M => ?_)
    obtain ⟨J, n1, n2, ne⟩ := mkX_inv (tk' := tk') I1 rv M
    exact ⟨.ref e, _, J, rfl, q1 e d n1 n2 ne⟩
/-- the class at C has the one field f -/
def ETF (K : PySem.W.Frag) (C : Addr) (f : Str) : Prop := ∃ (g newId initId Bn : String) (tail : List Value) (fI : Addr), DLE.ETxt K g newId initId Bn tail C fI ∧ Str.ofString g = f
/-- e.f of an own exception -/
def tFldX (K : PySem.W.Frag) (f : Str) (te : TE) : TE := fun σ H Q => te σ H fun x H1 => ∃ (C a dd : Addr) (v : V), x = .ref a ∧ H1 a = some (ExV (.ref C) a dd) ∧ H1 dd = some (.xd [(f, v)]) ∧ ETF K C f ∧ Q v H1
theorem pe_fldX {e : Expr} {te : TE} {fld : Str} {pos : Pos} (he : PE X e te) (hb : attributeBase e fld X.env (eval e X.env) = eval e X.env) : PE X (.Attribute e fld pos) (tFldX X.K fld te) := by
  refine ⟨fun pins s σ H Q I h => ?_⟩
  refine attr_of hb (thn (he.run pins s σ H _ I h) fun u s1 hh => ?_)
  obtain ⟨x, H1, I1, rx, C, a, dd, v, ex, e1, e2, ⟨g, newId, initId, Bn, tail, fI, T, eg⟩, q⟩ := hh
  subst ex
  subst eg
  obtain rfl : u = Value.ref a := rx
  obtain ⟨oe, vs, ha, hz, hd⟩ := exV_at I1.hok e1
  have hx : ObjOk X.prog X.w H1 s1.heap dd (.xd [(Str.ofString g, v)]) := I1.hok dd _ e2
  obtain ⟨mA, hns, hr⟩ := hx
  obtain ⟨od, ho, hl⟩ := lookIn_ns hns
  have l : List.lookup (Str.ofString g) [(Str.ofString g, v)] = some v := by simp [List.lookup]
  obtain ⟨u, hu, ru⟩ := RelO.some_of (v := v) (o := mA (Str.ofString g)) (by rw [← l]; exact hr (Str.ofString g))
  have J : PySem.W.InstAt s1.heap a oe C (some od) := ⟨ha, hz.1, by unfold PySem.W.notCls; rw [hd] <;> rfl, by rw [hz.2]; exact ho⟩
  exact HandSPX.exc_get I1.kIn J T.ga T.gg T.exC (PySem.W.findObj_own T.hdC T.noN rfl (by rw [hl, hu])) (handed_of ru) ⟨v, H1, I1.tok _, ru, q⟩
theorem call_isX : CallR X (.builtin "isinstance") (fun xs H Q => ∃ (a D da : Addr) (c : V) (cv : Value) (b : Bool) (l : List (Str × V)), xs = [.ref a, c] ∧ ClsV c cv ∧ H a = some (ExV (.ref D) a da) ∧ H da = some (.xd l) ∧ ExcC X.K D ∧ PySem.W.kitOne X.K (.ref D) cv = some b ∧ Q (.bl b) H) := by
  intro pins s σ H xs us Q I r h
  obtain ⟨a, D, da, c, cv, b, l, rfl, hcv, e1, hd, C, e, q⟩ := h
  obtain ⟨u1, u2, rfl, r1, r2⟩ := vals2 r
  cases (show u1 = Value.ref a from r1)
  have ec := hcv.eq r2
  subst ec
  obtain ⟨oe, vs, ha, hz, hv⟩ := exV_at I.hok e1
  obtain ⟨mA, hns, _⟩ := (show ObjOk X.prog X.w H s.heap da (.xd l) from I.hok da _ hd)
  obtain ⟨od, ho, _⟩ := lookIn_ns hns
  have J : PySem.W.InstAt s.heap a oe D (some od) := ⟨ha, hz.1, by unfold PySem.W.notCls; rw [hv] <;> rfl, by rw [hz.2]; exact ho⟩
  exact PySem.W.kia_one (DLK.kitE (ox := oe) C) I.kIn ⟨od, J⟩ e (fun z => nomatch z) fun tk => ⟨.bl b, H, I.tok tk, rfl, q⟩
end
/-! ### tables of the own exception classes -/
def XRow (K : PySem.W.Frag) (r : Nat × Addr × List Value) : Prop := ExcC K r.2.1 ∧ PySem.W.typeIn K (.ref r.2.1) = some (.type "type") ∧ ∀ v : Value, PySem.W.mroIn K r.2.1 v = some ((Value.ref r.2.1 :: r.2.2).contains v)
theorem xrow {K : PySem.W.Frag} {n : Nat} {nm q : Str} {C N : Addr} {bs bm : List Value} {sn : List Str} {sub : List Value} {ab : Bool} {col : Option Bool} {dd : Option Addr} {k0 k1 k2 k3 k5 : Option Value} {newId : String}
    (h : K.lookup C = some (excClassObj nm q C N bs bm true sn sub ab col dd k0 k1 k2 k3 k5 newId)) (E : ExcC K C) (ty : PySem.W.typeIn K (.ref C) = some (.type "type")) : XRow K (n, C, bm) := by
  refine ⟨E, ty, fun v => ?_⟩
  show (PySem.W.clsIn K C).bind _ = _
  unfold PySem.W.clsIn
  rw [h]
  rfl
structure XTab (K : PySem.W.Frag) (T : Tb) (L : List (Nat × Addr × List Value)) : Prop where
  known : ∀ n ei, T.ex n = some ei → ∃ tl, (n, ei.addr, tl) ∈ L
  rows : ∀ r ∈ L, XRow K r
theorem all_mem_nil {α : Type} {P : α → Prop} : ∀ x ∈ ([] : List α), P x := fun _ h => by cases h
theorem zaB {α : Type} {P : α → Prop} {a : α} {l : List α} (h : P a) (r : ∀ x ∈ l, P x) : ∀ x ∈ a :: l, P x := fun x hx => by
  rcases List.mem_cons.mp hx with rfl | hx
  · exact h
  · exact r x hx
/-- isinstance's word: an own exception and an own exception class -/
def IsXs (K : PySem.W.Frag) (T : Tb) : Prop := ∀ n ei m ej, T.ex n = some ei → T.ex m = some ej → ExcC K ei.addr ∧ PySem.W.kitOne K (.ref ei.addr) (.ref ej.addr) = some (n == m)
theorem nodup_inj {α β : Type} {f : α → β} : ∀ {l : List α}, (l.map f).Nodup → ∀ {a b : α}, a ∈ l → b ∈ l → f a = f b → a = b
  | [], _, _, _, h, _, _ => by cases h
  | c :: l, nd, a, b, ha, hb, e => by
    rw [List.map_cons, List.nodup_cons] at nd
    rcases List.mem_cons.mp ha with h1 | h1
    · rcases List.mem_cons.mp hb with h2 | h2
      · rw [h1, h2]
      · exact absurd (by rw [← h1, e]; exact List.mem_map_of_mem h2) nd.1
    · rcases List.mem_cons.mp hb with h2 | h2
      · exact absurd (by rw [← h2, ← e]; exact List.mem_map_of_mem h1) nd.1
      · exact nodup_inj nd.2 h1 h2 e
theorem isXs_of {K : PySem.W.Frag} {T : Tb} {L : List (Nat × Addr × List Value)} (t : XTab K T L) (h : ∀ r ∈ L, ∀ a : Addr, r.2.2.contains (.ref a) = false) (nd : (L.map (·.1)).Nodup) (na : (L.map (·.2.1)).Nodup) : IsXs K T := by
  intro n ei m ej h1 h2
  obtain ⟨t1, m1⟩ := t.known n ei h1
  obtain ⟨t2, m2⟩ := t.known m ej h2
  obtain ⟨x1, y1, z1⟩ := t.rows _ m1
  obtain ⟨x2, y2, z2⟩ := t.rows _ m2
  refine ⟨x1, ?_⟩
  by_cases e : n = m
  · subst e
    rw [h1] at h2
    cases h2
    rw [beq_self_eq_true]
    exact kit_self
  · rw [beq_false_of_ne e]
    have ne : ei.addr ≠ ej.addr := fun z => e (congrArg (·.1) (nodup_inj na m1 m2 z))
    refine kit_cls x2.hd y2 ?_ ?_
    · rw [z2]; simp
    · rw [z1]
      have q := h _ m1 ej.addr
      have q2 : (Value.ref ei.addr == Value.ref ej.addr) = false := by simpa using ne
      have q3 : (Value.ref ej.addr == Value.ref ei.addr) = false := by simpa using Ne.symm ne
      show some ((Value.ref ei.addr :: t1).contains (.ref ej.addr)) = _
      rw [List.contains_cons, q3, q]
      rfl
/-- isinstance's word: an own exception and a built-in class -/
def IsXT (K : PySem.W.Frag) (T : Tb) (ty : String) (l : List (Nat × Bool)) : Prop := ∀ n ei, T.ex n = some ei → ∃ b, l.lookup n = some b ∧ ExcC K ei.addr ∧ PySem.W.kitOne K (.ref ei.addr) (.type ty) = some b
theorem lookup_of : ∀ {l : List (Nat × List Value)} {ty : String} {n : Nat} {tl : List Value}, (l.map (·.1)).Nodup → (n, tl) ∈ l → (l.map fun r => (r.1, r.2.contains (Value.type ty))).lookup n = some (tl.contains (.type ty))
  | [], _, _, _, _, h => by cases h
  | (m, t) :: l, ty, n, tl, nd, h => by
    rw [List.map_cons, List.nodup_cons] at nd
    rw [List.map_cons, List.lookup_cons]
    rcases List.mem_cons.mp h with e | e
    · cases e; rw [beq_self_eq_true]
    · have ne : (n == m) = false := beq_false_of_ne fun z => nd.1 (by rw [← z]; exact List.mem_map_of_mem (f := (·.1)) e)
      rw [ne]
      exact lookup_of nd.2 e
theorem isXT_of {K : PySem.W.Frag} {T : Tb} {L : List (Nat × Addr × List Value)} (t : XTab K T L) {ty : String} {l : List (Nat × Bool)} {ts : List (Nat × List Value)} (hm : PySem.W.kitMeta ty = true) (nd : (ts.map (·.1)).Nodup) (h0 : L.map (fun r => (r.1, r.2.2)) = ts)
    (h : (ts.map fun r => (r.1, r.2.contains (Value.type ty))) = l) : IsXT K T ty l := by
  intro n ei h1
  obtain ⟨t1, m1⟩ := t.known n ei h1
  obtain ⟨x1, y1, z1⟩ := t.rows _ m1
  have m2 : (n, t1) ∈ ts := by rw [← h0]; exact List.mem_map_of_mem (f := fun r : Nat × Addr × List Value => (r.1, r.2.2)) m1
  refine ⟨_, by rw [← h]; exact lookup_of nd m2, x1, kit_err hm ?_⟩
  show PySem.W.mroIn K ei.addr _ = _
  rw [z1]
  show some ((Value.ref ei.addr :: t1).contains (.type ty)) = _
  rw [List.contains_cons]
  rfl
/-- the classes ns have the one field f -/
def ErrFs (K : PySem.W.Frag) (T : Tb) (f : Str) (ns : List Nat) : Prop := ∀ n, ns.contains n = true → ∀ ei, T.ex n = some ei → ei.field = f ∧ ETF K ei.addr f
theorem errF_nil {K : PySem.W.Frag} {T : Tb} {f : Str} : ErrFs K T f [] := fun _ h => by cases h
theorem errF_cons {K : PySem.W.Frag} {mg : Str → Option Value} {T : Tb} {f x : Str} {n : Nat} {ns : List Nat} (E : ErrX K mg T x n) (h : ∀ ei, T.ex n = some ei → ei.field = f) (r : ErrFs K T f ns) : ErrFs K T f (n :: ns) := fun m hm ei he => by
  by_cases z : m = n
  · subst z
    refine ⟨h ei he, ?_⟩
    obtain ⟨g, newId, initId, B, tail, C, fI, ET, hT, _⟩ := E
    cases hT.symm.trans he
    exact ⟨g, newId, initId, B, tail, fI, ET, h _ he⟩
  · refine r m ?_ ei he
    rw [List.contains_cons, beq_false_of_ne z] at hm
    exact hm
section
variable {X : Cx} {T : Tb} {B : Bs} {M : List Nat} {W : EK} {F H : Hp} {ρ : Env} {σ : L2.St}
theorem exV_tbl {cls : Value} {a dx : Addr} : ∀ ps, ExV cls a dx ≠ .tbl ps := fun ps z => by
  have z' : HO.ext _ = HO.tbl ps := z
  cases z'
/-- a new exception is settled at once -/
theorem mkX_end {Qd : R → Env → Prop} {Q : VK} {c : Nat} {C : Addr} {fld : Str} {v : V} {d : D} {F0 : Hp} (hT : T.ex c = some ⟨C, fld⟩) (S : SR X.K T B M F H ρ σ) (R : Rep X.K T F v d) (e1 : Same F0 F)
    (k : ∀ F' H' ρ' v r, Same F0 F' → SR X.K T B M F' H' ρ' σ → RetV X.K T B F' H' ρ' σ v r → Qd r ρ' → Q v H') (q : Qd (.fz (.exc c d)) ρ) :
    ∀ e dd, H e = none → H dd = none → e ≠ dd → Q (.ref e) (upd (upd H dd (.xd [(fld, v)])) e (ExV (.ref C) e dd)) := fun e dd he hd ne => by
  have S2 := S.lay (o := .xd [(fld, v)]) hd
  have fd := S.sub.free hd
  have S3 := S2.settle fd upd_same (.inl (S.gone hd)) (S.lay_new hd)
  have he2 : upd H dd (.xd [(fld, v)]) e = none := by rw [upd_ne ne]; exact he
  have S4 := S3.lay (o := ExV (.ref C) e dd) he2
  have fe := S3.sub.free he2
  have S5 := S4.settle fe upd_same (.inl (S3.gone he2)) (S3.lay_new he2) exV_tbl
  have s1 : Same F (upd F dd (.xd [(fld, v)])) := same_upd fd
  have s2 := same_upd (o := ExV (.ref C) e dd) fe
  exact k _ _ ρ (.ref e) (.fz (.exc c d)) (e1.trans (s1.trans s2)) S5 (.exc hT upd_same (by rw [upd_ne (Ne.symm ne)]; exact upd_same) (R.mono (s1.trans s2))) q
variable {a e : Expr} {f g : DE} {x : Str} {p pos kp p2 : Pos} {c k : Nat}
theorem pd_mkX (G : ErrX X.K X.mg T x c) (hr : RoomG k X.A) (ha : PD X T B M W a g) (hg : Gl X x) (hdb : (x == ("__debug__" : Str)) = false := by decide)
    (he : starEach (a :: []) X.env = (false, eval a X.env) :: starEach [] X.env := by rfl) (hpl : (backTo pos (starEach [] X.env)).any (·.1) = false := by rfl) :
    PD X T B M W (.Call (.Name x p) [a] [] pos) (dMkX c g) := by
  obtain ⟨f, newId, initId, Bn, tail, C, fI, ET, hT, hm⟩ := G
  refine pe_imp (pe_mkX ET (by have := hr.rm.dp; omega) (pa_cons ha pa_nil he) hg hm hdb he hpl) fun σ H Q ⟨F, ρ, Qd, S, h, kk⟩ => ?_
  refine lE_run S h fun F1 H1 ρ1 v r e1 S1 R1 q => ?_
  exact ⟨v, rfl, mkX_end hT S1 R1 e1 kk q⟩
theorem pd_mkXK {fld : Str} (G : ErrX X.K X.mg T x c) (hfld : ∀ ei, T.ex c = some ei → ei.field = fld) (hr : RoomG k X.A) (ha : PD X T B M W a g) (hg : Gl X x) (hdb : (x == ("__debug__" : Str)) = false := by decide)
    (hall : (backToKw pos (keywordEach [⟨some fld, a, kp⟩] X.env)).all (·.1.isSome) = true := by rfl) (hks : (backToKw pos (keywordEach [⟨some fld, a, kp⟩] X.env)).filterMap (·.1) = [fld] := by rfl)
    (hpl : ((backTo pos (starEach [] X.env)).any (·.1) || (backToKw pos (keywordEach [⟨some fld, a, kp⟩] X.env)).any (·.1.isNone)) = false := by rfl) :
    PD X T B M W (.Call (.Name x p) [] [⟨some fld, a, kp⟩] pos) (dMkX c g) := by
  obtain ⟨f, newId, initId, Bn, tail, C, fI, ET, hT, hm⟩ := G
  refine pe_imp (pe_mkXK ET (hfld _ hT) (by have := hr.rm.dp; omega) (pk_cons ha pk_nil) hg hm hdb hall hks hpl) fun σ H Q ⟨F, ρ, Qd, S, h, kk⟩ => ?_
  refine lE_run S h fun F1 H1 ρ1 v r e1 S1 R1 q => ?_
  exact ⟨v, rfl, mkX_end hT S1 R1 e1 kk q⟩
theorem pd_fldX {fld : Str} {ns : List Nat} (hb : attributeBase e fld X.env (eval e X.env) = eval e X.env) (hE : ErrFs X.K T fld ns) (he : PD X T B M W e g) : PD X T B M W (.Attribute e fld pos) (dFldX ns g) :=
  pe_imp (pe_fldX he hb) fun σ H Q ⟨F, ρ, Qd, S, h, k⟩ => by
    refine lE_run S h fun F1 H1 ρ1 v r e1 S1 R1 q => ?_
    cases hd : r.d with
    | exc n d =>
      rw [hd] at R1 q
      obtain ⟨hn, q⟩ := q
      obtain ⟨ei, a, dx, u, rfl, hT, h1, h2, R2⟩ := R1.exc_inv
      obtain ⟨ef, et⟩ := hE n hn ei hT
      rw [ef] at h2
      exact ⟨ei.addr, a, dx, u, rfl, S1.sub _ _ h1, S1.sub _ _ h2, et, lE_end k e1 S1 (.fz R2) q⟩
    | _ => rw [hd] at q; exact q.elim
theorem pd_isX (I : IsXs X.K T) (G : ErrX X.K X.mg T x c) (hg : Gl X "isinstance") (hm : X.mg "isinstance" = none) (hgc : Gl X x) (he : PD X T B M W e f) (hdb : (x == ("__debug__" : Str)) = false := by decide)
    (h1 : starEach (e :: [.Name x p2]) X.env = (false, eval e X.env) :: starEach [.Name x p2] X.env := by rfl) (h2 : starEach [.Name x p2] X.env = (false, eval (.Name x p2) X.env) :: starEach [] X.env := by rfl) (hpl : (backTo pos (starEach [.Name x p2] X.env)).any (·.1) = false := by rfl) :
    PD X T B M W (.Call (.Name "isinstance" p) [e, .Name x p2] [] pos) (dIsX c f) := by
  obtain ⟨f0, newId, initId, Bn, tail, C, fI, ET, hT, hmc⟩ := G
  refine pe_imp (pe_callB call_isX hg hm (by decide +kernel) (pa_cons he (pa_cons (pe_glob (v := .ref C) hgc hmc rfl hdb) pa_nil h2) h1) (by decide) (by decide) h1 hpl) fun σ H Q ⟨F, ρ, Qd, S, h, k⟩ => ?_
  refine lE_run S h fun F1 H1 ρ1 v r e1 S1 R1 q => ?_
  cases hd : r.d with
  | exc n d =>
    rw [hd] at R1 q
    obtain ⟨ei, a, dx, u, rfl, hT2, q1, q2, R2⟩ := R1.exc_inv
    obtain ⟨ec, kit⟩ := I n ei c _ hT2 hT
    exact ⟨a, ei.addr, dx, .ref C, .ref C, n == c, _, rfl, .own _, S1.sub _ _ q1, S1.sub _ _ q2, ec, kit, lE_end k e1 S1 (.fz (.bl (n == c))) q⟩
  | _ => rw [hd] at q; exact q.elim
theorem pd_isXT {ty : String} {tn : Str} {l : List (Nat × Bool)} (I : IsXT X.K T ty l) (hg : Gl X "isinstance") (hm : X.mg "isinstance" = none) (hgt : Gl X tn) (hmt : X.mg tn = none) (htn : bootBuiltins tn = some (.type ty)) (he : PD X T B M W e f) (hn : tn ≠ "__name__" := by decide) (hdb : (tn == ("__debug__" : Str)) = false := by decide)
    (h1 : starEach (e :: [.Name tn p2]) X.env = (false, eval e X.env) :: starEach [.Name tn p2] X.env := by rfl) (h2 : starEach [.Name tn p2] X.env = (false, eval (.Name tn p2) X.env) :: starEach [] X.env := by rfl) (hpl : (backTo pos (starEach [.Name tn p2] X.env)).any (·.1) = false := by rfl) :
    PD X T B M W (.Call (.Name "isinstance" p) [e, .Name tn p2] [] pos) (dIsXT l f) := by
  refine pe_imp (pe_callB call_isX hg hm (by decide +kernel) (pa_cons he (pa_cons (pe_bltn (v := .ty ty) hgt hmt htn rfl hn hdb) pa_nil h2) h1) (by decide) (by decide) h1 hpl) fun σ H Q ⟨F, ρ, Qd, S, h, k⟩ => ?_
  refine lE_run S h fun F1 H1 ρ1 v r e1 S1 R1 q => ?_
  cases hd : r.d with
  | exc n d =>
    rw [hd] at R1 q
    obtain ⟨b, hb, q⟩ := q
    obtain ⟨ei, a, dx, u, rfl, hT2, q1, q2, R2⟩ := R1.exc_inv
    obtain ⟨b2, hb2, ec, kit⟩ := I n ei hT2
    cases hb.symm.trans hb2
    exact ⟨a, ei.addr, dx, .ty ty, .type ty, b, _, rfl, .ty _, S1.sub _ _ q1, S1.sub _ _ q2, ec, kit, lE_end k e1 S1 (.fz (.bl b)) q⟩
  | _ => rw [hd] at q; exact q.elim
end
end DL

set_option linter.all false
set_option autoImplicit false
set_option maxRecDepth 100000
/-! DLS: short words for proofs over data. -/
namespace DL
theorem bA_nil {outs : List Slot} {ρ : Env} : backA [] outs ρ = ρ := rfl
theorem bA_e {as : List AV} {ρ : Env} : backA as [] ρ = ρ := by
  cases as with
  | nil => rfl
  | cons a as => cases a <;> rfl
theorem bA_v {d : D} {as : List AV} {outs : List Slot} {ρ : Env} : backA (.v d :: as) outs ρ = backA as outs.tail ρ := by
  cases outs with
  | nil => rw [List.tail_nil, bA_e, bA_e]
  | cons s ss => rfl
theorem bA_m {i : Nat} {as : List AV} {s : Slot} {ss : List Slot} {ρ : Env} : backA (.m i :: as) (s :: ss) ρ = backA as ss (ρ.set i s) := rfl
theorem at_0 {s : Slot} {ρ : List Slot} : Env.at (s :: ρ) 0 = s := rfl
theorem at_s {s : Slot} {ρ : List Slot} {i : Nat} : Env.at (s :: ρ) (i + 1) = Env.at ρ i := rfl
theorem at_nil {i : Nat} : Env.at [] i = .no := rfl
theorem set_0 {s t : Slot} {ρ : List Slot} : (s :: ρ).set 0 t = t :: ρ := rfl
theorem set_s {s t : Slot} {ρ : List Slot} {i : Nat} : (s :: ρ).set (i + 1) t = s :: ρ.set i t := rfl
theorem outs_0 {ρ : Env} : outsE 0 ρ = [] := by cases ρ <;> rfl
theorem outs_s {n : Nat} {s : Slot} {ρ : Env} : outsE (n + 1) (s :: ρ) = s :: outsE n ρ := rfl
theorem fzd {d : D} : (R.fz d).d = d := rfl
theorem frd {d : D} : (R.fr d).d = d := rfl
theorem ftd {d : D} : (R.ft d).d = d.calm := rfl
theorem eqv_int {a b : Int} : D.eqv (.int a) (.int b) = (a == b) := by rw [D.eqv]
theorem eqv_str {a b : Tx} : D.eqv (.str a) (.str b) = (a == b) := by rw [D.eqv]
theorem eqv_bl {a b : Bool} : D.eqv (.bl a) (.bl b) = (a == b) := by rw [D.eqv]
theorem neD_str {a b : Tx} {k : R → Prop} : neD (.str a) (.str b) k = (eqC (.str a) (.str b) ∧ k (.fz (.bl (!(a == b))))) := by rw [← eqv_str]; rfl
theorem neD_int {a b : Int} {k : R → Prop} : neD (.int a) (.int b) k = (eqC (.int a) (.int b) ∧ k (.fz (.bl (!(a == b))))) := by rw [← eqv_int]; rfl
def dVarM (s : Slot) (i : Nat) (ρ : Env) (Q : R → Env → Prop) : Prop := match s with
  | .fz d => Q (.fz d) ρ
  | .own d => Q (.fz d) (ρ.set i (.fz d))
  | .ownT d => Q (.fz d.calm) (ρ.set i (.fz d.calm))
  | .no => False
theorem dVar_M {i : Nat} {ρ : Env} {Q : R → Env → Prop} {E : EK} : dVar i ρ Q E = dVarM (ρ.at i) i ρ Q := rfl
theorem dVarM_ownT {d : D} {i : Nat} {ρ : Env} {Q : R → Env → Prop} : dVarM (.ownT d) i ρ Q = Q (.fz d.calm) (ρ.set i (.fz d.calm)) := rfl
theorem dVarM_fz {d : D} {i : Nat} {ρ : Env} {Q : R → Env → Prop} : dVarM (.fz d) i ρ Q = Q (.fz d) ρ := rfl
theorem dVarM_own {d : D} {i : Nat} {ρ : Env} {Q : R → Env → Prop} : dVarM (.own d) i ρ Q = Q (.fz d) (ρ.set i (.fz d)) := rfl
def retOM (s : Slot) (i : Nat) (M : List Nat) (D : DEnds) (ρ : Env) : Prop := match s with
  | .own d => (M.all fun k => (ρ.at k).isOwn) = true ∧ D.rt (.fr d) (ρ.set i .no)
  | .fz d => D.rt (.fz d) ρ
  | _ => False
theorem sRetO_M {i : Nat} {M : List Nat} {D : DEnds} {ρ : Env} {E : EK} : sRetO i M D ρ E = retOM (ρ.at i) i M D ρ := rfl
theorem retOM_own {d : D} {i : Nat} {M : List Nat} {J : DEnds} {ρ : Env} : retOM (.own d) i M J ρ = ((M.all fun k => (ρ.at k).isOwn) = true ∧ J.rt (.fr d) (ρ.set i .no)) := rfl
theorem retOM_fz {d : D} {i : Nat} {M : List Nat} {J : DEnds} {ρ : Env} : retOM (.fz d) i M J ρ = J.rt (.fz d) ρ := rfl
def dIxM (s : Slot) (x : D) (k : R → Prop) : Prop := match s with
  | .own d => ixD d x k
  | .fz d => ixD d x k
  | _ => False
theorem dIxN_M {i : Nat} {g : DE} {ρ : Env} {Q : R → Env → Prop} {E : EK} : dIxN i g ρ Q E = ((ρ.at i).known = true ∧ g ρ (fun s ρ1 => dIxM (ρ1.at i) s.d fun t => Q t ρ1) E) := by
  unfold dIxN dIxM
  rfl
def dOpM (op : D → D → (R → Prop) → Prop) (s : Slot) (x : D) (k : R → Prop) : Prop := match s with
  | .own d => op d x fun t => t.d.flat = true ∧ k t
  | .fz d => op d x k
  | _ => False
theorem dOpN_M {op : D → D → (R → Prop) → Prop} {i : Nat} {g : DE} {ρ : Env} {Q : R → Env → Prop} {E : EK} : dOpN op i g ρ Q E = ((ρ.at i).known = true ∧ g ρ (fun s ρ1 => dOpM op (ρ1.at i) s.d fun t => Q t ρ1) E) := by
  unfold dOpN dOpM
  rfl
theorem dOpM_fz {op : D → D → (R → Prop) → Prop} {d x : D} {k : R → Prop} : dOpM op (.fz d) x k = op d x k := rfl
theorem dOpM_own {op : D → D → (R → Prop) → Prop} {d x : D} {k : R → Prop} : dOpM op (.own d) x k = op d x fun t => t.d.flat = true ∧ k t := rfl
def dFnM (op : List D → (R → Prop) → Prop) (s : Slot) (k : R → Prop) : Prop := match s with
  | .own d => op [d] fun t => t.d.flat = true ∧ k t
  | .fz d => op [d] k
  | _ => False
theorem dFnN_M {op : List D → (R → Prop) → Prop} {i : Nat} {ρ : Env} {Q : R → Env → Prop} {E : EK} : dFnN op i ρ Q E = dFnM op (ρ.at i) fun t => Q t ρ := by
  unfold dFnN dFnM
  cases ρ.at i <;> rfl
theorem dFnM_fz {op : List D → (R → Prop) → Prop} {d : D} {k : R → Prop} : dFnM op (.fz d) k = op [d] k := rfl
theorem dFnM_own {op : List D → (R → Prop) → Prop} {d : D} {k : R → Prop} : dFnM op (.own d) k = op [d] fun t => t.d.flat = true ∧ k t := rfl
theorem dIxM_fz {d x : D} {k : R → Prop} : dIxM (.fz d) x k = ixD d x k := rfl
theorem dIxM_own {d x : D} {k : R → Prop} : dIxM (.own d) x k = ixD d x k := rfl
/-! operations at what is known -/
section
variable {i j : Int} {a b : Tx} {xs ys : List D} {k : R → Prop} {x y : Bool} {lo hi : Option Int}
theorem addD_int : addD (.int i) (.int j) k = k (.fz (.int (i + j))) := rfl
theorem addD_str : addD (.str a) (.str b) k = (a.length + b.length ≤ maxTx ∧ k (.fz (.str (a ++ b)))) := rfl
theorem addD_lst : addD (.lst xs) (.lst ys) k = (xs.length + ys.length ≤ maxTx ∧ k (.fr (.lst (xs ++ ys)))) := rfl
theorem iaddD_int : iaddD (.int i) (.int j) k = k (.fz (.int (i + j))) := rfl
theorem iaddD_str : iaddD (.str a) (.str b) k = (a.length + b.length ≤ maxTx ∧ k (.fz (.str (a ++ b)))) := rfl
theorem subD_int : subD (.int i) (.int j) k = k (.fz (.int (i - j))) := rfl
theorem mulD_int : mulD (.int i) (.int j) k = (((-(2 ^ 64) < i ∧ i < 2 ^ 64) ∨ (-(2 ^ 64) < j ∧ j < 2 ^ 64)) ∧ k (.fz (.int (i * j)))) := rfl
theorem mulD_str : mulD (.str a) (.int j) k = ((-(2 ^ 62) ≤ j ∧ j < 2 ^ 62 ∧ a.length * j.toNat ≤ maxTx) ∧ k (.fz (.str (List.replicate j.toNat a).flatten))) := rfl
theorem mulD_lst : mulD (.lst xs) (.int j) k = ((-(2 ^ 62) ≤ j ∧ j < 2 ^ 62 ∧ xs.length * j.toNat ≤ maxTx) ∧ k (.fr (.lst (List.replicate j.toNat xs).flatten))) := rfl
theorem fdivD_int : fdivD (.int i) (.int j) k = ((0 < j ∧ j < 1180591620717411303424) ∧ k (.fz (.int (i / j)))) := rfl
theorem modD_int : modD (.int i) (.int j) k = (0 < j ∧ k (.fz (.int (i % j)))) := rfl
theorem powD_int : powD (.int i) (.int j) k = ((0 ≤ j ∧ j ≤ 1000000 ∧ i.natAbs < 2 ^ 64) ∧ k (.fz (.int (i ^ j.toNat)))) := rfl
theorem negD_int : negD (.int i) k = k (.fz (.int (-i))) := rfl
theorem ltD_int : ltD (.int i) (.int j) k = k (.fz (.bl (decide (i < j)))) := rfl
theorem leD_int : leD (.int i) (.int j) k = k (.fz (.bl (decide (i ≤ j)))) := rfl
theorem gtD_int : gtD (.int i) (.int j) k = k (.fz (.bl (decide (j < i)))) := rfl
theorem geD_int : geD (.int i) (.int j) k = k (.fz (.bl (decide (j ≤ i)))) := rfl
theorem ixD_lst : ixD (.lst xs) (.int i) k = (∃ j d, ixN xs.length i = some j ∧ xs[j]? = some d ∧ k (.fz d)) := rfl
theorem ixD_tup : ixD (.tup xs) (.int i) k = (∃ j d, ixN xs.length i = some j ∧ xs[j]? = some d ∧ k (.fz d)) := rfl
theorem ixD_str : ixD (.str a) (.int i) k = (∃ j c, ixN a.length i = some j ∧ a[j]? = some c ∧ k (.fz (.str [c]))) := rfl
theorem slD_lst : slD (.lst xs) lo hi k = k (.fr (.lst (cut xs lo hi))) := rfl
theorem slD_frl : slD (.frl xs) lo hi k = k (.fr (.lst (cut xs lo hi))) := rfl
theorem slD_str : slD (.str a) lo hi k = k (.fz (.str (cut a lo hi))) := rfl
theorem orKD_dct {a b : List (Ky × D)} {k : R → Prop} : orKD (.dct a) (.dct b) k = (a.length + b.length ≤ maxTx ∧ k (.fr (.dct (mergeD a b)))) := rfl
theorem fdivWD_int : fdivWD (.int i) (.int j) k = ((0 < j ∧ j < 2 ^ 1000) ∧ k (.fz (.int (i / j)))) := rfl
theorem mulWD_int : mulWD (.int i) (.int j) k = ((i.natAbs < 2 ^ 3000 ∧ j.natAbs < 2 ^ 3000) ∧ k (.fz (.int (i * j)))) := rfl
theorem imulD_int : imulD (.int i) (.int j) k = (((-(2 ^ 64) < i ∧ i < 2 ^ 64) ∨ (-(2 ^ 64) < j ∧ j < 2 ^ 64)) ∧ k (.fz (.int (i * j)))) := rfl
theorem isBD_bl : isBD (.bl x) (.bl y) k = k (.fz (.bl (x == y))) := rfl
theorem notBD_bl : notBD (.bl x) (.bl y) k = k (.fz (.bl (!(x == y)))) := rfl
theorem revD_lst : revD (.lst xs) k = k (.fr (.lst xs.reverse)) := rfl
theorem minPF_2 : minPF [.tup [.int i, .int j]] k = k (.fz (.int (if j < i then j else i))) := rfl
theorem revT_str : revT (.str a) k = k (.fz (.str a.reverse)) := rfl
end
theorem calm_nil {ρ : Env} : calmE [] ρ = ρ := rfl
theorem calm_cons {i : Nat} {is : List Nat} {ρ : Env} : calmE (i :: is) ρ = calmE is (match ρ.at i with
  | .own d => ρ.set i (.fz d)
  | .ownT d => ρ.set i (.fz d.calm)
  | _ => ρ) := rfl
theorem at_hs {s : Slot} {ρ : Env} {i : Nat} : Env.at (hideE (s :: ρ)) (i + 1) = Env.at (hideE ρ) i := rfl
theorem hide_nil : hideE [] = [] := rfl
theorem hide_fz {d : D} {ρ : Env} : hideE (.fz d :: ρ) = .fz d :: hideE ρ := rfl
theorem hide_own {d : D} {ρ : Env} : hideE (.own d :: ρ) = .no :: hideE ρ := rfl
theorem hide_ownT {d : D} {ρ : Env} : hideE (.ownT d :: ρ) = .no :: hideE ρ := rfl
theorem hide_no {ρ : Env} : hideE (.no :: ρ) = .no :: hideE ρ := rfl

local macro_rules | `(tactic| walk_at "dl") => `(tactic| simp -implicitDefEqProofs only [runD, startE, outsE, outs_0, outs_s, List.length_cons, List.length_nil, List.cons_append, List.nil_append, List.replicate, Nat.sub_zero, Nat.add_one_sub_one, Nat.reduceSub, Nat.reduceAdd, dC, dVar_M, dVarM_fz, dVarM_own, dIxN_M, dIxM_fz, dIxM_own, dOpN_M, dOpM_fz, dOpM_own, dFnN_M, dFnM_fz, dFnM_own, dOp, dUn, dArgs, dLst, dTup, dFn, dIsi, dMs, dPart, dSl, dIfE, Slot.known, tVal, tTru, tAnd, tOr, tNot, dAnd, dOr, dNot, dChain, iLst, iTup, iStr, iRng1, iRng2, iEnum, iZip, gN, gNs, gT, gL, Tgt.g, tYes, wipeE, backE, dAVs, dCall, avSlot, AV.ok, Slot.isOwn, bA_nil, bA_v, bA_m, D.isRef, List.all_cons, List.all_nil, List.map_cons, List.map_nil, Bool.and_true, Bool.true_and, List.tail_cons, List.tail_nil, List.head?_cons, sNx, sSeq, sRet, sRetN, sExp, sAsg, sAsgO, sIf, sAug, sFor, sWh, sBrk, sCnt, sRaise, sApp, sAppP, sRetT, dCatT, dMinKT, eqKN, listKF, listSF, sExt, sUpdT, mergeT, dDct0T, dIxKT, repZD, neEmp, iWkT, itmT, keyT, dSrtKT, Slot.ownL, sPut, sPut2, putAt, sPar, sParL, sFld, dFld, dMake, mkC, dMakeV, dCm, dObj, D.isObj, dCallV, dCallS, dEqO, dIsO, dDct0, isBD_bl, notBD_bl, revD_lst, sPar3, sTrys, catchD, DEnds.unname, repF, D.eqTo, at_0, at_s, at_nil, set_0, set_s, fzd, frd, ftd, Slot.noT, dVarM_ownT, hide_ownT, dMakeT, mkCT, D.calm, D.unm, dEqN, dProp, strF, sFldT, sAppF, sFldAugT, kidOf, putL, dMethM, Slot.isObj, if_true, if_false, Bool.not_true, Bool.not_false, true_and, and_true, Bool.false_eq_true, ↓reduceIte, lenF, lenD, allF, anyF, sumF, absF, intF, tupleF, swM, ewM, eqv_int, eqv_str, eqv_bl, D.isTy, Int.cast_ofNat_Int, addD_int, addD_str, addD_lst, fdivWD_int, orKD_dct, dMinK, dSumV, iaddD_int, iaddD_str, subD_int, mulD_int, mulD_str, mulD_lst, fdivD_int, modD_int, powD_int, negD_int, eqD, neD_str, neD_int, ltD_int, leD_int, gtD_int, geD_int, isD, isnD, D.isNon, inDv, ninDv, ixD_lst, ixD_tup, ixD_str, slD_lst, slD_frl, slD_str, dLc, dLook, Slot.calm, tLook, iRngD, iRngB', dNeT, revT_str, dDisp, iZipS, iZipK, minPF_2, sParF, dLenO, dRepO, dVals, putR, sParR, dFmt, dFmtR, fstL, dFst, mulWD_int, imulD_int, countM, lstRg, dLrg1, dLrg2, sRetO_M, retOM_own, retOM_fz, dLookL, dNeN, dLenSet, dSrtSet, sortedF, dTold, dToldB, dToldO, calm_nil, calm_cons, hide_nil, hide_fz, hide_own, hide_no, at_hs, dIsiO, gTG, gGs, gA, gAll, sAsgs, sClr, sAsgN, dFldN, iWk, itmX, valX, keyX, sForN, dDc, dDsp1, dGet, dGetN, sPutK, inKv, kyOf, ownK, dictF, dLitm, dIxK, eqKv, sortedIF, ltSD, dDspT, sPutT, ownKT, dTupK, giveE, R.raw, sAsgK, unpK, unpK1, ninKv, eqKg, catTD, repTD, dSlT, sAppAt, updD, sAppAtK, dPopAtK, tNinSet, Slot.dctT, dLcP, R.dctN, lc2L, dLc2, sAugK, dSrtRev, sRetTK, sortedKIF, splitM, partM, intTF, dStp, dTake, sTryF, dRep, dMkX, dFldX, dIsX, dIsXT])

/-! ### equality of a thing with itself -/
mutual
theorem eqv_refl : ∀ (n : Nat) (d : D), d.eqOk n = true → D.eqv d d = true
  | n, .non, _ => by rw [D.eqv]
  | n, .bl b, _ => by rw [D.eqv]; simp
  | n, .int b, _ => by rw [D.eqv]; simp
  | n, .str b, _ => by rw [D.eqv]; simp
  | 0, .lst xs, h => by cases h
  | n + 1, .lst xs, h => by rw [D.eqv]; exact eqvL_refl n xs h
  | 0, .tup xs, h => by cases h
  | n + 1, .tup xs, h => by rw [D.eqv]; exact eqvL_refl n xs h
  | n, .dct _, h => by cases n <;> cases h
  | n, .obj _ _, h => by cases n <;> cases h
  | n, .frl _, h => by cases n <;> cases h
  | n, .cls _, h => by cases n <;> cases h
  | n, .prt _, h => by cases n <;> cases h
theorem eqvL_refl : ∀ (n : Nat) (xs : List D), D.eqOkL n xs = true → D.eqvL xs xs = true
  | n, [], _ => by rw [D.eqvL]
  | n, x :: xs, h => by
    unfold D.eqOkL at h
    rw [Bool.and_eq_true] at h
    rw [D.eqvL, eqv_refl n x h.1, eqvL_refl n xs h.2]
    rfl
end
theorem ne_same {d : D} {k : R → Prop} (h : d.eqOk 60 = true) (hk : k (.fz (.bl false))) : neD d d k := ⟨.inr ⟨h, h⟩, by rw [eqv_refl 60 d h]; exact hk⟩
/-! ### loops -/
theorem forL_inv {g : DG} {body : DS} {J : DEnds} {E : EK} (I : List D → Env → Prop) (hn : ∀ ρ, I [] ρ → J.nx ρ)
    (hs : ∀ x xs ρ, I (x :: xs) ρ → ∀ k : Env → Prop, (∀ ρ', I xs ρ' → k ρ') → g x ρ fun ρ1 => body { nx := k, ct := k, bk := J.nx, rt := J.rt } ρ1 E) : ∀ xs ρ, I xs ρ → forL g body J E xs ρ
  | [], ρ, h => hn ρ h
  | x :: xs, ρ, h => hs x xs ρ h (forL g body J E xs) fun ρ' h' => forL_inv I hn hs xs ρ' h'
/-- nothing but data: items kept by p, mapped by f -/
theorem lcL_pure {vs : List Nat} {g : DG} {t : DT} {e : DE} {Q : List D → Env → Prop} (ρ : Env) (p : D → Bool) (f : D → D) (xs : List D)
    (hs : ∀ x ∈ xs, ∀ (k1 : R → Env → Prop) (k2 : Env → Prop), (p x = true → ∀ r ρ', r.d = f x → wipeE vs ρ' = ρ → k1 r ρ') → (p x = false → ∀ ρ', wipeE vs ρ' = ρ → k2 ρ') →
      g x ρ fun ρ1 => t ρ1 (fun b ρ2 => if b = true then e ρ2 k1 noE else k2 ρ2) noE) : ∀ acc, acc.length + xs.length ≤ maxTx → Q (acc ++ (xs.filter p).map f) ρ → lcL vs g t e Q xs acc ρ := by
  induction xs with
  | nil => intro acc _ h; simpa [lcL] using h
  | cons x xs ih =>
    intro acc hl h
    have ih := ih fun y hy => hs y (List.mem_cons_of_mem _ hy)
    simp only [List.length_cons] at hl
    refine hs x List.mem_cons_self _ _ (fun hp r ρ' hr hw => ⟨by omega, ?_⟩) fun hp ρ' hw => ?_
    · rw [hw, hr]
      refine ih _ (by simp; omega) ?_
      simpa [List.filter_cons, hp] using h
    · rw [hw]
      refine ih _ (by omega) ?_
      simpa [List.filter_cons, hp] using h
end DL

set_option linter.all false
set_option autoImplicit false
set_option maxRecDepth 100000
namespace DL
local macro_rules | `(tactic| walk_at "dl") => `(tactic| simp -implicitDefEqProofs only [runD, startE, outsE, outs_0, outs_s, List.length_cons, List.length_nil, List.cons_append, List.nil_append, List.replicate, Nat.sub_zero, Nat.add_one_sub_one, Nat.reduceSub, Nat.reduceAdd, dC, dVar_M, dVarM_fz, dVarM_own, dIxN_M, dIxM_fz, dIxM_own, dOpN_M, dOpM_fz, dOpM_own, dFnN_M, dFnM_fz, dFnM_own, dOp, dUn, dArgs, dLst, dTup, dFn, dIsi, dMs, dPart, dSl, dIfE, Slot.known, tVal, tTru, tAnd, tOr, tNot, dAnd, dOr, dNot, dChain, iLst, iTup, iStr, iRng1, iRng2, iEnum, iZip, gN, gNs, gT, gL, Tgt.g, tYes, wipeE, backE, dAVs, dCall, avSlot, AV.ok, Slot.isOwn, bA_nil, bA_v, bA_m, D.isRef, List.all_cons, List.all_nil, List.map_cons, List.map_nil, Bool.and_true, Bool.true_and, List.tail_cons, List.tail_nil, List.head?_cons, sNx, sSeq, sRet, sRetN, sExp, sAsg, sAsgO, sIf, sAug, sFor, sWh, sBrk, sCnt, sRaise, sApp, sAppP, sRetT, dCatT, dMinKT, eqKN, listKF, listSF, sExt, sUpdT, mergeT, dDct0T, dIxKT, repZD, neEmp, iWkT, itmT, keyT, dSrtKT, Slot.ownL, sPut, sPut2, putAt, sPar, sParL, sFld, dFld, dMake, mkC, dMakeV, dCm, dObj, D.isObj, dCallV, dCallS, dEqO, dIsO, dDct0, isBD_bl, notBD_bl, revD_lst, sPar3, sTrys, catchD, DEnds.unname, repF, D.eqTo, at_0, at_s, at_nil, set_0, set_s, fzd, frd, ftd, Slot.noT, dVarM_ownT, hide_ownT, dMakeT, mkCT, D.calm, D.unm, dEqN, dProp, strF, sFldT, sAppF, sFldAugT, kidOf, putL, dMethM, Slot.isObj, if_true, if_false, Bool.not_true, Bool.not_false, true_and, and_true, Bool.false_eq_true, ↓reduceIte, lenF, lenD, allF, anyF, sumF, absF, intF, tupleF, swM, ewM, eqv_int, eqv_str, eqv_bl, D.isTy, Int.cast_ofNat_Int, addD_int, addD_str, addD_lst, fdivWD_int, orKD_dct, dMinK, dSumV, iaddD_int, iaddD_str, subD_int, mulD_int, mulD_str, mulD_lst, fdivD_int, modD_int, powD_int, negD_int, eqD, neD_str, neD_int, ltD_int, leD_int, gtD_int, geD_int, isD, isnD, D.isNon, inDv, ninDv, ixD_lst, ixD_tup, ixD_str, slD_lst, slD_frl, slD_str, dLc, dLook, Slot.calm, tLook, iRngD, iRngB', dNeT, revT_str, dDisp, iZipS, iZipK, minPF_2, sParF, dLenO, dRepO, dVals, putR, sParR, dFmt, dFmtR, fstL, dFst, mulWD_int, imulD_int, countM, lstRg, dLrg1, dLrg2, sRetO_M, retOM_own, retOM_fz, dLookL, dNeN, dLenSet, dSrtSet, sortedF, dTold, dToldB, dToldO, calm_nil, calm_cons, hide_nil, hide_fz, hide_own, hide_no, at_hs, dIsiO, gTG, gGs, gA, gAll, sAsgs, sClr, sAsgN, dFldN, iWk, itmX, valX, keyX, sForN, dDc, dDsp1, dGet, dGetN, sPutK, inKv, kyOf, ownK, dictF, dLitm, dIxK, eqKv, sortedIF, ltSD, dDspT, sPutT, ownKT, dTupK, giveE, R.raw, sAsgK, unpK, unpK1, ninKv, eqKg, catTD, repTD, dSlT, sAppAt, updD, sAppAtK, dPopAtK, tNinSet, Slot.dctT, dLcP, R.dctN, lc2L, dLc2, sAugK, dSrtRev, sRetTK, sortedKIF, splitM, partM, intTF, dStp, dTake, sTryF, dRep, dMkX, dFldX, dIsX, dIsXT])
/-! the law's own helpers: the pool -/
def poolOk (s : Slot) : Prop := ∃ a b : Int, s = .own (.lst [.int a, .int b]) ∧ 0 ≤ b ∧ b < 2147483648
/-- _law_hand: 0 _law_script, 1 _law_k, 2 _law_cell, 3 _law_seed -/
def b__law_hand : DS := sSeq (sAsg (gN 2) (dOp ixD (dOp addD (dSl (dVar 0) (some (dVar 1)) (some (dOp addD (dVar 1) (dC (.int 1))))) (dLst [dC (.int 0)])) (dC (.int 0)))) (sSeq (sAsg (gN 3) (dOp modD (dOp mulD (dOp addD (dOp addD (dOp modD (dVar 2) (dC (.int 2147483647))) (dOp mulD (dC (.int 7919)) (dVar 1))) (dC (.int 1))) (dC (.int 48271))) (dC (.int 2147483629)))) (sRet (dLst [dOp mulD (dFn intF [dOp geD (dVar 2) (dOp powD (dC (.int 10)) (dC (.int 18)))]) (dVar 2), dVar 3])))
def C__law_hand : Con := fun args Q _ => ∃ (ns : List Int) (k : Nat), args = [.fz (.frl (ns.map .int)), .fz (.int k)] ∧ ns.length ≤ 63 ∧ k ≤ 1000 ∧ ∀ a b : Int, 0 ≤ b → b < 2147483648 → ∀ outs, Q (.fr (.lst [.int a, .int b])) outs
theorem cut_map {α β : Type} (f : α → β) (xs : List α) (lo hi : Option Int) : cut (xs.map f) lo hi = (cut xs lo hi).map f := by
  unfold cut
  rw [List.length_map, List.map_take, List.map_drop]
theorem cut_len {α : Type} (xs : List α) (lo hi : Option Int) : (cut xs lo hi).length ≤ xs.length := by
  unfold cut
  rw [List.length_take, List.length_drop]
  omega
theorem p__law_hand : ∀ args Q E, args.length = 2 → C__law_hand args Q E → runD 4 b__law_hand args Q E := by
  intro args Q E _ h
  obtain ⟨ns, k, rfl, hl, hk, hq⟩ := h
  unfold b__law_hand
  walk_at "dl"
  refine ⟨by decide, ?_, ?_⟩
  · have := cut_len (ns.map D.int) (some (k : Int)) (some ((k : Int) + 1))
    rw [List.length_map] at this
    show _ ≤ 16777216
    omega
  · obtain ⟨c, hc⟩ : ∃ c : Int, (cut (ns.map D.int) (some (k : Int)) (some ((k : Int) + 1)) ++ [.int 0])[0]? = some (.int c) := by
      rw [cut_map]
      cases cut ns (some (k : Int)) (some ((k : Int) + 1)) with
      | nil => exact ⟨0, rfl⟩
      | cons c cs => exact ⟨c, rfl⟩
    refine ⟨0, .int c, ?_, hc, ?_⟩
    · unfold ixN
      rw [if_pos (by decide), List.length_append, if_pos (by show (0 : Int) < ((_ + 1 : Nat) : Int); omega)]
      rfl
    · walk_at "dl"
      refine ⟨by decide, .inl ⟨by decide, by decide⟩, .inr ⟨by decide, by decide⟩, by decide, ⟨by decide, by decide, by decide⟩, ?_, by decide, ?_⟩
      · left
        split <;> exact ⟨by decide, by decide⟩
      · refine hq _ _ (Int.emod_nonneg _ (by decide)) ?_ _
        have := Int.emod_lt_of_pos ((c % 2147483647 + 7919 * (k : Int) + 1) * 48271) (b := 2147483629) (by decide)
        omega
/-- _law_draw: 0 _law_pool, 1 _law_size, 2 _law_found -/
def b__law_draw : DS := sSeq (sIf (tVal (dOp gtD (dIxN 0 (dC (.int 0))) (dC (.int 0)))) (sSeq (sAsg (gN 2) (dOp modD (dIxN 0 (dC (.int 0))) (dVar 1))) (sSeq (sPut 0 (dC (.int 0)) (dOp fdivD (dIxN 0 (dC (.int 0))) (dVar 1))) (sRet (dVar 2)))) (sNx)) (sSeq (sPut 0 (dC (.int 1)) (dOp modD (dOp addD (dOp mulD (dIxN 0 (dC (.int 1))) (dC (.int 48271))) (dC (.int 11))) (dC (.int 2147483647)))) (sRet (dOp modD (dOp fdivD (dOp modD (dOp mulD (dIxN 0 (dC (.int 1))) (dIxN 0 (dC (.int 1)))) (dC (.int 2147483629))) (dC (.int 64))) (dVar 1))))
def C__law_draw : Con := fun args Q _ => ∃ (p : Slot) (s : Int), args = [p, .fz (.int s)] ∧ poolOk p ∧ 0 < s ∧ s < 1180591620717411303424 ∧ ∀ (r : Int) (p' o : Slot), 0 ≤ r → r < s → poolOk p' → Q (.fz (.int r)) [p', o]
theorem p__law_draw : ∀ args Q E, args.length = 2 → C__law_draw args Q E → runD 3 b__law_draw args Q E := by
  intro args Q E _ h
  obtain ⟨p, s, rfl, ⟨a, b, rfl, hb1, hb2⟩, hs1, hs2, hq⟩ := h
  unfold b__law_draw
  walk_at "dl"
  refine ⟨0, .int a, rfl, rfl, ?_⟩
  walk_at "dl"
  by_cases ha : (0 : Int) < a
  · rw [decide_eq_true ha]
    refine (if_pos rfl).mpr ⟨0, .int a, rfl, rfl, ?_⟩
    walk_at "dl"
    refine ⟨hs1, 0, .int a, rfl, rfl, ?_⟩
    walk_at "dl"
    refine ⟨⟨hs1, hs2⟩, 0, rfl, ?_⟩
    exact hq _ _ _ (Int.emod_nonneg _ (by omega)) (Int.emod_lt_of_pos _ hs1) ⟨a / s, b, rfl, hb1, hb2⟩
  · rw [decide_eq_false ha]
    walk_at "dl"
    refine ⟨1, .int b, rfl, rfl, ?_⟩
    walk_at "dl"
    refine ⟨.inr ⟨by decide, by decide⟩, by decide, 1, rfl, ?_⟩
    have h0 : 0 ≤ (b * 48271 + 11) % 2147483647 := Int.emod_nonneg _ (by decide)
    have h1 : (b * 48271 + 11) % 2147483647 < 2147483647 := Int.emod_lt_of_pos _ (by decide)
    refine ⟨1, .int ((b * 48271 + 11) % 2147483647), rfl, rfl, 1, .int ((b * 48271 + 11) % 2147483647), rfl, rfl, ?_⟩
    walk_at "dl"
    refine ⟨.inl ⟨by omega, by omega⟩, by decide, ⟨by decide, by decide⟩, hs1, ?_⟩
    exact hq _ _ _ (Int.emod_nonneg _ (by omega)) (Int.emod_lt_of_pos _ hs1) ⟨a, _, rfl, h0, by omega⟩
theorem ix_nat {n : Nat} {r : Int} (h0 : 0 ≤ r) (h1 : r < n) : ixN n r = some r.toNat := by
  unfold ixN
  rw [if_pos h0, if_pos h1]
theorem max_if (c d : Int) : (if d > c then d else c) = max c d := by
  by_cases h : d > c
  · rw [if_pos h]; omega
  · rw [if_neg h]; omega
theorem min_if (c d : Int) : (if d < c then d else c) = min c d := by
  by_cases h : d < c
  · rw [if_pos h]; omega
  · rw [if_neg h]; omega
theorem maxF2 {i j : Int} {k : R → Prop} : maxF [.int i, .int j] k = k (.fz (.int (max i j))) := by
  show k (.fz (.int (if j > i then j else i))) = _
  rw [max_if]
theorem minF2 {i j : Int} {k : R → Prop} : minF [.int i, .int j] k = k (.fz (.int (min i j))) := by
  show k (.fz (.int (if j < i then j else i))) = _
  rw [min_if]
theorem rng_len (lo : Int) (n : Nat) : (rng lo n).length = n := by unfold rng; rw [List.length_map, List.length_range]
theorem rng_succ (lo : Int) (n : Nat) : rng lo (n + 1) = .int lo :: rng (lo + 1) n := by
  unfold rng
  rw [List.range_succ_eq_map, List.map_cons, List.map_map]
  refine congr (congrArg List.cons ?_) ?_
  · show D.int (lo + ((0 : Nat) : Int)) = _
    rw [show lo + ((0 : Nat) : Int) = lo from by omega]
  · refine List.map_congr_left fun k _ => ?_
    show D.int (lo + ((k + 1 : Nat) : Int)) = D.int (lo + 1 + (k : Int))
    rw [show lo + ((k + 1 : Nat) : Int) = lo + 1 + (k : Int) from by omega]
theorem ix_in {xs : List D} {r : Int} {k : R → Prop} (h0 : 0 ≤ r) (h1 : r < xs.length) (h : ∀ d ∈ xs, k (.fz d)) : ixD (.lst xs) (.int r) k := by
  have hi : r.toNat < xs.length := by omega
  refine ⟨r.toNat, xs[r.toNat], ix_nat h0 h1, List.getElem?_eq_getElem hi, h _ (List.getElem_mem hi)⟩
/-! the numbers of the error classes in the law's order -/
def vL : List Nat := [0, 2, 4, 5, 6, 14, 18, 22, 23, 8]
def pL : List Nat := [1, 16, 11, 12, 13, 7, 9]
def oL : List Nat := [17, 15, 21, 3, 19, 20, 10]
def ordL : List Nat := vL ++ pL ++ oL
def excL (d : D) (ns : List Nat) : List D := ns.map fun n => .exc n d
def okIt (d : D) : Prop := d.shOk 39 = true ∧ d.wt ≤ 300
theorem okIt_of {r : Int} (h0 : 0 ≤ r) (h1 : r < 900) {d : D} (h : d ∈ [D.non, .bl true, .int 0, .int (-7), .int (10 ^ (Int.toNat 25) + r), .str [97, 98], .str [], .tup [.int 0, .int 1], .lst [], .lst [.str [43, 97]], .dct [], .dct ([Ky.str [120]].zip [.str [97]])] ++ [.tup [.tup []]]) : okIt d := by
  simp only [List.cons_append, List.nil_append, List.mem_cons, List.not_mem_nil, or_false] at h
  have e : (10 ^ (Int.toNat 25) + r).natAbs < 10 ^ 120 := by
    have e1 : (10 : Int) ^ (Int.toNat 25) = 10000000000000000000000000 := by decide
    rw [e1]
    exact Nat.lt_trans (by omega : (10000000000000000000000000 + r).natAbs < 10000000000000000000001000) (by decide)
  rcases h with rfl | rfl | rfl | rfl | rfl | rfl | rfl | rfl | rfl | rfl | rfl | rfl | rfl
  all_goals first
    | exact ⟨by decide +kernel, by decide +kernel⟩
    | exact ⟨decide_eq_true e, (by decide : (128 : Nat) ≤ 300)⟩
/-- _law_item: 0 _law_pool, 1 _law_some -/
def b__law_item : DS := sSeq (sAsg (gN 1) (dLst [dC .non, dC (.bl true), dC (.int 0), dUn negD (dC (.int 7)), dOp addD (dOp powD (dC (.int 10)) (dC (.int 25))) (dCall C__law_draw [.m 0, .v (dC (.int 900))]), dC (.str [97, 98]), dC (.str []), dTup [dC (.int 0), dC (.int 1)], dLst [], dLst [dC (.str [43, 97])], dDct0, dDisp [.str [120]] [dC (.str [97])]])) (sRet (dOp ixD (dOp addD (dVar 1) (dLst [dTup [dTup []]])) (dCall C__law_draw [.m 0, .v (dC (.int 13))])))
def C__law_item : Con := fun args Q _ => ∃ p, args = [p] ∧ poolOk p ∧ ∀ d p', okIt d → poolOk p' → Q (.fz d) [p']
theorem p__law_item : ∀ args Q E, args.length = 1 → C__law_item args Q E → runD 2 b__law_item args Q E := by
  intro args Q E _ h
  obtain ⟨p, rfl, hp, hq⟩ := h
  obtain ⟨a, b, rfl, hb0, hb1⟩ := hp
  unfold b__law_item
  try walk_at "dl"
  refine ⟨⟨by decide, by decide, by decide⟩, _, _, rfl, ⟨a, b, rfl, hb0, hb1⟩, by decide, by decide, fun r p1 o1 hr0 hr1 hp1 => ?_⟩
  obtain ⟨a1, b1, rfl, h10, h11⟩ := hp1
  try walk_at "dl"
  refine ⟨by decide, by decide, by decide, by decide, by decide, by decide, by decide, by decide, _, _, rfl, ⟨a1, b1, rfl, h10, h11⟩, by decide, by decide, fun r2 p2 o2 hr20 hr21 hp2 => ?_⟩
  obtain ⟨a2, b2, rfl, h20, h21⟩ := hp2
  try walk_at "dl"
  refine (ix_in (xs := [D.non, .bl true, .int 0, .int (-7), .int (10 ^ (Int.toNat 25) + r), .str [97, 98], .str [], .tup [.int 0, .int 1], .lst [], .lst [.str [43, 97]], .dct [], .dct ([Ky.str [120]].zip [.str [97]]), .tup [.tup []]]) hr20 hr21 fun d hd => ?_ : ixD _ _ fun t => Q t _)
  exact hq d _ (okIt_of hr0 hr1 hd) ⟨a2, b2, rfl, h20, h21⟩
/-- _law_of_values: 0 _law_pool, 1 _law_item_here, 2 _law_found -/
def b__law_of_values : DS := sSeq (sIf (tVal (dOp eqD (dCall C__law_draw [.m 0, .v (dC (.int 2))]) (dC (.int 0)))) (sSeq (sAsg (gN 2) (dLst [dMkX 0 (dVar 1), dMkX 2 (dVar 1), dMkX 4 (dVar 1), dMkX 5 (dVar 1), dMkX 6 (dVar 1)])) (sSeq (sAsg (gN 2) (dOp addD (dVar 2) (dLst [dMkX 14 (dVar 1), dMkX 18 (dVar 1), dMkX 22 (dVar 1), dMkX 23 (dVar 1)]))) (sRet (dOp addD (dVar 2) (dLst [dMkX 8 (dVar 1)]))))) (sNx)) (sSeq (sAsg (gN 2) (dLst [dMkX 0 (dVar 1), dMkX 2 (dVar 1), dMkX 4 (dVar 1), dMkX 5 (dVar 1)])) (sSeq (sAsg (gN 2) (dOp addD (dVar 2) (dLst [dMkX 6 (dVar 1), dMkX 14 (dVar 1), dMkX 18 (dVar 1)]))) (sRet (dOp addD (dVar 2) (dLst [dMkX 22 (dVar 1), dMkX 23 (dVar 1), dMkX 8 (dVar 1)])))))
def C__law_of_values : Con := fun args Q _ => ∃ p d, args = [p, .fz d] ∧ poolOk p ∧ ∀ p' o, poolOk p' → Q (.fr (.lst (excL d vL))) [p', o]
theorem p__law_of_values : ∀ args Q E, args.length = 2 → C__law_of_values args Q E → runD 3 b__law_of_values args Q E := by
  intro args Q E _ h
  obtain ⟨p, d, rfl, hp, hq⟩ := h
  obtain ⟨a, b, rfl, hb0, hb1⟩ := hp
  unfold b__law_of_values
  try walk_at "dl"
  refine ⟨_, 2, rfl, ⟨a, b, rfl, hb0, hb1⟩, by decide, by decide, fun r p1 o1 hr0 hr1 hp1 => ?_⟩
  have hq := fun o => hq p1 o hp1
  obtain ⟨a1, b1, rfl, h10, h11⟩ := hp1
  try walk_at "dl"
  refine ⟨.inl rfl, ?_⟩
  cases (r == 0) with
  | true => exact (if_pos rfl).mpr (by repeat (first | exact hq _ | refine ⟨by decide, ?_⟩))
  | false => exact (if_neg (by decide)).mpr (by repeat (first | exact hq _ | refine ⟨by decide, ?_⟩))
/-- _law_of_positions: 0 _law_pool, 1 _law_item_here, 2 _law_found -/
def b__law_of_positions : DS := sSeq (sIf (tVal (dOp eqD (dCall C__law_draw [.m 0, .v (dC (.int 2))]) (dC (.int 0)))) (sSeq (sAsg (gN 2) (dLst [dMkX 1 (dVar 1), dMkX 16 (dVar 1), dMkX 11 (dVar 1), dMkX 12 (dVar 1)])) (sRet (dOp addD (dVar 2) (dLst [dMkX 13 (dVar 1), dMkX 7 (dVar 1), dMkX 9 (dVar 1)])))) (sNx)) (sSeq (sAsg (gN 2) (dLst [dMkX 1 (dVar 1), dMkX 16 (dVar 1), dMkX 11 (dVar 1)])) (sSeq (sAsg (gN 2) (dOp addD (dVar 2) (dLst [dMkX 12 (dVar 1), dMkX 13 (dVar 1), dMkX 7 (dVar 1)]))) (sRet (dOp addD (dVar 2) (dLst [dMkX 9 (dVar 1)])))))
def C__law_of_positions : Con := fun args Q _ => ∃ p d, args = [p, .fz d] ∧ poolOk p ∧ ∀ p' o, poolOk p' → Q (.fr (.lst (excL d pL))) [p', o]
theorem p__law_of_positions : ∀ args Q E, args.length = 2 → C__law_of_positions args Q E → runD 3 b__law_of_positions args Q E := by
  intro args Q E _ h
  obtain ⟨p, d, rfl, hp, hq⟩ := h
  obtain ⟨a, b, rfl, hb0, hb1⟩ := hp
  unfold b__law_of_positions
  try walk_at "dl"
  refine ⟨_, 2, rfl, ⟨a, b, rfl, hb0, hb1⟩, by decide, by decide, fun r p1 o1 hr0 hr1 hp1 => ?_⟩
  have hq := fun o => hq p1 o hp1
  obtain ⟨a1, b1, rfl, h10, h11⟩ := hp1
  try walk_at "dl"
  refine ⟨.inl rfl, ?_⟩
  cases (r == 0) with
  | true => exact (if_pos rfl).mpr (by repeat (first | exact hq _ | refine ⟨by decide, ?_⟩))
  | false => exact (if_neg (by decide)).mpr (by repeat (first | exact hq _ | refine ⟨by decide, ?_⟩))
/-- _law_others: 0 _law_pool, 1 _law_item_here, 2 _law_found -/
def b__law_others : DS := sSeq (sIf (tVal (dOp eqD (dCall C__law_draw [.m 0, .v (dC (.int 2))]) (dC (.int 0)))) (sSeq (sAsg (gN 2) (dLst [dMkX 17 (dVar 1), dMkX 15 (dVar 1), dMkX 21 (dVar 1), dMkX 3 (dVar 1), dMkX 19 (dVar 1)])) (sRet (dOp addD (dVar 2) (dLst [dMkX 20 (dVar 1), dMkX 10 (dVar 1)])))) (sNx)) (sSeq (sAsg (gN 2) (dLst [dMkX 17 (dVar 1), dMkX 15 (dVar 1), dMkX 21 (dVar 1), dMkX 3 (dVar 1)])) (sRet (dOp addD (dVar 2) (dLst [dMkX 19 (dVar 1), dMkX 20 (dVar 1), dMkX 10 (dVar 1)]))))
def C__law_others : Con := fun args Q _ => ∃ p d, args = [p, .fz d] ∧ poolOk p ∧ ∀ p' o, poolOk p' → Q (.fr (.lst (excL d oL))) [p', o]
theorem p__law_others : ∀ args Q E, args.length = 2 → C__law_others args Q E → runD 3 b__law_others args Q E := by
  intro args Q E _ h
  obtain ⟨p, d, rfl, hp, hq⟩ := h
  obtain ⟨a, b, rfl, hb0, hb1⟩ := hp
  unfold b__law_others
  try walk_at "dl"
  refine ⟨_, 2, rfl, ⟨a, b, rfl, hb0, hb1⟩, by decide, by decide, fun r p1 o1 hr0 hr1 hp1 => ?_⟩
  have hq := fun o => hq p1 o hp1
  obtain ⟨a1, b1, rfl, h10, h11⟩ := hp1
  try walk_at "dl"
  refine ⟨.inl rfl, ?_⟩
  cases (r == 0) with
  | true => exact (if_pos rfl).mpr (by repeat (first | exact hq _ | refine ⟨by decide, ?_⟩))
  | false => exact (if_neg (by decide)).mpr (by repeat (first | exact hq _ | refine ⟨by decide, ?_⟩))
def TV : List (Nat × Bool) := [(0, true), (1, true), (2, true), (3, true), (4, true), (5, true), (6, true), (7, false), (8, false), (9, false), (10, false), (11, true), (12, true), (13, true), (14, true), (15, false), (16, true), (17, true), (18, true), (19, true), (20, false), (21, false), (22, true), (23, true)]
def TR : List (Nat × Bool) := [(0, false), (1, false), (2, false), (3, false), (4, false), (5, false), (6, false), (7, true), (8, true), (9, true), (10, false), (11, false), (12, false), (13, false), (14, false), (15, false), (16, false), (17, false), (18, false), (19, false), (20, false), (21, false), (22, false), (23, false)]
def TK : List (Nat × Bool) := [(0, false), (1, false), (2, false), (3, false), (4, false), (5, false), (6, false), (7, false), (8, false), (9, false), (10, false), (11, false), (12, false), (13, false), (14, false), (15, true), (16, false), (17, false), (18, false), (19, false), (20, false), (21, true), (22, false), (23, false)]
def TL : List (Nat × Bool) := [(0, false), (1, false), (2, false), (3, false), (4, false), (5, false), (6, false), (7, false), (8, false), (9, false), (10, false), (11, false), (12, false), (13, false), (14, false), (15, true), (16, false), (17, false), (18, false), (19, false), (20, true), (21, true), (22, false), (23, false)]
def TA : List (Nat × Bool) := [(0, false), (1, false), (2, false), (3, false), (4, false), (5, false), (6, false), (7, false), (8, false), (9, false), (10, true), (11, false), (12, false), (13, false), (14, false), (15, false), (16, false), (17, false), (18, false), (19, false), (20, false), (21, false), (22, false), (23, false)]
def TO : List (Nat × Bool) := [(0, false), (1, false), (2, false), (3, false), (4, false), (5, false), (6, false), (7, false), (8, false), (9, false), (10, true), (11, false), (12, false), (13, false), (14, false), (15, false), (16, false), (17, false), (18, false), (19, false), (20, false), (21, false), (22, false), (23, false)]
def lkB (l : List (Nat × Bool)) (n : Nat) : Bool := (l.lookup n).getD false
theorem lkA {l : List (Nat × Bool)} {n : Nat} (h : (l.lookup n).isSome = true) : l.lookup n = some (lkB l n) := by
  unfold lkB
  cases e : l.lookup n with
  | none => rw [e] at h; cases h
  | some b => rfl
def aboveL (n : Nat) : List Bool := [lkB TV n, lkB TR n, lkB TK n, lkB TL n, lkB TA n, lkB TO n]
/-- _law_above: 0 _law_e, 1 _law_found -/
def b__law_above : DS := sSeq (sAsg (gN 1) (dLst [dIsXT [(0, true), (1, true), (2, true), (3, true), (4, true), (5, true), (6, true), (7, false), (8, false), (9, false), (10, false), (11, true), (12, true), (13, true), (14, true), (15, false), (16, true), (17, true), (18, true), (19, true), (20, false), (21, false), (22, true), (23, true)] (dVar 0), dIsXT [(0, false), (1, false), (2, false), (3, false), (4, false), (5, false), (6, false), (7, true), (8, true), (9, true), (10, false), (11, false), (12, false), (13, false), (14, false), (15, false), (16, false), (17, false), (18, false), (19, false), (20, false), (21, false), (22, false), (23, false)] (dVar 0), dIsXT [(0, false), (1, false), (2, false), (3, false), (4, false), (5, false), (6, false), (7, false), (8, false), (9, false), (10, false), (11, false), (12, false), (13, false), (14, false), (15, true), (16, false), (17, false), (18, false), (19, false), (20, false), (21, true), (22, false), (23, false)] (dVar 0)])) (sRet (dOp addD (dVar 1) (dLst [dIsXT [(0, false), (1, false), (2, false), (3, false), (4, false), (5, false), (6, false), (7, false), (8, false), (9, false), (10, false), (11, false), (12, false), (13, false), (14, false), (15, true), (16, false), (17, false), (18, false), (19, false), (20, true), (21, true), (22, false), (23, false)] (dVar 0), dIsXT [(0, false), (1, false), (2, false), (3, false), (4, false), (5, false), (6, false), (7, false), (8, false), (9, false), (10, true), (11, false), (12, false), (13, false), (14, false), (15, false), (16, false), (17, false), (18, false), (19, false), (20, false), (21, false), (22, false), (23, false)] (dVar 0), dIsXT [(0, false), (1, false), (2, false), (3, false), (4, false), (5, false), (6, false), (7, false), (8, false), (9, false), (10, true), (11, false), (12, false), (13, false), (14, false), (15, false), (16, false), (17, false), (18, false), (19, false), (20, false), (21, false), (22, false), (23, false)] (dVar 0)])))
def C__law_above : Con := fun args Q _ => ∃ n d, n < 24 ∧ args = [.fz (.exc n d)] ∧ ∀ outs, Q (.fr (.lst ((aboveL n).map .bl))) outs
theorem p__law_above : ∀ args Q E, args.length = 1 → C__law_above args Q E → runD 2 b__law_above args Q E := by
  intro args Q E _ h
  obtain ⟨n, d, hn, rfl, hq⟩ := h
  unfold b__law_above
  try walk_at "dl"
  refine ⟨_, lkA (l := TV) ((by decide : ∀ n < 24, (List.lookup n TV).isSome = true) n hn), _, lkA (l := TR) ((by decide : ∀ n < 24, (List.lookup n TR).isSome = true) n hn), _, lkA (l := TK) ((by decide : ∀ n < 24, (List.lookup n TK).isSome = true) n hn), ?_⟩
  try walk_at "dl"
  refine ⟨by decide, _, lkA (l := TL) ((by decide : ∀ n < 24, (List.lookup n TL).isSome = true) n hn), _, lkA (l := TA) ((by decide : ∀ n < 24, (List.lookup n TA).isSome = true) n hn), _, lkA (l := TO) ((by decide : ∀ n < 24, (List.lookup n TO).isSome = true) n hn), ?_⟩
  try walk_at "dl"
  repeat (first | exact hq _ | refine ⟨by decide, ?_⟩)
/-- _law_bases: 0 _law_place -/
def b__law_bases : DS := sSeq (sIf (tVal (dOp inDv (dVar 0) (dTup [dC (.int 9), dC (.int 15), dC (.int 16)]))) (sRet (dLst [dC (.bl false), dC (.bl true), dC (.bl false), dC (.bl false), dC (.bl false), dC (.bl false)])) (sNx)) (sSeq (sIf (tVal (dOp inDv (dVar 0) (dTup [dC (.int 18), dC (.int 19)]))) (sRet (dLst [dC (.bl false), dC (.bl false), dC (.bl true), dC (.bl true), dC (.bl false), dC (.bl false)])) (sNx)) (sSeq (sIf (tVal (dOp eqD (dVar 0) (dC (.int 22)))) (sRet (dLst [dC (.bl false), dC (.bl false), dC (.bl false), dC (.bl true), dC (.bl false), dC (.bl false)])) (sNx)) (sSeq (sIf (tVal (dOp eqD (dVar 0) (dC (.int 23)))) (sRet (dLst [dC (.bl false), dC (.bl false), dC (.bl false), dC (.bl false), dC (.bl true), dC (.bl true)])) (sNx)) (sRet (dLst [dC (.bl true), dC (.bl false), dC (.bl false), dC (.bl false), dC (.bl false), dC (.bl false)])))))
def basesL (i : Nat) : List Bool := if i = 9 ∨ i = 15 ∨ i = 16 then [false, true, false, false, false, false] else if i = 18 ∨ i = 19 then [false, false, true, true, false, false] else if i = 22 then [false, false, false, true, false, false] else if i = 23 then [false, false, false, false, true, true] else [true, false, false, false, false, false]
def C__law_bases : Con := fun args Q _ => ∃ i : Nat, i < 24 ∧ args = [.fz (.int i)] ∧ ∀ outs, Q (.fr (.lst ((basesL i).map .bl))) outs
theorem p__law_bases : ∀ args Q E, args.length = 1 → C__law_bases args Q E → runD 1 b__law_bases args Q E := by
  intro args Q E _ h
  obtain ⟨i, hi, rfl, hq⟩ := h
  unfold b__law_bases
  try walk_at "dl"
  have : i = 0 ∨ i = 1 ∨ i = 2 ∨ i = 3 ∨ i = 4 ∨ i = 5 ∨ i = 6 ∨ i = 7 ∨ i = 8 ∨ i = 9 ∨ i = 10 ∨ i = 11 ∨ i = 12 ∨ i = 13 ∨ i = 14 ∨ i = 15 ∨ i = 16 ∨ i = 17 ∨ i = 18 ∨ i = 19 ∨ i = 20 ∨ i = 21 ∨ i = 22 ∨ i = 23 := by omega
  rcases this with rfl | rfl | rfl | rfl | rfl | rfl | rfl | rfl | rfl | rfl | rfl | rfl | rfl | rfl | rfl | rfl | rfl | rfl | rfl | rfl | rfl | rfl | rfl | rfl
  all_goals
    refine ⟨by decide, rfl, rfl, ?_⟩
    first
      | exact (if_pos rfl).mpr ⟨by decide, hq _⟩
      | (refine (if_neg (by decide)).mpr ⟨by decide, rfl, rfl, ?_⟩
         first
           | exact (if_pos rfl).mpr ⟨by decide, hq _⟩
           | (refine (if_neg (by decide)).mpr ⟨.inl rfl, ?_⟩
              first
                | exact (if_pos rfl).mpr ⟨by decide, hq _⟩
                | (refine (if_neg (by decide)).mpr ⟨.inl rfl, ?_⟩
                   first
                     | exact (if_pos rfl).mpr ⟨by decide, hq _⟩
                     | exact (if_neg (by decide)).mpr ⟨by decide, hq _⟩)))
/-- _law_marks: 0 _law_e, 1 _law_found -/
def b__law_marks : DS := sSeq (sAsg (gN 1) (dLst [dIsX 0 (dVar 0), dIsX 2 (dVar 0), dIsX 4 (dVar 0)])) (sSeq (sAsg (gN 1) (dOp addD (dVar 1) (dLst [dIsX 5 (dVar 0), dIsX 6 (dVar 0), dIsX 14 (dVar 0)]))) (sSeq (sAsg (gN 1) (dOp addD (dVar 1) (dLst [dIsX 18 (dVar 0), dIsX 22 (dVar 0), dIsX 23 (dVar 0)]))) (sSeq (sAsg (gN 1) (dOp addD (dVar 1) (dLst [dIsX 8 (dVar 0), dIsX 1 (dVar 0), dIsX 16 (dVar 0)]))) (sSeq (sAsg (gN 1) (dOp addD (dVar 1) (dLst [dIsX 11 (dVar 0), dIsX 12 (dVar 0), dIsX 13 (dVar 0)]))) (sSeq (sAsg (gN 1) (dOp addD (dVar 1) (dLst [dIsX 7 (dVar 0), dIsX 9 (dVar 0), dIsX 17 (dVar 0)]))) (sSeq (sAsg (gN 1) (dOp addD (dVar 1) (dLst [dIsX 15 (dVar 0), dIsX 21 (dVar 0), dIsX 3 (dVar 0)]))) (sRet (dOp addD (dVar 1) (dLst [dIsX 19 (dVar 0), dIsX 20 (dVar 0), dIsX 10 (dVar 0)])))))))))
def C__law_marks : Con := fun args Q _ => ∃ n d, args = [.fz (.exc n d)] ∧ ∀ outs, Q (.fr (.lst ((ordL.map fun c => n == c).map .bl))) outs
theorem p__law_marks : ∀ args Q E, args.length = 1 → C__law_marks args Q E → runD 2 b__law_marks args Q E := by
  intro args Q E _ h
  obtain ⟨n, d, rfl, hq⟩ := h
  unfold b__law_marks
  try walk_at "dl"
  repeat (first | exact hq _ | refine ⟨by decide, ?_⟩)
def fldE : D → D
  | .exc _ d => d
  | d => d
theorem own9 {n : Nat} {ρ : Env} (h : ∀ d, ρ.at n ≠ .own d) : ∀ i, i ∈ [n] → ∀ d, ρ.at i ≠ .own d := fun i hi d => by
  rw [List.mem_singleton.mp hi]; exact h d
theorem shL {n : Nat} {d : D} (h : d.shOk n = true) : ∀ m, D.shOkL n (List.replicate m d) = true
  | 0 => by rw [List.replicate_zero, D.shOkL]
  | m + 1 => by rw [List.replicate_succ, D.shOkL, h, shL h m]; rfl
theorem wtL24 (d : D) : ∀ m, D.wtL (List.replicate m d) = m * (d.wt + 2)
  | 0 => by rw [List.replicate_zero, D.wtL, Nat.zero_mul]
  | m + 1 => by rw [List.replicate_succ, D.wtL, wtL24 d m, Nat.succ_mul, Nat.add_comm]
theorem rep24 {d : D} (h : okIt d) : ((D.lst (List.replicate 24 d)).repOk 40 = true ∧ (D.lst (List.replicate 24 d)).wt ≤ maxTx) ∨ (D.lst (List.replicate 24 d)).noD = true := by
  refine .inr ?_
  unfold D.noD
  rw [Bool.and_eq_true]
  constructor
  · rw [D.shOk]; exact shL h.1 24
  · refine decide_eq_true ?_
    rw [D.wt, wtL24]
    have := h.2
    show _ ≤ 16777216
    omega
theorem fld_lc {vs : List Nat} {ns l : List Nat} {d : D} {Q : List D → Env → Prop} {ρ : Env} (i : Nat) (hv : vs = [i]) (hi : i < ρ.length) (hw : (ρ.set i .no) = ρ) (hc : ∀ n ∈ l, ns.contains n = true) (hl : l.length ≤ 1000) (h : Q (l.map fun _ => d) ρ) :
    lcL vs (gN i) tYes (dFldX ns (dVar i)) Q (excL d l) [] ρ := by
  subst hv
  refine lcL_pure (p := fun _ => true) (f := fldE) _ _ (fun y hy k1 k2 h1 h2 => ?_) [] (by rw [show (excL d l).length = l.length from by unfold excL; rw [List.length_map]]; show 0 + _ ≤ 16777216; omega) ?_
  · obtain ⟨n, hn, rfl⟩ := List.mem_map.mp hy
    have e1 : Env.at (List.set ρ i (.fz (.exc n d))) i = Slot.fz (.exc n d) := by
      unfold Env.at
      rw [List.getElem?_set_self hi]; rfl
    have e2 : (ρ.set i (.fz (.exc n d))).set i .no = ρ := by rw [List.set_set]; exact hw
    unfold gN tYes
    refine (if_pos rfl).mpr ?_
    unfold dFldX dVar
    rw [e1]
    exact ⟨hc n hn, h1 rfl _ _ rfl (by unfold wipeE wipeE; exact e2)⟩
  · rw [List.filter_eq_self.mpr (fun _ _ => rfl)]
    have e : (excL d l).map fldE = l.map fun _ => d := by unfold excL; rw [List.map_map]; rfl
    rw [e]
    exact h
def lawConP : Con := fun args Q _ => ∃ ns : List Int, ns.length ≤ 63 ∧ args = [.fz (.frl (ns.map .int))] ∧ ∀ outs, Q (.fz (.bl true)) outs
theorem eqOk_bls (l : List Bool) : (D.lst (l.map .bl)).eqOk 60 = true := by
  rw [D.eqOk]
  induction l with
  | nil => rw [List.map_nil, D.eqOkL]
  | cons b l ih => rw [List.map_cons, D.eqOkL, D.eqOk, ih]; rfl
theorem above_eq : ∀ i < 24, aboveL (ordL.getD i 0) = basesL i := by decide
theorem marks_eq : ∀ i < 24, (ordL.map fun c => ordL.getD i 0 == c) = (List.range 24).map fun a => decide (i = a) := by decide
theorem ord_lt : ∀ i < 24, ordL.getD i 0 < 24 := by decide
def eqI (i : Nat) : D → D
  | .int a => .bl ((i : Int) == a)
  | d => d
theorem eqI_rng (i : Nat) : (rng 0 24).map (eqI i) = ((List.range 24).map fun a => decide (i = a)).map D.bl := by
  unfold rng
  rw [List.map_map, List.map_map]
  refine List.map_congr_left fun a _ => ?_
  show D.bl ((i : Int) == 0 + (a : Int)) = D.bl (decide (i = a))
  rw [Int.zero_add]
  by_cases h : i = a
  · subst h; rw [beq_self_eq_true, decide_eq_true rfl]
  · rw [decide_eq_false h, beq_eq_false_iff_ne.mpr (by omega)]
theorem loop05 {J : DEnds} {E : EK} (d : D) (a0 a1 a2 a3 a4 a5 a6 a7 : Slot) (s8 s9 : Slot) (h9 : s9 = .no ∨ ∃ d, s9 = .fz d) (hk : ∀ s8 s9 : Slot, (s9 = .no ∨ ∃ d, s9 = .fz d) → J.nx [a0, a1, a2, a3, a4, a5, a6, a7, s8, s9, .no]) :
    forL (gT [8, 9]) (sIf (tOr (tVal (dOp neD (dCall C__law_above [DA.v (dVar 9)]) (dCall C__law_bases [DA.v (dVar 8)]))) (tVal (dOp neD (dCall C__law_marks [DA.v (dVar 9)]) (dLc [10] (iRng1 (dC (D.int 24))) (gN 10) tYes (dOp eqD (dVar 8) (dVar 10)))))) (sRet (dC (D.bl false))) sNx) J E
      ((List.range 24).map fun (i : Nat) => D.tup [.int (i : Int), .exc (ordL.getD i 0) d]) [a0, a1, a2, a3, a4, a5, a6, a7, s8, s9, .no] := by
  refine forL_inv (I := fun es ρ => ∃ s8 s9 : Slot, (s9 = .no ∨ ∃ d, s9 = .fz d) ∧ (∀ x ∈ es, ∃ i : Nat, i < 24 ∧ x = .tup [.int (i : Int), .exc (ordL.getD i 0) d]) ∧ ρ = [a0, a1, a2, a3, a4, a5, a6, a7, s8, s9, .no])
    (fun ρ h => ?_) (fun e es ρ h k hk2 => ?_) _ _ ⟨s8, s9, h9, fun x hx => ?_, rfl⟩
  · obtain ⟨s8, s9, h9, _, rfl⟩ := h
    exact hk _ _ h9
  · obtain ⟨s8, s9, h9, hes, rfl⟩ := h
    obtain ⟨i, hi, rfl⟩ := hes e List.mem_cons_self
    try walk_at "dl"
    refine ⟨_, d, ord_lt i hi, rfl, fun o => ?_⟩
    try walk_at "dl"
    refine ⟨i, hi, rfl, fun o2 => ?_⟩
    rw [above_eq i hi]
    refine ne_same (eqOk_bls _) ?_
    try walk_at "dl"
    refine ⟨_, d, rfl, fun o3 => ?_⟩
    try walk_at "dl"
    refine ⟨⟨by decide, by decide⟩, own9 (fun _ z => nomatch z), lcL_pure (p := fun _ => true) (f := eqI i) _ _ (fun y hy k1 k2 h1 h2 => ?_) [] (by rw [rng_len]; show 0 + 24 ≤ 16777216; decide) ?_⟩
    · obtain ⟨a, _, rfl⟩ := List.mem_map.mp hy
      try walk_at "dl"
      exact ⟨.inl rfl, h1 rfl _ _ rfl rfl⟩
    · rw [List.filter_eq_self.mpr (fun _ _ => rfl), List.nil_append, show Int.toNat 24 = 24 from rfl, eqI_rng, marks_eq i hi]
      refine ne_same (eqOk_bls _) ?_
      try walk_at "dl"
      exact hk2 _ ⟨_, _, .inr ⟨_, rfl⟩, fun x hx => hes x (List.mem_cons_of_mem _ hx), rfl⟩
  · obtain ⟨i, hi, rfl⟩ := List.mem_map.mp hx
    exact ⟨i, List.mem_range.mp hi, rfl⟩
/-- law: 0 _law_script, 1 _law_k, 2 _law_pool, 3 _law_item_here, 4 _law_kept, 5 _law_values, 6 _law_positions, 7 _law_others_here, 8 _law_place, 9 _law_e, 10 _law_at -/
def b_law : DS := sSeq (sFor (iRng1 (dFn maxF [dC (.int 2), dFn minF [dFn lenF [dVar 0], dC (.int 20)]])) (gN 1) (sSeq (sAsgO 2 (dCall C__law_hand [.v (dVar 0), .v (dVar 1)])) (sSeq (sAsg (gN 3) (dCall C__law_item [.m 2])) (sSeq (sPar3 5 6 7 (dCall C__law_of_values [.m 2, .v (dVar 3)]) (dCall C__law_of_positions [.m 2, .v (dVar 3)]) (dCall C__law_others [.m 2, .v (dVar 3)])) (sSeq (sAsg (gN 4) (dOp addD (dOp addD (dLc [9] (iLst (dVar 5)) (Tgt.g (.one 9)) (tYes) (dFldX [0, 2, 4, 5, 6, 8, 14, 18, 22, 23] (dVar 9))) (dLc [9] (iLst (dVar 6)) (Tgt.g (.one 9)) (tYes) (dFldX [1, 7, 9, 11, 12, 13, 16] (dVar 9)))) (dLc [9] (iLst (dSl (dVar 7) none (some (dC (.int 3))))) (Tgt.g (.one 9)) (tYes) (dFldX [15, 17, 21] (dVar 9))))) (sSeq (sAsg (gN 4) (dOp addD (dVar 4) (dLst [dFldX [3] (dOp ixD (dVar 7) (dC (.int 3))), dFldX [19] (dOp ixD (dVar 7) (dC (.int 4))), dFldX [20] (dOp ixD (dVar 7) (dC (.int 5))), dFldX [10] (dOp ixD (dVar 7) (dC (.int 6)))]))) (sSeq (sIf (tVal (dOp neD (dFn repF [dVar 4]) (dFn repF [dOp mulD (dLst [dVar 3]) (dC (.int 24))]))) (sRet (dC (.bl false))) (sNx)) (sFor (iEnum (dOp addD (dOp addD (dVar 5) (dVar 6)) (dVar 7))) (gT [8, 9]) (sIf (tOr (tVal (dOp neD (dCall C__law_above [.v (dVar 9)]) (dCall C__law_bases [.v (dVar 8)]))) (tVal (dOp neD (dCall C__law_marks [.v (dVar 9)]) (dLc [10] (iRng1 (dC (.int 24))) (Tgt.g (.one 10)) (tYes) (dOp eqD (dVar 8) (dVar 10)))))) (sRet (dC (.bl false))) (sNx)))))))))) (sRet (dC (.bl true)))
theorem p_law : ∀ args Q E, args.length = 1 → lawConP args Q E → runD 11 b_law args Q E := by
  intro args Q E _ h
  obtain ⟨ns, hl, rfl, hq⟩ := h
  unfold b_law
  try walk_at "dl"
  rw [minF2]
  try walk_at "dl"
  rw [maxF2]
  simp only [List.length_map]
  refine ⟨⟨by omega, by omega⟩, ?_⟩
  have hn : (max (2 : Int) (min (ns.length : Int) 20)).toNat ≤ 63 := by omega
  generalize (max (2 : Int) (min (ns.length : Int) 20)).toNat = N at hn
  refine forL_inv (I := fun es ρ => ∃ (j m : Nat) (s1 s2 s3 s4 s5 s6 s7 s8 s9 : Slot), (s9 = .no ∨ ∃ d, s9 = .fz d) ∧ es = rng (j : Int) m ∧ j + m ≤ 63 ∧ ρ = [.fz (.frl (ns.map .int)), s1, s2, s3, s4, s5, s6, s7, s8, s9, .no])
    (fun ρ h => ?_) (fun e es ρ h k hk => ?_) _ _ ⟨0, N, .no, .no, .no, .no, .no, .no, .no, .no, .no, .inl rfl, rfl, by omega, rfl⟩
  · obtain ⟨j, m, s1, s2, s3, s4, s5, s6, s7, s8, s9, h9, h1, h2, rfl⟩ := h
    exact hq _
  · obtain ⟨j, m, s1, s2, s3, s4, s5, s6, s7, s8, s9, h9, h1, h2, rfl⟩ := h
    cases m with
    | zero => cases h1
    | succ m =>
      rw [rng_succ] at h1
      cases h1
      try walk_at "dl"
      refine ⟨ns, j, rfl, hl, by omega, fun a b hb0 hb1 outs => ?_⟩
      try walk_at "dl"
      refine ⟨_, rfl, ⟨a, b, rfl, hb0, hb1⟩, fun d p1 hd hp1 => ?_⟩
      obtain ⟨a1, b1, rfl, h10, h11⟩ := hp1
      try walk_at "dl"
      refine ⟨_, d, rfl, ⟨a1, b1, rfl, h10, h11⟩, fun p2 o2 hp2 => ?_⟩
      obtain ⟨a2, b2, rfl, h20, h21⟩ := hp2
      try walk_at "dl"
      refine ⟨_, d, rfl, ⟨a2, b2, rfl, h20, h21⟩, fun p3 o3 hp3 => ?_⟩
      obtain ⟨a3, b3, rfl, h30, h31⟩ := hp3
      try walk_at "dl"
      refine ⟨_, d, rfl, ⟨a3, b3, rfl, h30, h31⟩, fun p4 o4 hp4 => ?_⟩
      obtain ⟨a4, b4, rfl, h40, h41⟩ := hp4
      rcases h9 with rfl | ⟨d9, rfl⟩
      all_goals
        try walk_at "dl"
        refine ⟨own9 (fun _ z => nomatch z), fld_lc 9 rfl (by show 9 < 11; decide) rfl (by decide) (by decide) ?_⟩
        try walk_at "dl"
        refine ⟨own9 (fun _ z => nomatch z), fld_lc 9 rfl (by show 9 < 11; decide) rfl (by decide) (by decide) ?_⟩
        try walk_at "dl"
        refine ⟨(by show 10 + 7 ≤ 16777216; decide), ?_⟩
        try walk_at "dl"
        refine ⟨own9 (fun _ z => nomatch z), fld_lc (l := [17, 15, 21]) 9 rfl (by show 9 < 11; decide) rfl (by decide) (by decide) ?_⟩
        try walk_at "dl"
        refine ⟨(by show 17 + 3 ≤ 16777216; decide), ?_⟩
        try walk_at "dl"
        refine ⟨3, .exc 3 d, rfl, rfl, ?_⟩
        try walk_at "dl"
        refine ⟨rfl, 4, .exc 19 d, rfl, rfl, ?_⟩
        try walk_at "dl"
        refine ⟨rfl, 5, .exc 20 d, rfl, rfl, ?_⟩
        try walk_at "dl"
        refine ⟨rfl, 6, .exc 10 d, rfl, rfl, ?_⟩
        try walk_at "dl"
        refine ⟨rfl, by decide, (by show 20 + 4 ≤ 16777216; decide), ?_⟩
        try walk_at "dl"
        rw [show List.map (fun _ => d) vL ++ List.map (fun _ => d) pL ++ [d, d, d] ++ [d, d, d, d] = List.replicate 24 d from rfl, show (List.replicate (Int.toNat 24) [d]).flatten = List.replicate 24 d from rfl]
        refine ⟨rep24 hd, by decide, ⟨by decide, by decide, (by show 1 * 24 ≤ 16777216; decide)⟩, rep24 hd, .inl rfl, ?_⟩
        rw [beq_self_eq_true]
        refine (if_neg (by decide)).mpr ⟨(by show 10 + 7 ≤ 16777216; decide), (by show 17 + 7 ≤ 16777216; decide), ?_⟩
        rw [show enumD (excL d vL ++ excL d pL ++ excL d oL) = (List.range 24).map fun (i : Nat) => D.tup [.int (i : Int), .exc (ordL.getD i 0) d] from rfl]
        exact loop05 _ _ _ _ _ _ _ _ _ _ _ (by first | exact .inl rfl | exact .inr ⟨_, rfl⟩) (fun s8 s9 h9 => hk _ ⟨j + 1, m, _, _, _, _, _, _, _, s8, s9, h9, rfl, by omega, rfl⟩)
end DL

set_option Elab.async false
set_option linter.all false
set_option autoImplicit false
set_option maxRecDepth 100000
set_option maxHeartbeats 4000000
/-! the walk of law_k05_error_classes; printed by gen.py -/
namespace Wk05
open PySem PySem.Spec PyProof.Rows L2 DL
def sat (i : Nat) : Stmt := PySem.Challenge.pw_queueeffect_k05_error_classes.main.body.getD i (.Pass ⟨0, 0, 0, 0⟩)
abbrev s__law_hand : Stmt := sat 26
abbrev s__law_draw : Stmt := sat 27
abbrev s__law_item : Stmt := sat 28
abbrev s__law_of_values : Stmt := sat 29
abbrev s__law_of_positions : Stmt := sat 30
abbrev s__law_others : Stmt := sat 31
abbrev s__law_above : Stmt := sat 33
abbrev s__law_bases : Stmt := sat 34
abbrev s__law_marks : Stmt := sat 32
abbrev s_law : Stmt := sat 35
abbrev N__law_hand : List Str := ["_law_script", "_law_k", "_law_cell", "_law_seed"]
theorem sc__law_hand : FnScope ["_law_script", "_law_k", "_law_cell", "_law_seed"] ["_law_script", "_law_k"] (defScope s__law_hand) := ⟨rfl, rfl, rfl, by decide +kernel, rfl, by decide +kernel, by decide +kernel⟩
abbrev N__law_draw : List Str := ["_law_pool", "_law_size", "_law_found"]
theorem sc__law_draw : FnScope ["_law_pool", "_law_size", "_law_found"] ["_law_pool", "_law_size"] (defScope s__law_draw) := ⟨rfl, rfl, rfl, by decide +kernel, rfl, by decide +kernel, by decide +kernel⟩
abbrev N__law_item : List Str := ["_law_pool", "_law_some"]
theorem sc__law_item : FnScope ["_law_pool", "_law_some"] ["_law_pool"] (defScope s__law_item) := ⟨rfl, rfl, rfl, by decide +kernel, rfl, by decide +kernel, by decide +kernel⟩
abbrev N__law_of_values : List Str := ["_law_pool", "_law_item_here", "_law_found"]
theorem sc__law_of_values : FnScope ["_law_pool", "_law_item_here", "_law_found"] ["_law_pool", "_law_item_here"] (defScope s__law_of_values) := ⟨rfl, rfl, rfl, by decide +kernel, rfl, by decide +kernel, by decide +kernel⟩
abbrev N__law_of_positions : List Str := ["_law_pool", "_law_item_here", "_law_found"]
theorem sc__law_of_positions : FnScope ["_law_pool", "_law_item_here", "_law_found"] ["_law_pool", "_law_item_here"] (defScope s__law_of_positions) := ⟨rfl, rfl, rfl, by decide +kernel, rfl, by decide +kernel, by decide +kernel⟩
abbrev N__law_others : List Str := ["_law_pool", "_law_item_here", "_law_found"]
theorem sc__law_others : FnScope ["_law_pool", "_law_item_here", "_law_found"] ["_law_pool", "_law_item_here"] (defScope s__law_others) := ⟨rfl, rfl, rfl, by decide +kernel, rfl, by decide +kernel, by decide +kernel⟩
abbrev N__law_above : List Str := ["_law_e", "_law_found"]
theorem sc__law_above : FnScope ["_law_e", "_law_found"] ["_law_e"] (defScope s__law_above) := ⟨rfl, rfl, rfl, by decide +kernel, rfl, by decide +kernel, by decide +kernel⟩
abbrev N__law_bases : List Str := ["_law_place"]
theorem sc__law_bases : FnScope ["_law_place"] ["_law_place"] (defScope s__law_bases) := ⟨rfl, rfl, rfl, by decide +kernel, rfl, by decide +kernel, by decide +kernel⟩
abbrev N__law_marks : List Str := ["_law_e", "_law_found"]
theorem sc__law_marks : FnScope ["_law_e", "_law_found"] ["_law_e"] (defScope s__law_marks) := ⟨rfl, rfl, rfl, by decide +kernel, rfl, by decide +kernel, by decide +kernel⟩
abbrev N_law : List Str := ["_law_script", "_law_k", "_law_pool", "_law_item_here", "_law_kept", "_law_values", "_law_positions", "_law_others_here", "_law_place", "_law_e", "_law_at"]
theorem sc_law : FnScope ["_law_script", "_law_k", "_law_pool", "_law_item_here", "_law_kept", "_law_values", "_law_positions", "_law_others_here", "_law_place", "_law_e", "_law_at"] ["_law_script"] (defScope s_law) := ⟨rfl, rfl, rfl, by decide +kernel, rfl, by decide +kernel, by decide +kernel⟩
structure Zs (K : PySem.W.Frag) (mg : Str → Option Value)  : Prop where
  one : True
  z_int : mg "int" = none
  z_isinstance : mg "isinstance" = none
  z_ValueError : mg "ValueError" = none
  z_RuntimeError : mg "RuntimeError" = none
  z_KeyError : mg "KeyError" = none
  z_LookupError : mg "LookupError" = none
  z_ArithmeticError : mg "ArithmeticError" = none
  z_OverflowError : mg "OverflowError" = none
  z_range : mg "range" = none
  z_max : mg "max" = none
  z_min : mg "min" = none
  z_len : mg "len" = none
  z_repr : mg "repr" = none
  z_enumerate : mg "enumerate" = none
section
variable {P : Program} {w : World} {K : PySem.W.Frag} {mg : Str → Option Value} {base : Heap} {T : Tb} {fa : Addr} {fd : FuncData} 
theorem d__law_hand (FF : Fun K "_law_hand" "_law_hand" s__law_hand fa fd) (Z : Zs K mg ) : Def P w K mg base T 2 fa fd ["_law_script", "_law_k"] [] C__law_hand :=
  fnD (k := 1) FF sc__law_hand rfl (fun cdv hcd A outer s H E B W hr tk po hB => pds_cons (pds_set (i := 2) sc__law_hand.nd rfl (by first | exact Or.inl rfl | exact Or.inr rfl) (by decide) (pd_ix (pd_op op_addA ok_add (pd_sl (zaC (i := 0) rfl (by first | exact Or.inl rfl | exact Or.inr (Or.inl rfl) | exact Or.inr (Or.inr rfl))) (pdo_some (zaC (i := 1) rfl (by first | exact Or.inl rfl | exact Or.inr (Or.inl rfl) | exact Or.inr (Or.inr rfl)))) (pdo_some (pd_op op_addA ok_add (zaC (i := 1) rfl (by first | exact Or.inl rfl | exact Or.inr (Or.inl rfl) | exact Or.inr (Or.inr rfl))) (pd_int)))) (pd_lst (zaA (pd_int) (zaD)))) (pd_int))) (pds_cons (pds_set (i := 3) sc__law_hand.nd rfl (by first | exact Or.inl rfl | exact Or.inr rfl) (by decide) (pd_op op_mod ok_mod (pd_op op_mulA ok_mul (pd_op op_addA ok_add (pd_op op_addA ok_add (pd_op op_mod ok_mod (zaC (i := 2) rfl (by first | exact Or.inl rfl | exact Or.inr (Or.inl rfl) | exact Or.inr (Or.inr rfl))) (pd_int)) (pd_op op_mulA ok_mul (pd_int) (zaC (i := 1) rfl (by first | exact Or.inl rfl | exact Or.inr (Or.inl rfl) | exact Or.inr (Or.inr rfl))))) (pd_int)) (pd_int)) (pd_int))) (pds_one (pds_ret (pd_lst (zaA (pd_op op_mulA ok_mul (pd_callTy ok_int call_int1 rfl Z.z_int (by rfl) (zaA (pd_cmp op_ge ok_ge (zaC (i := 2) rfl (by first | exact Or.inl rfl | exact Or.inr (Or.inl rfl) | exact Or.inr (Or.inr rfl))) (pd_op op_pow ok_pow (pd_int) (pd_int)) (nomark _)) (zaD))) (zaC (i := 2) rfl (by first | exact Or.inl rfl | exact Or.inr (Or.inl rfl) | exact Or.inr (Or.inr rfl)))) (zaA (zaC (i := 3) rfl (by first | exact Or.inl rfl | exact Or.inr (Or.inl rfl) | exact Or.inr (Or.inr rfl))) (zaD)))))))) p__law_hand
theorem d__law_draw (FF : Fun K "_law_draw" "_law_draw" s__law_draw fa fd) (Z : Zs K mg ) : Def P w K mg base T 2 fa fd ["_law_pool", "_law_size"] [0] C__law_draw :=
  fnD (k := 1) FF sc__law_draw rfl (fun cdv hcd A outer s H E B W hr tk po hB => pds_cons (pds_if (pdt_cmp op_gt ok_gt (pd_ixN (i := 0) rfl (by first | exact Or.inl rfl | exact Or.inr (Or.inl rfl) | exact Or.inr (Or.inr rfl)) (pd_int)) (pd_int) (nomark _)) (pds_cons (pds_set (i := 2) sc__law_draw.nd rfl (by first | exact Or.inl rfl | exact Or.inr rfl) (by decide) (pd_op op_mod ok_mod (pd_ixN (i := 0) rfl (by first | exact Or.inl rfl | exact Or.inr (Or.inl rfl) | exact Or.inr (Or.inr rfl)) (pd_int)) (zaC (i := 1) rfl (by first | exact Or.inl rfl | exact Or.inr (Or.inl rfl) | exact Or.inr (Or.inr rfl))))) (pds_cons (pds_put (i := 0) rfl (by first | exact Or.inl rfl | exact Or.inr (Or.inl rfl) | exact Or.inr (Or.inr rfl)) (pd_op op_fdivW ok_fdiv (pd_ixN (i := 0) rfl (by first | exact Or.inl rfl | exact Or.inr (Or.inl rfl) | exact Or.inr (Or.inr rfl)) (pd_int)) (zaC (i := 1) rfl (by first | exact Or.inl rfl | exact Or.inr (Or.inl rfl) | exact Or.inr (Or.inr rfl)))) (pd_int)) (pds_one (pds_ret (zaC (i := 2) rfl (by first | exact Or.inl rfl | exact Or.inr (Or.inl rfl) | exact Or.inr (Or.inr rfl))))))) (pds_nil)) (pds_cons (pds_put (i := 0) rfl (by first | exact Or.inl rfl | exact Or.inr (Or.inl rfl) | exact Or.inr (Or.inr rfl)) (pd_op op_mod ok_mod (pd_op op_addA ok_add (pd_op op_mulA ok_mul (pd_ixN (i := 0) rfl (by first | exact Or.inl rfl | exact Or.inr (Or.inl rfl) | exact Or.inr (Or.inr rfl)) (pd_int)) (pd_int)) (pd_int)) (pd_int)) (pd_int)) (pds_one (pds_ret (pd_op op_mod ok_mod (pd_op op_fdivW ok_fdiv (pd_op op_mod ok_mod (pd_op op_mulA ok_mul (pd_ixN (i := 0) rfl (by first | exact Or.inl rfl | exact Or.inr (Or.inl rfl) | exact Or.inr (Or.inr rfl)) (pd_int)) (pd_ixN (i := 0) rfl (by first | exact Or.inl rfl | exact Or.inr (Or.inl rfl) | exact Or.inr (Or.inr rfl)) (pd_int))) (pd_int)) (pd_int)) (zaC (i := 1) rfl (by first | exact Or.inl rfl | exact Or.inr (Or.inl rfl) | exact Or.inr (Or.inr rfl)))))))) p__law_draw
theorem d__law_item (FF : Fun K "_law_item" "_law_item" s__law_item fa fd) (Z : Zs K mg ) (g__law_draw : Cal P w K mg base T "_law_draw" 2 ["_law_pool", "_law_size"] [0] C__law_draw) : Def P w K mg base T 3 fa fd ["_law_pool"] [0] C__law_item :=
  fnD (k := 2) FF sc__law_item rfl (fun cdv hcd A outer s H E B W hr tk po hB => pds_cons (pds_set (i := 1) sc__law_item.nd rfl (by first | exact Or.inl rfl | exact Or.inr rfl) (by decide) (pd_lst (zaA (pd_non) (zaA (pd_bl) (zaA (pd_int) (zaA (pd_un un_neg ok_neg (pd_int)) (zaA (pd_op op_addA ok_add (pd_op op_pow ok_pow (pd_int) (pd_int)) (pd_callC g__law_draw (hr.mono (by decide)) tk rfl (pav_m (i := 0) rfl (by first | exact Or.inl rfl | exact Or.inr (Or.inl rfl) | exact Or.inr (Or.inr rfl)) (pav_v (pd_int) (pav_nil))))) (zaA (pd_str (l := [97, 98]) rfl (by decide)) (zaA (pd_str (l := []) rfl (by decide)) (zaA (pd_tup (zaA (pd_int) (zaA (pd_int) (zaD)))) (zaA (pd_lst zaD) (zaA (pd_lst (zaA (pd_str (l := [43, 97]) rfl (by decide)) (zaD))) (zaA (pd_dct0) (zaA (pd_disp (pdp_str (l := [120]) rfl (fun _ => pd_str (l := [97]) rfl (by decide)) (pdp_nil)) (by decide)) (zaD))))))))))))))) (pds_one (pds_ret (pd_ix (pd_op op_addA ok_add (zaC (i := 1) rfl (by first | exact Or.inl rfl | exact Or.inr (Or.inl rfl) | exact Or.inr (Or.inr rfl))) (pd_lst (zaA (pd_tup (zaA (pd_tup (zaD)) (zaD))) (zaD)))) (pd_callC g__law_draw (hr.mono (by decide)) tk rfl (pav_m (i := 0) rfl (by first | exact Or.inl rfl | exact Or.inr (Or.inl rfl) | exact Or.inr (Or.inr rfl)) (pav_v (pd_int) (pav_nil)))))))) p__law_item
theorem d__law_of_values (FF : Fun K "_law_of_values" "_law_of_values" s__law_of_values fa fd) (Z : Zs K mg ) (X_InvalidQueue : ErrX K mg T "InvalidQueue" 0) (X_InvalidStep : ErrX K mg T "InvalidStep" 2) (X_InvalidPosition : ErrX K mg T "InvalidPosition" 4) (X_InvalidNumber : ErrX K mg T "InvalidNumber" 5) (X_InvalidWord : ErrX K mg T "InvalidWord" 6) (X_InvalidState : ErrX K mg T "InvalidState" 14) (X_InvalidSchedule : ErrX K mg T "InvalidSchedule" 18) (X_InvalidSession : ErrX K mg T "InvalidSession" 22) (X_InvalidCommand : ErrX K mg T "InvalidCommand" 23) (X_Rejected : ErrX K mg T "Rejected" 8) (hfld_InvalidQueue : ∀ ei, T.ex 0 = some ei → ei.field = "value") (hfld_InvalidStep : ∀ ei, T.ex 2 = some ei → ei.field = "value") (hfld_InvalidPosition : ∀ ei, T.ex 4 = some ei → ei.field = "value") (hfld_InvalidNumber : ∀ ei, T.ex 5 = some ei → ei.field = "value") (hfld_InvalidWord : ∀ ei, T.ex 6 = some ei → ei.field = "value") (hfld_InvalidState : ∀ ei, T.ex 14 = some ei → ei.field = "value") (hfld_InvalidSchedule : ∀ ei, T.ex 18 = some ei → ei.field = "value") (hfld_InvalidSession : ∀ ei, T.ex 22 = some ei → ei.field = "value") (hfld_InvalidCommand : ∀ ei, T.ex 23 = some ei → ei.field = "value") (hfld_Rejected : ∀ ei, T.ex 8 = some ei → ei.field = "value") (g__law_draw : Cal P w K mg base T "_law_draw" 2 ["_law_pool", "_law_size"] [0] C__law_draw) : Def P w K mg base T 3 fa fd ["_law_pool", "_law_item_here"] [0] C__law_of_values :=
  fnD (k := 2) FF sc__law_of_values rfl (fun cdv hcd A outer s H E B W hr tk po hB => pds_cons (pds_if (pdt_cmp (op_eqA hr.units) ok_eq (pd_callC g__law_draw (hr.mono (by decide)) tk rfl (pav_m (i := 0) rfl (by first | exact Or.inl rfl | exact Or.inr (Or.inl rfl) | exact Or.inr (Or.inr rfl)) (pav_v (pd_int) (pav_nil)))) (pd_int) (nomark _)) (pds_cons (pds_set (i := 2) sc__law_of_values.nd rfl (by first | exact Or.inl rfl | exact Or.inr rfl) (by decide) (pd_lst (zaA (pd_mkX (k := 1) X_InvalidQueue (hr.mono (by decide)) (zaC (i := 1) rfl (by first | exact Or.inl rfl | exact Or.inr (Or.inl rfl) | exact Or.inr (Or.inr rfl))) rfl) (zaA (pd_mkX (k := 1) X_InvalidStep (hr.mono (by decide)) (zaC (i := 1) rfl (by first | exact Or.inl rfl | exact Or.inr (Or.inl rfl) | exact Or.inr (Or.inr rfl))) rfl) (zaA (pd_mkX (k := 1) X_InvalidPosition (hr.mono (by decide)) (zaC (i := 1) rfl (by first | exact Or.inl rfl | exact Or.inr (Or.inl rfl) | exact Or.inr (Or.inr rfl))) rfl) (zaA (pd_mkX (k := 1) X_InvalidNumber (hr.mono (by decide)) (zaC (i := 1) rfl (by first | exact Or.inl rfl | exact Or.inr (Or.inl rfl) | exact Or.inr (Or.inr rfl))) rfl) (zaA (pd_mkX (k := 1) X_InvalidWord (hr.mono (by decide)) (zaC (i := 1) rfl (by first | exact Or.inl rfl | exact Or.inr (Or.inl rfl) | exact Or.inr (Or.inr rfl))) rfl) (zaD)))))))) (pds_cons (pds_set (i := 2) sc__law_of_values.nd rfl (by first | exact Or.inl rfl | exact Or.inr rfl) (by decide) (pd_op op_addA ok_add (zaC (i := 2) rfl (by first | exact Or.inl rfl | exact Or.inr (Or.inl rfl) | exact Or.inr (Or.inr rfl))) (pd_lst (zaA (pd_mkX (k := 1) X_InvalidState (hr.mono (by decide)) (zaC (i := 1) rfl (by first | exact Or.inl rfl | exact Or.inr (Or.inl rfl) | exact Or.inr (Or.inr rfl))) rfl) (zaA (pd_mkX (k := 1) X_InvalidSchedule (hr.mono (by decide)) (zaC (i := 1) rfl (by first | exact Or.inl rfl | exact Or.inr (Or.inl rfl) | exact Or.inr (Or.inr rfl))) rfl) (zaA (pd_mkX (k := 1) X_InvalidSession (hr.mono (by decide)) (zaC (i := 1) rfl (by first | exact Or.inl rfl | exact Or.inr (Or.inl rfl) | exact Or.inr (Or.inr rfl))) rfl) (zaA (pd_mkX (k := 1) X_InvalidCommand (hr.mono (by decide)) (zaC (i := 1) rfl (by first | exact Or.inl rfl | exact Or.inr (Or.inl rfl) | exact Or.inr (Or.inr rfl))) rfl) (zaD)))))))) (pds_one (pds_ret (pd_op op_addA ok_add (zaC (i := 2) rfl (by first | exact Or.inl rfl | exact Or.inr (Or.inl rfl) | exact Or.inr (Or.inr rfl))) (pd_lst (zaA (pd_mkX (k := 1) X_Rejected (hr.mono (by decide)) (zaC (i := 1) rfl (by first | exact Or.inl rfl | exact Or.inr (Or.inl rfl) | exact Or.inr (Or.inr rfl))) rfl) (zaD)))))))) (pds_nil)) (pds_cons (pds_set (i := 2) sc__law_of_values.nd rfl (by first | exact Or.inl rfl | exact Or.inr rfl) (by decide) (pd_lst (zaA (pd_mkXK (k := 1) X_InvalidQueue hfld_InvalidQueue (hr.mono (by decide)) (zaC (i := 1) rfl (by first | exact Or.inl rfl | exact Or.inr (Or.inl rfl) | exact Or.inr (Or.inr rfl))) rfl) (zaA (pd_mkXK (k := 1) X_InvalidStep hfld_InvalidStep (hr.mono (by decide)) (zaC (i := 1) rfl (by first | exact Or.inl rfl | exact Or.inr (Or.inl rfl) | exact Or.inr (Or.inr rfl))) rfl) (zaA (pd_mkXK (k := 1) X_InvalidPosition hfld_InvalidPosition (hr.mono (by decide)) (zaC (i := 1) rfl (by first | exact Or.inl rfl | exact Or.inr (Or.inl rfl) | exact Or.inr (Or.inr rfl))) rfl) (zaA (pd_mkXK (k := 1) X_InvalidNumber hfld_InvalidNumber (hr.mono (by decide)) (zaC (i := 1) rfl (by first | exact Or.inl rfl | exact Or.inr (Or.inl rfl) | exact Or.inr (Or.inr rfl))) rfl) (zaD))))))) (pds_cons (pds_set (i := 2) sc__law_of_values.nd rfl (by first | exact Or.inl rfl | exact Or.inr rfl) (by decide) (pd_op op_addA ok_add (zaC (i := 2) rfl (by first | exact Or.inl rfl | exact Or.inr (Or.inl rfl) | exact Or.inr (Or.inr rfl))) (pd_lst (zaA (pd_mkXK (k := 1) X_InvalidWord hfld_InvalidWord (hr.mono (by decide)) (zaC (i := 1) rfl (by first | exact Or.inl rfl | exact Or.inr (Or.inl rfl) | exact Or.inr (Or.inr rfl))) rfl) (zaA (pd_mkXK (k := 1) X_InvalidState hfld_InvalidState (hr.mono (by decide)) (zaC (i := 1) rfl (by first | exact Or.inl rfl | exact Or.inr (Or.inl rfl) | exact Or.inr (Or.inr rfl))) rfl) (zaA (pd_mkXK (k := 1) X_InvalidSchedule hfld_InvalidSchedule (hr.mono (by decide)) (zaC (i := 1) rfl (by first | exact Or.inl rfl | exact Or.inr (Or.inl rfl) | exact Or.inr (Or.inr rfl))) rfl) (zaD))))))) (pds_one (pds_ret (pd_op op_addA ok_add (zaC (i := 2) rfl (by first | exact Or.inl rfl | exact Or.inr (Or.inl rfl) | exact Or.inr (Or.inr rfl))) (pd_lst (zaA (pd_mkXK (k := 1) X_InvalidSession hfld_InvalidSession (hr.mono (by decide)) (zaC (i := 1) rfl (by first | exact Or.inl rfl | exact Or.inr (Or.inl rfl) | exact Or.inr (Or.inr rfl))) rfl) (zaA (pd_mkXK (k := 1) X_InvalidCommand hfld_InvalidCommand (hr.mono (by decide)) (zaC (i := 1) rfl (by first | exact Or.inl rfl | exact Or.inr (Or.inl rfl) | exact Or.inr (Or.inr rfl))) rfl) (zaA (pd_mkXK (k := 1) X_Rejected hfld_Rejected (hr.mono (by decide)) (zaC (i := 1) rfl (by first | exact Or.inl rfl | exact Or.inr (Or.inl rfl) | exact Or.inr (Or.inr rfl))) rfl) (zaD))))))))))) p__law_of_values
theorem d__law_of_positions (FF : Fun K "_law_of_positions" "_law_of_positions" s__law_of_positions fa fd) (Z : Zs K mg ) (X_InvalidSequence : ErrX K mg T "InvalidSequence" 1) (X_InvalidProcesses : ErrX K mg T "InvalidProcesses" 16) (X_InvalidSuspects : ErrX K mg T "InvalidSuspects" 11) (X_InvalidObservations : ErrX K mg T "InvalidObservations" 12) (X_InvalidQueues : ErrX K mg T "InvalidQueues" 13) (X_StepFailed : ErrX K mg T "StepFailed" 7) (X_EffectChanged : ErrX K mg T "EffectChanged" 9) (hfld_InvalidSequence : ∀ ei, T.ex 1 = some ei → ei.field = "position") (hfld_InvalidProcesses : ∀ ei, T.ex 16 = some ei → ei.field = "position") (hfld_InvalidSuspects : ∀ ei, T.ex 11 = some ei → ei.field = "position") (hfld_InvalidObservations : ∀ ei, T.ex 12 = some ei → ei.field = "position") (hfld_InvalidQueues : ∀ ei, T.ex 13 = some ei → ei.field = "position") (hfld_StepFailed : ∀ ei, T.ex 7 = some ei → ei.field = "position") (hfld_EffectChanged : ∀ ei, T.ex 9 = some ei → ei.field = "position") (g__law_draw : Cal P w K mg base T "_law_draw" 2 ["_law_pool", "_law_size"] [0] C__law_draw) : Def P w K mg base T 3 fa fd ["_law_pool", "_law_item_here"] [0] C__law_of_positions :=
  fnD (k := 2) FF sc__law_of_positions rfl (fun cdv hcd A outer s H E B W hr tk po hB => pds_cons (pds_if (pdt_cmp (op_eqA hr.units) ok_eq (pd_callC g__law_draw (hr.mono (by decide)) tk rfl (pav_m (i := 0) rfl (by first | exact Or.inl rfl | exact Or.inr (Or.inl rfl) | exact Or.inr (Or.inr rfl)) (pav_v (pd_int) (pav_nil)))) (pd_int) (nomark _)) (pds_cons (pds_set (i := 2) sc__law_of_positions.nd rfl (by first | exact Or.inl rfl | exact Or.inr rfl) (by decide) (pd_lst (zaA (pd_mkX (k := 1) X_InvalidSequence (hr.mono (by decide)) (zaC (i := 1) rfl (by first | exact Or.inl rfl | exact Or.inr (Or.inl rfl) | exact Or.inr (Or.inr rfl))) rfl) (zaA (pd_mkX (k := 1) X_InvalidProcesses (hr.mono (by decide)) (zaC (i := 1) rfl (by first | exact Or.inl rfl | exact Or.inr (Or.inl rfl) | exact Or.inr (Or.inr rfl))) rfl) (zaA (pd_mkX (k := 1) X_InvalidSuspects (hr.mono (by decide)) (zaC (i := 1) rfl (by first | exact Or.inl rfl | exact Or.inr (Or.inl rfl) | exact Or.inr (Or.inr rfl))) rfl) (zaA (pd_mkX (k := 1) X_InvalidObservations (hr.mono (by decide)) (zaC (i := 1) rfl (by first | exact Or.inl rfl | exact Or.inr (Or.inl rfl) | exact Or.inr (Or.inr rfl))) rfl) (zaD))))))) (pds_one (pds_ret (pd_op op_addA ok_add (zaC (i := 2) rfl (by first | exact Or.inl rfl | exact Or.inr (Or.inl rfl) | exact Or.inr (Or.inr rfl))) (pd_lst (zaA (pd_mkX (k := 1) X_InvalidQueues (hr.mono (by decide)) (zaC (i := 1) rfl (by first | exact Or.inl rfl | exact Or.inr (Or.inl rfl) | exact Or.inr (Or.inr rfl))) rfl) (zaA (pd_mkX (k := 1) X_StepFailed (hr.mono (by decide)) (zaC (i := 1) rfl (by first | exact Or.inl rfl | exact Or.inr (Or.inl rfl) | exact Or.inr (Or.inr rfl))) rfl) (zaA (pd_mkX (k := 1) X_EffectChanged (hr.mono (by decide)) (zaC (i := 1) rfl (by first | exact Or.inl rfl | exact Or.inr (Or.inl rfl) | exact Or.inr (Or.inr rfl))) rfl) (zaD))))))))) (pds_nil)) (pds_cons (pds_set (i := 2) sc__law_of_positions.nd rfl (by first | exact Or.inl rfl | exact Or.inr rfl) (by decide) (pd_lst (zaA (pd_mkXK (k := 1) X_InvalidSequence hfld_InvalidSequence (hr.mono (by decide)) (zaC (i := 1) rfl (by first | exact Or.inl rfl | exact Or.inr (Or.inl rfl) | exact Or.inr (Or.inr rfl))) rfl) (zaA (pd_mkXK (k := 1) X_InvalidProcesses hfld_InvalidProcesses (hr.mono (by decide)) (zaC (i := 1) rfl (by first | exact Or.inl rfl | exact Or.inr (Or.inl rfl) | exact Or.inr (Or.inr rfl))) rfl) (zaA (pd_mkXK (k := 1) X_InvalidSuspects hfld_InvalidSuspects (hr.mono (by decide)) (zaC (i := 1) rfl (by first | exact Or.inl rfl | exact Or.inr (Or.inl rfl) | exact Or.inr (Or.inr rfl))) rfl) (zaD)))))) (pds_cons (pds_set (i := 2) sc__law_of_positions.nd rfl (by first | exact Or.inl rfl | exact Or.inr rfl) (by decide) (pd_op op_addA ok_add (zaC (i := 2) rfl (by first | exact Or.inl rfl | exact Or.inr (Or.inl rfl) | exact Or.inr (Or.inr rfl))) (pd_lst (zaA (pd_mkXK (k := 1) X_InvalidObservations hfld_InvalidObservations (hr.mono (by decide)) (zaC (i := 1) rfl (by first | exact Or.inl rfl | exact Or.inr (Or.inl rfl) | exact Or.inr (Or.inr rfl))) rfl) (zaA (pd_mkXK (k := 1) X_InvalidQueues hfld_InvalidQueues (hr.mono (by decide)) (zaC (i := 1) rfl (by first | exact Or.inl rfl | exact Or.inr (Or.inl rfl) | exact Or.inr (Or.inr rfl))) rfl) (zaA (pd_mkXK (k := 1) X_StepFailed hfld_StepFailed (hr.mono (by decide)) (zaC (i := 1) rfl (by first | exact Or.inl rfl | exact Or.inr (Or.inl rfl) | exact Or.inr (Or.inr rfl))) rfl) (zaD))))))) (pds_one (pds_ret (pd_op op_addA ok_add (zaC (i := 2) rfl (by first | exact Or.inl rfl | exact Or.inr (Or.inl rfl) | exact Or.inr (Or.inr rfl))) (pd_lst (zaA (pd_mkXK (k := 1) X_EffectChanged hfld_EffectChanged (hr.mono (by decide)) (zaC (i := 1) rfl (by first | exact Or.inl rfl | exact Or.inr (Or.inl rfl) | exact Or.inr (Or.inr rfl))) rfl) (zaD))))))))) p__law_of_positions
theorem d__law_others (FF : Fun K "_law_others" "_law_others" s__law_others fa fd) (Z : Zs K mg ) (X_SharedQueue : ErrX K mg T "SharedQueue" 17) (X_UnknownQueue : ErrX K mg T "UnknownQueue" 15) (X_UnknownMark : ErrX K mg T "UnknownMark" 21) (X_InvalidEffect : ErrX K mg T "InvalidEffect" 3) (X_ParseError : ErrX K mg T "ParseError" 19) (X_NothingToUndo : ErrX K mg T "NothingToUndo" 20) (X_LimitExceeded : ErrX K mg T "LimitExceeded" 10) (hfld_SharedQueue : ∀ ei, T.ex 17 = some ei → ei.field = "name") (hfld_UnknownQueue : ∀ ei, T.ex 15 = some ei → ei.field = "name") (hfld_UnknownMark : ∀ ei, T.ex 21 = some ei → ei.field = "name") (hfld_InvalidEffect : ∀ ei, T.ex 3 = some ei → ei.field = "part") (hfld_ParseError : ∀ ei, T.ex 19 = some ei → ei.field = "line") (hfld_NothingToUndo : ∀ ei, T.ex 20 = some ei → ei.field = "count") (hfld_LimitExceeded : ∀ ei, T.ex 10 = some ei → ei.field = "limit") (g__law_draw : Cal P w K mg base T "_law_draw" 2 ["_law_pool", "_law_size"] [0] C__law_draw) : Def P w K mg base T 3 fa fd ["_law_pool", "_law_item_here"] [0] C__law_others :=
  fnD (k := 2) FF sc__law_others rfl (fun cdv hcd A outer s H E B W hr tk po hB => pds_cons (pds_if (pdt_cmp (op_eqA hr.units) ok_eq (pd_callC g__law_draw (hr.mono (by decide)) tk rfl (pav_m (i := 0) rfl (by first | exact Or.inl rfl | exact Or.inr (Or.inl rfl) | exact Or.inr (Or.inr rfl)) (pav_v (pd_int) (pav_nil)))) (pd_int) (nomark _)) (pds_cons (pds_set (i := 2) sc__law_others.nd rfl (by first | exact Or.inl rfl | exact Or.inr rfl) (by decide) (pd_lst (zaA (pd_mkX (k := 1) X_SharedQueue (hr.mono (by decide)) (zaC (i := 1) rfl (by first | exact Or.inl rfl | exact Or.inr (Or.inl rfl) | exact Or.inr (Or.inr rfl))) rfl) (zaA (pd_mkX (k := 1) X_UnknownQueue (hr.mono (by decide)) (zaC (i := 1) rfl (by first | exact Or.inl rfl | exact Or.inr (Or.inl rfl) | exact Or.inr (Or.inr rfl))) rfl) (zaA (pd_mkX (k := 1) X_UnknownMark (hr.mono (by decide)) (zaC (i := 1) rfl (by first | exact Or.inl rfl | exact Or.inr (Or.inl rfl) | exact Or.inr (Or.inr rfl))) rfl) (zaA (pd_mkX (k := 1) X_InvalidEffect (hr.mono (by decide)) (zaC (i := 1) rfl (by first | exact Or.inl rfl | exact Or.inr (Or.inl rfl) | exact Or.inr (Or.inr rfl))) rfl) (zaA (pd_mkX (k := 1) X_ParseError (hr.mono (by decide)) (zaC (i := 1) rfl (by first | exact Or.inl rfl | exact Or.inr (Or.inl rfl) | exact Or.inr (Or.inr rfl))) rfl) (zaD)))))))) (pds_one (pds_ret (pd_op op_addA ok_add (zaC (i := 2) rfl (by first | exact Or.inl rfl | exact Or.inr (Or.inl rfl) | exact Or.inr (Or.inr rfl))) (pd_lst (zaA (pd_mkX (k := 1) X_NothingToUndo (hr.mono (by decide)) (zaC (i := 1) rfl (by first | exact Or.inl rfl | exact Or.inr (Or.inl rfl) | exact Or.inr (Or.inr rfl))) rfl) (zaA (pd_mkX (k := 1) X_LimitExceeded (hr.mono (by decide)) (zaC (i := 1) rfl (by first | exact Or.inl rfl | exact Or.inr (Or.inl rfl) | exact Or.inr (Or.inr rfl))) rfl) (zaD)))))))) (pds_nil)) (pds_cons (pds_set (i := 2) sc__law_others.nd rfl (by first | exact Or.inl rfl | exact Or.inr rfl) (by decide) (pd_lst (zaA (pd_mkXK (k := 1) X_SharedQueue hfld_SharedQueue (hr.mono (by decide)) (zaC (i := 1) rfl (by first | exact Or.inl rfl | exact Or.inr (Or.inl rfl) | exact Or.inr (Or.inr rfl))) rfl) (zaA (pd_mkXK (k := 1) X_UnknownQueue hfld_UnknownQueue (hr.mono (by decide)) (zaC (i := 1) rfl (by first | exact Or.inl rfl | exact Or.inr (Or.inl rfl) | exact Or.inr (Or.inr rfl))) rfl) (zaA (pd_mkXK (k := 1) X_UnknownMark hfld_UnknownMark (hr.mono (by decide)) (zaC (i := 1) rfl (by first | exact Or.inl rfl | exact Or.inr (Or.inl rfl) | exact Or.inr (Or.inr rfl))) rfl) (zaA (pd_mkXK (k := 1) X_InvalidEffect hfld_InvalidEffect (hr.mono (by decide)) (zaC (i := 1) rfl (by first | exact Or.inl rfl | exact Or.inr (Or.inl rfl) | exact Or.inr (Or.inr rfl))) rfl) (zaD))))))) (pds_one (pds_ret (pd_op op_addA ok_add (zaC (i := 2) rfl (by first | exact Or.inl rfl | exact Or.inr (Or.inl rfl) | exact Or.inr (Or.inr rfl))) (pd_lst (zaA (pd_mkXK (k := 1) X_ParseError hfld_ParseError (hr.mono (by decide)) (zaC (i := 1) rfl (by first | exact Or.inl rfl | exact Or.inr (Or.inl rfl) | exact Or.inr (Or.inr rfl))) rfl) (zaA (pd_mkXK (k := 1) X_NothingToUndo hfld_NothingToUndo (hr.mono (by decide)) (zaC (i := 1) rfl (by first | exact Or.inl rfl | exact Or.inr (Or.inl rfl) | exact Or.inr (Or.inr rfl))) rfl) (zaA (pd_mkXK (k := 1) X_LimitExceeded hfld_LimitExceeded (hr.mono (by decide)) (zaC (i := 1) rfl (by first | exact Or.inl rfl | exact Or.inr (Or.inl rfl) | exact Or.inr (Or.inr rfl))) rfl) (zaD)))))))))) p__law_others
theorem d__law_above (FF : Fun K "_law_above" "_law_above" s__law_above fa fd) (Z : Zs K mg ) (IT_ValueError : IsXT K T "ValueError" [(0, true), (1, true), (2, true), (3, true), (4, true), (5, true), (6, true), (7, false), (8, false), (9, false), (10, false), (11, true), (12, true), (13, true), (14, true), (15, false), (16, true), (17, true), (18, true), (19, true), (20, false), (21, false), (22, true), (23, true)]) (IT_RuntimeError : IsXT K T "RuntimeError" [(0, false), (1, false), (2, false), (3, false), (4, false), (5, false), (6, false), (7, true), (8, true), (9, true), (10, false), (11, false), (12, false), (13, false), (14, false), (15, false), (16, false), (17, false), (18, false), (19, false), (20, false), (21, false), (22, false), (23, false)]) (IT_KeyError : IsXT K T "KeyError" [(0, false), (1, false), (2, false), (3, false), (4, false), (5, false), (6, false), (7, false), (8, false), (9, false), (10, false), (11, false), (12, false), (13, false), (14, false), (15, true), (16, false), (17, false), (18, false), (19, false), (20, false), (21, true), (22, false), (23, false)]) (IT_LookupError : IsXT K T "LookupError" [(0, false), (1, false), (2, false), (3, false), (4, false), (5, false), (6, false), (7, false), (8, false), (9, false), (10, false), (11, false), (12, false), (13, false), (14, false), (15, true), (16, false), (17, false), (18, false), (19, false), (20, true), (21, true), (22, false), (23, false)]) (IT_ArithmeticError : IsXT K T "ArithmeticError" [(0, false), (1, false), (2, false), (3, false), (4, false), (5, false), (6, false), (7, false), (8, false), (9, false), (10, true), (11, false), (12, false), (13, false), (14, false), (15, false), (16, false), (17, false), (18, false), (19, false), (20, false), (21, false), (22, false), (23, false)]) (IT_OverflowError : IsXT K T "OverflowError" [(0, false), (1, false), (2, false), (3, false), (4, false), (5, false), (6, false), (7, false), (8, false), (9, false), (10, true), (11, false), (12, false), (13, false), (14, false), (15, false), (16, false), (17, false), (18, false), (19, false), (20, false), (21, false), (22, false), (23, false)]) : Def P w K mg base T 2 fa fd ["_law_e"] [] C__law_above :=
  fnD (k := 1) FF sc__law_above rfl (fun cdv hcd A outer s H E B W hr tk po hB => pds_cons (pds_set (i := 1) sc__law_above.nd rfl (by first | exact Or.inl rfl | exact Or.inr rfl) (by decide) (pd_lst (zaA (pd_isXT IT_ValueError rfl Z.z_isinstance rfl Z.z_ValueError rfl (zaC (i := 0) rfl (by first | exact Or.inl rfl | exact Or.inr (Or.inl rfl) | exact Or.inr (Or.inr rfl)))) (zaA (pd_isXT IT_RuntimeError rfl Z.z_isinstance rfl Z.z_RuntimeError rfl (zaC (i := 0) rfl (by first | exact Or.inl rfl | exact Or.inr (Or.inl rfl) | exact Or.inr (Or.inr rfl)))) (zaA (pd_isXT IT_KeyError rfl Z.z_isinstance rfl Z.z_KeyError rfl (zaC (i := 0) rfl (by first | exact Or.inl rfl | exact Or.inr (Or.inl rfl) | exact Or.inr (Or.inr rfl)))) (zaD)))))) (pds_one (pds_ret (pd_op op_addA ok_add (zaC (i := 1) rfl (by first | exact Or.inl rfl | exact Or.inr (Or.inl rfl) | exact Or.inr (Or.inr rfl))) (pd_lst (zaA (pd_isXT IT_LookupError rfl Z.z_isinstance rfl Z.z_LookupError rfl (zaC (i := 0) rfl (by first | exact Or.inl rfl | exact Or.inr (Or.inl rfl) | exact Or.inr (Or.inr rfl)))) (zaA (pd_isXT IT_ArithmeticError rfl Z.z_isinstance rfl Z.z_ArithmeticError rfl (zaC (i := 0) rfl (by first | exact Or.inl rfl | exact Or.inr (Or.inl rfl) | exact Or.inr (Or.inr rfl)))) (zaA (pd_isXT IT_OverflowError rfl Z.z_isinstance rfl Z.z_OverflowError rfl (zaC (i := 0) rfl (by first | exact Or.inl rfl | exact Or.inr (Or.inl rfl) | exact Or.inr (Or.inr rfl)))) (zaD))))))))) p__law_above
theorem d__law_bases (FF : Fun K "_law_bases" "_law_bases" s__law_bases fa fd) (Z : Zs K mg ) : Def P w K mg base T 2 fa fd ["_law_place"] [] C__law_bases :=
  fnD (k := 1) FF sc__law_bases rfl (fun cdv hcd A outer s H E B W hr tk po hB => pds_cons (pds_if (pdt_cmp op_inA ok_in (zaC (i := 0) rfl (by first | exact Or.inl rfl | exact Or.inr (Or.inl rfl) | exact Or.inr (Or.inr rfl))) (pd_tup (zaA (pd_int) (zaA (pd_int) (zaA (pd_int) (zaD))))) (by rfl)) (pds_one (pds_ret (pd_lst (zaA (pd_bl) (zaA (pd_bl) (zaA (pd_bl) (zaA (pd_bl) (zaA (pd_bl) (zaA (pd_bl) (zaD)))))))))) (pds_nil)) (pds_cons (pds_if (pdt_cmp op_inA ok_in (zaC (i := 0) rfl (by first | exact Or.inl rfl | exact Or.inr (Or.inl rfl) | exact Or.inr (Or.inr rfl))) (pd_tup (zaA (pd_int) (zaA (pd_int) (zaD)))) (by rfl)) (pds_one (pds_ret (pd_lst (zaA (pd_bl) (zaA (pd_bl) (zaA (pd_bl) (zaA (pd_bl) (zaA (pd_bl) (zaA (pd_bl) (zaD)))))))))) (pds_nil)) (pds_cons (pds_if (pdt_cmp (op_eqA hr.units) ok_eq (zaC (i := 0) rfl (by first | exact Or.inl rfl | exact Or.inr (Or.inl rfl) | exact Or.inr (Or.inr rfl))) (pd_int) (nomark _)) (pds_one (pds_ret (pd_lst (zaA (pd_bl) (zaA (pd_bl) (zaA (pd_bl) (zaA (pd_bl) (zaA (pd_bl) (zaA (pd_bl) (zaD)))))))))) (pds_nil)) (pds_cons (pds_if (pdt_cmp (op_eqA hr.units) ok_eq (zaC (i := 0) rfl (by first | exact Or.inl rfl | exact Or.inr (Or.inl rfl) | exact Or.inr (Or.inr rfl))) (pd_int) (nomark _)) (pds_one (pds_ret (pd_lst (zaA (pd_bl) (zaA (pd_bl) (zaA (pd_bl) (zaA (pd_bl) (zaA (pd_bl) (zaA (pd_bl) (zaD)))))))))) (pds_nil)) (pds_one (pds_ret (pd_lst (zaA (pd_bl) (zaA (pd_bl) (zaA (pd_bl) (zaA (pd_bl) (zaA (pd_bl) (zaA (pd_bl) (zaD)))))))))))))) p__law_bases
theorem d__law_marks (FF : Fun K "_law_marks" "_law_marks" s__law_marks fa fd) (Z : Zs K mg ) (X_InvalidQueue : ErrX K mg T "InvalidQueue" 0) (X_InvalidStep : ErrX K mg T "InvalidStep" 2) (X_InvalidPosition : ErrX K mg T "InvalidPosition" 4) (X_InvalidNumber : ErrX K mg T "InvalidNumber" 5) (X_InvalidWord : ErrX K mg T "InvalidWord" 6) (X_InvalidState : ErrX K mg T "InvalidState" 14) (X_InvalidSchedule : ErrX K mg T "InvalidSchedule" 18) (X_InvalidSession : ErrX K mg T "InvalidSession" 22) (X_InvalidCommand : ErrX K mg T "InvalidCommand" 23) (X_Rejected : ErrX K mg T "Rejected" 8) (X_InvalidSequence : ErrX K mg T "InvalidSequence" 1) (X_InvalidProcesses : ErrX K mg T "InvalidProcesses" 16) (X_InvalidSuspects : ErrX K mg T "InvalidSuspects" 11) (X_InvalidObservations : ErrX K mg T "InvalidObservations" 12) (X_InvalidQueues : ErrX K mg T "InvalidQueues" 13) (X_StepFailed : ErrX K mg T "StepFailed" 7) (X_EffectChanged : ErrX K mg T "EffectChanged" 9) (X_SharedQueue : ErrX K mg T "SharedQueue" 17) (X_UnknownQueue : ErrX K mg T "UnknownQueue" 15) (X_UnknownMark : ErrX K mg T "UnknownMark" 21) (X_InvalidEffect : ErrX K mg T "InvalidEffect" 3) (X_ParseError : ErrX K mg T "ParseError" 19) (X_NothingToUndo : ErrX K mg T "NothingToUndo" 20) (X_LimitExceeded : ErrX K mg T "LimitExceeded" 10) (IX : IsXs K T) : Def P w K mg base T 2 fa fd ["_law_e"] [] C__law_marks :=
  fnD (k := 1) FF sc__law_marks rfl (fun cdv hcd A outer s H E B W hr tk po hB => pds_cons (pds_set (i := 1) sc__law_marks.nd rfl (by first | exact Or.inl rfl | exact Or.inr rfl) (by decide) (pd_lst (zaA (pd_isX IX X_InvalidQueue rfl Z.z_isinstance rfl (zaC (i := 0) rfl (by first | exact Or.inl rfl | exact Or.inr (Or.inl rfl) | exact Or.inr (Or.inr rfl)))) (zaA (pd_isX IX X_InvalidStep rfl Z.z_isinstance rfl (zaC (i := 0) rfl (by first | exact Or.inl rfl | exact Or.inr (Or.inl rfl) | exact Or.inr (Or.inr rfl)))) (zaA (pd_isX IX X_InvalidPosition rfl Z.z_isinstance rfl (zaC (i := 0) rfl (by first | exact Or.inl rfl | exact Or.inr (Or.inl rfl) | exact Or.inr (Or.inr rfl)))) (zaD)))))) (pds_cons (pds_set (i := 1) sc__law_marks.nd rfl (by first | exact Or.inl rfl | exact Or.inr rfl) (by decide) (pd_op op_addA ok_add (zaC (i := 1) rfl (by first | exact Or.inl rfl | exact Or.inr (Or.inl rfl) | exact Or.inr (Or.inr rfl))) (pd_lst (zaA (pd_isX IX X_InvalidNumber rfl Z.z_isinstance rfl (zaC (i := 0) rfl (by first | exact Or.inl rfl | exact Or.inr (Or.inl rfl) | exact Or.inr (Or.inr rfl)))) (zaA (pd_isX IX X_InvalidWord rfl Z.z_isinstance rfl (zaC (i := 0) rfl (by first | exact Or.inl rfl | exact Or.inr (Or.inl rfl) | exact Or.inr (Or.inr rfl)))) (zaA (pd_isX IX X_InvalidState rfl Z.z_isinstance rfl (zaC (i := 0) rfl (by first | exact Or.inl rfl | exact Or.inr (Or.inl rfl) | exact Or.inr (Or.inr rfl)))) (zaD))))))) (pds_cons (pds_set (i := 1) sc__law_marks.nd rfl (by first | exact Or.inl rfl | exact Or.inr rfl) (by decide) (pd_op op_addA ok_add (zaC (i := 1) rfl (by first | exact Or.inl rfl | exact Or.inr (Or.inl rfl) | exact Or.inr (Or.inr rfl))) (pd_lst (zaA (pd_isX IX X_InvalidSchedule rfl Z.z_isinstance rfl (zaC (i := 0) rfl (by first | exact Or.inl rfl | exact Or.inr (Or.inl rfl) | exact Or.inr (Or.inr rfl)))) (zaA (pd_isX IX X_InvalidSession rfl Z.z_isinstance rfl (zaC (i := 0) rfl (by first | exact Or.inl rfl | exact Or.inr (Or.inl rfl) | exact Or.inr (Or.inr rfl)))) (zaA (pd_isX IX X_InvalidCommand rfl Z.z_isinstance rfl (zaC (i := 0) rfl (by first | exact Or.inl rfl | exact Or.inr (Or.inl rfl) | exact Or.inr (Or.inr rfl)))) (zaD))))))) (pds_cons (pds_set (i := 1) sc__law_marks.nd rfl (by first | exact Or.inl rfl | exact Or.inr rfl) (by decide) (pd_op op_addA ok_add (zaC (i := 1) rfl (by first | exact Or.inl rfl | exact Or.inr (Or.inl rfl) | exact Or.inr (Or.inr rfl))) (pd_lst (zaA (pd_isX IX X_Rejected rfl Z.z_isinstance rfl (zaC (i := 0) rfl (by first | exact Or.inl rfl | exact Or.inr (Or.inl rfl) | exact Or.inr (Or.inr rfl)))) (zaA (pd_isX IX X_InvalidSequence rfl Z.z_isinstance rfl (zaC (i := 0) rfl (by first | exact Or.inl rfl | exact Or.inr (Or.inl rfl) | exact Or.inr (Or.inr rfl)))) (zaA (pd_isX IX X_InvalidProcesses rfl Z.z_isinstance rfl (zaC (i := 0) rfl (by first | exact Or.inl rfl | exact Or.inr (Or.inl rfl) | exact Or.inr (Or.inr rfl)))) (zaD))))))) (pds_cons (pds_set (i := 1) sc__law_marks.nd rfl (by first | exact Or.inl rfl | exact Or.inr rfl) (by decide) (pd_op op_addA ok_add (zaC (i := 1) rfl (by first | exact Or.inl rfl | exact Or.inr (Or.inl rfl) | exact Or.inr (Or.inr rfl))) (pd_lst (zaA (pd_isX IX X_InvalidSuspects rfl Z.z_isinstance rfl (zaC (i := 0) rfl (by first | exact Or.inl rfl | exact Or.inr (Or.inl rfl) | exact Or.inr (Or.inr rfl)))) (zaA (pd_isX IX X_InvalidObservations rfl Z.z_isinstance rfl (zaC (i := 0) rfl (by first | exact Or.inl rfl | exact Or.inr (Or.inl rfl) | exact Or.inr (Or.inr rfl)))) (zaA (pd_isX IX X_InvalidQueues rfl Z.z_isinstance rfl (zaC (i := 0) rfl (by first | exact Or.inl rfl | exact Or.inr (Or.inl rfl) | exact Or.inr (Or.inr rfl)))) (zaD))))))) (pds_cons (pds_set (i := 1) sc__law_marks.nd rfl (by first | exact Or.inl rfl | exact Or.inr rfl) (by decide) (pd_op op_addA ok_add (zaC (i := 1) rfl (by first | exact Or.inl rfl | exact Or.inr (Or.inl rfl) | exact Or.inr (Or.inr rfl))) (pd_lst (zaA (pd_isX IX X_StepFailed rfl Z.z_isinstance rfl (zaC (i := 0) rfl (by first | exact Or.inl rfl | exact Or.inr (Or.inl rfl) | exact Or.inr (Or.inr rfl)))) (zaA (pd_isX IX X_EffectChanged rfl Z.z_isinstance rfl (zaC (i := 0) rfl (by first | exact Or.inl rfl | exact Or.inr (Or.inl rfl) | exact Or.inr (Or.inr rfl)))) (zaA (pd_isX IX X_SharedQueue rfl Z.z_isinstance rfl (zaC (i := 0) rfl (by first | exact Or.inl rfl | exact Or.inr (Or.inl rfl) | exact Or.inr (Or.inr rfl)))) (zaD))))))) (pds_cons (pds_set (i := 1) sc__law_marks.nd rfl (by first | exact Or.inl rfl | exact Or.inr rfl) (by decide) (pd_op op_addA ok_add (zaC (i := 1) rfl (by first | exact Or.inl rfl | exact Or.inr (Or.inl rfl) | exact Or.inr (Or.inr rfl))) (pd_lst (zaA (pd_isX IX X_UnknownQueue rfl Z.z_isinstance rfl (zaC (i := 0) rfl (by first | exact Or.inl rfl | exact Or.inr (Or.inl rfl) | exact Or.inr (Or.inr rfl)))) (zaA (pd_isX IX X_UnknownMark rfl Z.z_isinstance rfl (zaC (i := 0) rfl (by first | exact Or.inl rfl | exact Or.inr (Or.inl rfl) | exact Or.inr (Or.inr rfl)))) (zaA (pd_isX IX X_InvalidEffect rfl Z.z_isinstance rfl (zaC (i := 0) rfl (by first | exact Or.inl rfl | exact Or.inr (Or.inl rfl) | exact Or.inr (Or.inr rfl)))) (zaD))))))) (pds_one (pds_ret (pd_op op_addA ok_add (zaC (i := 1) rfl (by first | exact Or.inl rfl | exact Or.inr (Or.inl rfl) | exact Or.inr (Or.inr rfl))) (pd_lst (zaA (pd_isX IX X_ParseError rfl Z.z_isinstance rfl (zaC (i := 0) rfl (by first | exact Or.inl rfl | exact Or.inr (Or.inl rfl) | exact Or.inr (Or.inr rfl)))) (zaA (pd_isX IX X_NothingToUndo rfl Z.z_isinstance rfl (zaC (i := 0) rfl (by first | exact Or.inl rfl | exact Or.inr (Or.inl rfl) | exact Or.inr (Or.inr rfl)))) (zaA (pd_isX IX X_LimitExceeded rfl Z.z_isinstance rfl (zaC (i := 0) rfl (by first | exact Or.inl rfl | exact Or.inr (Or.inl rfl) | exact Or.inr (Or.inr rfl)))) (zaD))))))))))))))) p__law_marks
theorem d_law (FF : Fun K "law" "law" s_law fa fd) (Z : Zs K mg ) (X_InvalidCommand : ErrX K mg T "InvalidCommand" 23) (X_InvalidSession : ErrX K mg T "InvalidSession" 22) (X_InvalidSchedule : ErrX K mg T "InvalidSchedule" 18) (X_InvalidState : ErrX K mg T "InvalidState" 14) (X_Rejected : ErrX K mg T "Rejected" 8) (X_InvalidWord : ErrX K mg T "InvalidWord" 6) (X_InvalidNumber : ErrX K mg T "InvalidNumber" 5) (X_InvalidPosition : ErrX K mg T "InvalidPosition" 4) (X_InvalidStep : ErrX K mg T "InvalidStep" 2) (X_InvalidQueue : ErrX K mg T "InvalidQueue" 0) (X_InvalidProcesses : ErrX K mg T "InvalidProcesses" 16) (X_InvalidQueues : ErrX K mg T "InvalidQueues" 13) (X_InvalidObservations : ErrX K mg T "InvalidObservations" 12) (X_InvalidSuspects : ErrX K mg T "InvalidSuspects" 11) (X_EffectChanged : ErrX K mg T "EffectChanged" 9) (X_StepFailed : ErrX K mg T "StepFailed" 7) (X_InvalidSequence : ErrX K mg T "InvalidSequence" 1) (X_UnknownMark : ErrX K mg T "UnknownMark" 21) (X_SharedQueue : ErrX K mg T "SharedQueue" 17) (X_UnknownQueue : ErrX K mg T "UnknownQueue" 15) (X_InvalidEffect : ErrX K mg T "InvalidEffect" 3) (X_ParseError : ErrX K mg T "ParseError" 19) (X_NothingToUndo : ErrX K mg T "NothingToUndo" 20) (X_LimitExceeded : ErrX K mg T "LimitExceeded" 10) (hfld_InvalidCommand : ∀ ei, T.ex 23 = some ei → ei.field = "value") (hfld_InvalidSession : ∀ ei, T.ex 22 = some ei → ei.field = "value") (hfld_InvalidSchedule : ∀ ei, T.ex 18 = some ei → ei.field = "value") (hfld_InvalidState : ∀ ei, T.ex 14 = some ei → ei.field = "value") (hfld_Rejected : ∀ ei, T.ex 8 = some ei → ei.field = "value") (hfld_InvalidWord : ∀ ei, T.ex 6 = some ei → ei.field = "value") (hfld_InvalidNumber : ∀ ei, T.ex 5 = some ei → ei.field = "value") (hfld_InvalidPosition : ∀ ei, T.ex 4 = some ei → ei.field = "value") (hfld_InvalidStep : ∀ ei, T.ex 2 = some ei → ei.field = "value") (hfld_InvalidQueue : ∀ ei, T.ex 0 = some ei → ei.field = "value") (hfld_InvalidProcesses : ∀ ei, T.ex 16 = some ei → ei.field = "position") (hfld_InvalidQueues : ∀ ei, T.ex 13 = some ei → ei.field = "position") (hfld_InvalidObservations : ∀ ei, T.ex 12 = some ei → ei.field = "position") (hfld_InvalidSuspects : ∀ ei, T.ex 11 = some ei → ei.field = "position") (hfld_EffectChanged : ∀ ei, T.ex 9 = some ei → ei.field = "position") (hfld_StepFailed : ∀ ei, T.ex 7 = some ei → ei.field = "position") (hfld_InvalidSequence : ∀ ei, T.ex 1 = some ei → ei.field = "position") (hfld_UnknownMark : ∀ ei, T.ex 21 = some ei → ei.field = "name") (hfld_SharedQueue : ∀ ei, T.ex 17 = some ei → ei.field = "name") (hfld_UnknownQueue : ∀ ei, T.ex 15 = some ei → ei.field = "name") (hfld_InvalidEffect : ∀ ei, T.ex 3 = some ei → ei.field = "part") (hfld_ParseError : ∀ ei, T.ex 19 = some ei → ei.field = "line") (hfld_NothingToUndo : ∀ ei, T.ex 20 = some ei → ei.field = "count") (hfld_LimitExceeded : ∀ ei, T.ex 10 = some ei → ei.field = "limit") (g__law_hand : Cal P w K mg base T "_law_hand" 2 ["_law_script", "_law_k"] [] C__law_hand) (g__law_item : Cal P w K mg base T "_law_item" 3 ["_law_pool"] [0] C__law_item) (g__law_of_values : Cal P w K mg base T "_law_of_values" 3 ["_law_pool", "_law_item_here"] [0] C__law_of_values) (g__law_of_positions : Cal P w K mg base T "_law_of_positions" 3 ["_law_pool", "_law_item_here"] [0] C__law_of_positions) (g__law_others : Cal P w K mg base T "_law_others" 3 ["_law_pool", "_law_item_here"] [0] C__law_others) (g__law_above : Cal P w K mg base T "_law_above" 2 ["_law_e"] [] C__law_above) (g__law_bases : Cal P w K mg base T "_law_bases" 2 ["_law_place"] [] C__law_bases) (g__law_marks : Cal P w K mg base T "_law_marks" 2 ["_law_e"] [] C__law_marks) : Def P w K mg base T 4 fa fd ["_law_script"] [] lawCon :=
  fnD (k := 3) FF sc_law rfl (fun cdv hcd A outer s H E B W hr tk po hB => pds_cons (pds_for po rfl (pdi_rng1 rfl Z.z_range (pd_callB ok_max (call_maxA rfl) rfl Z.z_max (by rfl) (zaA (pd_int) (zaA (pd_callB ok_min (call_minA rfl) rfl Z.z_min (by rfl) (zaA (pd_callB ok_len call_lenA rfl Z.z_len (by rfl) (zaA (zaC (i := 0) rfl (by first | exact Or.inl rfl | exact Or.inr (Or.inl rfl) | exact Or.inr (Or.inr rfl))) (zaD))) (zaA (pd_int) (zaD)))) (zaD))))) (pdg_name (i := 1) sc_law.nd rfl (by first | exact Or.inl rfl | exact Or.inr rfl) (by decide)) (pds_cons (pds_setO (i := 2) sc_law.nd rfl (by first | exact Or.inl rfl | exact Or.inr rfl) (by decide) (pd_callC g__law_hand (hr.mono (by decide)) tk rfl (pav_v (zaC (i := 0) rfl (by first | exact Or.inl rfl | exact Or.inr (Or.inl rfl) | exact Or.inr (Or.inr rfl))) (pav_v (zaC (i := 1) rfl (by first | exact Or.inl rfl | exact Or.inr (Or.inl rfl) | exact Or.inr (Or.inr rfl))) (pav_nil))))) (pds_cons (pds_set (i := 3) sc_law.nd rfl (by first | exact Or.inl rfl | exact Or.inr rfl) (by decide) (pd_callC g__law_item (hr.mono (by decide)) tk rfl (pav_m (i := 2) rfl (by first | exact Or.inl rfl | exact Or.inr (Or.inl rfl) | exact Or.inr (Or.inr rfl)) (pav_nil)))) (pds_cons (pds_par3 (i := 5) (j := 6) (l := 7) rfl sc_law.nd rfl rfl rfl (by decide) (by decide) (by decide) (by decide) (by decide) (by decide) rfl rfl rfl (zaA (pd_callC g__law_of_values (hr.mono (by decide)) tk rfl (pav_m (i := 2) rfl (by first | exact Or.inl rfl | exact Or.inr (Or.inl rfl) | exact Or.inr (Or.inr rfl)) (pav_v (zaC (i := 3) rfl (by first | exact Or.inl rfl | exact Or.inr (Or.inl rfl) | exact Or.inr (Or.inr rfl))) (pav_nil)))) (zaA (pd_callC g__law_of_positions (hr.mono (by decide)) tk rfl (pav_m (i := 2) rfl (by first | exact Or.inl rfl | exact Or.inr (Or.inl rfl) | exact Or.inr (Or.inr rfl)) (pav_v (zaC (i := 3) rfl (by first | exact Or.inl rfl | exact Or.inr (Or.inl rfl) | exact Or.inr (Or.inr rfl))) (pav_nil)))) (zaA (pd_callC g__law_others (hr.mono (by decide)) tk rfl (pav_m (i := 2) rfl (by first | exact Or.inl rfl | exact Or.inr (Or.inl rfl) | exact Or.inr (Or.inr rfl)) (pav_v (zaC (i := 3) rfl (by first | exact Or.inl rfl | exact Or.inr (Or.inl rfl) | exact Or.inr (Or.inr rfl))) (pav_nil)))) zaD)))) (pds_cons (pds_set (i := 4) sc_law.nd rfl (by first | exact Or.inl rfl | exact Or.inr rfl) (by decide) (pd_op op_addA ok_add (pd_op op_addA ok_add (pd_lc (t := .one 9) (own := [("_law_e", 9)]) rfl sc_law.nd (pdi_lst (zaC (i := 5) rfl (by first | exact Or.inl rfl | exact Or.inr (Or.inl rfl) | exact Or.inr (Or.inr rfl)))) (blkOk_by (N := N_law) (sc := defScope s_law) (by decide +kernel)) rfl rfl (fun _ _ _ _ _ => pgh_one (i := 9) sc_law.nd rfl (by first | exact Or.inl rfl | exact Or.inr rfl)) (fun _ _ _ _ _ _ => pdts_nil) (fun _ _ _ _ _ _ => pd_fldX (fld := "value") rfl (errF_cons X_InvalidQueue hfld_InvalidQueue (errF_cons X_InvalidStep hfld_InvalidStep (errF_cons X_InvalidPosition hfld_InvalidPosition (errF_cons X_InvalidNumber hfld_InvalidNumber (errF_cons X_InvalidWord hfld_InvalidWord (errF_cons X_Rejected hfld_Rejected (errF_cons X_InvalidState hfld_InvalidState (errF_cons X_InvalidSchedule hfld_InvalidSchedule (errF_cons X_InvalidSession hfld_InvalidSession (errF_cons X_InvalidCommand hfld_InvalidCommand errF_nil)))))))))) (zaC (i := 9) rfl (by first | exact Or.inl rfl | exact Or.inr (Or.inl rfl) | exact Or.inr (Or.inr rfl))))) (pd_lc (t := .one 9) (own := [("_law_e", 9)]) rfl sc_law.nd (pdi_lst (zaC (i := 6) rfl (by first | exact Or.inl rfl | exact Or.inr (Or.inl rfl) | exact Or.inr (Or.inr rfl)))) (blkOk_by (N := N_law) (sc := defScope s_law) (by decide +kernel)) rfl rfl (fun _ _ _ _ _ => pgh_one (i := 9) sc_law.nd rfl (by first | exact Or.inl rfl | exact Or.inr rfl)) (fun _ _ _ _ _ _ => pdts_nil) (fun _ _ _ _ _ _ => pd_fldX (fld := "position") rfl (errF_cons X_InvalidSequence hfld_InvalidSequence (errF_cons X_StepFailed hfld_StepFailed (errF_cons X_EffectChanged hfld_EffectChanged (errF_cons X_InvalidSuspects hfld_InvalidSuspects (errF_cons X_InvalidObservations hfld_InvalidObservations (errF_cons X_InvalidQueues hfld_InvalidQueues (errF_cons X_InvalidProcesses hfld_InvalidProcesses errF_nil))))))) (zaC (i := 9) rfl (by first | exact Or.inl rfl | exact Or.inr (Or.inl rfl) | exact Or.inr (Or.inr rfl)))))) (pd_lc (t := .one 9) (own := [("_law_e", 9)]) rfl sc_law.nd (pdi_lst (pd_sl (zaC (i := 7) rfl (by first | exact Or.inl rfl | exact Or.inr (Or.inl rfl) | exact Or.inr (Or.inr rfl))) pdo_none (pdo_some (pd_int)))) (blkOk_by (N := N_law) (sc := defScope s_law) (by decide +kernel)) rfl rfl (fun _ _ _ _ _ => pgh_one (i := 9) sc_law.nd rfl (by first | exact Or.inl rfl | exact Or.inr rfl)) (fun _ _ _ _ _ _ => pdts_nil) (fun _ _ _ _ _ _ => pd_fldX (fld := "name") rfl (errF_cons X_UnknownQueue hfld_UnknownQueue (errF_cons X_SharedQueue hfld_SharedQueue (errF_cons X_UnknownMark hfld_UnknownMark errF_nil))) (zaC (i := 9) rfl (by first | exact Or.inl rfl | exact Or.inr (Or.inl rfl) | exact Or.inr (Or.inr rfl))))))) (pds_cons (pds_set (i := 4) sc_law.nd rfl (by first | exact Or.inl rfl | exact Or.inr rfl) (by decide) (pd_op op_addA ok_add (zaC (i := 4) rfl (by first | exact Or.inl rfl | exact Or.inr (Or.inl rfl) | exact Or.inr (Or.inr rfl))) (pd_lst (zaA (pd_fldX (fld := "part") rfl (errF_cons X_InvalidEffect hfld_InvalidEffect errF_nil) (pd_ix (zaC (i := 7) rfl (by first | exact Or.inl rfl | exact Or.inr (Or.inl rfl) | exact Or.inr (Or.inr rfl))) (pd_int))) (zaA (pd_fldX (fld := "line") rfl (errF_cons X_ParseError hfld_ParseError errF_nil) (pd_ix (zaC (i := 7) rfl (by first | exact Or.inl rfl | exact Or.inr (Or.inl rfl) | exact Or.inr (Or.inr rfl))) (pd_int))) (zaA (pd_fldX (fld := "count") rfl (errF_cons X_NothingToUndo hfld_NothingToUndo errF_nil) (pd_ix (zaC (i := 7) rfl (by first | exact Or.inl rfl | exact Or.inr (Or.inl rfl) | exact Or.inr (Or.inr rfl))) (pd_int))) (zaA (pd_fldX (fld := "limit") rfl (errF_cons X_LimitExceeded hfld_LimitExceeded errF_nil) (pd_ix (zaC (i := 7) rfl (by first | exact Or.inl rfl | exact Or.inr (Or.inl rfl) | exact Or.inr (Or.inr rfl))) (pd_int))) (zaD)))))))) (pds_cons (pds_if (pdt_cmp (op_neA hr.units) ok_ne (pd_callB ok_repr (call_reprA hr.un0 hr.gd) rfl Z.z_repr (by rfl) (zaA (zaC (i := 4) rfl (by first | exact Or.inl rfl | exact Or.inr (Or.inl rfl) | exact Or.inr (Or.inr rfl))) (zaD))) (pd_callB ok_repr (call_reprA hr.un0 hr.gd) rfl Z.z_repr (by rfl) (zaA (pd_op op_mulA ok_mul (pd_lst (zaA (zaC (i := 3) rfl (by first | exact Or.inl rfl | exact Or.inr (Or.inl rfl) | exact Or.inr (Or.inr rfl))) (zaD))) (pd_int)) (zaD))) (nomark _)) (pds_one (pds_ret (pd_bl))) (pds_nil)) (pds_one (pds_for po rfl (pdi_enum rfl Z.z_enumerate (pd_op op_addA ok_add (pd_op op_addA ok_add (zaC (i := 5) rfl (by first | exact Or.inl rfl | exact Or.inr (Or.inl rfl) | exact Or.inr (Or.inr rfl))) (zaC (i := 6) rfl (by first | exact Or.inl rfl | exact Or.inr (Or.inl rfl) | exact Or.inr (Or.inr rfl)))) (zaC (i := 7) rfl (by first | exact Or.inl rfl | exact Or.inr (Or.inl rfl) | exact Or.inr (Or.inr rfl))))) (pdg_tup rfl (pdgs_cons (i := 8) sc_law.nd rfl (by first | exact Or.inl rfl | exact Or.inr rfl) (by decide) (pdgs_cons (i := 9) sc_law.nd rfl (by first | exact Or.inl rfl | exact Or.inr rfl) (by decide) (pdgs_nil)))) (pds_one (pds_if (pdt_w (pdw_or (pdt_cmp (op_neA hr.units) ok_ne (pd_callC g__law_above (hr.mono (by decide)) tk rfl (pav_v (zaC (i := 9) rfl (by first | exact Or.inl rfl | exact Or.inr (Or.inl rfl) | exact Or.inr (Or.inr rfl))) (pav_nil))) (pd_callC g__law_bases (hr.mono (by decide)) tk rfl (pav_v (zaC (i := 8) rfl (by first | exact Or.inl rfl | exact Or.inr (Or.inl rfl) | exact Or.inr (Or.inr rfl))) (pav_nil))) (nomark _)) (pdw_or1 (pdt_cmp (op_neA hr.units) ok_ne (pd_callC g__law_marks (hr.mono (by decide)) tk rfl (pav_v (zaC (i := 9) rfl (by first | exact Or.inl rfl | exact Or.inr (Or.inl rfl) | exact Or.inr (Or.inr rfl))) (pav_nil))) (pd_lc (t := .one 10) (own := [("_law_at", 10)]) rfl sc_law.nd (pdi_rng1 rfl Z.z_range (pd_int)) (blkOk_by (N := N_law) (sc := defScope s_law) (by decide +kernel)) rfl rfl (fun _ _ _ _ _ => pgh_one (i := 10) sc_law.nd rfl (by first | exact Or.inl rfl | exact Or.inr rfl)) (fun _ _ _ _ _ _ => pdts_nil) (fun _ _ _ _ _ _ => pd_cmp (op_eqA hr.units) ok_eq (zaC (i := 8) rfl (by first | exact Or.inl rfl | exact Or.inr (Or.inl rfl) | exact Or.inr (Or.inr rfl))) (zaC (i := 10) rfl (by first | exact Or.inl rfl | exact Or.inr (Or.inl rfl) | exact Or.inr (Or.inr rfl))) (nomark _))) (nomark _))))) (pds_one (pds_ret (pd_bl))) (pds_nil)))))))))))) (pds_one (pds_ret (pd_bl)))) p_law
end
def mkT (e_InvalidQueue : Addr) (e_InvalidStep : Addr) (e_InvalidPosition : Addr) (e_InvalidNumber : Addr) (e_InvalidWord : Addr) (e_InvalidState : Addr) (e_InvalidSchedule : Addr) (e_InvalidSession : Addr) (e_InvalidCommand : Addr) (e_Rejected : Addr) (e_InvalidSequence : Addr) (e_InvalidProcesses : Addr) (e_InvalidSuspects : Addr) (e_InvalidObservations : Addr) (e_InvalidQueues : Addr) (e_StepFailed : Addr) (e_EffectChanged : Addr) (e_SharedQueue : Addr) (e_UnknownQueue : Addr) (e_UnknownMark : Addr) (e_InvalidEffect : Addr) (e_ParseError : Addr) (e_NothingToUndo : Addr) (e_LimitExceeded : Addr) (tabs : List (Addr × Str)) : Tb := ⟨fun n =>  none, fun n => if n = 0 then some ⟨e_InvalidQueue, "value"⟩ else if n = 2 then some ⟨e_InvalidStep, "value"⟩ else if n = 4 then some ⟨e_InvalidPosition, "value"⟩ else if n = 5 then some ⟨e_InvalidNumber, "value"⟩ else if n = 6 then some ⟨e_InvalidWord, "value"⟩ else if n = 14 then some ⟨e_InvalidState, "value"⟩ else if n = 18 then some ⟨e_InvalidSchedule, "value"⟩ else if n = 22 then some ⟨e_InvalidSession, "value"⟩ else if n = 23 then some ⟨e_InvalidCommand, "value"⟩ else if n = 8 then some ⟨e_Rejected, "value"⟩ else if n = 1 then some ⟨e_InvalidSequence, "position"⟩ else if n = 16 then some ⟨e_InvalidProcesses, "position"⟩ else if n = 11 then some ⟨e_InvalidSuspects, "position"⟩ else if n = 12 then some ⟨e_InvalidObservations, "position"⟩ else if n = 13 then some ⟨e_InvalidQueues, "position"⟩ else if n = 7 then some ⟨e_StepFailed, "position"⟩ else if n = 9 then some ⟨e_EffectChanged, "position"⟩ else if n = 17 then some ⟨e_SharedQueue, "name"⟩ else if n = 15 then some ⟨e_UnknownQueue, "name"⟩ else if n = 21 then some ⟨e_UnknownMark, "name"⟩ else if n = 3 then some ⟨e_InvalidEffect, "part"⟩ else if n = 19 then some ⟨e_ParseError, "line"⟩ else if n = 20 then some ⟨e_NothingToUndo, "count"⟩ else if n = 10 then some ⟨e_LimitExceeded, "limit"⟩ else none, tabs⟩
def xts : List (Nat × List Value) := [(0, [.type "ValueError", .type "Exception", .type "BaseException", .type "object"]), (1, [.type "ValueError", .type "Exception", .type "BaseException", .type "object"]), (2, [.type "ValueError", .type "Exception", .type "BaseException", .type "object"]), (3, [.type "ValueError", .type "Exception", .type "BaseException", .type "object"]), (4, [.type "ValueError", .type "Exception", .type "BaseException", .type "object"]), (5, [.type "ValueError", .type "Exception", .type "BaseException", .type "object"]), (6, [.type "ValueError", .type "Exception", .type "BaseException", .type "object"]), (7, [.type "RuntimeError", .type "Exception", .type "BaseException", .type "object"]), (8, [.type "RuntimeError", .type "Exception", .type "BaseException", .type "object"]), (9, [.type "RuntimeError", .type "Exception", .type "BaseException", .type "object"]), (10, [.type "OverflowError", .type "ArithmeticError", .type "Exception", .type "BaseException", .type "object"]), (11, [.type "ValueError", .type "Exception", .type "BaseException", .type "object"]), (12, [.type "ValueError", .type "Exception", .type "BaseException", .type "object"]), (13, [.type "ValueError", .type "Exception", .type "BaseException", .type "object"]), (14, [.type "ValueError", .type "Exception", .type "BaseException", .type "object"]), (15, [.type "KeyError", .type "LookupError", .type "Exception", .type "BaseException", .type "object"]), (16, [.type "ValueError", .type "Exception", .type "BaseException", .type "object"]), (17, [.type "ValueError", .type "Exception", .type "BaseException", .type "object"]), (18, [.type "ValueError", .type "Exception", .type "BaseException", .type "object"]), (19, [.type "ValueError", .type "Exception", .type "BaseException", .type "object"]), (20, [.type "LookupError", .type "Exception", .type "BaseException", .type "object"]), (21, [.type "KeyError", .type "LookupError", .type "Exception", .type "BaseException", .type "object"]), (22, [.type "ValueError", .type "Exception", .type "BaseException", .type "object"]), (23, [.type "ValueError", .type "Exception", .type "BaseException", .type "object"])]
theorem xnd_ts : (xts.map (·.1)).Nodup := by decide
theorem xr_ValueError : (xts.map fun r => (r.1, r.2.contains (Value.type "ValueError"))) = [(0, true), (1, true), (2, true), (3, true), (4, true), (5, true), (6, true), (7, false), (8, false), (9, false), (10, false), (11, true), (12, true), (13, true), (14, true), (15, false), (16, true), (17, true), (18, true), (19, true), (20, false), (21, false), (22, true), (23, true)] := by decide +kernel
theorem xr_RuntimeError : (xts.map fun r => (r.1, r.2.contains (Value.type "RuntimeError"))) = [(0, false), (1, false), (2, false), (3, false), (4, false), (5, false), (6, false), (7, true), (8, true), (9, true), (10, false), (11, false), (12, false), (13, false), (14, false), (15, false), (16, false), (17, false), (18, false), (19, false), (20, false), (21, false), (22, false), (23, false)] := by decide +kernel
theorem xr_KeyError : (xts.map fun r => (r.1, r.2.contains (Value.type "KeyError"))) = [(0, false), (1, false), (2, false), (3, false), (4, false), (5, false), (6, false), (7, false), (8, false), (9, false), (10, false), (11, false), (12, false), (13, false), (14, false), (15, true), (16, false), (17, false), (18, false), (19, false), (20, false), (21, true), (22, false), (23, false)] := by decide +kernel
theorem xr_LookupError : (xts.map fun r => (r.1, r.2.contains (Value.type "LookupError"))) = [(0, false), (1, false), (2, false), (3, false), (4, false), (5, false), (6, false), (7, false), (8, false), (9, false), (10, false), (11, false), (12, false), (13, false), (14, false), (15, true), (16, false), (17, false), (18, false), (19, false), (20, true), (21, true), (22, false), (23, false)] := by decide +kernel
theorem xr_ArithmeticError : (xts.map fun r => (r.1, r.2.contains (Value.type "ArithmeticError"))) = [(0, false), (1, false), (2, false), (3, false), (4, false), (5, false), (6, false), (7, false), (8, false), (9, false), (10, true), (11, false), (12, false), (13, false), (14, false), (15, false), (16, false), (17, false), (18, false), (19, false), (20, false), (21, false), (22, false), (23, false)] := by decide +kernel
theorem xr_OverflowError : (xts.map fun r => (r.1, r.2.contains (Value.type "OverflowError"))) = [(0, false), (1, false), (2, false), (3, false), (4, false), (5, false), (6, false), (7, false), (8, false), (9, false), (10, true), (11, false), (12, false), (13, false), (14, false), (15, false), (16, false), (17, false), (18, false), (19, false), (20, false), (21, false), (22, false), (23, false)] := by decide +kernel
theorem all_mk {l : PySem.W.OpenLaw} {w : World} {K : PySem.W.Frag} {h : Heap} {mg : Str → Option Value} {fa : Addr} (X : K.In h) (G : h.Ns mainGlobals mg) (hfa : mg "law" = some (.ref fa))
    {f__law_hand : Addr} {oc__law_hand dc__law_hand pm__law_hand ct__law_hand kV__law_hand cd__law_hand : Value} {od__law_hand an__law_hand : Option Addr} {sl__law_hand : Array (Option Value)}
    {f__law_draw : Addr} {oc__law_draw dc__law_draw pm__law_draw ct__law_draw kV__law_draw cd__law_draw : Value} {od__law_draw an__law_draw : Option Addr} {sl__law_draw : Array (Option Value)}
    {f__law_item : Addr} {oc__law_item dc__law_item pm__law_item ct__law_item kV__law_item cd__law_item : Value} {od__law_item an__law_item : Option Addr} {sl__law_item : Array (Option Value)}
    {f__law_of_values : Addr} {oc__law_of_values dc__law_of_values pm__law_of_values ct__law_of_values kV__law_of_values cd__law_of_values : Value} {od__law_of_values an__law_of_values : Option Addr} {sl__law_of_values : Array (Option Value)}
    {f__law_of_positions : Addr} {oc__law_of_positions dc__law_of_positions pm__law_of_positions ct__law_of_positions kV__law_of_positions cd__law_of_positions : Value} {od__law_of_positions an__law_of_positions : Option Addr} {sl__law_of_positions : Array (Option Value)}
    {f__law_others : Addr} {oc__law_others dc__law_others pm__law_others ct__law_others kV__law_others cd__law_others : Value} {od__law_others an__law_others : Option Addr} {sl__law_others : Array (Option Value)}
    {f__law_above : Addr} {oc__law_above dc__law_above pm__law_above ct__law_above kV__law_above cd__law_above : Value} {od__law_above an__law_above : Option Addr} {sl__law_above : Array (Option Value)}
    {f__law_bases : Addr} {oc__law_bases dc__law_bases pm__law_bases ct__law_bases kV__law_bases cd__law_bases : Value} {od__law_bases an__law_bases : Option Addr} {sl__law_bases : Array (Option Value)}
    {f__law_marks : Addr} {oc__law_marks dc__law_marks pm__law_marks ct__law_marks kV__law_marks cd__law_marks : Value} {od__law_marks an__law_marks : Option Addr} {sl__law_marks : Array (Option Value)}
    {f_law : Addr} {oc_law dc_law pm_law ct_law kV_law cd_law : Value} {od_law an_law : Option Addr} {sl_law : Array (Option Value)}
    {e_InvalidQueue fI_InvalidQueue : Addr} {nm_InvalidQueue q_InvalidQueue : Str} {N_InvalidQueue : Addr} {bs_InvalidQueue : List Value} {sn_InvalidQueue : List Str} {sub_InvalidQueue : List Value} {ab_InvalidQueue : Bool} {col_InvalidQueue : Option Bool} {dd_InvalidQueue : Option Addr} {m0_InvalidQueue m1_InvalidQueue m2_InvalidQueue m3_InvalidQueue m5_InvalidQueue : Option Value} {oc_InvalidQueue dc_InvalidQueue pm_InvalidQueue cd_InvalidQueue ct_InvalidQueue : Value} {od_InvalidQueue an_InvalidQueue : Option Addr} {sl_InvalidQueue : Array (Option Value)}
    {e_InvalidStep fI_InvalidStep : Addr} {nm_InvalidStep q_InvalidStep : Str} {N_InvalidStep : Addr} {bs_InvalidStep : List Value} {sn_InvalidStep : List Str} {sub_InvalidStep : List Value} {ab_InvalidStep : Bool} {col_InvalidStep : Option Bool} {dd_InvalidStep : Option Addr} {m0_InvalidStep m1_InvalidStep m2_InvalidStep m3_InvalidStep m5_InvalidStep : Option Value} {oc_InvalidStep dc_InvalidStep pm_InvalidStep cd_InvalidStep ct_InvalidStep : Value} {od_InvalidStep an_InvalidStep : Option Addr} {sl_InvalidStep : Array (Option Value)}
    {e_InvalidPosition fI_InvalidPosition : Addr} {nm_InvalidPosition q_InvalidPosition : Str} {N_InvalidPosition : Addr} {bs_InvalidPosition : List Value} {sn_InvalidPosition : List Str} {sub_InvalidPosition : List Value} {ab_InvalidPosition : Bool} {col_InvalidPosition : Option Bool} {dd_InvalidPosition : Option Addr} {m0_InvalidPosition m1_InvalidPosition m2_InvalidPosition m3_InvalidPosition m5_InvalidPosition : Option Value} {oc_InvalidPosition dc_InvalidPosition pm_InvalidPosition cd_InvalidPosition ct_InvalidPosition : Value} {od_InvalidPosition an_InvalidPosition : Option Addr} {sl_InvalidPosition : Array (Option Value)}
    {e_InvalidNumber fI_InvalidNumber : Addr} {nm_InvalidNumber q_InvalidNumber : Str} {N_InvalidNumber : Addr} {bs_InvalidNumber : List Value} {sn_InvalidNumber : List Str} {sub_InvalidNumber : List Value} {ab_InvalidNumber : Bool} {col_InvalidNumber : Option Bool} {dd_InvalidNumber : Option Addr} {m0_InvalidNumber m1_InvalidNumber m2_InvalidNumber m3_InvalidNumber m5_InvalidNumber : Option Value} {oc_InvalidNumber dc_InvalidNumber pm_InvalidNumber cd_InvalidNumber ct_InvalidNumber : Value} {od_InvalidNumber an_InvalidNumber : Option Addr} {sl_InvalidNumber : Array (Option Value)}
    {e_InvalidWord fI_InvalidWord : Addr} {nm_InvalidWord q_InvalidWord : Str} {N_InvalidWord : Addr} {bs_InvalidWord : List Value} {sn_InvalidWord : List Str} {sub_InvalidWord : List Value} {ab_InvalidWord : Bool} {col_InvalidWord : Option Bool} {dd_InvalidWord : Option Addr} {m0_InvalidWord m1_InvalidWord m2_InvalidWord m3_InvalidWord m5_InvalidWord : Option Value} {oc_InvalidWord dc_InvalidWord pm_InvalidWord cd_InvalidWord ct_InvalidWord : Value} {od_InvalidWord an_InvalidWord : Option Addr} {sl_InvalidWord : Array (Option Value)}
    {e_InvalidState fI_InvalidState : Addr} {nm_InvalidState q_InvalidState : Str} {N_InvalidState : Addr} {bs_InvalidState : List Value} {sn_InvalidState : List Str} {sub_InvalidState : List Value} {ab_InvalidState : Bool} {col_InvalidState : Option Bool} {dd_InvalidState : Option Addr} {m0_InvalidState m1_InvalidState m2_InvalidState m3_InvalidState m5_InvalidState : Option Value} {oc_InvalidState dc_InvalidState pm_InvalidState cd_InvalidState ct_InvalidState : Value} {od_InvalidState an_InvalidState : Option Addr} {sl_InvalidState : Array (Option Value)}
    {e_InvalidSchedule fI_InvalidSchedule : Addr} {nm_InvalidSchedule q_InvalidSchedule : Str} {N_InvalidSchedule : Addr} {bs_InvalidSchedule : List Value} {sn_InvalidSchedule : List Str} {sub_InvalidSchedule : List Value} {ab_InvalidSchedule : Bool} {col_InvalidSchedule : Option Bool} {dd_InvalidSchedule : Option Addr} {m0_InvalidSchedule m1_InvalidSchedule m2_InvalidSchedule m3_InvalidSchedule m5_InvalidSchedule : Option Value} {oc_InvalidSchedule dc_InvalidSchedule pm_InvalidSchedule cd_InvalidSchedule ct_InvalidSchedule : Value} {od_InvalidSchedule an_InvalidSchedule : Option Addr} {sl_InvalidSchedule : Array (Option Value)}
    {e_InvalidSession fI_InvalidSession : Addr} {nm_InvalidSession q_InvalidSession : Str} {N_InvalidSession : Addr} {bs_InvalidSession : List Value} {sn_InvalidSession : List Str} {sub_InvalidSession : List Value} {ab_InvalidSession : Bool} {col_InvalidSession : Option Bool} {dd_InvalidSession : Option Addr} {m0_InvalidSession m1_InvalidSession m2_InvalidSession m3_InvalidSession m5_InvalidSession : Option Value} {oc_InvalidSession dc_InvalidSession pm_InvalidSession cd_InvalidSession ct_InvalidSession : Value} {od_InvalidSession an_InvalidSession : Option Addr} {sl_InvalidSession : Array (Option Value)}
    {e_InvalidCommand fI_InvalidCommand : Addr} {nm_InvalidCommand q_InvalidCommand : Str} {N_InvalidCommand : Addr} {bs_InvalidCommand : List Value} {sn_InvalidCommand : List Str} {sub_InvalidCommand : List Value} {ab_InvalidCommand : Bool} {col_InvalidCommand : Option Bool} {dd_InvalidCommand : Option Addr} {m0_InvalidCommand m1_InvalidCommand m2_InvalidCommand m3_InvalidCommand m5_InvalidCommand : Option Value} {oc_InvalidCommand dc_InvalidCommand pm_InvalidCommand cd_InvalidCommand ct_InvalidCommand : Value} {od_InvalidCommand an_InvalidCommand : Option Addr} {sl_InvalidCommand : Array (Option Value)}
    {e_Rejected fI_Rejected : Addr} {nm_Rejected q_Rejected : Str} {N_Rejected : Addr} {bs_Rejected : List Value} {sn_Rejected : List Str} {sub_Rejected : List Value} {ab_Rejected : Bool} {col_Rejected : Option Bool} {dd_Rejected : Option Addr} {m0_Rejected m1_Rejected m2_Rejected m3_Rejected m5_Rejected : Option Value} {oc_Rejected dc_Rejected pm_Rejected cd_Rejected ct_Rejected : Value} {od_Rejected an_Rejected : Option Addr} {sl_Rejected : Array (Option Value)}
    {e_InvalidSequence fI_InvalidSequence : Addr} {nm_InvalidSequence q_InvalidSequence : Str} {N_InvalidSequence : Addr} {bs_InvalidSequence : List Value} {sn_InvalidSequence : List Str} {sub_InvalidSequence : List Value} {ab_InvalidSequence : Bool} {col_InvalidSequence : Option Bool} {dd_InvalidSequence : Option Addr} {m0_InvalidSequence m1_InvalidSequence m2_InvalidSequence m3_InvalidSequence m5_InvalidSequence : Option Value} {oc_InvalidSequence dc_InvalidSequence pm_InvalidSequence cd_InvalidSequence ct_InvalidSequence : Value} {od_InvalidSequence an_InvalidSequence : Option Addr} {sl_InvalidSequence : Array (Option Value)}
    {e_InvalidProcesses fI_InvalidProcesses : Addr} {nm_InvalidProcesses q_InvalidProcesses : Str} {N_InvalidProcesses : Addr} {bs_InvalidProcesses : List Value} {sn_InvalidProcesses : List Str} {sub_InvalidProcesses : List Value} {ab_InvalidProcesses : Bool} {col_InvalidProcesses : Option Bool} {dd_InvalidProcesses : Option Addr} {m0_InvalidProcesses m1_InvalidProcesses m2_InvalidProcesses m3_InvalidProcesses m5_InvalidProcesses : Option Value} {oc_InvalidProcesses dc_InvalidProcesses pm_InvalidProcesses cd_InvalidProcesses ct_InvalidProcesses : Value} {od_InvalidProcesses an_InvalidProcesses : Option Addr} {sl_InvalidProcesses : Array (Option Value)}
    {e_InvalidSuspects fI_InvalidSuspects : Addr} {nm_InvalidSuspects q_InvalidSuspects : Str} {N_InvalidSuspects : Addr} {bs_InvalidSuspects : List Value} {sn_InvalidSuspects : List Str} {sub_InvalidSuspects : List Value} {ab_InvalidSuspects : Bool} {col_InvalidSuspects : Option Bool} {dd_InvalidSuspects : Option Addr} {m0_InvalidSuspects m1_InvalidSuspects m2_InvalidSuspects m3_InvalidSuspects m5_InvalidSuspects : Option Value} {oc_InvalidSuspects dc_InvalidSuspects pm_InvalidSuspects cd_InvalidSuspects ct_InvalidSuspects : Value} {od_InvalidSuspects an_InvalidSuspects : Option Addr} {sl_InvalidSuspects : Array (Option Value)}
    {e_InvalidObservations fI_InvalidObservations : Addr} {nm_InvalidObservations q_InvalidObservations : Str} {N_InvalidObservations : Addr} {bs_InvalidObservations : List Value} {sn_InvalidObservations : List Str} {sub_InvalidObservations : List Value} {ab_InvalidObservations : Bool} {col_InvalidObservations : Option Bool} {dd_InvalidObservations : Option Addr} {m0_InvalidObservations m1_InvalidObservations m2_InvalidObservations m3_InvalidObservations m5_InvalidObservations : Option Value} {oc_InvalidObservations dc_InvalidObservations pm_InvalidObservations cd_InvalidObservations ct_InvalidObservations : Value} {od_InvalidObservations an_InvalidObservations : Option Addr} {sl_InvalidObservations : Array (Option Value)}
    {e_InvalidQueues fI_InvalidQueues : Addr} {nm_InvalidQueues q_InvalidQueues : Str} {N_InvalidQueues : Addr} {bs_InvalidQueues : List Value} {sn_InvalidQueues : List Str} {sub_InvalidQueues : List Value} {ab_InvalidQueues : Bool} {col_InvalidQueues : Option Bool} {dd_InvalidQueues : Option Addr} {m0_InvalidQueues m1_InvalidQueues m2_InvalidQueues m3_InvalidQueues m5_InvalidQueues : Option Value} {oc_InvalidQueues dc_InvalidQueues pm_InvalidQueues cd_InvalidQueues ct_InvalidQueues : Value} {od_InvalidQueues an_InvalidQueues : Option Addr} {sl_InvalidQueues : Array (Option Value)}
    {e_StepFailed fI_StepFailed : Addr} {nm_StepFailed q_StepFailed : Str} {N_StepFailed : Addr} {bs_StepFailed : List Value} {sn_StepFailed : List Str} {sub_StepFailed : List Value} {ab_StepFailed : Bool} {col_StepFailed : Option Bool} {dd_StepFailed : Option Addr} {m0_StepFailed m1_StepFailed m2_StepFailed m3_StepFailed m5_StepFailed : Option Value} {oc_StepFailed dc_StepFailed pm_StepFailed cd_StepFailed ct_StepFailed : Value} {od_StepFailed an_StepFailed : Option Addr} {sl_StepFailed : Array (Option Value)}
    {e_EffectChanged fI_EffectChanged : Addr} {nm_EffectChanged q_EffectChanged : Str} {N_EffectChanged : Addr} {bs_EffectChanged : List Value} {sn_EffectChanged : List Str} {sub_EffectChanged : List Value} {ab_EffectChanged : Bool} {col_EffectChanged : Option Bool} {dd_EffectChanged : Option Addr} {m0_EffectChanged m1_EffectChanged m2_EffectChanged m3_EffectChanged m5_EffectChanged : Option Value} {oc_EffectChanged dc_EffectChanged pm_EffectChanged cd_EffectChanged ct_EffectChanged : Value} {od_EffectChanged an_EffectChanged : Option Addr} {sl_EffectChanged : Array (Option Value)}
    {e_SharedQueue fI_SharedQueue : Addr} {nm_SharedQueue q_SharedQueue : Str} {N_SharedQueue : Addr} {bs_SharedQueue : List Value} {sn_SharedQueue : List Str} {sub_SharedQueue : List Value} {ab_SharedQueue : Bool} {col_SharedQueue : Option Bool} {dd_SharedQueue : Option Addr} {m0_SharedQueue m1_SharedQueue m2_SharedQueue m3_SharedQueue m5_SharedQueue : Option Value} {oc_SharedQueue dc_SharedQueue pm_SharedQueue cd_SharedQueue ct_SharedQueue : Value} {od_SharedQueue an_SharedQueue : Option Addr} {sl_SharedQueue : Array (Option Value)}
    {e_UnknownQueue fI_UnknownQueue : Addr} {nm_UnknownQueue q_UnknownQueue : Str} {N_UnknownQueue : Addr} {bs_UnknownQueue : List Value} {sn_UnknownQueue : List Str} {sub_UnknownQueue : List Value} {ab_UnknownQueue : Bool} {col_UnknownQueue : Option Bool} {dd_UnknownQueue : Option Addr} {m0_UnknownQueue m1_UnknownQueue m2_UnknownQueue m3_UnknownQueue m5_UnknownQueue : Option Value} {oc_UnknownQueue dc_UnknownQueue pm_UnknownQueue cd_UnknownQueue ct_UnknownQueue : Value} {od_UnknownQueue an_UnknownQueue : Option Addr} {sl_UnknownQueue : Array (Option Value)}
    {e_UnknownMark fI_UnknownMark : Addr} {nm_UnknownMark q_UnknownMark : Str} {N_UnknownMark : Addr} {bs_UnknownMark : List Value} {sn_UnknownMark : List Str} {sub_UnknownMark : List Value} {ab_UnknownMark : Bool} {col_UnknownMark : Option Bool} {dd_UnknownMark : Option Addr} {m0_UnknownMark m1_UnknownMark m2_UnknownMark m3_UnknownMark m5_UnknownMark : Option Value} {oc_UnknownMark dc_UnknownMark pm_UnknownMark cd_UnknownMark ct_UnknownMark : Value} {od_UnknownMark an_UnknownMark : Option Addr} {sl_UnknownMark : Array (Option Value)}
    {e_InvalidEffect fI_InvalidEffect : Addr} {nm_InvalidEffect q_InvalidEffect : Str} {N_InvalidEffect : Addr} {bs_InvalidEffect : List Value} {sn_InvalidEffect : List Str} {sub_InvalidEffect : List Value} {ab_InvalidEffect : Bool} {col_InvalidEffect : Option Bool} {dd_InvalidEffect : Option Addr} {m0_InvalidEffect m1_InvalidEffect m2_InvalidEffect m3_InvalidEffect m5_InvalidEffect : Option Value} {oc_InvalidEffect dc_InvalidEffect pm_InvalidEffect cd_InvalidEffect ct_InvalidEffect : Value} {od_InvalidEffect an_InvalidEffect : Option Addr} {sl_InvalidEffect : Array (Option Value)}
    {e_ParseError fI_ParseError : Addr} {nm_ParseError q_ParseError : Str} {N_ParseError : Addr} {bs_ParseError : List Value} {sn_ParseError : List Str} {sub_ParseError : List Value} {ab_ParseError : Bool} {col_ParseError : Option Bool} {dd_ParseError : Option Addr} {m0_ParseError m1_ParseError m2_ParseError m3_ParseError m5_ParseError : Option Value} {oc_ParseError dc_ParseError pm_ParseError cd_ParseError ct_ParseError : Value} {od_ParseError an_ParseError : Option Addr} {sl_ParseError : Array (Option Value)}
    {e_NothingToUndo fI_NothingToUndo : Addr} {nm_NothingToUndo q_NothingToUndo : Str} {N_NothingToUndo : Addr} {bs_NothingToUndo : List Value} {sn_NothingToUndo : List Str} {sub_NothingToUndo : List Value} {ab_NothingToUndo : Bool} {col_NothingToUndo : Option Bool} {dd_NothingToUndo : Option Addr} {m0_NothingToUndo m1_NothingToUndo m2_NothingToUndo m3_NothingToUndo m5_NothingToUndo : Option Value} {oc_NothingToUndo dc_NothingToUndo pm_NothingToUndo cd_NothingToUndo ct_NothingToUndo : Value} {od_NothingToUndo an_NothingToUndo : Option Addr} {sl_NothingToUndo : Array (Option Value)}
    {e_LimitExceeded fI_LimitExceeded : Addr} {nm_LimitExceeded q_LimitExceeded : Str} {N_LimitExceeded : Addr} {bs_LimitExceeded : List Value} {sn_LimitExceeded : List Str} {sub_LimitExceeded : List Value} {ab_LimitExceeded : Bool} {col_LimitExceeded : Option Bool} {dd_LimitExceeded : Option Addr} {m0_LimitExceeded m1_LimitExceeded m2_LimitExceeded m3_LimitExceeded m5_LimitExceeded : Option Value} {oc_LimitExceeded dc_LimitExceeded pm_LimitExceeded cd_LimitExceeded ct_LimitExceeded : Value} {od_LimitExceeded an_LimitExceeded : Option Addr} {sl_LimitExceeded : Array (Option Value)}
    (a__law_hand : PySem.W.nsIn K mainGlobals "_law_hand" = some (some (.ref f__law_hand)))
    (l__law_hand : K.lookup f__law_hand = some ⟨oc__law_hand, od__law_hand, .func (PySem.W.fnOf "_law_hand" "_law_hand" (defArgs s__law_hand) (defBody s__law_hand) (defScope s__law_hand) .none kV__law_hand dc__law_hand pm__law_hand an__law_hand cd__law_hand ct__law_hand), sl__law_hand⟩)
    (c__law_hand : PySem.W.codeIn K cd__law_hand "_law_hand" = true)
    (k__law_hand : PySem.W.keepIn K (.ref f__law_hand) = true)
    (a__law_draw : PySem.W.nsIn K mainGlobals "_law_draw" = some (some (.ref f__law_draw)))
    (l__law_draw : K.lookup f__law_draw = some ⟨oc__law_draw, od__law_draw, .func (PySem.W.fnOf "_law_draw" "_law_draw" (defArgs s__law_draw) (defBody s__law_draw) (defScope s__law_draw) .none kV__law_draw dc__law_draw pm__law_draw an__law_draw cd__law_draw ct__law_draw), sl__law_draw⟩)
    (c__law_draw : PySem.W.codeIn K cd__law_draw "_law_draw" = true)
    (k__law_draw : PySem.W.keepIn K (.ref f__law_draw) = true)
    (a__law_item : PySem.W.nsIn K mainGlobals "_law_item" = some (some (.ref f__law_item)))
    (l__law_item : K.lookup f__law_item = some ⟨oc__law_item, od__law_item, .func (PySem.W.fnOf "_law_item" "_law_item" (defArgs s__law_item) (defBody s__law_item) (defScope s__law_item) .none kV__law_item dc__law_item pm__law_item an__law_item cd__law_item ct__law_item), sl__law_item⟩)
    (c__law_item : PySem.W.codeIn K cd__law_item "_law_item" = true)
    (k__law_item : PySem.W.keepIn K (.ref f__law_item) = true)
    (a__law_of_values : PySem.W.nsIn K mainGlobals "_law_of_values" = some (some (.ref f__law_of_values)))
    (l__law_of_values : K.lookup f__law_of_values = some ⟨oc__law_of_values, od__law_of_values, .func (PySem.W.fnOf "_law_of_values" "_law_of_values" (defArgs s__law_of_values) (defBody s__law_of_values) (defScope s__law_of_values) .none kV__law_of_values dc__law_of_values pm__law_of_values an__law_of_values cd__law_of_values ct__law_of_values), sl__law_of_values⟩)
    (c__law_of_values : PySem.W.codeIn K cd__law_of_values "_law_of_values" = true)
    (k__law_of_values : PySem.W.keepIn K (.ref f__law_of_values) = true)
    (a__law_of_positions : PySem.W.nsIn K mainGlobals "_law_of_positions" = some (some (.ref f__law_of_positions)))
    (l__law_of_positions : K.lookup f__law_of_positions = some ⟨oc__law_of_positions, od__law_of_positions, .func (PySem.W.fnOf "_law_of_positions" "_law_of_positions" (defArgs s__law_of_positions) (defBody s__law_of_positions) (defScope s__law_of_positions) .none kV__law_of_positions dc__law_of_positions pm__law_of_positions an__law_of_positions cd__law_of_positions ct__law_of_positions), sl__law_of_positions⟩)
    (c__law_of_positions : PySem.W.codeIn K cd__law_of_positions "_law_of_positions" = true)
    (k__law_of_positions : PySem.W.keepIn K (.ref f__law_of_positions) = true)
    (a__law_others : PySem.W.nsIn K mainGlobals "_law_others" = some (some (.ref f__law_others)))
    (l__law_others : K.lookup f__law_others = some ⟨oc__law_others, od__law_others, .func (PySem.W.fnOf "_law_others" "_law_others" (defArgs s__law_others) (defBody s__law_others) (defScope s__law_others) .none kV__law_others dc__law_others pm__law_others an__law_others cd__law_others ct__law_others), sl__law_others⟩)
    (c__law_others : PySem.W.codeIn K cd__law_others "_law_others" = true)
    (k__law_others : PySem.W.keepIn K (.ref f__law_others) = true)
    (a__law_above : PySem.W.nsIn K mainGlobals "_law_above" = some (some (.ref f__law_above)))
    (l__law_above : K.lookup f__law_above = some ⟨oc__law_above, od__law_above, .func (PySem.W.fnOf "_law_above" "_law_above" (defArgs s__law_above) (defBody s__law_above) (defScope s__law_above) .none kV__law_above dc__law_above pm__law_above an__law_above cd__law_above ct__law_above), sl__law_above⟩)
    (c__law_above : PySem.W.codeIn K cd__law_above "_law_above" = true)
    (k__law_above : PySem.W.keepIn K (.ref f__law_above) = true)
    (a__law_bases : PySem.W.nsIn K mainGlobals "_law_bases" = some (some (.ref f__law_bases)))
    (l__law_bases : K.lookup f__law_bases = some ⟨oc__law_bases, od__law_bases, .func (PySem.W.fnOf "_law_bases" "_law_bases" (defArgs s__law_bases) (defBody s__law_bases) (defScope s__law_bases) .none kV__law_bases dc__law_bases pm__law_bases an__law_bases cd__law_bases ct__law_bases), sl__law_bases⟩)
    (c__law_bases : PySem.W.codeIn K cd__law_bases "_law_bases" = true)
    (k__law_bases : PySem.W.keepIn K (.ref f__law_bases) = true)
    (a__law_marks : PySem.W.nsIn K mainGlobals "_law_marks" = some (some (.ref f__law_marks)))
    (l__law_marks : K.lookup f__law_marks = some ⟨oc__law_marks, od__law_marks, .func (PySem.W.fnOf "_law_marks" "_law_marks" (defArgs s__law_marks) (defBody s__law_marks) (defScope s__law_marks) .none kV__law_marks dc__law_marks pm__law_marks an__law_marks cd__law_marks ct__law_marks), sl__law_marks⟩)
    (c__law_marks : PySem.W.codeIn K cd__law_marks "_law_marks" = true)
    (k__law_marks : PySem.W.keepIn K (.ref f__law_marks) = true)
    (a_law : PySem.W.nsIn K mainGlobals "law" = some (some (.ref f_law)))
    (l_law : K.lookup f_law = some ⟨oc_law, od_law, .func (PySem.W.fnOf "law" "law" (defArgs s_law) (defBody s_law) (defScope s_law) .none kV_law dc_law pm_law an_law cd_law ct_law), sl_law⟩)
    (c_law : PySem.W.codeIn K cd_law "law" = true)
    (k_law : PySem.W.keepIn K (.ref f_law) = true)
    (aC_InvalidQueue : PySem.W.nsIn K mainGlobals "InvalidQueue" = some (some (.ref e_InvalidQueue)))
    (xL_InvalidQueue : K.lookup e_InvalidQueue = some (excClassObj nm_InvalidQueue q_InvalidQueue e_InvalidQueue N_InvalidQueue bs_InvalidQueue [.type "ValueError", .type "Exception", .type "BaseException", .type "object"] true sn_InvalidQueue sub_InvalidQueue ab_InvalidQueue col_InvalidQueue dd_InvalidQueue m0_InvalidQueue m1_InvalidQueue m2_InvalidQueue m3_InvalidQueue m5_InvalidQueue "ValueError.__new__"))
    (sa_InvalidQueue : PySem.W.findIn K (.ref e_InvalidQueue) "__setattr__" = some (some (.builtin "object.__setattr__")))
    (ga_InvalidQueue : PySem.W.findIn K (.ref e_InvalidQueue) "__getattribute__" = some (some (.builtin "BaseException.__getattribute__")))
    (gg_InvalidQueue : PySem.W.findIn K (.ref e_InvalidQueue) "__getattr__" = some none)
    (nf_InvalidQueue : PySem.W.findIn K (.ref e_InvalidQueue) "value" = some none)
    (iC_InvalidQueue : PySem.W.findIn K (.ref e_InvalidQueue) "__init__" = some (some (.ref fI_InvalidQueue)))
    (tC_InvalidQueue : PySem.W.typeIn K (.ref fI_InvalidQueue) = some (.type "function"))
    (l_InvalidQueue : K.lookup fI_InvalidQueue = some ⟨oc_InvalidQueue, od_InvalidQueue, .func (PySem.W.fnOf "__init__" "InvalidQueue.__init__" (DLE.iA "value" ⟨4, 17, 4, 21⟩ ⟨4, 23, 4, 28⟩) (DLE.iB "value" ⟨5, 8, 5, 12⟩ ⟨5, 8, 5, 18⟩ ⟨5, 21, 5, 26⟩ ⟨5, 8, 5, 26⟩) (DLE.iS "value") .none .none dc_InvalidQueue pm_InvalidQueue an_InvalidQueue cd_InvalidQueue ct_InvalidQueue), sl_InvalidQueue⟩)
    (cd_InvalidQueue : PySem.W.codeIn K cd_InvalidQueue "InvalidQueue.__init__" = true)
    (kC_InvalidQueue : PySem.W.keepIn K (.ref e_InvalidQueue) = true)
    (eC_InvalidQueue : PySem.W.subIn K (.ref e_InvalidQueue) (.type "BaseException") = some true)
    (tt_InvalidQueue : PySem.W.typeIn K (.ref e_InvalidQueue) = some (.type "type"))
    (hC_InvalidQueue : PySem.W.hasDictIn K e_InvalidQueue = true)
    (aC_InvalidStep : PySem.W.nsIn K mainGlobals "InvalidStep" = some (some (.ref e_InvalidStep)))
    (xL_InvalidStep : K.lookup e_InvalidStep = some (excClassObj nm_InvalidStep q_InvalidStep e_InvalidStep N_InvalidStep bs_InvalidStep [.type "ValueError", .type "Exception", .type "BaseException", .type "object"] true sn_InvalidStep sub_InvalidStep ab_InvalidStep col_InvalidStep dd_InvalidStep m0_InvalidStep m1_InvalidStep m2_InvalidStep m3_InvalidStep m5_InvalidStep "ValueError.__new__"))
    (sa_InvalidStep : PySem.W.findIn K (.ref e_InvalidStep) "__setattr__" = some (some (.builtin "object.__setattr__")))
    (ga_InvalidStep : PySem.W.findIn K (.ref e_InvalidStep) "__getattribute__" = some (some (.builtin "BaseException.__getattribute__")))
    (gg_InvalidStep : PySem.W.findIn K (.ref e_InvalidStep) "__getattr__" = some none)
    (nf_InvalidStep : PySem.W.findIn K (.ref e_InvalidStep) "value" = some none)
    (iC_InvalidStep : PySem.W.findIn K (.ref e_InvalidStep) "__init__" = some (some (.ref fI_InvalidStep)))
    (tC_InvalidStep : PySem.W.typeIn K (.ref fI_InvalidStep) = some (.type "function"))
    (l_InvalidStep : K.lookup fI_InvalidStep = some ⟨oc_InvalidStep, od_InvalidStep, .func (PySem.W.fnOf "__init__" "InvalidStep.__init__" (DLE.iA "value" ⟨8, 17, 8, 21⟩ ⟨8, 23, 8, 28⟩) (DLE.iB "value" ⟨9, 8, 9, 12⟩ ⟨9, 8, 9, 18⟩ ⟨9, 21, 9, 26⟩ ⟨9, 8, 9, 26⟩) (DLE.iS "value") .none .none dc_InvalidStep pm_InvalidStep an_InvalidStep cd_InvalidStep ct_InvalidStep), sl_InvalidStep⟩)
    (cd_InvalidStep : PySem.W.codeIn K cd_InvalidStep "InvalidStep.__init__" = true)
    (kC_InvalidStep : PySem.W.keepIn K (.ref e_InvalidStep) = true)
    (eC_InvalidStep : PySem.W.subIn K (.ref e_InvalidStep) (.type "BaseException") = some true)
    (tt_InvalidStep : PySem.W.typeIn K (.ref e_InvalidStep) = some (.type "type"))
    (hC_InvalidStep : PySem.W.hasDictIn K e_InvalidStep = true)
    (aC_InvalidPosition : PySem.W.nsIn K mainGlobals "InvalidPosition" = some (some (.ref e_InvalidPosition)))
    (xL_InvalidPosition : K.lookup e_InvalidPosition = some (excClassObj nm_InvalidPosition q_InvalidPosition e_InvalidPosition N_InvalidPosition bs_InvalidPosition [.type "ValueError", .type "Exception", .type "BaseException", .type "object"] true sn_InvalidPosition sub_InvalidPosition ab_InvalidPosition col_InvalidPosition dd_InvalidPosition m0_InvalidPosition m1_InvalidPosition m2_InvalidPosition m3_InvalidPosition m5_InvalidPosition "ValueError.__new__"))
    (sa_InvalidPosition : PySem.W.findIn K (.ref e_InvalidPosition) "__setattr__" = some (some (.builtin "object.__setattr__")))
    (ga_InvalidPosition : PySem.W.findIn K (.ref e_InvalidPosition) "__getattribute__" = some (some (.builtin "BaseException.__getattribute__")))
    (gg_InvalidPosition : PySem.W.findIn K (.ref e_InvalidPosition) "__getattr__" = some none)
    (nf_InvalidPosition : PySem.W.findIn K (.ref e_InvalidPosition) "value" = some none)
    (iC_InvalidPosition : PySem.W.findIn K (.ref e_InvalidPosition) "__init__" = some (some (.ref fI_InvalidPosition)))
    (tC_InvalidPosition : PySem.W.typeIn K (.ref fI_InvalidPosition) = some (.type "function"))
    (l_InvalidPosition : K.lookup fI_InvalidPosition = some ⟨oc_InvalidPosition, od_InvalidPosition, .func (PySem.W.fnOf "__init__" "InvalidPosition.__init__" (DLE.iA "value" ⟨28, 17, 28, 21⟩ ⟨28, 23, 28, 28⟩) (DLE.iB "value" ⟨29, 8, 29, 12⟩ ⟨29, 8, 29, 18⟩ ⟨29, 21, 29, 26⟩ ⟨29, 8, 29, 26⟩) (DLE.iS "value") .none .none dc_InvalidPosition pm_InvalidPosition an_InvalidPosition cd_InvalidPosition ct_InvalidPosition), sl_InvalidPosition⟩)
    (cd_InvalidPosition : PySem.W.codeIn K cd_InvalidPosition "InvalidPosition.__init__" = true)
    (kC_InvalidPosition : PySem.W.keepIn K (.ref e_InvalidPosition) = true)
    (eC_InvalidPosition : PySem.W.subIn K (.ref e_InvalidPosition) (.type "BaseException") = some true)
    (tt_InvalidPosition : PySem.W.typeIn K (.ref e_InvalidPosition) = some (.type "type"))
    (hC_InvalidPosition : PySem.W.hasDictIn K e_InvalidPosition = true)
    (aC_InvalidNumber : PySem.W.nsIn K mainGlobals "InvalidNumber" = some (some (.ref e_InvalidNumber)))
    (xL_InvalidNumber : K.lookup e_InvalidNumber = some (excClassObj nm_InvalidNumber q_InvalidNumber e_InvalidNumber N_InvalidNumber bs_InvalidNumber [.type "ValueError", .type "Exception", .type "BaseException", .type "object"] true sn_InvalidNumber sub_InvalidNumber ab_InvalidNumber col_InvalidNumber dd_InvalidNumber m0_InvalidNumber m1_InvalidNumber m2_InvalidNumber m3_InvalidNumber m5_InvalidNumber "ValueError.__new__"))
    (sa_InvalidNumber : PySem.W.findIn K (.ref e_InvalidNumber) "__setattr__" = some (some (.builtin "object.__setattr__")))
    (ga_InvalidNumber : PySem.W.findIn K (.ref e_InvalidNumber) "__getattribute__" = some (some (.builtin "BaseException.__getattribute__")))
    (gg_InvalidNumber : PySem.W.findIn K (.ref e_InvalidNumber) "__getattr__" = some none)
    (nf_InvalidNumber : PySem.W.findIn K (.ref e_InvalidNumber) "value" = some none)
    (iC_InvalidNumber : PySem.W.findIn K (.ref e_InvalidNumber) "__init__" = some (some (.ref fI_InvalidNumber)))
    (tC_InvalidNumber : PySem.W.typeIn K (.ref fI_InvalidNumber) = some (.type "function"))
    (l_InvalidNumber : K.lookup fI_InvalidNumber = some ⟨oc_InvalidNumber, od_InvalidNumber, .func (PySem.W.fnOf "__init__" "InvalidNumber.__init__" (DLE.iA "value" ⟨36, 17, 36, 21⟩ ⟨36, 23, 36, 28⟩) (DLE.iB "value" ⟨37, 8, 37, 12⟩ ⟨37, 8, 37, 18⟩ ⟨37, 21, 37, 26⟩ ⟨37, 8, 37, 26⟩) (DLE.iS "value") .none .none dc_InvalidNumber pm_InvalidNumber an_InvalidNumber cd_InvalidNumber ct_InvalidNumber), sl_InvalidNumber⟩)
    (cd_InvalidNumber : PySem.W.codeIn K cd_InvalidNumber "InvalidNumber.__init__" = true)
    (kC_InvalidNumber : PySem.W.keepIn K (.ref e_InvalidNumber) = true)
    (eC_InvalidNumber : PySem.W.subIn K (.ref e_InvalidNumber) (.type "BaseException") = some true)
    (tt_InvalidNumber : PySem.W.typeIn K (.ref e_InvalidNumber) = some (.type "type"))
    (hC_InvalidNumber : PySem.W.hasDictIn K e_InvalidNumber = true)
    (aC_InvalidWord : PySem.W.nsIn K mainGlobals "InvalidWord" = some (some (.ref e_InvalidWord)))
    (xL_InvalidWord : K.lookup e_InvalidWord = some (excClassObj nm_InvalidWord q_InvalidWord e_InvalidWord N_InvalidWord bs_InvalidWord [.type "ValueError", .type "Exception", .type "BaseException", .type "object"] true sn_InvalidWord sub_InvalidWord ab_InvalidWord col_InvalidWord dd_InvalidWord m0_InvalidWord m1_InvalidWord m2_InvalidWord m3_InvalidWord m5_InvalidWord "ValueError.__new__"))
    (sa_InvalidWord : PySem.W.findIn K (.ref e_InvalidWord) "__setattr__" = some (some (.builtin "object.__setattr__")))
    (ga_InvalidWord : PySem.W.findIn K (.ref e_InvalidWord) "__getattribute__" = some (some (.builtin "BaseException.__getattribute__")))
    (gg_InvalidWord : PySem.W.findIn K (.ref e_InvalidWord) "__getattr__" = some none)
    (nf_InvalidWord : PySem.W.findIn K (.ref e_InvalidWord) "value" = some none)
    (iC_InvalidWord : PySem.W.findIn K (.ref e_InvalidWord) "__init__" = some (some (.ref fI_InvalidWord)))
    (tC_InvalidWord : PySem.W.typeIn K (.ref fI_InvalidWord) = some (.type "function"))
    (l_InvalidWord : K.lookup fI_InvalidWord = some ⟨oc_InvalidWord, od_InvalidWord, .func (PySem.W.fnOf "__init__" "InvalidWord.__init__" (DLE.iA "value" ⟨40, 17, 40, 21⟩ ⟨40, 23, 40, 28⟩) (DLE.iB "value" ⟨41, 8, 41, 12⟩ ⟨41, 8, 41, 18⟩ ⟨41, 21, 41, 26⟩ ⟨41, 8, 41, 26⟩) (DLE.iS "value") .none .none dc_InvalidWord pm_InvalidWord an_InvalidWord cd_InvalidWord ct_InvalidWord), sl_InvalidWord⟩)
    (cd_InvalidWord : PySem.W.codeIn K cd_InvalidWord "InvalidWord.__init__" = true)
    (kC_InvalidWord : PySem.W.keepIn K (.ref e_InvalidWord) = true)
    (eC_InvalidWord : PySem.W.subIn K (.ref e_InvalidWord) (.type "BaseException") = some true)
    (tt_InvalidWord : PySem.W.typeIn K (.ref e_InvalidWord) = some (.type "type"))
    (hC_InvalidWord : PySem.W.hasDictIn K e_InvalidWord = true)
    (aC_InvalidState : PySem.W.nsIn K mainGlobals "InvalidState" = some (some (.ref e_InvalidState)))
    (xL_InvalidState : K.lookup e_InvalidState = some (excClassObj nm_InvalidState q_InvalidState e_InvalidState N_InvalidState bs_InvalidState [.type "ValueError", .type "Exception", .type "BaseException", .type "object"] true sn_InvalidState sub_InvalidState ab_InvalidState col_InvalidState dd_InvalidState m0_InvalidState m1_InvalidState m2_InvalidState m3_InvalidState m5_InvalidState "ValueError.__new__"))
    (sa_InvalidState : PySem.W.findIn K (.ref e_InvalidState) "__setattr__" = some (some (.builtin "object.__setattr__")))
    (ga_InvalidState : PySem.W.findIn K (.ref e_InvalidState) "__getattribute__" = some (some (.builtin "BaseException.__getattribute__")))
    (gg_InvalidState : PySem.W.findIn K (.ref e_InvalidState) "__getattr__" = some none)
    (nf_InvalidState : PySem.W.findIn K (.ref e_InvalidState) "value" = some none)
    (iC_InvalidState : PySem.W.findIn K (.ref e_InvalidState) "__init__" = some (some (.ref fI_InvalidState)))
    (tC_InvalidState : PySem.W.typeIn K (.ref fI_InvalidState) = some (.type "function"))
    (l_InvalidState : K.lookup fI_InvalidState = some ⟨oc_InvalidState, od_InvalidState, .func (PySem.W.fnOf "__init__" "InvalidState.__init__" (DLE.iA "value" ⟨48, 17, 48, 21⟩ ⟨48, 23, 48, 28⟩) (DLE.iB "value" ⟨49, 8, 49, 12⟩ ⟨49, 8, 49, 18⟩ ⟨49, 21, 49, 26⟩ ⟨49, 8, 49, 26⟩) (DLE.iS "value") .none .none dc_InvalidState pm_InvalidState an_InvalidState cd_InvalidState ct_InvalidState), sl_InvalidState⟩)
    (cd_InvalidState : PySem.W.codeIn K cd_InvalidState "InvalidState.__init__" = true)
    (kC_InvalidState : PySem.W.keepIn K (.ref e_InvalidState) = true)
    (eC_InvalidState : PySem.W.subIn K (.ref e_InvalidState) (.type "BaseException") = some true)
    (tt_InvalidState : PySem.W.typeIn K (.ref e_InvalidState) = some (.type "type"))
    (hC_InvalidState : PySem.W.hasDictIn K e_InvalidState = true)
    (aC_InvalidSchedule : PySem.W.nsIn K mainGlobals "InvalidSchedule" = some (some (.ref e_InvalidSchedule)))
    (xL_InvalidSchedule : K.lookup e_InvalidSchedule = some (excClassObj nm_InvalidSchedule q_InvalidSchedule e_InvalidSchedule N_InvalidSchedule bs_InvalidSchedule [.type "ValueError", .type "Exception", .type "BaseException", .type "object"] true sn_InvalidSchedule sub_InvalidSchedule ab_InvalidSchedule col_InvalidSchedule dd_InvalidSchedule m0_InvalidSchedule m1_InvalidSchedule m2_InvalidSchedule m3_InvalidSchedule m5_InvalidSchedule "ValueError.__new__"))
    (sa_InvalidSchedule : PySem.W.findIn K (.ref e_InvalidSchedule) "__setattr__" = some (some (.builtin "object.__setattr__")))
    (ga_InvalidSchedule : PySem.W.findIn K (.ref e_InvalidSchedule) "__getattribute__" = some (some (.builtin "BaseException.__getattribute__")))
    (gg_InvalidSchedule : PySem.W.findIn K (.ref e_InvalidSchedule) "__getattr__" = some none)
    (nf_InvalidSchedule : PySem.W.findIn K (.ref e_InvalidSchedule) "value" = some none)
    (iC_InvalidSchedule : PySem.W.findIn K (.ref e_InvalidSchedule) "__init__" = some (some (.ref fI_InvalidSchedule)))
    (tC_InvalidSchedule : PySem.W.typeIn K (.ref fI_InvalidSchedule) = some (.type "function"))
    (l_InvalidSchedule : K.lookup fI_InvalidSchedule = some ⟨oc_InvalidSchedule, od_InvalidSchedule, .func (PySem.W.fnOf "__init__" "InvalidSchedule.__init__" (DLE.iA "value" ⟨64, 17, 64, 21⟩ ⟨64, 23, 64, 28⟩) (DLE.iB "value" ⟨65, 8, 65, 12⟩ ⟨65, 8, 65, 18⟩ ⟨65, 21, 65, 26⟩ ⟨65, 8, 65, 26⟩) (DLE.iS "value") .none .none dc_InvalidSchedule pm_InvalidSchedule an_InvalidSchedule cd_InvalidSchedule ct_InvalidSchedule), sl_InvalidSchedule⟩)
    (cd_InvalidSchedule : PySem.W.codeIn K cd_InvalidSchedule "InvalidSchedule.__init__" = true)
    (kC_InvalidSchedule : PySem.W.keepIn K (.ref e_InvalidSchedule) = true)
    (eC_InvalidSchedule : PySem.W.subIn K (.ref e_InvalidSchedule) (.type "BaseException") = some true)
    (tt_InvalidSchedule : PySem.W.typeIn K (.ref e_InvalidSchedule) = some (.type "type"))
    (hC_InvalidSchedule : PySem.W.hasDictIn K e_InvalidSchedule = true)
    (aC_InvalidSession : PySem.W.nsIn K mainGlobals "InvalidSession" = some (some (.ref e_InvalidSession)))
    (xL_InvalidSession : K.lookup e_InvalidSession = some (excClassObj nm_InvalidSession q_InvalidSession e_InvalidSession N_InvalidSession bs_InvalidSession [.type "ValueError", .type "Exception", .type "BaseException", .type "object"] true sn_InvalidSession sub_InvalidSession ab_InvalidSession col_InvalidSession dd_InvalidSession m0_InvalidSession m1_InvalidSession m2_InvalidSession m3_InvalidSession m5_InvalidSession "ValueError.__new__"))
    (sa_InvalidSession : PySem.W.findIn K (.ref e_InvalidSession) "__setattr__" = some (some (.builtin "object.__setattr__")))
    (ga_InvalidSession : PySem.W.findIn K (.ref e_InvalidSession) "__getattribute__" = some (some (.builtin "BaseException.__getattribute__")))
    (gg_InvalidSession : PySem.W.findIn K (.ref e_InvalidSession) "__getattr__" = some none)
    (nf_InvalidSession : PySem.W.findIn K (.ref e_InvalidSession) "value" = some none)
    (iC_InvalidSession : PySem.W.findIn K (.ref e_InvalidSession) "__init__" = some (some (.ref fI_InvalidSession)))
    (tC_InvalidSession : PySem.W.typeIn K (.ref fI_InvalidSession) = some (.type "function"))
    (l_InvalidSession : K.lookup fI_InvalidSession = some ⟨oc_InvalidSession, od_InvalidSession, .func (PySem.W.fnOf "__init__" "InvalidSession.__init__" (DLE.iA "value" ⟨76, 17, 76, 21⟩ ⟨76, 23, 76, 28⟩) (DLE.iB "value" ⟨77, 8, 77, 12⟩ ⟨77, 8, 77, 18⟩ ⟨77, 21, 77, 26⟩ ⟨77, 8, 77, 26⟩) (DLE.iS "value") .none .none dc_InvalidSession pm_InvalidSession an_InvalidSession cd_InvalidSession ct_InvalidSession), sl_InvalidSession⟩)
    (cd_InvalidSession : PySem.W.codeIn K cd_InvalidSession "InvalidSession.__init__" = true)
    (kC_InvalidSession : PySem.W.keepIn K (.ref e_InvalidSession) = true)
    (eC_InvalidSession : PySem.W.subIn K (.ref e_InvalidSession) (.type "BaseException") = some true)
    (tt_InvalidSession : PySem.W.typeIn K (.ref e_InvalidSession) = some (.type "type"))
    (hC_InvalidSession : PySem.W.hasDictIn K e_InvalidSession = true)
    (aC_InvalidCommand : PySem.W.nsIn K mainGlobals "InvalidCommand" = some (some (.ref e_InvalidCommand)))
    (xL_InvalidCommand : K.lookup e_InvalidCommand = some (excClassObj nm_InvalidCommand q_InvalidCommand e_InvalidCommand N_InvalidCommand bs_InvalidCommand [.type "ValueError", .type "Exception", .type "BaseException", .type "object"] true sn_InvalidCommand sub_InvalidCommand ab_InvalidCommand col_InvalidCommand dd_InvalidCommand m0_InvalidCommand m1_InvalidCommand m2_InvalidCommand m3_InvalidCommand m5_InvalidCommand "ValueError.__new__"))
    (sa_InvalidCommand : PySem.W.findIn K (.ref e_InvalidCommand) "__setattr__" = some (some (.builtin "object.__setattr__")))
    (ga_InvalidCommand : PySem.W.findIn K (.ref e_InvalidCommand) "__getattribute__" = some (some (.builtin "BaseException.__getattribute__")))
    (gg_InvalidCommand : PySem.W.findIn K (.ref e_InvalidCommand) "__getattr__" = some none)
    (nf_InvalidCommand : PySem.W.findIn K (.ref e_InvalidCommand) "value" = some none)
    (iC_InvalidCommand : PySem.W.findIn K (.ref e_InvalidCommand) "__init__" = some (some (.ref fI_InvalidCommand)))
    (tC_InvalidCommand : PySem.W.typeIn K (.ref fI_InvalidCommand) = some (.type "function"))
    (l_InvalidCommand : K.lookup fI_InvalidCommand = some ⟨oc_InvalidCommand, od_InvalidCommand, .func (PySem.W.fnOf "__init__" "InvalidCommand.__init__" (DLE.iA "value" ⟨84, 17, 84, 21⟩ ⟨84, 23, 84, 28⟩) (DLE.iB "value" ⟨85, 8, 85, 12⟩ ⟨85, 8, 85, 18⟩ ⟨85, 21, 85, 26⟩ ⟨85, 8, 85, 26⟩) (DLE.iS "value") .none .none dc_InvalidCommand pm_InvalidCommand an_InvalidCommand cd_InvalidCommand ct_InvalidCommand), sl_InvalidCommand⟩)
    (cd_InvalidCommand : PySem.W.codeIn K cd_InvalidCommand "InvalidCommand.__init__" = true)
    (kC_InvalidCommand : PySem.W.keepIn K (.ref e_InvalidCommand) = true)
    (eC_InvalidCommand : PySem.W.subIn K (.ref e_InvalidCommand) (.type "BaseException") = some true)
    (tt_InvalidCommand : PySem.W.typeIn K (.ref e_InvalidCommand) = some (.type "type"))
    (hC_InvalidCommand : PySem.W.hasDictIn K e_InvalidCommand = true)
    (aC_Rejected : PySem.W.nsIn K mainGlobals "Rejected" = some (some (.ref e_Rejected)))
    (xL_Rejected : K.lookup e_Rejected = some (excClassObj nm_Rejected q_Rejected e_Rejected N_Rejected bs_Rejected [.type "RuntimeError", .type "Exception", .type "BaseException", .type "object"] true sn_Rejected sub_Rejected ab_Rejected col_Rejected dd_Rejected m0_Rejected m1_Rejected m2_Rejected m3_Rejected m5_Rejected "RuntimeError.__new__"))
    (sa_Rejected : PySem.W.findIn K (.ref e_Rejected) "__setattr__" = some (some (.builtin "object.__setattr__")))
    (ga_Rejected : PySem.W.findIn K (.ref e_Rejected) "__getattribute__" = some (some (.builtin "BaseException.__getattribute__")))
    (gg_Rejected : PySem.W.findIn K (.ref e_Rejected) "__getattr__" = some none)
    (nf_Rejected : PySem.W.findIn K (.ref e_Rejected) "value" = some none)
    (iC_Rejected : PySem.W.findIn K (.ref e_Rejected) "__init__" = some (some (.ref fI_Rejected)))
    (tC_Rejected : PySem.W.typeIn K (.ref fI_Rejected) = some (.type "function"))
    (l_Rejected : K.lookup fI_Rejected = some ⟨oc_Rejected, od_Rejected, .func (PySem.W.fnOf "__init__" "Rejected.__init__" (DLE.iA "value" ⟨24, 17, 24, 21⟩ ⟨24, 23, 24, 28⟩) (DLE.iB "value" ⟨25, 8, 25, 12⟩ ⟨25, 8, 25, 18⟩ ⟨25, 21, 25, 26⟩ ⟨25, 8, 25, 26⟩) (DLE.iS "value") .none .none dc_Rejected pm_Rejected an_Rejected cd_Rejected ct_Rejected), sl_Rejected⟩)
    (cd_Rejected : PySem.W.codeIn K cd_Rejected "Rejected.__init__" = true)
    (kC_Rejected : PySem.W.keepIn K (.ref e_Rejected) = true)
    (eC_Rejected : PySem.W.subIn K (.ref e_Rejected) (.type "BaseException") = some true)
    (tt_Rejected : PySem.W.typeIn K (.ref e_Rejected) = some (.type "type"))
    (hC_Rejected : PySem.W.hasDictIn K e_Rejected = true)
    (aC_InvalidSequence : PySem.W.nsIn K mainGlobals "InvalidSequence" = some (some (.ref e_InvalidSequence)))
    (xL_InvalidSequence : K.lookup e_InvalidSequence = some (excClassObj nm_InvalidSequence q_InvalidSequence e_InvalidSequence N_InvalidSequence bs_InvalidSequence [.type "ValueError", .type "Exception", .type "BaseException", .type "object"] true sn_InvalidSequence sub_InvalidSequence ab_InvalidSequence col_InvalidSequence dd_InvalidSequence m0_InvalidSequence m1_InvalidSequence m2_InvalidSequence m3_InvalidSequence m5_InvalidSequence "ValueError.__new__"))
    (sa_InvalidSequence : PySem.W.findIn K (.ref e_InvalidSequence) "__setattr__" = some (some (.builtin "object.__setattr__")))
    (ga_InvalidSequence : PySem.W.findIn K (.ref e_InvalidSequence) "__getattribute__" = some (some (.builtin "BaseException.__getattribute__")))
    (gg_InvalidSequence : PySem.W.findIn K (.ref e_InvalidSequence) "__getattr__" = some none)
    (nf_InvalidSequence : PySem.W.findIn K (.ref e_InvalidSequence) "position" = some none)
    (iC_InvalidSequence : PySem.W.findIn K (.ref e_InvalidSequence) "__init__" = some (some (.ref fI_InvalidSequence)))
    (tC_InvalidSequence : PySem.W.typeIn K (.ref fI_InvalidSequence) = some (.type "function"))
    (l_InvalidSequence : K.lookup fI_InvalidSequence = some ⟨oc_InvalidSequence, od_InvalidSequence, .func (PySem.W.fnOf "__init__" "InvalidSequence.__init__" (DLE.iA "position" ⟨12, 17, 12, 21⟩ ⟨12, 23, 12, 31⟩) (DLE.iB "position" ⟨13, 8, 13, 12⟩ ⟨13, 8, 13, 21⟩ ⟨13, 24, 13, 32⟩ ⟨13, 8, 13, 32⟩) (DLE.iS "position") .none .none dc_InvalidSequence pm_InvalidSequence an_InvalidSequence cd_InvalidSequence ct_InvalidSequence), sl_InvalidSequence⟩)
    (cd_InvalidSequence : PySem.W.codeIn K cd_InvalidSequence "InvalidSequence.__init__" = true)
    (kC_InvalidSequence : PySem.W.keepIn K (.ref e_InvalidSequence) = true)
    (eC_InvalidSequence : PySem.W.subIn K (.ref e_InvalidSequence) (.type "BaseException") = some true)
    (tt_InvalidSequence : PySem.W.typeIn K (.ref e_InvalidSequence) = some (.type "type"))
    (hC_InvalidSequence : PySem.W.hasDictIn K e_InvalidSequence = true)
    (aC_InvalidProcesses : PySem.W.nsIn K mainGlobals "InvalidProcesses" = some (some (.ref e_InvalidProcesses)))
    (xL_InvalidProcesses : K.lookup e_InvalidProcesses = some (excClassObj nm_InvalidProcesses q_InvalidProcesses e_InvalidProcesses N_InvalidProcesses bs_InvalidProcesses [.type "ValueError", .type "Exception", .type "BaseException", .type "object"] true sn_InvalidProcesses sub_InvalidProcesses ab_InvalidProcesses col_InvalidProcesses dd_InvalidProcesses m0_InvalidProcesses m1_InvalidProcesses m2_InvalidProcesses m3_InvalidProcesses m5_InvalidProcesses "ValueError.__new__"))
    (sa_InvalidProcesses : PySem.W.findIn K (.ref e_InvalidProcesses) "__setattr__" = some (some (.builtin "object.__setattr__")))
    (ga_InvalidProcesses : PySem.W.findIn K (.ref e_InvalidProcesses) "__getattribute__" = some (some (.builtin "BaseException.__getattribute__")))
    (gg_InvalidProcesses : PySem.W.findIn K (.ref e_InvalidProcesses) "__getattr__" = some none)
    (nf_InvalidProcesses : PySem.W.findIn K (.ref e_InvalidProcesses) "position" = some none)
    (iC_InvalidProcesses : PySem.W.findIn K (.ref e_InvalidProcesses) "__init__" = some (some (.ref fI_InvalidProcesses)))
    (tC_InvalidProcesses : PySem.W.typeIn K (.ref fI_InvalidProcesses) = some (.type "function"))
    (l_InvalidProcesses : K.lookup fI_InvalidProcesses = some ⟨oc_InvalidProcesses, od_InvalidProcesses, .func (PySem.W.fnOf "__init__" "InvalidProcesses.__init__" (DLE.iA "position" ⟨56, 17, 56, 21⟩ ⟨56, 23, 56, 31⟩) (DLE.iB "position" ⟨57, 8, 57, 12⟩ ⟨57, 8, 57, 21⟩ ⟨57, 24, 57, 32⟩ ⟨57, 8, 57, 32⟩) (DLE.iS "position") .none .none dc_InvalidProcesses pm_InvalidProcesses an_InvalidProcesses cd_InvalidProcesses ct_InvalidProcesses), sl_InvalidProcesses⟩)
    (cd_InvalidProcesses : PySem.W.codeIn K cd_InvalidProcesses "InvalidProcesses.__init__" = true)
    (kC_InvalidProcesses : PySem.W.keepIn K (.ref e_InvalidProcesses) = true)
    (eC_InvalidProcesses : PySem.W.subIn K (.ref e_InvalidProcesses) (.type "BaseException") = some true)
    (tt_InvalidProcesses : PySem.W.typeIn K (.ref e_InvalidProcesses) = some (.type "type"))
    (hC_InvalidProcesses : PySem.W.hasDictIn K e_InvalidProcesses = true)
    (aC_InvalidSuspects : PySem.W.nsIn K mainGlobals "InvalidSuspects" = some (some (.ref e_InvalidSuspects)))
    (xL_InvalidSuspects : K.lookup e_InvalidSuspects = some (excClassObj nm_InvalidSuspects q_InvalidSuspects e_InvalidSuspects N_InvalidSuspects bs_InvalidSuspects [.type "ValueError", .type "Exception", .type "BaseException", .type "object"] true sn_InvalidSuspects sub_InvalidSuspects ab_InvalidSuspects col_InvalidSuspects dd_InvalidSuspects m0_InvalidSuspects m1_InvalidSuspects m2_InvalidSuspects m3_InvalidSuspects m5_InvalidSuspects "ValueError.__new__"))
    (sa_InvalidSuspects : PySem.W.findIn K (.ref e_InvalidSuspects) "__setattr__" = some (some (.builtin "object.__setattr__")))
    (ga_InvalidSuspects : PySem.W.findIn K (.ref e_InvalidSuspects) "__getattribute__" = some (some (.builtin "BaseException.__getattribute__")))
    (gg_InvalidSuspects : PySem.W.findIn K (.ref e_InvalidSuspects) "__getattr__" = some none)
    (nf_InvalidSuspects : PySem.W.findIn K (.ref e_InvalidSuspects) "position" = some none)
    (iC_InvalidSuspects : PySem.W.findIn K (.ref e_InvalidSuspects) "__init__" = some (some (.ref fI_InvalidSuspects)))
    (tC_InvalidSuspects : PySem.W.typeIn K (.ref fI_InvalidSuspects) = some (.type "function"))
    (l_InvalidSuspects : K.lookup fI_InvalidSuspects = some ⟨oc_InvalidSuspects, od_InvalidSuspects, .func (PySem.W.fnOf "__init__" "InvalidSuspects.__init__" (DLE.iA "position" ⟨88, 17, 88, 21⟩ ⟨88, 23, 88, 31⟩) (DLE.iB "position" ⟨89, 8, 89, 12⟩ ⟨89, 8, 89, 21⟩ ⟨89, 24, 89, 32⟩ ⟨89, 8, 89, 32⟩) (DLE.iS "position") .none .none dc_InvalidSuspects pm_InvalidSuspects an_InvalidSuspects cd_InvalidSuspects ct_InvalidSuspects), sl_InvalidSuspects⟩)
    (cd_InvalidSuspects : PySem.W.codeIn K cd_InvalidSuspects "InvalidSuspects.__init__" = true)
    (kC_InvalidSuspects : PySem.W.keepIn K (.ref e_InvalidSuspects) = true)
    (eC_InvalidSuspects : PySem.W.subIn K (.ref e_InvalidSuspects) (.type "BaseException") = some true)
    (tt_InvalidSuspects : PySem.W.typeIn K (.ref e_InvalidSuspects) = some (.type "type"))
    (hC_InvalidSuspects : PySem.W.hasDictIn K e_InvalidSuspects = true)
    (aC_InvalidObservations : PySem.W.nsIn K mainGlobals "InvalidObservations" = some (some (.ref e_InvalidObservations)))
    (xL_InvalidObservations : K.lookup e_InvalidObservations = some (excClassObj nm_InvalidObservations q_InvalidObservations e_InvalidObservations N_InvalidObservations bs_InvalidObservations [.type "ValueError", .type "Exception", .type "BaseException", .type "object"] true sn_InvalidObservations sub_InvalidObservations ab_InvalidObservations col_InvalidObservations dd_InvalidObservations m0_InvalidObservations m1_InvalidObservations m2_InvalidObservations m3_InvalidObservations m5_InvalidObservations "ValueError.__new__"))
    (sa_InvalidObservations : PySem.W.findIn K (.ref e_InvalidObservations) "__setattr__" = some (some (.builtin "object.__setattr__")))
    (ga_InvalidObservations : PySem.W.findIn K (.ref e_InvalidObservations) "__getattribute__" = some (some (.builtin "BaseException.__getattribute__")))
    (gg_InvalidObservations : PySem.W.findIn K (.ref e_InvalidObservations) "__getattr__" = some none)
    (nf_InvalidObservations : PySem.W.findIn K (.ref e_InvalidObservations) "position" = some none)
    (iC_InvalidObservations : PySem.W.findIn K (.ref e_InvalidObservations) "__init__" = some (some (.ref fI_InvalidObservations)))
    (tC_InvalidObservations : PySem.W.typeIn K (.ref fI_InvalidObservations) = some (.type "function"))
    (l_InvalidObservations : K.lookup fI_InvalidObservations = some ⟨oc_InvalidObservations, od_InvalidObservations, .func (PySem.W.fnOf "__init__" "InvalidObservations.__init__" (DLE.iA "position" ⟨92, 17, 92, 21⟩ ⟨92, 23, 92, 31⟩) (DLE.iB "position" ⟨93, 8, 93, 12⟩ ⟨93, 8, 93, 21⟩ ⟨93, 24, 93, 32⟩ ⟨93, 8, 93, 32⟩) (DLE.iS "position") .none .none dc_InvalidObservations pm_InvalidObservations an_InvalidObservations cd_InvalidObservations ct_InvalidObservations), sl_InvalidObservations⟩)
    (cd_InvalidObservations : PySem.W.codeIn K cd_InvalidObservations "InvalidObservations.__init__" = true)
    (kC_InvalidObservations : PySem.W.keepIn K (.ref e_InvalidObservations) = true)
    (eC_InvalidObservations : PySem.W.subIn K (.ref e_InvalidObservations) (.type "BaseException") = some true)
    (tt_InvalidObservations : PySem.W.typeIn K (.ref e_InvalidObservations) = some (.type "type"))
    (hC_InvalidObservations : PySem.W.hasDictIn K e_InvalidObservations = true)
    (aC_InvalidQueues : PySem.W.nsIn K mainGlobals "InvalidQueues" = some (some (.ref e_InvalidQueues)))
    (xL_InvalidQueues : K.lookup e_InvalidQueues = some (excClassObj nm_InvalidQueues q_InvalidQueues e_InvalidQueues N_InvalidQueues bs_InvalidQueues [.type "ValueError", .type "Exception", .type "BaseException", .type "object"] true sn_InvalidQueues sub_InvalidQueues ab_InvalidQueues col_InvalidQueues dd_InvalidQueues m0_InvalidQueues m1_InvalidQueues m2_InvalidQueues m3_InvalidQueues m5_InvalidQueues "ValueError.__new__"))
    (sa_InvalidQueues : PySem.W.findIn K (.ref e_InvalidQueues) "__setattr__" = some (some (.builtin "object.__setattr__")))
    (ga_InvalidQueues : PySem.W.findIn K (.ref e_InvalidQueues) "__getattribute__" = some (some (.builtin "BaseException.__getattribute__")))
    (gg_InvalidQueues : PySem.W.findIn K (.ref e_InvalidQueues) "__getattr__" = some none)
    (nf_InvalidQueues : PySem.W.findIn K (.ref e_InvalidQueues) "position" = some none)
    (iC_InvalidQueues : PySem.W.findIn K (.ref e_InvalidQueues) "__init__" = some (some (.ref fI_InvalidQueues)))
    (tC_InvalidQueues : PySem.W.typeIn K (.ref fI_InvalidQueues) = some (.type "function"))
    (l_InvalidQueues : K.lookup fI_InvalidQueues = some ⟨oc_InvalidQueues, od_InvalidQueues, .func (PySem.W.fnOf "__init__" "InvalidQueues.__init__" (DLE.iA "position" ⟨96, 17, 96, 21⟩ ⟨96, 23, 96, 31⟩) (DLE.iB "position" ⟨97, 8, 97, 12⟩ ⟨97, 8, 97, 21⟩ ⟨97, 24, 97, 32⟩ ⟨97, 8, 97, 32⟩) (DLE.iS "position") .none .none dc_InvalidQueues pm_InvalidQueues an_InvalidQueues cd_InvalidQueues ct_InvalidQueues), sl_InvalidQueues⟩)
    (cd_InvalidQueues : PySem.W.codeIn K cd_InvalidQueues "InvalidQueues.__init__" = true)
    (kC_InvalidQueues : PySem.W.keepIn K (.ref e_InvalidQueues) = true)
    (eC_InvalidQueues : PySem.W.subIn K (.ref e_InvalidQueues) (.type "BaseException") = some true)
    (tt_InvalidQueues : PySem.W.typeIn K (.ref e_InvalidQueues) = some (.type "type"))
    (hC_InvalidQueues : PySem.W.hasDictIn K e_InvalidQueues = true)
    (aC_StepFailed : PySem.W.nsIn K mainGlobals "StepFailed" = some (some (.ref e_StepFailed)))
    (xL_StepFailed : K.lookup e_StepFailed = some (excClassObj nm_StepFailed q_StepFailed e_StepFailed N_StepFailed bs_StepFailed [.type "RuntimeError", .type "Exception", .type "BaseException", .type "object"] true sn_StepFailed sub_StepFailed ab_StepFailed col_StepFailed dd_StepFailed m0_StepFailed m1_StepFailed m2_StepFailed m3_StepFailed m5_StepFailed "RuntimeError.__new__"))
    (sa_StepFailed : PySem.W.findIn K (.ref e_StepFailed) "__setattr__" = some (some (.builtin "object.__setattr__")))
    (ga_StepFailed : PySem.W.findIn K (.ref e_StepFailed) "__getattribute__" = some (some (.builtin "BaseException.__getattribute__")))
    (gg_StepFailed : PySem.W.findIn K (.ref e_StepFailed) "__getattr__" = some none)
    (nf_StepFailed : PySem.W.findIn K (.ref e_StepFailed) "position" = some none)
    (iC_StepFailed : PySem.W.findIn K (.ref e_StepFailed) "__init__" = some (some (.ref fI_StepFailed)))
    (tC_StepFailed : PySem.W.typeIn K (.ref fI_StepFailed) = some (.type "function"))
    (l_StepFailed : K.lookup fI_StepFailed = some ⟨oc_StepFailed, od_StepFailed, .func (PySem.W.fnOf "__init__" "StepFailed.__init__" (DLE.iA "position" ⟨16, 17, 16, 21⟩ ⟨16, 23, 16, 31⟩) (DLE.iB "position" ⟨17, 8, 17, 12⟩ ⟨17, 8, 17, 21⟩ ⟨17, 24, 17, 32⟩ ⟨17, 8, 17, 32⟩) (DLE.iS "position") .none .none dc_StepFailed pm_StepFailed an_StepFailed cd_StepFailed ct_StepFailed), sl_StepFailed⟩)
    (cd_StepFailed : PySem.W.codeIn K cd_StepFailed "StepFailed.__init__" = true)
    (kC_StepFailed : PySem.W.keepIn K (.ref e_StepFailed) = true)
    (eC_StepFailed : PySem.W.subIn K (.ref e_StepFailed) (.type "BaseException") = some true)
    (tt_StepFailed : PySem.W.typeIn K (.ref e_StepFailed) = some (.type "type"))
    (hC_StepFailed : PySem.W.hasDictIn K e_StepFailed = true)
    (aC_EffectChanged : PySem.W.nsIn K mainGlobals "EffectChanged" = some (some (.ref e_EffectChanged)))
    (xL_EffectChanged : K.lookup e_EffectChanged = some (excClassObj nm_EffectChanged q_EffectChanged e_EffectChanged N_EffectChanged bs_EffectChanged [.type "RuntimeError", .type "Exception", .type "BaseException", .type "object"] true sn_EffectChanged sub_EffectChanged ab_EffectChanged col_EffectChanged dd_EffectChanged m0_EffectChanged m1_EffectChanged m2_EffectChanged m3_EffectChanged m5_EffectChanged "RuntimeError.__new__"))
    (sa_EffectChanged : PySem.W.findIn K (.ref e_EffectChanged) "__setattr__" = some (some (.builtin "object.__setattr__")))
    (ga_EffectChanged : PySem.W.findIn K (.ref e_EffectChanged) "__getattribute__" = some (some (.builtin "BaseException.__getattribute__")))
    (gg_EffectChanged : PySem.W.findIn K (.ref e_EffectChanged) "__getattr__" = some none)
    (nf_EffectChanged : PySem.W.findIn K (.ref e_EffectChanged) "position" = some none)
    (iC_EffectChanged : PySem.W.findIn K (.ref e_EffectChanged) "__init__" = some (some (.ref fI_EffectChanged)))
    (tC_EffectChanged : PySem.W.typeIn K (.ref fI_EffectChanged) = some (.type "function"))
    (l_EffectChanged : K.lookup fI_EffectChanged = some ⟨oc_EffectChanged, od_EffectChanged, .func (PySem.W.fnOf "__init__" "EffectChanged.__init__" (DLE.iA "position" ⟨32, 17, 32, 21⟩ ⟨32, 23, 32, 31⟩) (DLE.iB "position" ⟨33, 8, 33, 12⟩ ⟨33, 8, 33, 21⟩ ⟨33, 24, 33, 32⟩ ⟨33, 8, 33, 32⟩) (DLE.iS "position") .none .none dc_EffectChanged pm_EffectChanged an_EffectChanged cd_EffectChanged ct_EffectChanged), sl_EffectChanged⟩)
    (cd_EffectChanged : PySem.W.codeIn K cd_EffectChanged "EffectChanged.__init__" = true)
    (kC_EffectChanged : PySem.W.keepIn K (.ref e_EffectChanged) = true)
    (eC_EffectChanged : PySem.W.subIn K (.ref e_EffectChanged) (.type "BaseException") = some true)
    (tt_EffectChanged : PySem.W.typeIn K (.ref e_EffectChanged) = some (.type "type"))
    (hC_EffectChanged : PySem.W.hasDictIn K e_EffectChanged = true)
    (aC_SharedQueue : PySem.W.nsIn K mainGlobals "SharedQueue" = some (some (.ref e_SharedQueue)))
    (xL_SharedQueue : K.lookup e_SharedQueue = some (excClassObj nm_SharedQueue q_SharedQueue e_SharedQueue N_SharedQueue bs_SharedQueue [.type "ValueError", .type "Exception", .type "BaseException", .type "object"] true sn_SharedQueue sub_SharedQueue ab_SharedQueue col_SharedQueue dd_SharedQueue m0_SharedQueue m1_SharedQueue m2_SharedQueue m3_SharedQueue m5_SharedQueue "ValueError.__new__"))
    (sa_SharedQueue : PySem.W.findIn K (.ref e_SharedQueue) "__setattr__" = some (some (.builtin "object.__setattr__")))
    (ga_SharedQueue : PySem.W.findIn K (.ref e_SharedQueue) "__getattribute__" = some (some (.builtin "BaseException.__getattribute__")))
    (gg_SharedQueue : PySem.W.findIn K (.ref e_SharedQueue) "__getattr__" = some none)
    (nf_SharedQueue : PySem.W.findIn K (.ref e_SharedQueue) "name" = some none)
    (iC_SharedQueue : PySem.W.findIn K (.ref e_SharedQueue) "__init__" = some (some (.ref fI_SharedQueue)))
    (tC_SharedQueue : PySem.W.typeIn K (.ref fI_SharedQueue) = some (.type "function"))
    (l_SharedQueue : K.lookup fI_SharedQueue = some ⟨oc_SharedQueue, od_SharedQueue, .func (PySem.W.fnOf "__init__" "SharedQueue.__init__" (DLE.iA "name" ⟨60, 17, 60, 21⟩ ⟨60, 23, 60, 27⟩) (DLE.iB "name" ⟨61, 8, 61, 12⟩ ⟨61, 8, 61, 17⟩ ⟨61, 20, 61, 24⟩ ⟨61, 8, 61, 24⟩) (DLE.iS "name") .none .none dc_SharedQueue pm_SharedQueue an_SharedQueue cd_SharedQueue ct_SharedQueue), sl_SharedQueue⟩)
    (cd_SharedQueue : PySem.W.codeIn K cd_SharedQueue "SharedQueue.__init__" = true)
    (kC_SharedQueue : PySem.W.keepIn K (.ref e_SharedQueue) = true)
    (eC_SharedQueue : PySem.W.subIn K (.ref e_SharedQueue) (.type "BaseException") = some true)
    (tt_SharedQueue : PySem.W.typeIn K (.ref e_SharedQueue) = some (.type "type"))
    (hC_SharedQueue : PySem.W.hasDictIn K e_SharedQueue = true)
    (aC_UnknownQueue : PySem.W.nsIn K mainGlobals "UnknownQueue" = some (some (.ref e_UnknownQueue)))
    (xL_UnknownQueue : K.lookup e_UnknownQueue = some (excClassObj nm_UnknownQueue q_UnknownQueue e_UnknownQueue N_UnknownQueue bs_UnknownQueue [.type "KeyError", .type "LookupError", .type "Exception", .type "BaseException", .type "object"] true sn_UnknownQueue sub_UnknownQueue ab_UnknownQueue col_UnknownQueue dd_UnknownQueue m0_UnknownQueue m1_UnknownQueue m2_UnknownQueue m3_UnknownQueue m5_UnknownQueue "LookupError.__new__"))
    (sa_UnknownQueue : PySem.W.findIn K (.ref e_UnknownQueue) "__setattr__" = some (some (.builtin "object.__setattr__")))
    (ga_UnknownQueue : PySem.W.findIn K (.ref e_UnknownQueue) "__getattribute__" = some (some (.builtin "BaseException.__getattribute__")))
    (gg_UnknownQueue : PySem.W.findIn K (.ref e_UnknownQueue) "__getattr__" = some none)
    (nf_UnknownQueue : PySem.W.findIn K (.ref e_UnknownQueue) "name" = some none)
    (iC_UnknownQueue : PySem.W.findIn K (.ref e_UnknownQueue) "__init__" = some (some (.ref fI_UnknownQueue)))
    (tC_UnknownQueue : PySem.W.typeIn K (.ref fI_UnknownQueue) = some (.type "function"))
    (l_UnknownQueue : K.lookup fI_UnknownQueue = some ⟨oc_UnknownQueue, od_UnknownQueue, .func (PySem.W.fnOf "__init__" "UnknownQueue.__init__" (DLE.iA "name" ⟨52, 17, 52, 21⟩ ⟨52, 23, 52, 27⟩) (DLE.iB "name" ⟨53, 8, 53, 12⟩ ⟨53, 8, 53, 17⟩ ⟨53, 20, 53, 24⟩ ⟨53, 8, 53, 24⟩) (DLE.iS "name") .none .none dc_UnknownQueue pm_UnknownQueue an_UnknownQueue cd_UnknownQueue ct_UnknownQueue), sl_UnknownQueue⟩)
    (cd_UnknownQueue : PySem.W.codeIn K cd_UnknownQueue "UnknownQueue.__init__" = true)
    (kC_UnknownQueue : PySem.W.keepIn K (.ref e_UnknownQueue) = true)
    (eC_UnknownQueue : PySem.W.subIn K (.ref e_UnknownQueue) (.type "BaseException") = some true)
    (tt_UnknownQueue : PySem.W.typeIn K (.ref e_UnknownQueue) = some (.type "type"))
    (hC_UnknownQueue : PySem.W.hasDictIn K e_UnknownQueue = true)
    (aC_UnknownMark : PySem.W.nsIn K mainGlobals "UnknownMark" = some (some (.ref e_UnknownMark)))
    (xL_UnknownMark : K.lookup e_UnknownMark = some (excClassObj nm_UnknownMark q_UnknownMark e_UnknownMark N_UnknownMark bs_UnknownMark [.type "KeyError", .type "LookupError", .type "Exception", .type "BaseException", .type "object"] true sn_UnknownMark sub_UnknownMark ab_UnknownMark col_UnknownMark dd_UnknownMark m0_UnknownMark m1_UnknownMark m2_UnknownMark m3_UnknownMark m5_UnknownMark "LookupError.__new__"))
    (sa_UnknownMark : PySem.W.findIn K (.ref e_UnknownMark) "__setattr__" = some (some (.builtin "object.__setattr__")))
    (ga_UnknownMark : PySem.W.findIn K (.ref e_UnknownMark) "__getattribute__" = some (some (.builtin "BaseException.__getattribute__")))
    (gg_UnknownMark : PySem.W.findIn K (.ref e_UnknownMark) "__getattr__" = some none)
    (nf_UnknownMark : PySem.W.findIn K (.ref e_UnknownMark) "name" = some none)
    (iC_UnknownMark : PySem.W.findIn K (.ref e_UnknownMark) "__init__" = some (some (.ref fI_UnknownMark)))
    (tC_UnknownMark : PySem.W.typeIn K (.ref fI_UnknownMark) = some (.type "function"))
    (l_UnknownMark : K.lookup fI_UnknownMark = some ⟨oc_UnknownMark, od_UnknownMark, .func (PySem.W.fnOf "__init__" "UnknownMark.__init__" (DLE.iA "name" ⟨72, 17, 72, 21⟩ ⟨72, 23, 72, 27⟩) (DLE.iB "name" ⟨73, 8, 73, 12⟩ ⟨73, 8, 73, 17⟩ ⟨73, 20, 73, 24⟩ ⟨73, 8, 73, 24⟩) (DLE.iS "name") .none .none dc_UnknownMark pm_UnknownMark an_UnknownMark cd_UnknownMark ct_UnknownMark), sl_UnknownMark⟩)
    (cd_UnknownMark : PySem.W.codeIn K cd_UnknownMark "UnknownMark.__init__" = true)
    (kC_UnknownMark : PySem.W.keepIn K (.ref e_UnknownMark) = true)
    (eC_UnknownMark : PySem.W.subIn K (.ref e_UnknownMark) (.type "BaseException") = some true)
    (tt_UnknownMark : PySem.W.typeIn K (.ref e_UnknownMark) = some (.type "type"))
    (hC_UnknownMark : PySem.W.hasDictIn K e_UnknownMark = true)
    (aC_InvalidEffect : PySem.W.nsIn K mainGlobals "InvalidEffect" = some (some (.ref e_InvalidEffect)))
    (xL_InvalidEffect : K.lookup e_InvalidEffect = some (excClassObj nm_InvalidEffect q_InvalidEffect e_InvalidEffect N_InvalidEffect bs_InvalidEffect [.type "ValueError", .type "Exception", .type "BaseException", .type "object"] true sn_InvalidEffect sub_InvalidEffect ab_InvalidEffect col_InvalidEffect dd_InvalidEffect m0_InvalidEffect m1_InvalidEffect m2_InvalidEffect m3_InvalidEffect m5_InvalidEffect "ValueError.__new__"))
    (sa_InvalidEffect : PySem.W.findIn K (.ref e_InvalidEffect) "__setattr__" = some (some (.builtin "object.__setattr__")))
    (ga_InvalidEffect : PySem.W.findIn K (.ref e_InvalidEffect) "__getattribute__" = some (some (.builtin "BaseException.__getattribute__")))
    (gg_InvalidEffect : PySem.W.findIn K (.ref e_InvalidEffect) "__getattr__" = some none)
    (nf_InvalidEffect : PySem.W.findIn K (.ref e_InvalidEffect) "part" = some none)
    (iC_InvalidEffect : PySem.W.findIn K (.ref e_InvalidEffect) "__init__" = some (some (.ref fI_InvalidEffect)))
    (tC_InvalidEffect : PySem.W.typeIn K (.ref fI_InvalidEffect) = some (.type "function"))
    (l_InvalidEffect : K.lookup fI_InvalidEffect = some ⟨oc_InvalidEffect, od_InvalidEffect, .func (PySem.W.fnOf "__init__" "InvalidEffect.__init__" (DLE.iA "part" ⟨20, 17, 20, 21⟩ ⟨20, 23, 20, 27⟩) (DLE.iB "part" ⟨21, 8, 21, 12⟩ ⟨21, 8, 21, 17⟩ ⟨21, 20, 21, 24⟩ ⟨21, 8, 21, 24⟩) (DLE.iS "part") .none .none dc_InvalidEffect pm_InvalidEffect an_InvalidEffect cd_InvalidEffect ct_InvalidEffect), sl_InvalidEffect⟩)
    (cd_InvalidEffect : PySem.W.codeIn K cd_InvalidEffect "InvalidEffect.__init__" = true)
    (kC_InvalidEffect : PySem.W.keepIn K (.ref e_InvalidEffect) = true)
    (eC_InvalidEffect : PySem.W.subIn K (.ref e_InvalidEffect) (.type "BaseException") = some true)
    (tt_InvalidEffect : PySem.W.typeIn K (.ref e_InvalidEffect) = some (.type "type"))
    (hC_InvalidEffect : PySem.W.hasDictIn K e_InvalidEffect = true)
    (aC_ParseError : PySem.W.nsIn K mainGlobals "ParseError" = some (some (.ref e_ParseError)))
    (xL_ParseError : K.lookup e_ParseError = some (excClassObj nm_ParseError q_ParseError e_ParseError N_ParseError bs_ParseError [.type "ValueError", .type "Exception", .type "BaseException", .type "object"] true sn_ParseError sub_ParseError ab_ParseError col_ParseError dd_ParseError m0_ParseError m1_ParseError m2_ParseError m3_ParseError m5_ParseError "ValueError.__new__"))
    (sa_ParseError : PySem.W.findIn K (.ref e_ParseError) "__setattr__" = some (some (.builtin "object.__setattr__")))
    (ga_ParseError : PySem.W.findIn K (.ref e_ParseError) "__getattribute__" = some (some (.builtin "BaseException.__getattribute__")))
    (gg_ParseError : PySem.W.findIn K (.ref e_ParseError) "__getattr__" = some none)
    (nf_ParseError : PySem.W.findIn K (.ref e_ParseError) "line" = some none)
    (iC_ParseError : PySem.W.findIn K (.ref e_ParseError) "__init__" = some (some (.ref fI_ParseError)))
    (tC_ParseError : PySem.W.typeIn K (.ref fI_ParseError) = some (.type "function"))
    (l_ParseError : K.lookup fI_ParseError = some ⟨oc_ParseError, od_ParseError, .func (PySem.W.fnOf "__init__" "ParseError.__init__" (DLE.iA "line" ⟨80, 17, 80, 21⟩ ⟨80, 23, 80, 27⟩) (DLE.iB "line" ⟨81, 8, 81, 12⟩ ⟨81, 8, 81, 17⟩ ⟨81, 20, 81, 24⟩ ⟨81, 8, 81, 24⟩) (DLE.iS "line") .none .none dc_ParseError pm_ParseError an_ParseError cd_ParseError ct_ParseError), sl_ParseError⟩)
    (cd_ParseError : PySem.W.codeIn K cd_ParseError "ParseError.__init__" = true)
    (kC_ParseError : PySem.W.keepIn K (.ref e_ParseError) = true)
    (eC_ParseError : PySem.W.subIn K (.ref e_ParseError) (.type "BaseException") = some true)
    (tt_ParseError : PySem.W.typeIn K (.ref e_ParseError) = some (.type "type"))
    (hC_ParseError : PySem.W.hasDictIn K e_ParseError = true)
    (aC_NothingToUndo : PySem.W.nsIn K mainGlobals "NothingToUndo" = some (some (.ref e_NothingToUndo)))
    (xL_NothingToUndo : K.lookup e_NothingToUndo = some (excClassObj nm_NothingToUndo q_NothingToUndo e_NothingToUndo N_NothingToUndo bs_NothingToUndo [.type "LookupError", .type "Exception", .type "BaseException", .type "object"] true sn_NothingToUndo sub_NothingToUndo ab_NothingToUndo col_NothingToUndo dd_NothingToUndo m0_NothingToUndo m1_NothingToUndo m2_NothingToUndo m3_NothingToUndo m5_NothingToUndo "LookupError.__new__"))
    (sa_NothingToUndo : PySem.W.findIn K (.ref e_NothingToUndo) "__setattr__" = some (some (.builtin "object.__setattr__")))
    (ga_NothingToUndo : PySem.W.findIn K (.ref e_NothingToUndo) "__getattribute__" = some (some (.builtin "BaseException.__getattribute__")))
    (gg_NothingToUndo : PySem.W.findIn K (.ref e_NothingToUndo) "__getattr__" = some none)
    (nf_NothingToUndo : PySem.W.findIn K (.ref e_NothingToUndo) "count" = some none)
    (iC_NothingToUndo : PySem.W.findIn K (.ref e_NothingToUndo) "__init__" = some (some (.ref fI_NothingToUndo)))
    (tC_NothingToUndo : PySem.W.typeIn K (.ref fI_NothingToUndo) = some (.type "function"))
    (l_NothingToUndo : K.lookup fI_NothingToUndo = some ⟨oc_NothingToUndo, od_NothingToUndo, .func (PySem.W.fnOf "__init__" "NothingToUndo.__init__" (DLE.iA "count" ⟨68, 17, 68, 21⟩ ⟨68, 23, 68, 28⟩) (DLE.iB "count" ⟨69, 8, 69, 12⟩ ⟨69, 8, 69, 18⟩ ⟨69, 21, 69, 26⟩ ⟨69, 8, 69, 26⟩) (DLE.iS "count") .none .none dc_NothingToUndo pm_NothingToUndo an_NothingToUndo cd_NothingToUndo ct_NothingToUndo), sl_NothingToUndo⟩)
    (cd_NothingToUndo : PySem.W.codeIn K cd_NothingToUndo "NothingToUndo.__init__" = true)
    (kC_NothingToUndo : PySem.W.keepIn K (.ref e_NothingToUndo) = true)
    (eC_NothingToUndo : PySem.W.subIn K (.ref e_NothingToUndo) (.type "BaseException") = some true)
    (tt_NothingToUndo : PySem.W.typeIn K (.ref e_NothingToUndo) = some (.type "type"))
    (hC_NothingToUndo : PySem.W.hasDictIn K e_NothingToUndo = true)
    (aC_LimitExceeded : PySem.W.nsIn K mainGlobals "LimitExceeded" = some (some (.ref e_LimitExceeded)))
    (xL_LimitExceeded : K.lookup e_LimitExceeded = some (excClassObj nm_LimitExceeded q_LimitExceeded e_LimitExceeded N_LimitExceeded bs_LimitExceeded [.type "OverflowError", .type "ArithmeticError", .type "Exception", .type "BaseException", .type "object"] true sn_LimitExceeded sub_LimitExceeded ab_LimitExceeded col_LimitExceeded dd_LimitExceeded m0_LimitExceeded m1_LimitExceeded m2_LimitExceeded m3_LimitExceeded m5_LimitExceeded "OverflowError.__new__"))
    (sa_LimitExceeded : PySem.W.findIn K (.ref e_LimitExceeded) "__setattr__" = some (some (.builtin "object.__setattr__")))
    (ga_LimitExceeded : PySem.W.findIn K (.ref e_LimitExceeded) "__getattribute__" = some (some (.builtin "BaseException.__getattribute__")))
    (gg_LimitExceeded : PySem.W.findIn K (.ref e_LimitExceeded) "__getattr__" = some none)
    (nf_LimitExceeded : PySem.W.findIn K (.ref e_LimitExceeded) "limit" = some none)
    (iC_LimitExceeded : PySem.W.findIn K (.ref e_LimitExceeded) "__init__" = some (some (.ref fI_LimitExceeded)))
    (tC_LimitExceeded : PySem.W.typeIn K (.ref fI_LimitExceeded) = some (.type "function"))
    (l_LimitExceeded : K.lookup fI_LimitExceeded = some ⟨oc_LimitExceeded, od_LimitExceeded, .func (PySem.W.fnOf "__init__" "LimitExceeded.__init__" (DLE.iA "limit" ⟨44, 17, 44, 21⟩ ⟨44, 23, 44, 28⟩) (DLE.iB "limit" ⟨45, 8, 45, 12⟩ ⟨45, 8, 45, 18⟩ ⟨45, 21, 45, 26⟩ ⟨45, 8, 45, 26⟩) (DLE.iS "limit") .none .none dc_LimitExceeded pm_LimitExceeded an_LimitExceeded cd_LimitExceeded ct_LimitExceeded), sl_LimitExceeded⟩)
    (cd_LimitExceeded : PySem.W.codeIn K cd_LimitExceeded "LimitExceeded.__init__" = true)
    (kC_LimitExceeded : PySem.W.keepIn K (.ref e_LimitExceeded) = true)
    (eC_LimitExceeded : PySem.W.subIn K (.ref e_LimitExceeded) (.type "BaseException") = some true)
    (tt_LimitExceeded : PySem.W.typeIn K (.ref e_LimitExceeded) = some (.type "type"))
    (hC_LimitExceeded : PySem.W.hasDictIn K e_LimitExceeded = true)
    (oc_g : PySem.W.specialIn K (.builtin "object.__class__") "__get__" = some (some (.builtin "getset_descriptor.__get__")))
    (oc_t : PySem.W.takesIn K (.builtin "object.__class__") = some true)
    (ca_EffectChanged : PySem.W.findIn K (.ref e_EffectChanged) "__class__" = some (some (.builtin "object.__class__")))
    (cm_EffectChanged : PySem.W.mroIn K e_EffectChanged (.type "object") = some true)
    (ca_InvalidCommand : PySem.W.findIn K (.ref e_InvalidCommand) "__class__" = some (some (.builtin "object.__class__")))
    (cm_InvalidCommand : PySem.W.mroIn K e_InvalidCommand (.type "object") = some true)
    (ca_InvalidEffect : PySem.W.findIn K (.ref e_InvalidEffect) "__class__" = some (some (.builtin "object.__class__")))
    (cm_InvalidEffect : PySem.W.mroIn K e_InvalidEffect (.type "object") = some true)
    (ca_InvalidNumber : PySem.W.findIn K (.ref e_InvalidNumber) "__class__" = some (some (.builtin "object.__class__")))
    (cm_InvalidNumber : PySem.W.mroIn K e_InvalidNumber (.type "object") = some true)
    (ca_InvalidObservations : PySem.W.findIn K (.ref e_InvalidObservations) "__class__" = some (some (.builtin "object.__class__")))
    (cm_InvalidObservations : PySem.W.mroIn K e_InvalidObservations (.type "object") = some true)
    (ca_InvalidPosition : PySem.W.findIn K (.ref e_InvalidPosition) "__class__" = some (some (.builtin "object.__class__")))
    (cm_InvalidPosition : PySem.W.mroIn K e_InvalidPosition (.type "object") = some true)
    (ca_InvalidProcesses : PySem.W.findIn K (.ref e_InvalidProcesses) "__class__" = some (some (.builtin "object.__class__")))
    (cm_InvalidProcesses : PySem.W.mroIn K e_InvalidProcesses (.type "object") = some true)
    (ca_InvalidQueue : PySem.W.findIn K (.ref e_InvalidQueue) "__class__" = some (some (.builtin "object.__class__")))
    (cm_InvalidQueue : PySem.W.mroIn K e_InvalidQueue (.type "object") = some true)
    (ca_InvalidQueues : PySem.W.findIn K (.ref e_InvalidQueues) "__class__" = some (some (.builtin "object.__class__")))
    (cm_InvalidQueues : PySem.W.mroIn K e_InvalidQueues (.type "object") = some true)
    (ca_InvalidSchedule : PySem.W.findIn K (.ref e_InvalidSchedule) "__class__" = some (some (.builtin "object.__class__")))
    (cm_InvalidSchedule : PySem.W.mroIn K e_InvalidSchedule (.type "object") = some true)
    (ca_InvalidSequence : PySem.W.findIn K (.ref e_InvalidSequence) "__class__" = some (some (.builtin "object.__class__")))
    (cm_InvalidSequence : PySem.W.mroIn K e_InvalidSequence (.type "object") = some true)
    (ca_InvalidSession : PySem.W.findIn K (.ref e_InvalidSession) "__class__" = some (some (.builtin "object.__class__")))
    (cm_InvalidSession : PySem.W.mroIn K e_InvalidSession (.type "object") = some true)
    (ca_InvalidState : PySem.W.findIn K (.ref e_InvalidState) "__class__" = some (some (.builtin "object.__class__")))
    (cm_InvalidState : PySem.W.mroIn K e_InvalidState (.type "object") = some true)
    (ca_InvalidStep : PySem.W.findIn K (.ref e_InvalidStep) "__class__" = some (some (.builtin "object.__class__")))
    (cm_InvalidStep : PySem.W.mroIn K e_InvalidStep (.type "object") = some true)
    (ca_InvalidSuspects : PySem.W.findIn K (.ref e_InvalidSuspects) "__class__" = some (some (.builtin "object.__class__")))
    (cm_InvalidSuspects : PySem.W.mroIn K e_InvalidSuspects (.type "object") = some true)
    (ca_InvalidWord : PySem.W.findIn K (.ref e_InvalidWord) "__class__" = some (some (.builtin "object.__class__")))
    (cm_InvalidWord : PySem.W.mroIn K e_InvalidWord (.type "object") = some true)
    (ca_LimitExceeded : PySem.W.findIn K (.ref e_LimitExceeded) "__class__" = some (some (.builtin "object.__class__")))
    (cm_LimitExceeded : PySem.W.mroIn K e_LimitExceeded (.type "object") = some true)
    (ca_NothingToUndo : PySem.W.findIn K (.ref e_NothingToUndo) "__class__" = some (some (.builtin "object.__class__")))
    (cm_NothingToUndo : PySem.W.mroIn K e_NothingToUndo (.type "object") = some true)
    (ca_ParseError : PySem.W.findIn K (.ref e_ParseError) "__class__" = some (some (.builtin "object.__class__")))
    (cm_ParseError : PySem.W.mroIn K e_ParseError (.type "object") = some true)
    (ca_Rejected : PySem.W.findIn K (.ref e_Rejected) "__class__" = some (some (.builtin "object.__class__")))
    (cm_Rejected : PySem.W.mroIn K e_Rejected (.type "object") = some true)
    (ca_SharedQueue : PySem.W.findIn K (.ref e_SharedQueue) "__class__" = some (some (.builtin "object.__class__")))
    (cm_SharedQueue : PySem.W.mroIn K e_SharedQueue (.type "object") = some true)
    (ca_StepFailed : PySem.W.findIn K (.ref e_StepFailed) "__class__" = some (some (.builtin "object.__class__")))
    (cm_StepFailed : PySem.W.mroIn K e_StepFailed (.type "object") = some true)
    (ca_UnknownMark : PySem.W.findIn K (.ref e_UnknownMark) "__class__" = some (some (.builtin "object.__class__")))
    (cm_UnknownMark : PySem.W.mroIn K e_UnknownMark (.type "object") = some true)
    (ca_UnknownQueue : PySem.W.findIn K (.ref e_UnknownQueue) "__class__" = some (some (.builtin "object.__class__")))
    (cm_UnknownQueue : PySem.W.mroIn K e_UnknownQueue (.type "object") = some true)
    (xnd_all : ([e_InvalidQueue, e_InvalidSequence, e_InvalidStep, e_InvalidEffect, e_InvalidPosition, e_InvalidNumber, e_InvalidWord, e_StepFailed, e_Rejected, e_EffectChanged, e_LimitExceeded, e_InvalidSuspects, e_InvalidObservations, e_InvalidQueues, e_InvalidState, e_UnknownQueue, e_InvalidProcesses, e_SharedQueue, e_InvalidSchedule, e_ParseError, e_NothingToUndo, e_UnknownMark, e_InvalidSession, e_InvalidCommand] : List Addr).Nodup)
    (z_int : PySem.W.nsIn K mainGlobals "int" = some none)
    (z_isinstance : PySem.W.nsIn K mainGlobals "isinstance" = some none)
    (z_ValueError : PySem.W.nsIn K mainGlobals "ValueError" = some none)
    (z_RuntimeError : PySem.W.nsIn K mainGlobals "RuntimeError" = some none)
    (z_KeyError : PySem.W.nsIn K mainGlobals "KeyError" = some none)
    (z_LookupError : PySem.W.nsIn K mainGlobals "LookupError" = some none)
    (z_ArithmeticError : PySem.W.nsIn K mainGlobals "ArithmeticError" = some none)
    (z_OverflowError : PySem.W.nsIn K mainGlobals "OverflowError" = some none)
    (z_range : PySem.W.nsIn K mainGlobals "range" = some none)
    (z_max : PySem.W.nsIn K mainGlobals "max" = some none)
    (z_min : PySem.W.nsIn K mainGlobals "min" = some none)
    (z_len : PySem.W.nsIn K mainGlobals "len" = some none)
    (z_repr : PySem.W.nsIn K mainGlobals "repr" = some none)
    (z_enumerate : PySem.W.nsIn K mainGlobals "enumerate" = some none)
    : ∃ fd : FuncData, (∀ (s : Shared) (v : Value), BindsTo s fd ⟨[v], []⟩ [("_law_script", v)]) ∧ ∀ base : Heap, K.In base → base.Ns mainGlobals mg → FnG l.prog w K mg base (CZ K l.prog w) 4 fa fd ["_law_script"] (spLaw K []) := by
  have e := hfa.symm.trans (PySem.W.mg_of X G a_law)
  cases e
  let T : Tb := mkT e_InvalidQueue e_InvalidStep e_InvalidPosition e_InvalidNumber e_InvalidWord e_InvalidState e_InvalidSchedule e_InvalidSession e_InvalidCommand e_Rejected e_InvalidSequence e_InvalidProcesses e_InvalidSuspects e_InvalidObservations e_InvalidQueues e_StepFailed e_EffectChanged e_SharedQueue e_UnknownQueue e_UnknownMark e_InvalidEffect e_ParseError e_NothingToUndo e_LimitExceeded []
  have Z : Zs K mg  := ⟨trivial, PySem.W.mg_none_of X G z_int, PySem.W.mg_none_of X G z_isinstance, PySem.W.mg_none_of X G z_ValueError, PySem.W.mg_none_of X G z_RuntimeError, PySem.W.mg_none_of X G z_KeyError, PySem.W.mg_none_of X G z_LookupError, PySem.W.mg_none_of X G z_ArithmeticError, PySem.W.mg_none_of X G z_OverflowError, PySem.W.mg_none_of X G z_range, PySem.W.mg_none_of X G z_max, PySem.W.mg_none_of X G z_min, PySem.W.mg_none_of X G z_len, PySem.W.mg_none_of X G z_repr, PySem.W.mg_none_of X G z_enumerate⟩
  have X_InvalidQueue : ErrX K mg T "InvalidQueue" 0 := ⟨"value", _, _, _, _, e_InvalidQueue, fI_InvalidQueue, { eb := DLE.eb_ValueError, fne := by decide, bd := fun _ _ _ _ _ _ _ _ _ _ _ _ _ _ => rfl, bdk := fun _ _ _ _ _ _ _ _ _ _ _ _ _ _ => rfl, cls := ⟨_, _, _, _, _, _, _, _, _, _, _, _, _, _, xL_InvalidQueue⟩, sa := sa_InvalidQueue, ga := ga_InvalidQueue, gg := gg_InvalidQueue, noN := nf_InvalidQueue, iC := iC_InvalidQueue, tC := tC_InvalidQueue, kC := kC_InvalidQueue, exC := eC_InvalidQueue, tyC := tt_InvalidQueue, hdC := hC_InvalidQueue, fn := ⟨_, _, _, _, _, _, _, _, _, _, _, _, _, _, _, l_InvalidQueue, cd_InvalidQueue⟩ }, rfl, PySem.W.mg_of X G aC_InvalidQueue⟩
  have X_InvalidStep : ErrX K mg T "InvalidStep" 2 := ⟨"value", _, _, _, _, e_InvalidStep, fI_InvalidStep, { eb := DLE.eb_ValueError, fne := by decide, bd := fun _ _ _ _ _ _ _ _ _ _ _ _ _ _ => rfl, bdk := fun _ _ _ _ _ _ _ _ _ _ _ _ _ _ => rfl, cls := ⟨_, _, _, _, _, _, _, _, _, _, _, _, _, _, xL_InvalidStep⟩, sa := sa_InvalidStep, ga := ga_InvalidStep, gg := gg_InvalidStep, noN := nf_InvalidStep, iC := iC_InvalidStep, tC := tC_InvalidStep, kC := kC_InvalidStep, exC := eC_InvalidStep, tyC := tt_InvalidStep, hdC := hC_InvalidStep, fn := ⟨_, _, _, _, _, _, _, _, _, _, _, _, _, _, _, l_InvalidStep, cd_InvalidStep⟩ }, rfl, PySem.W.mg_of X G aC_InvalidStep⟩
  have X_InvalidPosition : ErrX K mg T "InvalidPosition" 4 := ⟨"value", _, _, _, _, e_InvalidPosition, fI_InvalidPosition, { eb := DLE.eb_ValueError, fne := by decide, bd := fun _ _ _ _ _ _ _ _ _ _ _ _ _ _ => rfl, bdk := fun _ _ _ _ _ _ _ _ _ _ _ _ _ _ => rfl, cls := ⟨_, _, _, _, _, _, _, _, _, _, _, _, _, _, xL_InvalidPosition⟩, sa := sa_InvalidPosition, ga := ga_InvalidPosition, gg := gg_InvalidPosition, noN := nf_InvalidPosition, iC := iC_InvalidPosition, tC := tC_InvalidPosition, kC := kC_InvalidPosition, exC := eC_InvalidPosition, tyC := tt_InvalidPosition, hdC := hC_InvalidPosition, fn := ⟨_, _, _, _, _, _, _, _, _, _, _, _, _, _, _, l_InvalidPosition, cd_InvalidPosition⟩ }, rfl, PySem.W.mg_of X G aC_InvalidPosition⟩
  have X_InvalidNumber : ErrX K mg T "InvalidNumber" 5 := ⟨"value", _, _, _, _, e_InvalidNumber, fI_InvalidNumber, { eb := DLE.eb_ValueError, fne := by decide, bd := fun _ _ _ _ _ _ _ _ _ _ _ _ _ _ => rfl, bdk := fun _ _ _ _ _ _ _ _ _ _ _ _ _ _ => rfl, cls := ⟨_, _, _, _, _, _, _, _, _, _, _, _, _, _, xL_InvalidNumber⟩, sa := sa_InvalidNumber, ga := ga_InvalidNumber, gg := gg_InvalidNumber, noN := nf_InvalidNumber, iC := iC_InvalidNumber, tC := tC_InvalidNumber, kC := kC_InvalidNumber, exC := eC_InvalidNumber, tyC := tt_InvalidNumber, hdC := hC_InvalidNumber, fn := ⟨_, _, _, _, _, _, _, _, _, _, _, _, _, _, _, l_InvalidNumber, cd_InvalidNumber⟩ }, rfl, PySem.W.mg_of X G aC_InvalidNumber⟩
  have X_InvalidWord : ErrX K mg T "InvalidWord" 6 := ⟨"value", _, _, _, _, e_InvalidWord, fI_InvalidWord, { eb := DLE.eb_ValueError, fne := by decide, bd := fun _ _ _ _ _ _ _ _ _ _ _ _ _ _ => rfl, bdk := fun _ _ _ _ _ _ _ _ _ _ _ _ _ _ => rfl, cls := ⟨_, _, _, _, _, _, _, _, _, _, _, _, _, _, xL_InvalidWord⟩, sa := sa_InvalidWord, ga := ga_InvalidWord, gg := gg_InvalidWord, noN := nf_InvalidWord, iC := iC_InvalidWord, tC := tC_InvalidWord, kC := kC_InvalidWord, exC := eC_InvalidWord, tyC := tt_InvalidWord, hdC := hC_InvalidWord, fn := ⟨_, _, _, _, _, _, _, _, _, _, _, _, _, _, _, l_InvalidWord, cd_InvalidWord⟩ }, rfl, PySem.W.mg_of X G aC_InvalidWord⟩
  have X_InvalidState : ErrX K mg T "InvalidState" 14 := ⟨"value", _, _, _, _, e_InvalidState, fI_InvalidState, { eb := DLE.eb_ValueError, fne := by decide, bd := fun _ _ _ _ _ _ _ _ _ _ _ _ _ _ => rfl, bdk := fun _ _ _ _ _ _ _ _ _ _ _ _ _ _ => rfl, cls := ⟨_, _, _, _, _, _, _, _, _, _, _, _, _, _, xL_InvalidState⟩, sa := sa_InvalidState, ga := ga_InvalidState, gg := gg_InvalidState, noN := nf_InvalidState, iC := iC_InvalidState, tC := tC_InvalidState, kC := kC_InvalidState, exC := eC_InvalidState, tyC := tt_InvalidState, hdC := hC_InvalidState, fn := ⟨_, _, _, _, _, _, _, _, _, _, _, _, _, _, _, l_InvalidState, cd_InvalidState⟩ }, rfl, PySem.W.mg_of X G aC_InvalidState⟩
  have X_InvalidSchedule : ErrX K mg T "InvalidSchedule" 18 := ⟨"value", _, _, _, _, e_InvalidSchedule, fI_InvalidSchedule, { eb := DLE.eb_ValueError, fne := by decide, bd := fun _ _ _ _ _ _ _ _ _ _ _ _ _ _ => rfl, bdk := fun _ _ _ _ _ _ _ _ _ _ _ _ _ _ => rfl, cls := ⟨_, _, _, _, _, _, _, _, _, _, _, _, _, _, xL_InvalidSchedule⟩, sa := sa_InvalidSchedule, ga := ga_InvalidSchedule, gg := gg_InvalidSchedule, noN := nf_InvalidSchedule, iC := iC_InvalidSchedule, tC := tC_InvalidSchedule, kC := kC_InvalidSchedule, exC := eC_InvalidSchedule, tyC := tt_InvalidSchedule, hdC := hC_InvalidSchedule, fn := ⟨_, _, _, _, _, _, _, _, _, _, _, _, _, _, _, l_InvalidSchedule, cd_InvalidSchedule⟩ }, rfl, PySem.W.mg_of X G aC_InvalidSchedule⟩
  have X_InvalidSession : ErrX K mg T "InvalidSession" 22 := ⟨"value", _, _, _, _, e_InvalidSession, fI_InvalidSession, { eb := DLE.eb_ValueError, fne := by decide, bd := fun _ _ _ _ _ _ _ _ _ _ _ _ _ _ => rfl, bdk := fun _ _ _ _ _ _ _ _ _ _ _ _ _ _ => rfl, cls := ⟨_, _, _, _, _, _, _, _, _, _, _, _, _, _, xL_InvalidSession⟩, sa := sa_InvalidSession, ga := ga_InvalidSession, gg := gg_InvalidSession, noN := nf_InvalidSession, iC := iC_InvalidSession, tC := tC_InvalidSession, kC := kC_InvalidSession, exC := eC_InvalidSession, tyC := tt_InvalidSession, hdC := hC_InvalidSession, fn := ⟨_, _, _, _, _, _, _, _, _, _, _, _, _, _, _, l_InvalidSession, cd_InvalidSession⟩ }, rfl, PySem.W.mg_of X G aC_InvalidSession⟩
  have X_InvalidCommand : ErrX K mg T "InvalidCommand" 23 := ⟨"value", _, _, _, _, e_InvalidCommand, fI_InvalidCommand, { eb := DLE.eb_ValueError, fne := by decide, bd := fun _ _ _ _ _ _ _ _ _ _ _ _ _ _ => rfl, bdk := fun _ _ _ _ _ _ _ _ _ _ _ _ _ _ => rfl, cls := ⟨_, _, _, _, _, _, _, _, _, _, _, _, _, _, xL_InvalidCommand⟩, sa := sa_InvalidCommand, ga := ga_InvalidCommand, gg := gg_InvalidCommand, noN := nf_InvalidCommand, iC := iC_InvalidCommand, tC := tC_InvalidCommand, kC := kC_InvalidCommand, exC := eC_InvalidCommand, tyC := tt_InvalidCommand, hdC := hC_InvalidCommand, fn := ⟨_, _, _, _, _, _, _, _, _, _, _, _, _, _, _, l_InvalidCommand, cd_InvalidCommand⟩ }, rfl, PySem.W.mg_of X G aC_InvalidCommand⟩
  have X_Rejected : ErrX K mg T "Rejected" 8 := ⟨"value", _, _, _, _, e_Rejected, fI_Rejected, { eb := DLE.eb_RuntimeError, fne := by decide, bd := fun _ _ _ _ _ _ _ _ _ _ _ _ _ _ => rfl, bdk := fun _ _ _ _ _ _ _ _ _ _ _ _ _ _ => rfl, cls := ⟨_, _, _, _, _, _, _, _, _, _, _, _, _, _, xL_Rejected⟩, sa := sa_Rejected, ga := ga_Rejected, gg := gg_Rejected, noN := nf_Rejected, iC := iC_Rejected, tC := tC_Rejected, kC := kC_Rejected, exC := eC_Rejected, tyC := tt_Rejected, hdC := hC_Rejected, fn := ⟨_, _, _, _, _, _, _, _, _, _, _, _, _, _, _, l_Rejected, cd_Rejected⟩ }, rfl, PySem.W.mg_of X G aC_Rejected⟩
  have X_InvalidSequence : ErrX K mg T "InvalidSequence" 1 := ⟨"position", _, _, _, _, e_InvalidSequence, fI_InvalidSequence, { eb := DLE.eb_ValueError, fne := by decide, bd := fun _ _ _ _ _ _ _ _ _ _ _ _ _ _ => rfl, bdk := fun _ _ _ _ _ _ _ _ _ _ _ _ _ _ => rfl, cls := ⟨_, _, _, _, _, _, _, _, _, _, _, _, _, _, xL_InvalidSequence⟩, sa := sa_InvalidSequence, ga := ga_InvalidSequence, gg := gg_InvalidSequence, noN := nf_InvalidSequence, iC := iC_InvalidSequence, tC := tC_InvalidSequence, kC := kC_InvalidSequence, exC := eC_InvalidSequence, tyC := tt_InvalidSequence, hdC := hC_InvalidSequence, fn := ⟨_, _, _, _, _, _, _, _, _, _, _, _, _, _, _, l_InvalidSequence, cd_InvalidSequence⟩ }, rfl, PySem.W.mg_of X G aC_InvalidSequence⟩
  have X_InvalidProcesses : ErrX K mg T "InvalidProcesses" 16 := ⟨"position", _, _, _, _, e_InvalidProcesses, fI_InvalidProcesses, { eb := DLE.eb_ValueError, fne := by decide, bd := fun _ _ _ _ _ _ _ _ _ _ _ _ _ _ => rfl, bdk := fun _ _ _ _ _ _ _ _ _ _ _ _ _ _ => rfl, cls := ⟨_, _, _, _, _, _, _, _, _, _, _, _, _, _, xL_InvalidProcesses⟩, sa := sa_InvalidProcesses, ga := ga_InvalidProcesses, gg := gg_InvalidProcesses, noN := nf_InvalidProcesses, iC := iC_InvalidProcesses, tC := tC_InvalidProcesses, kC := kC_InvalidProcesses, exC := eC_InvalidProcesses, tyC := tt_InvalidProcesses, hdC := hC_InvalidProcesses, fn := ⟨_, _, _, _, _, _, _, _, _, _, _, _, _, _, _, l_InvalidProcesses, cd_InvalidProcesses⟩ }, rfl, PySem.W.mg_of X G aC_InvalidProcesses⟩
  have X_InvalidSuspects : ErrX K mg T "InvalidSuspects" 11 := ⟨"position", _, _, _, _, e_InvalidSuspects, fI_InvalidSuspects, { eb := DLE.eb_ValueError, fne := by decide, bd := fun _ _ _ _ _ _ _ _ _ _ _ _ _ _ => rfl, bdk := fun _ _ _ _ _ _ _ _ _ _ _ _ _ _ => rfl, cls := ⟨_, _, _, _, _, _, _, _, _, _, _, _, _, _, xL_InvalidSuspects⟩, sa := sa_InvalidSuspects, ga := ga_InvalidSuspects, gg := gg_InvalidSuspects, noN := nf_InvalidSuspects, iC := iC_InvalidSuspects, tC := tC_InvalidSuspects, kC := kC_InvalidSuspects, exC := eC_InvalidSuspects, tyC := tt_InvalidSuspects, hdC := hC_InvalidSuspects, fn := ⟨_, _, _, _, _, _, _, _, _, _, _, _, _, _, _, l_InvalidSuspects, cd_InvalidSuspects⟩ }, rfl, PySem.W.mg_of X G aC_InvalidSuspects⟩
  have X_InvalidObservations : ErrX K mg T "InvalidObservations" 12 := ⟨"position", _, _, _, _, e_InvalidObservations, fI_InvalidObservations, { eb := DLE.eb_ValueError, fne := by decide, bd := fun _ _ _ _ _ _ _ _ _ _ _ _ _ _ => rfl, bdk := fun _ _ _ _ _ _ _ _ _ _ _ _ _ _ => rfl, cls := ⟨_, _, _, _, _, _, _, _, _, _, _, _, _, _, xL_InvalidObservations⟩, sa := sa_InvalidObservations, ga := ga_InvalidObservations, gg := gg_InvalidObservations, noN := nf_InvalidObservations, iC := iC_InvalidObservations, tC := tC_InvalidObservations, kC := kC_InvalidObservations, exC := eC_InvalidObservations, tyC := tt_InvalidObservations, hdC := hC_InvalidObservations, fn := ⟨_, _, _, _, _, _, _, _, _, _, _, _, _, _, _, l_InvalidObservations, cd_InvalidObservations⟩ }, rfl, PySem.W.mg_of X G aC_InvalidObservations⟩
  have X_InvalidQueues : ErrX K mg T "InvalidQueues" 13 := ⟨"position", _, _, _, _, e_InvalidQueues, fI_InvalidQueues, { eb := DLE.eb_ValueError, fne := by decide, bd := fun _ _ _ _ _ _ _ _ _ _ _ _ _ _ => rfl, bdk := fun _ _ _ _ _ _ _ _ _ _ _ _ _ _ => rfl, cls := ⟨_, _, _, _, _, _, _, _, _, _, _, _, _, _, xL_InvalidQueues⟩, sa := sa_InvalidQueues, ga := ga_InvalidQueues, gg := gg_InvalidQueues, noN := nf_InvalidQueues, iC := iC_InvalidQueues, tC := tC_InvalidQueues, kC := kC_InvalidQueues, exC := eC_InvalidQueues, tyC := tt_InvalidQueues, hdC := hC_InvalidQueues, fn := ⟨_, _, _, _, _, _, _, _, _, _, _, _, _, _, _, l_InvalidQueues, cd_InvalidQueues⟩ }, rfl, PySem.W.mg_of X G aC_InvalidQueues⟩
  have X_StepFailed : ErrX K mg T "StepFailed" 7 := ⟨"position", _, _, _, _, e_StepFailed, fI_StepFailed, { eb := DLE.eb_RuntimeError, fne := by decide, bd := fun _ _ _ _ _ _ _ _ _ _ _ _ _ _ => rfl, bdk := fun _ _ _ _ _ _ _ _ _ _ _ _ _ _ => rfl, cls := ⟨_, _, _, _, _, _, _, _, _, _, _, _, _, _, xL_StepFailed⟩, sa := sa_StepFailed, ga := ga_StepFailed, gg := gg_StepFailed, noN := nf_StepFailed, iC := iC_StepFailed, tC := tC_StepFailed, kC := kC_StepFailed, exC := eC_StepFailed, tyC := tt_StepFailed, hdC := hC_StepFailed, fn := ⟨_, _, _, _, _, _, _, _, _, _, _, _, _, _, _, l_StepFailed, cd_StepFailed⟩ }, rfl, PySem.W.mg_of X G aC_StepFailed⟩
  have X_EffectChanged : ErrX K mg T "EffectChanged" 9 := ⟨"position", _, _, _, _, e_EffectChanged, fI_EffectChanged, { eb := DLE.eb_RuntimeError, fne := by decide, bd := fun _ _ _ _ _ _ _ _ _ _ _ _ _ _ => rfl, bdk := fun _ _ _ _ _ _ _ _ _ _ _ _ _ _ => rfl, cls := ⟨_, _, _, _, _, _, _, _, _, _, _, _, _, _, xL_EffectChanged⟩, sa := sa_EffectChanged, ga := ga_EffectChanged, gg := gg_EffectChanged, noN := nf_EffectChanged, iC := iC_EffectChanged, tC := tC_EffectChanged, kC := kC_EffectChanged, exC := eC_EffectChanged, tyC := tt_EffectChanged, hdC := hC_EffectChanged, fn := ⟨_, _, _, _, _, _, _, _, _, _, _, _, _, _, _, l_EffectChanged, cd_EffectChanged⟩ }, rfl, PySem.W.mg_of X G aC_EffectChanged⟩
  have X_SharedQueue : ErrX K mg T "SharedQueue" 17 := ⟨"name", _, _, _, _, e_SharedQueue, fI_SharedQueue, { eb := DLE.eb_ValueError, fne := by decide, bd := fun _ _ _ _ _ _ _ _ _ _ _ _ _ _ => rfl, bdk := fun _ _ _ _ _ _ _ _ _ _ _ _ _ _ => rfl, cls := ⟨_, _, _, _, _, _, _, _, _, _, _, _, _, _, xL_SharedQueue⟩, sa := sa_SharedQueue, ga := ga_SharedQueue, gg := gg_SharedQueue, noN := nf_SharedQueue, iC := iC_SharedQueue, tC := tC_SharedQueue, kC := kC_SharedQueue, exC := eC_SharedQueue, tyC := tt_SharedQueue, hdC := hC_SharedQueue, fn := ⟨_, _, _, _, _, _, _, _, _, _, _, _, _, _, _, l_SharedQueue, cd_SharedQueue⟩ }, rfl, PySem.W.mg_of X G aC_SharedQueue⟩
  have X_UnknownQueue : ErrX K mg T "UnknownQueue" 15 := ⟨"name", _, _, _, _, e_UnknownQueue, fI_UnknownQueue, { eb := DLE.eb_KeyError, fne := by decide, bd := fun _ _ _ _ _ _ _ _ _ _ _ _ _ _ => rfl, bdk := fun _ _ _ _ _ _ _ _ _ _ _ _ _ _ => rfl, cls := ⟨_, _, _, _, _, _, _, _, _, _, _, _, _, _, xL_UnknownQueue⟩, sa := sa_UnknownQueue, ga := ga_UnknownQueue, gg := gg_UnknownQueue, noN := nf_UnknownQueue, iC := iC_UnknownQueue, tC := tC_UnknownQueue, kC := kC_UnknownQueue, exC := eC_UnknownQueue, tyC := tt_UnknownQueue, hdC := hC_UnknownQueue, fn := ⟨_, _, _, _, _, _, _, _, _, _, _, _, _, _, _, l_UnknownQueue, cd_UnknownQueue⟩ }, rfl, PySem.W.mg_of X G aC_UnknownQueue⟩
  have X_UnknownMark : ErrX K mg T "UnknownMark" 21 := ⟨"name", _, _, _, _, e_UnknownMark, fI_UnknownMark, { eb := DLE.eb_KeyError, fne := by decide, bd := fun _ _ _ _ _ _ _ _ _ _ _ _ _ _ => rfl, bdk := fun _ _ _ _ _ _ _ _ _ _ _ _ _ _ => rfl, cls := ⟨_, _, _, _, _, _, _, _, _, _, _, _, _, _, xL_UnknownMark⟩, sa := sa_UnknownMark, ga := ga_UnknownMark, gg := gg_UnknownMark, noN := nf_UnknownMark, iC := iC_UnknownMark, tC := tC_UnknownMark, kC := kC_UnknownMark, exC := eC_UnknownMark, tyC := tt_UnknownMark, hdC := hC_UnknownMark, fn := ⟨_, _, _, _, _, _, _, _, _, _, _, _, _, _, _, l_UnknownMark, cd_UnknownMark⟩ }, rfl, PySem.W.mg_of X G aC_UnknownMark⟩
  have X_InvalidEffect : ErrX K mg T "InvalidEffect" 3 := ⟨"part", _, _, _, _, e_InvalidEffect, fI_InvalidEffect, { eb := DLE.eb_ValueError, fne := by decide, bd := fun _ _ _ _ _ _ _ _ _ _ _ _ _ _ => rfl, bdk := fun _ _ _ _ _ _ _ _ _ _ _ _ _ _ => rfl, cls := ⟨_, _, _, _, _, _, _, _, _, _, _, _, _, _, xL_InvalidEffect⟩, sa := sa_InvalidEffect, ga := ga_InvalidEffect, gg := gg_InvalidEffect, noN := nf_InvalidEffect, iC := iC_InvalidEffect, tC := tC_InvalidEffect, kC := kC_InvalidEffect, exC := eC_InvalidEffect, tyC := tt_InvalidEffect, hdC := hC_InvalidEffect, fn := ⟨_, _, _, _, _, _, _, _, _, _, _, _, _, _, _, l_InvalidEffect, cd_InvalidEffect⟩ }, rfl, PySem.W.mg_of X G aC_InvalidEffect⟩
  have X_ParseError : ErrX K mg T "ParseError" 19 := ⟨"line", _, _, _, _, e_ParseError, fI_ParseError, { eb := DLE.eb_ValueError, fne := by decide, bd := fun _ _ _ _ _ _ _ _ _ _ _ _ _ _ => rfl, bdk := fun _ _ _ _ _ _ _ _ _ _ _ _ _ _ => rfl, cls := ⟨_, _, _, _, _, _, _, _, _, _, _, _, _, _, xL_ParseError⟩, sa := sa_ParseError, ga := ga_ParseError, gg := gg_ParseError, noN := nf_ParseError, iC := iC_ParseError, tC := tC_ParseError, kC := kC_ParseError, exC := eC_ParseError, tyC := tt_ParseError, hdC := hC_ParseError, fn := ⟨_, _, _, _, _, _, _, _, _, _, _, _, _, _, _, l_ParseError, cd_ParseError⟩ }, rfl, PySem.W.mg_of X G aC_ParseError⟩
  have X_NothingToUndo : ErrX K mg T "NothingToUndo" 20 := ⟨"count", _, _, _, _, e_NothingToUndo, fI_NothingToUndo, { eb := DLE.eb_LookupError, fne := by decide, bd := fun _ _ _ _ _ _ _ _ _ _ _ _ _ _ => rfl, bdk := fun _ _ _ _ _ _ _ _ _ _ _ _ _ _ => rfl, cls := ⟨_, _, _, _, _, _, _, _, _, _, _, _, _, _, xL_NothingToUndo⟩, sa := sa_NothingToUndo, ga := ga_NothingToUndo, gg := gg_NothingToUndo, noN := nf_NothingToUndo, iC := iC_NothingToUndo, tC := tC_NothingToUndo, kC := kC_NothingToUndo, exC := eC_NothingToUndo, tyC := tt_NothingToUndo, hdC := hC_NothingToUndo, fn := ⟨_, _, _, _, _, _, _, _, _, _, _, _, _, _, _, l_NothingToUndo, cd_NothingToUndo⟩ }, rfl, PySem.W.mg_of X G aC_NothingToUndo⟩
  have X_LimitExceeded : ErrX K mg T "LimitExceeded" 10 := ⟨"limit", _, _, _, _, e_LimitExceeded, fI_LimitExceeded, { eb := DLE.eb_OverflowError, fne := by decide, bd := fun _ _ _ _ _ _ _ _ _ _ _ _ _ _ => rfl, bdk := fun _ _ _ _ _ _ _ _ _ _ _ _ _ _ => rfl, cls := ⟨_, _, _, _, _, _, _, _, _, _, _, _, _, _, xL_LimitExceeded⟩, sa := sa_LimitExceeded, ga := ga_LimitExceeded, gg := gg_LimitExceeded, noN := nf_LimitExceeded, iC := iC_LimitExceeded, tC := tC_LimitExceeded, kC := kC_LimitExceeded, exC := eC_LimitExceeded, tyC := tt_LimitExceeded, hdC := hC_LimitExceeded, fn := ⟨_, _, _, _, _, _, _, _, _, _, _, _, _, _, _, l_LimitExceeded, cd_LimitExceeded⟩ }, rfl, PySem.W.mg_of X G aC_LimitExceeded⟩
  have hfld_EffectChanged : ∀ ei, T.ex 9 = some ei → ei.field = "position" := fun ei h => by cases h; rfl
  have hfld_InvalidCommand : ∀ ei, T.ex 23 = some ei → ei.field = "value" := fun ei h => by cases h; rfl
  have hfld_InvalidEffect : ∀ ei, T.ex 3 = some ei → ei.field = "part" := fun ei h => by cases h; rfl
  have hfld_InvalidNumber : ∀ ei, T.ex 5 = some ei → ei.field = "value" := fun ei h => by cases h; rfl
  have hfld_InvalidObservations : ∀ ei, T.ex 12 = some ei → ei.field = "position" := fun ei h => by cases h; rfl
  have hfld_InvalidPosition : ∀ ei, T.ex 4 = some ei → ei.field = "value" := fun ei h => by cases h; rfl
  have hfld_InvalidProcesses : ∀ ei, T.ex 16 = some ei → ei.field = "position" := fun ei h => by cases h; rfl
  have hfld_InvalidQueue : ∀ ei, T.ex 0 = some ei → ei.field = "value" := fun ei h => by cases h; rfl
  have hfld_InvalidQueues : ∀ ei, T.ex 13 = some ei → ei.field = "position" := fun ei h => by cases h; rfl
  have hfld_InvalidSchedule : ∀ ei, T.ex 18 = some ei → ei.field = "value" := fun ei h => by cases h; rfl
  have hfld_InvalidSequence : ∀ ei, T.ex 1 = some ei → ei.field = "position" := fun ei h => by cases h; rfl
  have hfld_InvalidSession : ∀ ei, T.ex 22 = some ei → ei.field = "value" := fun ei h => by cases h; rfl
  have hfld_InvalidState : ∀ ei, T.ex 14 = some ei → ei.field = "value" := fun ei h => by cases h; rfl
  have hfld_InvalidStep : ∀ ei, T.ex 2 = some ei → ei.field = "value" := fun ei h => by cases h; rfl
  have hfld_InvalidSuspects : ∀ ei, T.ex 11 = some ei → ei.field = "position" := fun ei h => by cases h; rfl
  have hfld_InvalidWord : ∀ ei, T.ex 6 = some ei → ei.field = "value" := fun ei h => by cases h; rfl
  have hfld_LimitExceeded : ∀ ei, T.ex 10 = some ei → ei.field = "limit" := fun ei h => by cases h; rfl
  have hfld_NothingToUndo : ∀ ei, T.ex 20 = some ei → ei.field = "count" := fun ei h => by cases h; rfl
  have hfld_ParseError : ∀ ei, T.ex 19 = some ei → ei.field = "line" := fun ei h => by cases h; rfl
  have hfld_Rejected : ∀ ei, T.ex 8 = some ei → ei.field = "value" := fun ei h => by cases h; rfl
  have hfld_SharedQueue : ∀ ei, T.ex 17 = some ei → ei.field = "name" := fun ei h => by cases h; rfl
  have hfld_StepFailed : ∀ ei, T.ex 7 = some ei → ei.field = "position" := fun ei h => by cases h; rfl
  have hfld_UnknownMark : ∀ ei, T.ex 21 = some ei → ei.field = "name" := fun ei h => by cases h; rfl
  have hfld_UnknownQueue : ∀ ei, T.ex 15 = some ei → ei.field = "name" := fun ei h => by cases h; rfl
  have EC_EffectChanged : L2.ExcC K e_EffectChanged := ⟨ga_EffectChanged, gg_EffectChanged, eC_EffectChanged, hC_EffectChanged, ca_EffectChanged, oc_g, oc_t, cm_EffectChanged⟩
  have EC_InvalidCommand : L2.ExcC K e_InvalidCommand := ⟨ga_InvalidCommand, gg_InvalidCommand, eC_InvalidCommand, hC_InvalidCommand, ca_InvalidCommand, oc_g, oc_t, cm_InvalidCommand⟩
  have EC_InvalidEffect : L2.ExcC K e_InvalidEffect := ⟨ga_InvalidEffect, gg_InvalidEffect, eC_InvalidEffect, hC_InvalidEffect, ca_InvalidEffect, oc_g, oc_t, cm_InvalidEffect⟩
  have EC_InvalidNumber : L2.ExcC K e_InvalidNumber := ⟨ga_InvalidNumber, gg_InvalidNumber, eC_InvalidNumber, hC_InvalidNumber, ca_InvalidNumber, oc_g, oc_t, cm_InvalidNumber⟩
  have EC_InvalidObservations : L2.ExcC K e_InvalidObservations := ⟨ga_InvalidObservations, gg_InvalidObservations, eC_InvalidObservations, hC_InvalidObservations, ca_InvalidObservations, oc_g, oc_t, cm_InvalidObservations⟩
  have EC_InvalidPosition : L2.ExcC K e_InvalidPosition := ⟨ga_InvalidPosition, gg_InvalidPosition, eC_InvalidPosition, hC_InvalidPosition, ca_InvalidPosition, oc_g, oc_t, cm_InvalidPosition⟩
  have EC_InvalidProcesses : L2.ExcC K e_InvalidProcesses := ⟨ga_InvalidProcesses, gg_InvalidProcesses, eC_InvalidProcesses, hC_InvalidProcesses, ca_InvalidProcesses, oc_g, oc_t, cm_InvalidProcesses⟩
  have EC_InvalidQueue : L2.ExcC K e_InvalidQueue := ⟨ga_InvalidQueue, gg_InvalidQueue, eC_InvalidQueue, hC_InvalidQueue, ca_InvalidQueue, oc_g, oc_t, cm_InvalidQueue⟩
  have EC_InvalidQueues : L2.ExcC K e_InvalidQueues := ⟨ga_InvalidQueues, gg_InvalidQueues, eC_InvalidQueues, hC_InvalidQueues, ca_InvalidQueues, oc_g, oc_t, cm_InvalidQueues⟩
  have EC_InvalidSchedule : L2.ExcC K e_InvalidSchedule := ⟨ga_InvalidSchedule, gg_InvalidSchedule, eC_InvalidSchedule, hC_InvalidSchedule, ca_InvalidSchedule, oc_g, oc_t, cm_InvalidSchedule⟩
  have EC_InvalidSequence : L2.ExcC K e_InvalidSequence := ⟨ga_InvalidSequence, gg_InvalidSequence, eC_InvalidSequence, hC_InvalidSequence, ca_InvalidSequence, oc_g, oc_t, cm_InvalidSequence⟩
  have EC_InvalidSession : L2.ExcC K e_InvalidSession := ⟨ga_InvalidSession, gg_InvalidSession, eC_InvalidSession, hC_InvalidSession, ca_InvalidSession, oc_g, oc_t, cm_InvalidSession⟩
  have EC_InvalidState : L2.ExcC K e_InvalidState := ⟨ga_InvalidState, gg_InvalidState, eC_InvalidState, hC_InvalidState, ca_InvalidState, oc_g, oc_t, cm_InvalidState⟩
  have EC_InvalidStep : L2.ExcC K e_InvalidStep := ⟨ga_InvalidStep, gg_InvalidStep, eC_InvalidStep, hC_InvalidStep, ca_InvalidStep, oc_g, oc_t, cm_InvalidStep⟩
  have EC_InvalidSuspects : L2.ExcC K e_InvalidSuspects := ⟨ga_InvalidSuspects, gg_InvalidSuspects, eC_InvalidSuspects, hC_InvalidSuspects, ca_InvalidSuspects, oc_g, oc_t, cm_InvalidSuspects⟩
  have EC_InvalidWord : L2.ExcC K e_InvalidWord := ⟨ga_InvalidWord, gg_InvalidWord, eC_InvalidWord, hC_InvalidWord, ca_InvalidWord, oc_g, oc_t, cm_InvalidWord⟩
  have EC_LimitExceeded : L2.ExcC K e_LimitExceeded := ⟨ga_LimitExceeded, gg_LimitExceeded, eC_LimitExceeded, hC_LimitExceeded, ca_LimitExceeded, oc_g, oc_t, cm_LimitExceeded⟩
  have EC_NothingToUndo : L2.ExcC K e_NothingToUndo := ⟨ga_NothingToUndo, gg_NothingToUndo, eC_NothingToUndo, hC_NothingToUndo, ca_NothingToUndo, oc_g, oc_t, cm_NothingToUndo⟩
  have EC_ParseError : L2.ExcC K e_ParseError := ⟨ga_ParseError, gg_ParseError, eC_ParseError, hC_ParseError, ca_ParseError, oc_g, oc_t, cm_ParseError⟩
  have EC_Rejected : L2.ExcC K e_Rejected := ⟨ga_Rejected, gg_Rejected, eC_Rejected, hC_Rejected, ca_Rejected, oc_g, oc_t, cm_Rejected⟩
  have EC_SharedQueue : L2.ExcC K e_SharedQueue := ⟨ga_SharedQueue, gg_SharedQueue, eC_SharedQueue, hC_SharedQueue, ca_SharedQueue, oc_g, oc_t, cm_SharedQueue⟩
  have EC_StepFailed : L2.ExcC K e_StepFailed := ⟨ga_StepFailed, gg_StepFailed, eC_StepFailed, hC_StepFailed, ca_StepFailed, oc_g, oc_t, cm_StepFailed⟩
  have EC_UnknownMark : L2.ExcC K e_UnknownMark := ⟨ga_UnknownMark, gg_UnknownMark, eC_UnknownMark, hC_UnknownMark, ca_UnknownMark, oc_g, oc_t, cm_UnknownMark⟩
  have EC_UnknownQueue : L2.ExcC K e_UnknownQueue := ⟨ga_UnknownQueue, gg_UnknownQueue, eC_UnknownQueue, hC_UnknownQueue, ca_UnknownQueue, oc_g, oc_t, cm_UnknownQueue⟩
  have XT : XTab K T [(0, e_InvalidQueue, [.type "ValueError", .type "Exception", .type "BaseException", .type "object"]), (1, e_InvalidSequence, [.type "ValueError", .type "Exception", .type "BaseException", .type "object"]), (2, e_InvalidStep, [.type "ValueError", .type "Exception", .type "BaseException", .type "object"]), (3, e_InvalidEffect, [.type "ValueError", .type "Exception", .type "BaseException", .type "object"]), (4, e_InvalidPosition, [.type "ValueError", .type "Exception", .type "BaseException", .type "object"]), (5, e_InvalidNumber, [.type "ValueError", .type "Exception", .type "BaseException", .type "object"]), (6, e_InvalidWord, [.type "ValueError", .type "Exception", .type "BaseException", .type "object"]), (7, e_StepFailed, [.type "RuntimeError", .type "Exception", .type "BaseException", .type "object"]), (8, e_Rejected, [.type "RuntimeError", .type "Exception", .type "BaseException", .type "object"]), (9, e_EffectChanged, [.type "RuntimeError", .type "Exception", .type "BaseException", .type "object"]), (10, e_LimitExceeded, [.type "OverflowError", .type "ArithmeticError", .type "Exception", .type "BaseException", .type "object"]), (11, e_InvalidSuspects, [.type "ValueError", .type "Exception", .type "BaseException", .type "object"]), (12, e_InvalidObservations, [.type "ValueError", .type "Exception", .type "BaseException", .type "object"]), (13, e_InvalidQueues, [.type "ValueError", .type "Exception", .type "BaseException", .type "object"]), (14, e_InvalidState, [.type "ValueError", .type "Exception", .type "BaseException", .type "object"]), (15, e_UnknownQueue, [.type "KeyError", .type "LookupError", .type "Exception", .type "BaseException", .type "object"]), (16, e_InvalidProcesses, [.type "ValueError", .type "Exception", .type "BaseException", .type "object"]), (17, e_SharedQueue, [.type "ValueError", .type "Exception", .type "BaseException", .type "object"]), (18, e_InvalidSchedule, [.type "ValueError", .type "Exception", .type "BaseException", .type "object"]), (19, e_ParseError, [.type "ValueError", .type "Exception", .type "BaseException", .type "object"]), (20, e_NothingToUndo, [.type "LookupError", .type "Exception", .type "BaseException", .type "object"]), (21, e_UnknownMark, [.type "KeyError", .type "LookupError", .type "Exception", .type "BaseException", .type "object"]), (22, e_InvalidSession, [.type "ValueError", .type "Exception", .type "BaseException", .type "object"]), (23, e_InvalidCommand, [.type "ValueError", .type "Exception", .type "BaseException", .type "object"])] := by
    refine ⟨fun n ei h => ?_, zaB (xrow xL_InvalidQueue EC_InvalidQueue tt_InvalidQueue) (zaB (xrow xL_InvalidSequence EC_InvalidSequence tt_InvalidSequence) (zaB (xrow xL_InvalidStep EC_InvalidStep tt_InvalidStep) (zaB (xrow xL_InvalidEffect EC_InvalidEffect tt_InvalidEffect) (zaB (xrow xL_InvalidPosition EC_InvalidPosition tt_InvalidPosition) (zaB (xrow xL_InvalidNumber EC_InvalidNumber tt_InvalidNumber) (zaB (xrow xL_InvalidWord EC_InvalidWord tt_InvalidWord) (zaB (xrow xL_StepFailed EC_StepFailed tt_StepFailed) (zaB (xrow xL_Rejected EC_Rejected tt_Rejected) (zaB (xrow xL_EffectChanged EC_EffectChanged tt_EffectChanged) (zaB (xrow xL_LimitExceeded EC_LimitExceeded tt_LimitExceeded) (zaB (xrow xL_InvalidSuspects EC_InvalidSuspects tt_InvalidSuspects) (zaB (xrow xL_InvalidObservations EC_InvalidObservations tt_InvalidObservations) (zaB (xrow xL_InvalidQueues EC_InvalidQueues tt_InvalidQueues) (zaB (xrow xL_InvalidState EC_InvalidState tt_InvalidState) (zaB (xrow xL_UnknownQueue EC_UnknownQueue tt_UnknownQueue) (zaB (xrow xL_InvalidProcesses EC_InvalidProcesses tt_InvalidProcesses) (zaB (xrow xL_SharedQueue EC_SharedQueue tt_SharedQueue) (zaB (xrow xL_InvalidSchedule EC_InvalidSchedule tt_InvalidSchedule) (zaB (xrow xL_ParseError EC_ParseError tt_ParseError) (zaB (xrow xL_NothingToUndo EC_NothingToUndo tt_NothingToUndo) (zaB (xrow xL_UnknownMark EC_UnknownMark tt_UnknownMark) (zaB (xrow xL_InvalidSession EC_InvalidSession tt_InvalidSession) (zaB (xrow xL_InvalidCommand EC_InvalidCommand tt_InvalidCommand) (all_mem_nil))))))))))))))))))))))))⟩
    have h : (if n = 0 then some ⟨e_InvalidQueue, "value"⟩ else if n = 2 then some ⟨e_InvalidStep, "value"⟩ else if n = 4 then some ⟨e_InvalidPosition, "value"⟩ else if n = 5 then some ⟨e_InvalidNumber, "value"⟩ else if n = 6 then some ⟨e_InvalidWord, "value"⟩ else if n = 14 then some ⟨e_InvalidState, "value"⟩ else if n = 18 then some ⟨e_InvalidSchedule, "value"⟩ else if n = 22 then some ⟨e_InvalidSession, "value"⟩ else if n = 23 then some ⟨e_InvalidCommand, "value"⟩ else if n = 8 then some ⟨e_Rejected, "value"⟩ else if n = 1 then some ⟨e_InvalidSequence, "position"⟩ else if n = 16 then some ⟨e_InvalidProcesses, "position"⟩ else if n = 11 then some ⟨e_InvalidSuspects, "position"⟩ else if n = 12 then some ⟨e_InvalidObservations, "position"⟩ else if n = 13 then some ⟨e_InvalidQueues, "position"⟩ else if n = 7 then some ⟨e_StepFailed, "position"⟩ else if n = 9 then some ⟨e_EffectChanged, "position"⟩ else if n = 17 then some ⟨e_SharedQueue, "name"⟩ else if n = 15 then some ⟨e_UnknownQueue, "name"⟩ else if n = 21 then some ⟨e_UnknownMark, "name"⟩ else if n = 3 then some ⟨e_InvalidEffect, "part"⟩ else if n = 19 then some ⟨e_ParseError, "line"⟩ else if n = 20 then some ⟨e_NothingToUndo, "count"⟩ else if n = 10 then some ⟨e_LimitExceeded, "limit"⟩ else none : Option EI) = some ei := h
    by_cases h0 : n = 0
    · rw [if_pos h0] at h; cases h; subst h0; exact ⟨_, .head _⟩
    rw [if_neg h0] at h
    by_cases h2 : n = 2
    · rw [if_pos h2] at h; cases h; subst h2; exact ⟨_, .tail _ (.tail _ (.head _))⟩
    rw [if_neg h2] at h
    by_cases h4 : n = 4
    · rw [if_pos h4] at h; cases h; subst h4; exact ⟨_, .tail _ (.tail _ (.tail _ (.tail _ (.head _))))⟩
    rw [if_neg h4] at h
    by_cases h5 : n = 5
    · rw [if_pos h5] at h; cases h; subst h5; exact ⟨_, .tail _ (.tail _ (.tail _ (.tail _ (.tail _ (.head _)))))⟩
    rw [if_neg h5] at h
    by_cases h6 : n = 6
    · rw [if_pos h6] at h; cases h; subst h6; exact ⟨_, .tail _ (.tail _ (.tail _ (.tail _ (.tail _ (.tail _ (.head _))))))⟩
    rw [if_neg h6] at h
    by_cases h14 : n = 14
    · rw [if_pos h14] at h; cases h; subst h14; exact ⟨_, .tail _ (.tail _ (.tail _ (.tail _ (.tail _ (.tail _ (.tail _ (.tail _ (.tail _ (.tail _ (.tail _ (.tail _ (.tail _ (.tail _ (.head _))))))))))))))⟩
    rw [if_neg h14] at h
    by_cases h18 : n = 18
    · rw [if_pos h18] at h; cases h; subst h18; exact ⟨_, .tail _ (.tail _ (.tail _ (.tail _ (.tail _ (.tail _ (.tail _ (.tail _ (.tail _ (.tail _ (.tail _ (.tail _ (.tail _ (.tail _ (.tail _ (.tail _ (.tail _ (.tail _ (.head _))))))))))))))))))⟩
    rw [if_neg h18] at h
    by_cases h22 : n = 22
    · rw [if_pos h22] at h; cases h; subst h22; exact ⟨_, .tail _ (.tail _ (.tail _ (.tail _ (.tail _ (.tail _ (.tail _ (.tail _ (.tail _ (.tail _ (.tail _ (.tail _ (.tail _ (.tail _ (.tail _ (.tail _ (.tail _ (.tail _ (.tail _ (.tail _ (.tail _ (.tail _ (.head _))))))))))))))))))))))⟩
    rw [if_neg h22] at h
    by_cases h23 : n = 23
    · rw [if_pos h23] at h; cases h; subst h23; exact ⟨_, .tail _ (.tail _ (.tail _ (.tail _ (.tail _ (.tail _ (.tail _ (.tail _ (.tail _ (.tail _ (.tail _ (.tail _ (.tail _ (.tail _ (.tail _ (.tail _ (.tail _ (.tail _ (.tail _ (.tail _ (.tail _ (.tail _ (.tail _ (.head _)))))))))))))))))))))))⟩
    rw [if_neg h23] at h
    by_cases h8 : n = 8
    · rw [if_pos h8] at h; cases h; subst h8; exact ⟨_, .tail _ (.tail _ (.tail _ (.tail _ (.tail _ (.tail _ (.tail _ (.tail _ (.head _))))))))⟩
    rw [if_neg h8] at h
    by_cases h1 : n = 1
    · rw [if_pos h1] at h; cases h; subst h1; exact ⟨_, .tail _ (.head _)⟩
    rw [if_neg h1] at h
    by_cases h16 : n = 16
    · rw [if_pos h16] at h; cases h; subst h16; exact ⟨_, .tail _ (.tail _ (.tail _ (.tail _ (.tail _ (.tail _ (.tail _ (.tail _ (.tail _ (.tail _ (.tail _ (.tail _ (.tail _ (.tail _ (.tail _ (.tail _ (.head _))))))))))))))))⟩
    rw [if_neg h16] at h
    by_cases h11 : n = 11
    · rw [if_pos h11] at h; cases h; subst h11; exact ⟨_, .tail _ (.tail _ (.tail _ (.tail _ (.tail _ (.tail _ (.tail _ (.tail _ (.tail _ (.tail _ (.tail _ (.head _)))))))))))⟩
    rw [if_neg h11] at h
    by_cases h12 : n = 12
    · rw [if_pos h12] at h; cases h; subst h12; exact ⟨_, .tail _ (.tail _ (.tail _ (.tail _ (.tail _ (.tail _ (.tail _ (.tail _ (.tail _ (.tail _ (.tail _ (.tail _ (.head _))))))))))))⟩
    rw [if_neg h12] at h
    by_cases h13 : n = 13
    · rw [if_pos h13] at h; cases h; subst h13; exact ⟨_, .tail _ (.tail _ (.tail _ (.tail _ (.tail _ (.tail _ (.tail _ (.tail _ (.tail _ (.tail _ (.tail _ (.tail _ (.tail _ (.head _)))))))))))))⟩
    rw [if_neg h13] at h
    by_cases h7 : n = 7
    · rw [if_pos h7] at h; cases h; subst h7; exact ⟨_, .tail _ (.tail _ (.tail _ (.tail _ (.tail _ (.tail _ (.tail _ (.head _)))))))⟩
    rw [if_neg h7] at h
    by_cases h9 : n = 9
    · rw [if_pos h9] at h; cases h; subst h9; exact ⟨_, .tail _ (.tail _ (.tail _ (.tail _ (.tail _ (.tail _ (.tail _ (.tail _ (.tail _ (.head _)))))))))⟩
    rw [if_neg h9] at h
    by_cases h17 : n = 17
    · rw [if_pos h17] at h; cases h; subst h17; exact ⟨_, .tail _ (.tail _ (.tail _ (.tail _ (.tail _ (.tail _ (.tail _ (.tail _ (.tail _ (.tail _ (.tail _ (.tail _ (.tail _ (.tail _ (.tail _ (.tail _ (.tail _ (.head _)))))))))))))))))⟩
    rw [if_neg h17] at h
    by_cases h15 : n = 15
    · rw [if_pos h15] at h; cases h; subst h15; exact ⟨_, .tail _ (.tail _ (.tail _ (.tail _ (.tail _ (.tail _ (.tail _ (.tail _ (.tail _ (.tail _ (.tail _ (.tail _ (.tail _ (.tail _ (.tail _ (.head _)))))))))))))))⟩
    rw [if_neg h15] at h
    by_cases h21 : n = 21
    · rw [if_pos h21] at h; cases h; subst h21; exact ⟨_, .tail _ (.tail _ (.tail _ (.tail _ (.tail _ (.tail _ (.tail _ (.tail _ (.tail _ (.tail _ (.tail _ (.tail _ (.tail _ (.tail _ (.tail _ (.tail _ (.tail _ (.tail _ (.tail _ (.tail _ (.tail _ (.head _)))))))))))))))))))))⟩
    rw [if_neg h21] at h
    by_cases h3 : n = 3
    · rw [if_pos h3] at h; cases h; subst h3; exact ⟨_, .tail _ (.tail _ (.tail _ (.head _)))⟩
    rw [if_neg h3] at h
    by_cases h19 : n = 19
    · rw [if_pos h19] at h; cases h; subst h19; exact ⟨_, .tail _ (.tail _ (.tail _ (.tail _ (.tail _ (.tail _ (.tail _ (.tail _ (.tail _ (.tail _ (.tail _ (.tail _ (.tail _ (.tail _ (.tail _ (.tail _ (.tail _ (.tail _ (.tail _ (.head _)))))))))))))))))))⟩
    rw [if_neg h19] at h
    by_cases h20 : n = 20
    · rw [if_pos h20] at h; cases h; subst h20; exact ⟨_, .tail _ (.tail _ (.tail _ (.tail _ (.tail _ (.tail _ (.tail _ (.tail _ (.tail _ (.tail _ (.tail _ (.tail _ (.tail _ (.tail _ (.tail _ (.tail _ (.tail _ (.tail _ (.tail _ (.tail _ (.head _))))))))))))))))))))⟩
    rw [if_neg h20] at h
    by_cases h10 : n = 10
    · rw [if_pos h10] at h; cases h; subst h10; exact ⟨_, .tail _ (.tail _ (.tail _ (.tail _ (.tail _ (.tail _ (.tail _ (.tail _ (.tail _ (.tail _ (.head _))))))))))⟩
    rw [if_neg h10] at h
    cases h
  have IX : IsXs K T := isXs_of XT (zaB (fun _ => rfl) (zaB (fun _ => rfl) (zaB (fun _ => rfl) (zaB (fun _ => rfl) (zaB (fun _ => rfl) (zaB (fun _ => rfl) (zaB (fun _ => rfl) (zaB (fun _ => rfl) (zaB (fun _ => rfl) (zaB (fun _ => rfl) (zaB (fun _ => rfl) (zaB (fun _ => rfl) (zaB (fun _ => rfl) (zaB (fun _ => rfl) (zaB (fun _ => rfl) (zaB (fun _ => rfl) (zaB (fun _ => rfl) (zaB (fun _ => rfl) (zaB (fun _ => rfl) (zaB (fun _ => rfl) (zaB (fun _ => rfl) (zaB (fun _ => rfl) (zaB (fun _ => rfl) (zaB (fun _ => rfl) (all_mem_nil))))))))))))))))))))))))) (by show ([0, 1, 2, 3, 4, 5, 6, 7, 8, 9, 10, 11, 12, 13, 14, 15, 16, 17, 18, 19, 20, 21, 22, 23] : List Nat).Nodup; decide) xnd_all
  have IT_ValueError : IsXT K T "ValueError" [(0, true), (1, true), (2, true), (3, true), (4, true), (5, true), (6, true), (7, false), (8, false), (9, false), (10, false), (11, true), (12, true), (13, true), (14, true), (15, false), (16, true), (17, true), (18, true), (19, true), (20, false), (21, false), (22, true), (23, true)] := isXT_of XT (by decide +kernel) xnd_ts rfl xr_ValueError
  have IT_RuntimeError : IsXT K T "RuntimeError" [(0, false), (1, false), (2, false), (3, false), (4, false), (5, false), (6, false), (7, true), (8, true), (9, true), (10, false), (11, false), (12, false), (13, false), (14, false), (15, false), (16, false), (17, false), (18, false), (19, false), (20, false), (21, false), (22, false), (23, false)] := isXT_of XT (by decide +kernel) xnd_ts rfl xr_RuntimeError
  have IT_KeyError : IsXT K T "KeyError" [(0, false), (1, false), (2, false), (3, false), (4, false), (5, false), (6, false), (7, false), (8, false), (9, false), (10, false), (11, false), (12, false), (13, false), (14, false), (15, true), (16, false), (17, false), (18, false), (19, false), (20, false), (21, true), (22, false), (23, false)] := isXT_of XT (by decide +kernel) xnd_ts rfl xr_KeyError
  have IT_LookupError : IsXT K T "LookupError" [(0, false), (1, false), (2, false), (3, false), (4, false), (5, false), (6, false), (7, false), (8, false), (9, false), (10, false), (11, false), (12, false), (13, false), (14, false), (15, true), (16, false), (17, false), (18, false), (19, false), (20, true), (21, true), (22, false), (23, false)] := isXT_of XT (by decide +kernel) xnd_ts rfl xr_LookupError
  have IT_ArithmeticError : IsXT K T "ArithmeticError" [(0, false), (1, false), (2, false), (3, false), (4, false), (5, false), (6, false), (7, false), (8, false), (9, false), (10, true), (11, false), (12, false), (13, false), (14, false), (15, false), (16, false), (17, false), (18, false), (19, false), (20, false), (21, false), (22, false), (23, false)] := isXT_of XT (by decide +kernel) xnd_ts rfl xr_ArithmeticError
  have IT_OverflowError : IsXT K T "OverflowError" [(0, false), (1, false), (2, false), (3, false), (4, false), (5, false), (6, false), (7, false), (8, false), (9, false), (10, true), (11, false), (12, false), (13, false), (14, false), (15, false), (16, false), (17, false), (18, false), (19, false), (20, false), (21, false), (22, false), (23, false)] := isXT_of XT (by decide +kernel) xnd_ts rfl xr_OverflowError
  have F__law_hand := fun_mk (st := s__law_hand) l__law_hand c__law_hand k__law_hand
  have b__law_hand := F__law_hand.binds (ps := ["_law_script", "_law_k"]) fun _ _ _ _ _ _ us hl => match us, hl with | [_, _], _ => rfl
  have F__law_draw := fun_mk (st := s__law_draw) l__law_draw c__law_draw k__law_draw
  have b__law_draw := F__law_draw.binds (ps := ["_law_pool", "_law_size"]) fun _ _ _ _ _ _ us hl => match us, hl with | [_, _], _ => rfl
  have F__law_item := fun_mk (st := s__law_item) l__law_item c__law_item k__law_item
  have b__law_item := F__law_item.binds (ps := ["_law_pool"]) fun _ _ _ _ _ _ us hl => match us, hl with | [_], _ => rfl
  have F__law_of_values := fun_mk (st := s__law_of_values) l__law_of_values c__law_of_values k__law_of_values
  have b__law_of_values := F__law_of_values.binds (ps := ["_law_pool", "_law_item_here"]) fun _ _ _ _ _ _ us hl => match us, hl with | [_, _], _ => rfl
  have F__law_of_positions := fun_mk (st := s__law_of_positions) l__law_of_positions c__law_of_positions k__law_of_positions
  have b__law_of_positions := F__law_of_positions.binds (ps := ["_law_pool", "_law_item_here"]) fun _ _ _ _ _ _ us hl => match us, hl with | [_, _], _ => rfl
  have F__law_others := fun_mk (st := s__law_others) l__law_others c__law_others k__law_others
  have b__law_others := F__law_others.binds (ps := ["_law_pool", "_law_item_here"]) fun _ _ _ _ _ _ us hl => match us, hl with | [_, _], _ => rfl
  have F__law_above := fun_mk (st := s__law_above) l__law_above c__law_above k__law_above
  have b__law_above := F__law_above.binds (ps := ["_law_e"]) fun _ _ _ _ _ _ us hl => match us, hl with | [_], _ => rfl
  have F__law_bases := fun_mk (st := s__law_bases) l__law_bases c__law_bases k__law_bases
  have b__law_bases := F__law_bases.binds (ps := ["_law_place"]) fun _ _ _ _ _ _ us hl => match us, hl with | [_], _ => rfl
  have F__law_marks := fun_mk (st := s__law_marks) l__law_marks c__law_marks k__law_marks
  have b__law_marks := F__law_marks.binds (ps := ["_law_e"]) fun _ _ _ _ _ _ us hl => match us, hl with | [_], _ => rfl
  have F_law := fun_mk (st := s_law) l_law c_law k_law
  have b_law := F_law.binds (ps := ["_law_script"]) fun _ _ _ _ _ _ us hl => match us, hl with | [_], _ => rfl
  refine ⟨PySem.W.fnOf "law" "law" (defArgs s_law) (defBody s_law) (defScope s_law) .none kV_law dc_law pm_law an_law cd_law ct_law, fun s v => .of_eq rfl, fun base _ _ => ?_⟩
  let P := l.prog
  have g__law_hand : Cal l.prog w K mg base T "_law_hand" 2 ["_law_script", "_law_k"] [] C__law_hand := ⟨_, _, d__law_hand F__law_hand Z, b__law_hand, PySem.W.mg_of X G a__law_hand⟩
  have g__law_draw : Cal l.prog w K mg base T "_law_draw" 2 ["_law_pool", "_law_size"] [0] C__law_draw := ⟨_, _, d__law_draw F__law_draw Z, b__law_draw, PySem.W.mg_of X G a__law_draw⟩
  have g__law_item : Cal l.prog w K mg base T "_law_item" 3 ["_law_pool"] [0] C__law_item := ⟨_, _, d__law_item F__law_item Z g__law_draw, b__law_item, PySem.W.mg_of X G a__law_item⟩
  have g__law_of_values : Cal l.prog w K mg base T "_law_of_values" 3 ["_law_pool", "_law_item_here"] [0] C__law_of_values := ⟨_, _, d__law_of_values F__law_of_values Z X_InvalidQueue X_InvalidStep X_InvalidPosition X_InvalidNumber X_InvalidWord X_InvalidState X_InvalidSchedule X_InvalidSession X_InvalidCommand X_Rejected hfld_InvalidQueue hfld_InvalidStep hfld_InvalidPosition hfld_InvalidNumber hfld_InvalidWord hfld_InvalidState hfld_InvalidSchedule hfld_InvalidSession hfld_InvalidCommand hfld_Rejected g__law_draw, b__law_of_values, PySem.W.mg_of X G a__law_of_values⟩
  have g__law_of_positions : Cal l.prog w K mg base T "_law_of_positions" 3 ["_law_pool", "_law_item_here"] [0] C__law_of_positions := ⟨_, _, d__law_of_positions F__law_of_positions Z X_InvalidSequence X_InvalidProcesses X_InvalidSuspects X_InvalidObservations X_InvalidQueues X_StepFailed X_EffectChanged hfld_InvalidSequence hfld_InvalidProcesses hfld_InvalidSuspects hfld_InvalidObservations hfld_InvalidQueues hfld_StepFailed hfld_EffectChanged g__law_draw, b__law_of_positions, PySem.W.mg_of X G a__law_of_positions⟩
  have g__law_others : Cal l.prog w K mg base T "_law_others" 3 ["_law_pool", "_law_item_here"] [0] C__law_others := ⟨_, _, d__law_others F__law_others Z X_SharedQueue X_UnknownQueue X_UnknownMark X_InvalidEffect X_ParseError X_NothingToUndo X_LimitExceeded hfld_SharedQueue hfld_UnknownQueue hfld_UnknownMark hfld_InvalidEffect hfld_ParseError hfld_NothingToUndo hfld_LimitExceeded g__law_draw, b__law_others, PySem.W.mg_of X G a__law_others⟩
  have g__law_above : Cal l.prog w K mg base T "_law_above" 2 ["_law_e"] [] C__law_above := ⟨_, _, d__law_above F__law_above Z IT_ValueError IT_RuntimeError IT_KeyError IT_LookupError IT_ArithmeticError IT_OverflowError, b__law_above, PySem.W.mg_of X G a__law_above⟩
  have g__law_bases : Cal l.prog w K mg base T "_law_bases" 2 ["_law_place"] [] C__law_bases := ⟨_, _, d__law_bases F__law_bases Z, b__law_bases, PySem.W.mg_of X G a__law_bases⟩
  have g__law_marks : Cal l.prog w K mg base T "_law_marks" 2 ["_law_e"] [] C__law_marks := ⟨_, _, d__law_marks F__law_marks Z X_InvalidQueue X_InvalidStep X_InvalidPosition X_InvalidNumber X_InvalidWord X_InvalidState X_InvalidSchedule X_InvalidSession X_InvalidCommand X_Rejected X_InvalidSequence X_InvalidProcesses X_InvalidSuspects X_InvalidObservations X_InvalidQueues X_StepFailed X_EffectChanged X_SharedQueue X_UnknownQueue X_UnknownMark X_InvalidEffect X_ParseError X_NothingToUndo X_LimitExceeded IX, b__law_marks, PySem.W.mg_of X G a__law_marks⟩
  exact lawFn (d_law F_law Z X_InvalidCommand X_InvalidSession X_InvalidSchedule X_InvalidState X_Rejected X_InvalidWord X_InvalidNumber X_InvalidPosition X_InvalidStep X_InvalidQueue X_InvalidProcesses X_InvalidQueues X_InvalidObservations X_InvalidSuspects X_EffectChanged X_StepFailed X_InvalidSequence X_UnknownMark X_SharedQueue X_UnknownQueue X_InvalidEffect X_ParseError X_NothingToUndo X_LimitExceeded hfld_InvalidCommand hfld_InvalidSession hfld_InvalidSchedule hfld_InvalidState hfld_Rejected hfld_InvalidWord hfld_InvalidNumber hfld_InvalidPosition hfld_InvalidStep hfld_InvalidQueue hfld_InvalidProcesses hfld_InvalidQueues hfld_InvalidObservations hfld_InvalidSuspects hfld_EffectChanged hfld_StepFailed hfld_InvalidSequence hfld_UnknownMark hfld_SharedQueue hfld_UnknownQueue hfld_InvalidEffect hfld_ParseError hfld_NothingToUndo hfld_LimitExceeded g__law_hand g__law_item g__law_of_values g__law_of_positions g__law_others g__law_above g__law_bases g__law_marks)
end Wk05
open PySem PySem.W PyProof.Rows
set_option maxRecDepth 100000 in
set_option maxHeartbeats 0 in
theorem PySem.Challenge.cw_queueeffect_k05_error_classes_holds : PySem.Challenge.rw_queueeffect_k05_error_classes.Holds := by
  w_on; o_law; k_head; (case hw => w_witness2)
  k_fill
  refine DL.walkD (l := PySem.Challenge.rw_queueeffect_k05_error_classes) (k := 4) (x := "_law_script") rfl rfl ⟨rfl, by decide, by decide⟩ (fun w h Y => PySem.W.kIn_of Y) ?F
  case F =>
    intro w mg fa h KX G hmg
    refine' Wk05.all_mk KX G hmg ?a__law_hand ?l__law_hand ?c__law_hand ?k__law_hand ?a__law_draw ?l__law_draw ?c__law_draw ?k__law_draw ?a__law_item ?l__law_item ?c__law_item ?k__law_item ?a__law_of_values ?l__law_of_values ?c__law_of_values ?k__law_of_values ?a__law_of_positions ?l__law_of_positions ?c__law_of_positions ?k__law_of_positions ?a__law_others ?l__law_others ?c__law_others ?k__law_others ?a__law_above ?l__law_above ?c__law_above ?k__law_above ?a__law_bases ?l__law_bases ?c__law_bases ?k__law_bases ?a__law_marks ?l__law_marks ?c__law_marks ?k__law_marks ?a_law ?l_law ?c_law ?k_law ?aC_InvalidQueue ?xL_InvalidQueue ?sa_InvalidQueue ?ga_InvalidQueue ?gg_InvalidQueue ?nf_InvalidQueue ?iC_InvalidQueue ?tC_InvalidQueue ?l_InvalidQueue ?cd_InvalidQueue ?kC_InvalidQueue ?eC_InvalidQueue ?tt_InvalidQueue ?hC_InvalidQueue ?aC_InvalidStep ?xL_InvalidStep ?sa_InvalidStep ?ga_InvalidStep ?gg_InvalidStep ?nf_InvalidStep ?iC_InvalidStep ?tC_InvalidStep ?l_InvalidStep ?cd_InvalidStep ?kC_InvalidStep ?eC_InvalidStep ?tt_InvalidStep ?hC_InvalidStep ?aC_InvalidPosition ?xL_InvalidPosition ?sa_InvalidPosition ?ga_InvalidPosition ?gg_InvalidPosition ?nf_InvalidPosition ?iC_InvalidPosition ?tC_InvalidPosition ?l_InvalidPosition ?cd_InvalidPosition ?kC_InvalidPosition ?eC_InvalidPosition ?tt_InvalidPosition ?hC_InvalidPosition ?aC_InvalidNumber ?xL_InvalidNumber ?sa_InvalidNumber ?ga_InvalidNumber ?gg_InvalidNumber ?nf_InvalidNumber ?iC_InvalidNumber ?tC_InvalidNumber ?l_InvalidNumber ?cd_InvalidNumber ?kC_InvalidNumber ?eC_InvalidNumber ?tt_InvalidNumber ?hC_InvalidNumber ?aC_InvalidWord ?xL_InvalidWord ?sa_InvalidWord ?ga_InvalidWord ?gg_InvalidWord ?nf_InvalidWord ?iC_InvalidWord ?tC_InvalidWord ?l_InvalidWord ?cd_InvalidWord ?kC_InvalidWord ?eC_InvalidWord ?tt_InvalidWord ?hC_InvalidWord ?aC_InvalidState ?xL_InvalidState ?sa_InvalidState ?ga_InvalidState ?gg_InvalidState ?nf_InvalidState ?iC_InvalidState ?tC_InvalidState ?l_InvalidState ?cd_InvalidState ?kC_InvalidState ?eC_InvalidState ?tt_InvalidState ?hC_InvalidState ?aC_InvalidSchedule ?xL_InvalidSchedule ?sa_InvalidSchedule ?ga_InvalidSchedule ?gg_InvalidSchedule ?nf_InvalidSchedule ?iC_InvalidSchedule ?tC_InvalidSchedule ?l_InvalidSchedule ?cd_InvalidSchedule ?kC_InvalidSchedule ?eC_InvalidSchedule ?tt_InvalidSchedule ?hC_InvalidSchedule ?aC_InvalidSession ?xL_InvalidSession ?sa_InvalidSession ?ga_InvalidSession ?gg_InvalidSession ?nf_InvalidSession ?iC_InvalidSession ?tC_InvalidSession ?l_InvalidSession ?cd_InvalidSession ?kC_InvalidSession ?eC_InvalidSession ?tt_InvalidSession ?hC_InvalidSession ?aC_InvalidCommand ?xL_InvalidCommand ?sa_InvalidCommand ?ga_InvalidCommand ?gg_InvalidCommand ?nf_InvalidCommand ?iC_InvalidCommand ?tC_InvalidCommand ?l_InvalidCommand ?cd_InvalidCommand ?kC_InvalidCommand ?eC_InvalidCommand ?tt_InvalidCommand ?hC_InvalidCommand ?aC_Rejected ?xL_Rejected ?sa_Rejected ?ga_Rejected ?gg_Rejected ?nf_Rejected ?iC_Rejected ?tC_Rejected ?l_Rejected ?cd_Rejected ?kC_Rejected ?eC_Rejected ?tt_Rejected ?hC_Rejected ?aC_InvalidSequence ?xL_InvalidSequence ?sa_InvalidSequence ?ga_InvalidSequence ?gg_InvalidSequence ?nf_InvalidSequence ?iC_InvalidSequence ?tC_InvalidSequence ?l_InvalidSequence ?cd_InvalidSequence ?kC_InvalidSequence ?eC_InvalidSequence ?tt_InvalidSequence ?hC_InvalidSequence ?aC_InvalidProcesses ?xL_InvalidProcesses ?sa_InvalidProcesses ?ga_InvalidProcesses ?gg_InvalidProcesses ?nf_InvalidProcesses ?iC_InvalidProcesses ?tC_InvalidProcesses ?l_InvalidProcesses ?cd_InvalidProcesses ?kC_InvalidProcesses ?eC_InvalidProcesses ?tt_InvalidProcesses ?hC_InvalidProcesses ?aC_InvalidSuspects ?xL_InvalidSuspects ?sa_InvalidSuspects ?ga_InvalidSuspects ?gg_InvalidSuspects ?nf_InvalidSuspects ?iC_InvalidSuspects ?tC_InvalidSuspects ?l_InvalidSuspects ?cd_InvalidSuspects ?kC_InvalidSuspects ?eC_InvalidSuspects ?tt_InvalidSuspects ?hC_InvalidSuspects ?aC_InvalidObservations ?xL_InvalidObservations ?sa_InvalidObservations ?ga_InvalidObservations ?gg_InvalidObservations ?nf_InvalidObservations ?iC_InvalidObservations ?tC_InvalidObservations ?l_InvalidObservations ?cd_InvalidObservations ?kC_InvalidObservations ?eC_InvalidObservations ?tt_InvalidObservations ?hC_InvalidObservations ?aC_InvalidQueues ?xL_InvalidQueues ?sa_InvalidQueues ?ga_InvalidQueues ?gg_InvalidQueues ?nf_InvalidQueues ?iC_InvalidQueues ?tC_InvalidQueues ?l_InvalidQueues ?cd_InvalidQueues ?kC_InvalidQueues ?eC_InvalidQueues ?tt_InvalidQueues ?hC_InvalidQueues ?aC_StepFailed ?xL_StepFailed ?sa_StepFailed ?ga_StepFailed ?gg_StepFailed ?nf_StepFailed ?iC_StepFailed ?tC_StepFailed ?l_StepFailed ?cd_StepFailed ?kC_StepFailed ?eC_StepFailed ?tt_StepFailed ?hC_StepFailed ?aC_EffectChanged ?xL_EffectChanged ?sa_EffectChanged ?ga_EffectChanged ?gg_EffectChanged ?nf_EffectChanged ?iC_EffectChanged ?tC_EffectChanged ?l_EffectChanged ?cd_EffectChanged ?kC_EffectChanged ?eC_EffectChanged ?tt_EffectChanged ?hC_EffectChanged ?aC_SharedQueue ?xL_SharedQueue ?sa_SharedQueue ?ga_SharedQueue ?gg_SharedQueue ?nf_SharedQueue ?iC_SharedQueue ?tC_SharedQueue ?l_SharedQueue ?cd_SharedQueue ?kC_SharedQueue ?eC_SharedQueue ?tt_SharedQueue ?hC_SharedQueue ?aC_UnknownQueue ?xL_UnknownQueue ?sa_UnknownQueue ?ga_UnknownQueue ?gg_UnknownQueue ?nf_UnknownQueue ?iC_UnknownQueue ?tC_UnknownQueue ?l_UnknownQueue ?cd_UnknownQueue ?kC_UnknownQueue ?eC_UnknownQueue ?tt_UnknownQueue ?hC_UnknownQueue ?aC_UnknownMark ?xL_UnknownMark ?sa_UnknownMark ?ga_UnknownMark ?gg_UnknownMark ?nf_UnknownMark ?iC_UnknownMark ?tC_UnknownMark ?l_UnknownMark ?cd_UnknownMark ?kC_UnknownMark ?eC_UnknownMark ?tt_UnknownMark ?hC_UnknownMark ?aC_InvalidEffect ?xL_InvalidEffect ?sa_InvalidEffect ?ga_InvalidEffect ?gg_InvalidEffect ?nf_InvalidEffect ?iC_InvalidEffect ?tC_InvalidEffect ?l_InvalidEffect ?cd_InvalidEffect ?kC_InvalidEffect ?eC_InvalidEffect ?tt_InvalidEffect ?hC_InvalidEffect ?aC_ParseError ?xL_ParseError ?sa_ParseError ?ga_ParseError ?gg_ParseError ?nf_ParseError ?iC_ParseError ?tC_ParseError ?l_ParseError ?cd_ParseError ?kC_ParseError ?eC_ParseError ?tt_ParseError ?hC_ParseError ?aC_NothingToUndo ?xL_NothingToUndo ?sa_NothingToUndo ?ga_NothingToUndo ?gg_NothingToUndo ?nf_NothingToUndo ?iC_NothingToUndo ?tC_NothingToUndo ?l_NothingToUndo ?cd_NothingToUndo ?kC_NothingToUndo ?eC_NothingToUndo ?tt_NothingToUndo ?hC_NothingToUndo ?aC_LimitExceeded ?xL_LimitExceeded ?sa_LimitExceeded ?ga_LimitExceeded ?gg_LimitExceeded ?nf_LimitExceeded ?iC_LimitExceeded ?tC_LimitExceeded ?l_LimitExceeded ?cd_LimitExceeded ?kC_LimitExceeded ?eC_LimitExceeded ?tt_LimitExceeded ?hC_LimitExceeded ?oc_g ?oc_t ?ca_EffectChanged ?cm_EffectChanged ?ca_InvalidCommand ?cm_InvalidCommand ?ca_InvalidEffect ?cm_InvalidEffect ?ca_InvalidNumber ?cm_InvalidNumber ?ca_InvalidObservations ?cm_InvalidObservations ?ca_InvalidPosition ?cm_InvalidPosition ?ca_InvalidProcesses ?cm_InvalidProcesses ?ca_InvalidQueue ?cm_InvalidQueue ?ca_InvalidQueues ?cm_InvalidQueues ?ca_InvalidSchedule ?cm_InvalidSchedule ?ca_InvalidSequence ?cm_InvalidSequence ?ca_InvalidSession ?cm_InvalidSession ?ca_InvalidState ?cm_InvalidState ?ca_InvalidStep ?cm_InvalidStep ?ca_InvalidSuspects ?cm_InvalidSuspects ?ca_InvalidWord ?cm_InvalidWord ?ca_LimitExceeded ?cm_LimitExceeded ?ca_NothingToUndo ?cm_NothingToUndo ?ca_ParseError ?cm_ParseError ?ca_Rejected ?cm_Rejected ?ca_SharedQueue ?cm_SharedQueue ?ca_StepFailed ?cm_StepFailed ?ca_UnknownMark ?cm_UnknownMark ?ca_UnknownQueue ?cm_UnknownQueue ?xnd_all ?z_int ?z_isinstance ?z_ValueError ?z_RuntimeError ?z_KeyError ?z_LookupError ?z_ArithmeticError ?z_OverflowError ?z_range ?z_max ?z_min ?z_len ?z_repr ?z_enumerate
    (case a__law_hand => k_is)
    (case l__law_hand => k_is)
    (case c__law_hand => k_is)
    (case k__law_hand => k_is)
    (case a__law_draw => k_is)
    (case l__law_draw => k_is)
    (case c__law_draw => k_is)
    (case k__law_draw => k_is)
    (case a__law_item => k_is)
    (case l__law_item => k_is)
    (case c__law_item => k_is)
    (case k__law_item => k_is)
    (case a__law_of_values => k_is)
    (case l__law_of_values => k_is)
    (case c__law_of_values => k_is)
    (case k__law_of_values => k_is)
    (case a__law_of_positions => k_is)
    (case l__law_of_positions => k_is)
    (case c__law_of_positions => k_is)
    (case k__law_of_positions => k_is)
    (case a__law_others => k_is)
    (case l__law_others => k_is)
    (case c__law_others => k_is)
    (case k__law_others => k_is)
    (case a__law_above => k_is)
    (case l__law_above => k_is)
    (case c__law_above => k_is)
    (case k__law_above => k_is)
    (case a__law_bases => k_is)
    (case l__law_bases => k_is)
    (case c__law_bases => k_is)
    (case k__law_bases => k_is)
    (case a__law_marks => k_is)
    (case l__law_marks => k_is)
    (case c__law_marks => k_is)
    (case k__law_marks => k_is)
    (case a_law => k_is)
    (case l_law => k_is)
    (case c_law => k_is)
    (case k_law => k_is)
    (case aC_InvalidQueue => k_is)
    (case xL_InvalidQueue => k_is)
    (case sa_InvalidQueue => k_is)
    (case ga_InvalidQueue => k_is)
    (case gg_InvalidQueue => k_is)
    (case nf_InvalidQueue => k_is)
    (case iC_InvalidQueue => k_is)
    (case tC_InvalidQueue => k_is)
    (case l_InvalidQueue => k_is)
    (case cd_InvalidQueue => k_is)
    (case kC_InvalidQueue => k_is)
    (case eC_InvalidQueue => k_is)
    (case tt_InvalidQueue => k_is)
    (case hC_InvalidQueue => k_is)
    (case aC_InvalidStep => k_is)
    (case xL_InvalidStep => k_is)
    (case sa_InvalidStep => k_is)
    (case ga_InvalidStep => k_is)
    (case gg_InvalidStep => k_is)
    (case nf_InvalidStep => k_is)
    (case iC_InvalidStep => k_is)
    (case tC_InvalidStep => k_is)
    (case l_InvalidStep => k_is)
    (case cd_InvalidStep => k_is)
    (case kC_InvalidStep => k_is)
    (case eC_InvalidStep => k_is)
    (case tt_InvalidStep => k_is)
    (case hC_InvalidStep => k_is)
    (case aC_InvalidPosition => k_is)
    (case xL_InvalidPosition => k_is)
    (case sa_InvalidPosition => k_is)
    (case ga_InvalidPosition => k_is)
    (case gg_InvalidPosition => k_is)
    (case nf_InvalidPosition => k_is)
    (case iC_InvalidPosition => k_is)
    (case tC_InvalidPosition => k_is)
    (case l_InvalidPosition => k_is)
    (case cd_InvalidPosition => k_is)
    (case kC_InvalidPosition => k_is)
    (case eC_InvalidPosition => k_is)
    (case tt_InvalidPosition => k_is)
    (case hC_InvalidPosition => k_is)
    (case aC_InvalidNumber => k_is)
    (case xL_InvalidNumber => k_is)
    (case sa_InvalidNumber => k_is)
    (case ga_InvalidNumber => k_is)
    (case gg_InvalidNumber => k_is)
    (case nf_InvalidNumber => k_is)
    (case iC_InvalidNumber => k_is)
    (case tC_InvalidNumber => k_is)
    (case l_InvalidNumber => k_is)
    (case cd_InvalidNumber => k_is)
    (case kC_InvalidNumber => k_is)
    (case eC_InvalidNumber => k_is)
    (case tt_InvalidNumber => k_is)
    (case hC_InvalidNumber => k_is)
    (case aC_InvalidWord => k_is)
    (case xL_InvalidWord => k_is)
    (case sa_InvalidWord => k_is)
    (case ga_InvalidWord => k_is)
    (case gg_InvalidWord => k_is)
    (case nf_InvalidWord => k_is)
    (case iC_InvalidWord => k_is)
    (case tC_InvalidWord => k_is)
    (case l_InvalidWord => k_is)
    (case cd_InvalidWord => k_is)
    (case kC_InvalidWord => k_is)
    (case eC_InvalidWord => k_is)
    (case tt_InvalidWord => k_is)
    (case hC_InvalidWord => k_is)
    (case aC_InvalidState => k_is)
    (case xL_InvalidState => k_is)
    (case sa_InvalidState => k_is)
    (case ga_InvalidState => k_is)
    (case gg_InvalidState => k_is)
    (case nf_InvalidState => k_is)
    (case iC_InvalidState => k_is)
    (case tC_InvalidState => k_is)
    (case l_InvalidState => k_is)
    (case cd_InvalidState => k_is)
    (case kC_InvalidState => k_is)
    (case eC_InvalidState => k_is)
    (case tt_InvalidState => k_is)
    (case hC_InvalidState => k_is)
    (case aC_InvalidSchedule => k_is)
    (case xL_InvalidSchedule => k_is)
    (case sa_InvalidSchedule => k_is)
    (case ga_InvalidSchedule => k_is)
    (case gg_InvalidSchedule => k_is)
    (case nf_InvalidSchedule => k_is)
    (case iC_InvalidSchedule => k_is)
    (case tC_InvalidSchedule => k_is)
    (case l_InvalidSchedule => k_is)
    (case cd_InvalidSchedule => k_is)
    (case kC_InvalidSchedule => k_is)
    (case eC_InvalidSchedule => k_is)
    (case tt_InvalidSchedule => k_is)
    (case hC_InvalidSchedule => k_is)
    (case aC_InvalidSession => k_is)
    (case xL_InvalidSession => k_is)
    (case sa_InvalidSession => k_is)
    (case ga_InvalidSession => k_is)
    (case gg_InvalidSession => k_is)
    (case nf_InvalidSession => k_is)
    (case iC_InvalidSession => k_is)
    (case tC_InvalidSession => k_is)
    (case l_InvalidSession => k_is)
    (case cd_InvalidSession => k_is)
    (case kC_InvalidSession => k_is)
    (case eC_InvalidSession => k_is)
    (case tt_InvalidSession => k_is)
    (case hC_InvalidSession => k_is)
    (case aC_InvalidCommand => k_is)
    (case xL_InvalidCommand => k_is)
    (case sa_InvalidCommand => k_is)
    (case ga_InvalidCommand => k_is)
    (case gg_InvalidCommand => k_is)
    (case nf_InvalidCommand => k_is)
    (case iC_InvalidCommand => k_is)
    (case tC_InvalidCommand => k_is)
    (case l_InvalidCommand => k_is)
    (case cd_InvalidCommand => k_is)
    (case kC_InvalidCommand => k_is)
    (case eC_InvalidCommand => k_is)
    (case tt_InvalidCommand => k_is)
    (case hC_InvalidCommand => k_is)
    (case aC_Rejected => k_is)
    (case xL_Rejected => k_is)
    (case sa_Rejected => k_is)
    (case ga_Rejected => k_is)
    (case gg_Rejected => k_is)
    (case nf_Rejected => k_is)
    (case iC_Rejected => k_is)
    (case tC_Rejected => k_is)
    (case l_Rejected => k_is)
    (case cd_Rejected => k_is)
    (case kC_Rejected => k_is)
    (case eC_Rejected => k_is)
    (case tt_Rejected => k_is)
    (case hC_Rejected => k_is)
    (case aC_InvalidSequence => k_is)
    (case xL_InvalidSequence => k_is)
    (case sa_InvalidSequence => k_is)
    (case ga_InvalidSequence => k_is)
    (case gg_InvalidSequence => k_is)
    (case nf_InvalidSequence => k_is)
    (case iC_InvalidSequence => k_is)
    (case tC_InvalidSequence => k_is)
    (case l_InvalidSequence => k_is)
    (case cd_InvalidSequence => k_is)
    (case kC_InvalidSequence => k_is)
    (case eC_InvalidSequence => k_is)
    (case tt_InvalidSequence => k_is)
    (case hC_InvalidSequence => k_is)
    (case aC_InvalidProcesses => k_is)
    (case xL_InvalidProcesses => k_is)
    (case sa_InvalidProcesses => k_is)
    (case ga_InvalidProcesses => k_is)
    (case gg_InvalidProcesses => k_is)
    (case nf_InvalidProcesses => k_is)
    (case iC_InvalidProcesses => k_is)
    (case tC_InvalidProcesses => k_is)
    (case l_InvalidProcesses => k_is)
    (case cd_InvalidProcesses => k_is)
    (case kC_InvalidProcesses => k_is)
    (case eC_InvalidProcesses => k_is)
    (case tt_InvalidProcesses => k_is)
    (case hC_InvalidProcesses => k_is)
    (case aC_InvalidSuspects => k_is)
    (case xL_InvalidSuspects => k_is)
    (case sa_InvalidSuspects => k_is)
    (case ga_InvalidSuspects => k_is)
    (case gg_InvalidSuspects => k_is)
    (case nf_InvalidSuspects => k_is)
    (case iC_InvalidSuspects => k_is)
    (case tC_InvalidSuspects => k_is)
    (case l_InvalidSuspects => k_is)
    (case cd_InvalidSuspects => k_is)
    (case kC_InvalidSuspects => k_is)
    (case eC_InvalidSuspects => k_is)
    (case tt_InvalidSuspects => k_is)
    (case hC_InvalidSuspects => k_is)
    (case aC_InvalidObservations => k_is)
    (case xL_InvalidObservations => k_is)
    (case sa_InvalidObservations => k_is)
    (case ga_InvalidObservations => k_is)
    (case gg_InvalidObservations => k_is)
    (case nf_InvalidObservations => k_is)
    (case iC_InvalidObservations => k_is)
    (case tC_InvalidObservations => k_is)
    (case l_InvalidObservations => k_is)
    (case cd_InvalidObservations => k_is)
    (case kC_InvalidObservations => k_is)
    (case eC_InvalidObservations => k_is)
    (case tt_InvalidObservations => k_is)
    (case hC_InvalidObservations => k_is)
    (case aC_InvalidQueues => k_is)
    (case xL_InvalidQueues => k_is)
    (case sa_InvalidQueues => k_is)
    (case ga_InvalidQueues => k_is)
    (case gg_InvalidQueues => k_is)
    (case nf_InvalidQueues => k_is)
    (case iC_InvalidQueues => k_is)
    (case tC_InvalidQueues => k_is)
    (case l_InvalidQueues => k_is)
    (case cd_InvalidQueues => k_is)
    (case kC_InvalidQueues => k_is)
    (case eC_InvalidQueues => k_is)
    (case tt_InvalidQueues => k_is)
    (case hC_InvalidQueues => k_is)
    (case aC_StepFailed => k_is)
    (case xL_StepFailed => k_is)
    (case sa_StepFailed => k_is)
    (case ga_StepFailed => k_is)
    (case gg_StepFailed => k_is)
    (case nf_StepFailed => k_is)
    (case iC_StepFailed => k_is)
    (case tC_StepFailed => k_is)
    (case l_StepFailed => k_is)
    (case cd_StepFailed => k_is)
    (case kC_StepFailed => k_is)
    (case eC_StepFailed => k_is)
    (case tt_StepFailed => k_is)
    (case hC_StepFailed => k_is)
    (case aC_EffectChanged => k_is)
    (case xL_EffectChanged => k_is)
    (case sa_EffectChanged => k_is)
    (case ga_EffectChanged => k_is)
    (case gg_EffectChanged => k_is)
    (case nf_EffectChanged => k_is)
    (case iC_EffectChanged => k_is)
    (case tC_EffectChanged => k_is)
    (case l_EffectChanged => k_is)
    (case cd_EffectChanged => k_is)
    (case kC_EffectChanged => k_is)
    (case eC_EffectChanged => k_is)
    (case tt_EffectChanged => k_is)
    (case hC_EffectChanged => k_is)
    (case aC_SharedQueue => k_is)
    (case xL_SharedQueue => k_is)
    (case sa_SharedQueue => k_is)
    (case ga_SharedQueue => k_is)
    (case gg_SharedQueue => k_is)
    (case nf_SharedQueue => k_is)
    (case iC_SharedQueue => k_is)
    (case tC_SharedQueue => k_is)
    (case l_SharedQueue => k_is)
    (case cd_SharedQueue => k_is)
    (case kC_SharedQueue => k_is)
    (case eC_SharedQueue => k_is)
    (case tt_SharedQueue => k_is)
    (case hC_SharedQueue => k_is)
    (case aC_UnknownQueue => k_is)
    (case xL_UnknownQueue => k_is)
    (case sa_UnknownQueue => k_is)
    (case ga_UnknownQueue => k_is)
    (case gg_UnknownQueue => k_is)
    (case nf_UnknownQueue => k_is)
    (case iC_UnknownQueue => k_is)
    (case tC_UnknownQueue => k_is)
    (case l_UnknownQueue => k_is)
    (case cd_UnknownQueue => k_is)
    (case kC_UnknownQueue => k_is)
    (case eC_UnknownQueue => k_is)
    (case tt_UnknownQueue => k_is)
    (case hC_UnknownQueue => k_is)
    (case aC_UnknownMark => k_is)
    (case xL_UnknownMark => k_is)
    (case sa_UnknownMark => k_is)
    (case ga_UnknownMark => k_is)
    (case gg_UnknownMark => k_is)
    (case nf_UnknownMark => k_is)
    (case iC_UnknownMark => k_is)
    (case tC_UnknownMark => k_is)
    (case l_UnknownMark => k_is)
    (case cd_UnknownMark => k_is)
    (case kC_UnknownMark => k_is)
    (case eC_UnknownMark => k_is)
    (case tt_UnknownMark => k_is)
    (case hC_UnknownMark => k_is)
    (case aC_InvalidEffect => k_is)
    (case xL_InvalidEffect => k_is)
    (case sa_InvalidEffect => k_is)
    (case ga_InvalidEffect => k_is)
    (case gg_InvalidEffect => k_is)
    (case nf_InvalidEffect => k_is)
    (case iC_InvalidEffect => k_is)
    (case tC_InvalidEffect => k_is)
    (case l_InvalidEffect => k_is)
    (case cd_InvalidEffect => k_is)
    (case kC_InvalidEffect => k_is)
    (case eC_InvalidEffect => k_is)
    (case tt_InvalidEffect => k_is)
    (case hC_InvalidEffect => k_is)
    (case aC_ParseError => k_is)
    (case xL_ParseError => k_is)
    (case sa_ParseError => k_is)
    (case ga_ParseError => k_is)
    (case gg_ParseError => k_is)
    (case nf_ParseError => k_is)
    (case iC_ParseError => k_is)
    (case tC_ParseError => k_is)
    (case l_ParseError => k_is)
    (case cd_ParseError => k_is)
    (case kC_ParseError => k_is)
    (case eC_ParseError => k_is)
    (case tt_ParseError => k_is)
    (case hC_ParseError => k_is)
    (case aC_NothingToUndo => k_is)
    (case xL_NothingToUndo => k_is)
    (case sa_NothingToUndo => k_is)
    (case ga_NothingToUndo => k_is)
    (case gg_NothingToUndo => k_is)
    (case nf_NothingToUndo => k_is)
    (case iC_NothingToUndo => k_is)
    (case tC_NothingToUndo => k_is)
    (case l_NothingToUndo => k_is)
    (case cd_NothingToUndo => k_is)
    (case kC_NothingToUndo => k_is)
    (case eC_NothingToUndo => k_is)
    (case tt_NothingToUndo => k_is)
    (case hC_NothingToUndo => k_is)
    (case aC_LimitExceeded => k_is)
    (case xL_LimitExceeded => k_is)
    (case sa_LimitExceeded => k_is)
    (case ga_LimitExceeded => k_is)
    (case gg_LimitExceeded => k_is)
    (case nf_LimitExceeded => k_is)
    (case iC_LimitExceeded => k_is)
    (case tC_LimitExceeded => k_is)
    (case l_LimitExceeded => k_is)
    (case cd_LimitExceeded => k_is)
    (case kC_LimitExceeded => k_is)
    (case eC_LimitExceeded => k_is)
    (case tt_LimitExceeded => k_is)
    (case hC_LimitExceeded => k_is)
    (case oc_g => k_is)
    (case oc_t => k_is)
    (case ca_EffectChanged => k_is)
    (case cm_EffectChanged => k_is)
    (case ca_InvalidCommand => k_is)
    (case cm_InvalidCommand => k_is)
    (case ca_InvalidEffect => k_is)
    (case cm_InvalidEffect => k_is)
    (case ca_InvalidNumber => k_is)
    (case cm_InvalidNumber => k_is)
    (case ca_InvalidObservations => k_is)
    (case cm_InvalidObservations => k_is)
    (case ca_InvalidPosition => k_is)
    (case cm_InvalidPosition => k_is)
    (case ca_InvalidProcesses => k_is)
    (case cm_InvalidProcesses => k_is)
    (case ca_InvalidQueue => k_is)
    (case cm_InvalidQueue => k_is)
    (case ca_InvalidQueues => k_is)
    (case cm_InvalidQueues => k_is)
    (case ca_InvalidSchedule => k_is)
    (case cm_InvalidSchedule => k_is)
    (case ca_InvalidSequence => k_is)
    (case cm_InvalidSequence => k_is)
    (case ca_InvalidSession => k_is)
    (case cm_InvalidSession => k_is)
    (case ca_InvalidState => k_is)
    (case cm_InvalidState => k_is)
    (case ca_InvalidStep => k_is)
    (case cm_InvalidStep => k_is)
    (case ca_InvalidSuspects => k_is)
    (case cm_InvalidSuspects => k_is)
    (case ca_InvalidWord => k_is)
    (case cm_InvalidWord => k_is)
    (case ca_LimitExceeded => k_is)
    (case cm_LimitExceeded => k_is)
    (case ca_NothingToUndo => k_is)
    (case cm_NothingToUndo => k_is)
    (case ca_ParseError => k_is)
    (case cm_ParseError => k_is)
    (case ca_Rejected => k_is)
    (case cm_Rejected => k_is)
    (case ca_SharedQueue => k_is)
    (case cm_SharedQueue => k_is)
    (case ca_StepFailed => k_is)
    (case cm_StepFailed => k_is)
    (case ca_UnknownMark => k_is)
    (case cm_UnknownMark => k_is)
    (case ca_UnknownQueue => k_is)
    (case cm_UnknownQueue => k_is)
    (case xnd_all => first | rfl | decide)
    (case z_int => k_is)
    (case z_isinstance => k_is)
    (case z_ValueError => k_is)
    (case z_RuntimeError => k_is)
    (case z_KeyError => k_is)
    (case z_LookupError => k_is)
    (case z_ArithmeticError => k_is)
    (case z_OverflowError => k_is)
    (case z_range => k_is)
    (case z_max => k_is)
    (case z_min => k_is)
    (case z_len => k_is)
    (case z_repr => k_is)
    (case z_enumerate => k_is)
