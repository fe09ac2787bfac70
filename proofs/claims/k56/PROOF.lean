import PyProof.Rows.All
import Wide.All
import OpenK.AllK
import Wide.FinOn
import HandS.Base
import HandS.Call
import HandS.List
import HandS.Comp
import HandS.Dict
import HandS.Iter
import HandS.Text
import HandS.Exc
import HandS.ExcOwn
import HandS.Ends
import HandS.Words
import HandS.Wide
import HandS.Lambda
import HandS.Head0
import HandS.Head1
import HandS.Head2
import HandS.HeadHook1
import HandS.HeadHook2
import KE.KSuper
import HandS.IsInst
import HandS.ExcInit
import HandS.ExcCtx
import HandS.CallSlots
import HandS.WordsExc
import HandS.RaiseFrom
import HandS.Star
import HandS.WordsDict
import HandS.TupLen
import HandS.Property
import HandS.ClsMeth
import HandS.ExcIs
import PyProof.ReprRoads
import PyProof.ReprNest
import PyProof.Rows.StrIntSpec
import HandS.Style
import PyProof.InstNe
import HandS.TryOnly
import PyProof.ZipIter
import PyProof.Draws
import PyProof.EnumMake
import HandS.Zip
import KE.GoesEnumKw
import KE.DatumOrd
import PyProof.InstSpecial
import PyProof.LongRange
import HandS.OwnEq
import PyProof.NeKinds
import HandS.FStr
import HandS.Conv
import HandS.Defaults
import HandS.EndBits
import HandS.StrMore
import PyProof.Rows.EqNone
import HandS.Set
import HandS.SetFor
import HandS.Strs
import HandS.SetKeys
import PyProof.Rows.SortShellAny
import HandS.More
import PyProof.AssignAttr
import PyProof.RulesAssignMore
import HandS.Deep
import HandS.Finally
import HandS.DictComp
import HandS.ListItems
import HandS.Sort
import HandS.MapSum
import HandS.DictEq
import PyProof.DictCopy
import PyProof.DictUpdate
import PyProof.MinMaxWalk
import PyProof.WalkInts
import HandS.SortKw
import PyProof.StrWalks
import KE.KDictDisplayH
import HandS.TupAny
import HandS.TupMul
import KE.SortData
import HandS.Replace
import HandS.SuiteRaise
import HandS.ReplaceList
import KE.KExcRaise
import KE.KDictCopyH
import HandS.DictTup
import KE.KEqDict
import HandS.Nested
import KE.KTupSum
import KE.KLam
import KE.SortKeyHeap
import KE.KNestM
import KE.KDictPairs
import HandS.GenList
import PyProof.P3Eq
import PyProof.SumAnyB
import KE.KWithOwn
import KE.GoesMore
import KE.GoesComp
import PySem.Challenge.RW_queueeffect_k56_shortest_routes
/-! DLP: data values, environments, and what expressions and statements do to them (no machine in sight). -/
set_option linter.all false
namespace DL
abbrev Tx := List Nat
inductive Ky where
  | int (i : Int)
  | str (x : Tx)
  deriving DecidableEq
/-- a value as plain data -/
inductive D where
  | non
  | bl (b : Bool)
  | int (i : Int)
  | str (x : Tx)
  | lst (xs : List D)
  | tup (xs : List D)
  | dct (kvs : List (Ky × D))
  | obj (c : Nat) (fs : List D)
  | frl (xs : List D)
  | cls (c : Nat)
  | prt (d : D)
  | dcT (kvs : List (List Ky × D))
  | adr (a : Nat)
/-- a part that its object alone holds, seen as settled -/
def D.unm : D → D
  | .prt d => d
  | d => d
/-- an object with parts of its own, seen as settled -/
def D.calm : D → D
  | .obj c xs => .obj c (xs.map D.unm)
  | .dct ks => .dct (ks.map fun p => (p.1, p.2.unm))
  | .lst xs => .lst (xs.map D.unm)
  | .tup xs => .tup (xs.map D.unm)
  | d => d
/-- a value that is settled, or a new object that nobody else holds -/
inductive R where
  | fz (d : D)
  | fr (d : D)
  | ft (d : D)
def R.d : R → D
  | .fz d => d
  | .fr d => d
  | .ft d => d.calm
/-- a name's slot: nothing known, a settled value, an object of one's own -/
inductive Slot where
  | no
  | fz (d : D)
  | own (d : D)
  | ownT (d : D)
abbrev Env := List Slot
/-- an exception: its class, its one field -/
structure Exc where
  cls : Nat
  val : D
abbrev EK := Exc → Env → Prop
abbrev DE := Env → (R → Env → Prop) → EK → Prop
abbrev DT := Env → (Bool → Env → Prop) → EK → Prop
abbrev DI := Env → (List D → Env → Prop) → EK → Prop
abbrev DG := D → Env → (Env → Prop) → Prop
structure DEnds where
  nx : Env → Prop
  rt : R → Env → Prop
  bk : Env → Prop := fun _ => False
  ct : Env → Prop := fun _ => False
abbrev DS := DEnds → Env → EK → Prop
/-- a def by its arguments: what it hands back, what it raises; with the arguments' slots behind -/
abbrev Con := List Slot → (R → List Slot → Prop) → (Exc → List Slot → Prop) → Prop

def Env.at (ρ : Env) (i : Nat) : Slot := (ρ[i]?).getD .no

/-! ### operations on data -/
abbrev zaK : Nat := 16777216
def addD : D → D → (R → Prop) → Prop
  | .int i, .int j, k => k (.fz (.int (i + j)))
  | .str a, .str b, k => a.length + b.length ≤ zaK ∧ k (.fz (.str (a ++ b)))
  | .lst a, .lst b, k => a.length + b.length ≤ zaK ∧ k (.fr (.lst (a ++ b)))
  | _, _, _ => False
/-- += on what cannot change -/
def iaddD : D → D → (R → Prop) → Prop
  | .int i, .int j, k => k (.fz (.int (i + j)))
  | .str a, .str b, k => a.length + b.length ≤ zaK ∧ k (.fz (.str (a ++ b)))
  | _, _, _ => False
def subD : D → D → (R → Prop) → Prop
  | .int i, .int j, k => k (.fz (.int (i - j)))
  | _, _, _ => False
def mulD : D → D → (R → Prop) → Prop
  | .int i, .int j, k => ((-(2 ^ 64) < i ∧ i < 2 ^ 64) ∨ (-(2 ^ 64) < j ∧ j < 2 ^ 64)) ∧ k (.fz (.int (i * j)))
  | .str a, .int n, k => (-(2 ^ 62) ≤ n ∧ n < 2 ^ 62 ∧ a.length * n.toNat ≤ zaK) ∧ k (.fz (.str (List.replicate n.toNat a).flatten))
  | .lst a, .int n, k => (-(2 ^ 62) ≤ n ∧ n < 2 ^ 62 ∧ a.length * n.toNat ≤ zaK) ∧ k (.fr (.lst (List.replicate n.toNat a).flatten))
  | _, _, _ => False
def fdivD : D → D → (R → Prop) → Prop
  | .int i, .int j, k => (0 < j ∧ j < 1180591620717411303424) ∧ k (.fz (.int (i / j)))
  | _, _, _ => False
def modD : D → D → (R → Prop) → Prop
  | .int i, .int j, k => 0 < j ∧ k (.fz (.int (i % j)))
  | _, _, _ => False
def powD : D → D → (R → Prop) → Prop
  | .int i, .int j, k => (0 ≤ j ∧ j ≤ 1000000 ∧ i.natAbs < 2 ^ 64) ∧ k (.fz (.int (i ^ j.toNat)))
  | _, _, _ => False
def negD : D → (R → Prop) → Prop
  | .int i, k => k (.fz (.int (-i)))
  | _, _ => False
mutual
def D.eqv : D → D → Bool
  | .non, .non => true
  | .bl a, .bl b => a == b
  | .bl a, .int j => (if a then 1 else 0) == j
  | .int i, .bl b => i == (if b then 1 else 0)
  | .int i, .int j => i == j
  | .str x, .str y => x == y
  | .lst xs, .lst ys => D.eqvL xs ys
  | .tup xs, .tup ys => D.eqvL xs ys
  | _, _ => false
def D.eqvL : List D → List D → Bool
  | [], [] => true
  | x :: xs, y :: ys => D.eqv x y && D.eqvL xs ys
  | _, _ => false
end
mutual
/-- data that may be compared at depth (at most n) -/
def D.eqOk : Nat → D → Bool
  | _, .non => true
  | _, .bl _ => true
  | _, .int _ => true
  | _, .str _ => true
  | n + 1, .lst xs => D.eqOkL n xs
  | n + 1, .tup xs => D.eqOkL n xs
  | _, _ => false
def D.eqOkL : Nat → List D → Bool
  | _, [] => true
  | n, x :: xs => D.eqOk n x && D.eqOkL n xs
end
def scalD : D → D → Bool
  | .non, .non => true | .non, .int _ => true | .int _, .non => true | .non, .bl _ => true | .bl _, .non => true | .non, .str _ => true | .str _, .non => true
  | .int _, .int _ => true | .bl _, .bl _ => true | .str _, .str _ => true
  | .int _, .str _ => true | .str _, .int _ => true | .bl _, .str _ => true | .str _, .bl _ => true
  | _, _ => false
def eqC (x y : D) : Prop := scalD x y = true ∨ (x.eqOk 60 = true ∧ y.eqOk 60 = true)
def eqD (x y : D) (k : R → Prop) : Prop := eqC x y ∧ k (.fz (.bl (D.eqv x y)))
def neD (x y : D) (k : R → Prop) : Prop := eqC x y ∧ k (.fz (.bl (!D.eqv x y)))
def ltD : D → D → (R → Prop) → Prop
  | .int i, .int j, k => k (.fz (.bl (decide (i < j))))
  | _, _, _ => False
def leD : D → D → (R → Prop) → Prop
  | .int i, .int j, k => k (.fz (.bl (decide (i ≤ j))))
  | _, _, _ => False
def gtD : D → D → (R → Prop) → Prop
  | .int i, .int j, k => k (.fz (.bl (decide (j < i))))
  | _, _, _ => False
def geD : D → D → (R → Prop) → Prop
  | .int i, .int j, k => k (.fz (.bl (decide (j ≤ i))))
  | _, _, _ => False
def D.isNon : D → Bool
  | .non => true
  | _ => false
def isD (x : D) (k : R → Prop) : Prop := k (.fz (.bl x.isNon))
def isnD (x : D) (k : R → Prop) : Prop := k (.fz (.bl (!x.isNon)))
/-- is, is not with True or False -/
def isBD : D → D → (R → Prop) → Prop
  | .bl a, .bl b, k => k (.fz (.bl (a == b)))
  | _, _, _ => False
def notBD : D → D → (R → Prop) → Prop
  | .bl a, .bl b, k => k (.fz (.bl (!(a == b))))
  | _, _, _ => False
def revD : D → (R → Prop) → Prop
  | .lst xs, k => k (.fr (.lst xs.reverse))
  | _, _ => False
def D.flat : D → Bool
  | .non => true | .bl _ => true | .int _ => true | .str _ => true
  | _ => false
/-- one sign in a text; a flat thing in a list or tuple of flat things -/
def inD : D → D → (Bool → Prop) → Prop
  | .str [c], .str t, k => k (decide (c ∈ t))
  | x, .lst ys, k => x.flat = true ∧ ys.all D.flat = true ∧ k (ys.any fun y => D.eqv y x)
  | x, .tup ys, k => x.flat = true ∧ ys.all D.flat = true ∧ k (ys.any fun y => D.eqv y x)
  | _, _, _ => False
def inDv (x y : D) (k : R → Prop) : Prop := inD x y fun b => k (.fz (.bl b))
def ninDv (x y : D) (k : R → Prop) : Prop := inD x y fun b => k (.fz (.bl (!b)))
/-- the place of an index -/
def ixN (n : Nat) (i : Int) : Option Nat := if 0 ≤ i then (if i < n then some i.toNat else none) else if -(n : Int) ≤ i then some (i + n).toNat else none
def ixD : D → D → (R → Prop) → Prop
  | .lst xs, .int i, k => ∃ j d, ixN xs.length i = some j ∧ xs[j]? = some d ∧ k (.fz d)
  | .tup xs, .int i, k => ∃ j d, ixN xs.length i = some j ∧ xs[j]? = some d ∧ k (.fz d)
  | .str x, .int i, k => ∃ j c, ixN x.length i = some j ∧ x[j]? = some c ∧ k (.fz (.str [c]))
  | _, _, _ => False
def sIx (n d : Nat) : Option Int → Nat
  | none => d
  | some i => if i < 0 then (i + (n : Int)).toNat else min i.toNat n
def cut {α : Type} (xs : List α) (lo hi : Option Int) : List α := (xs.drop (sIx xs.length 0 lo)).take (sIx xs.length xs.length hi - sIx xs.length 0 lo)
def slD : D → Option Int → Option Int → (R → Prop) → Prop
  | .lst xs, lo, hi, k => k (.fr (.lst (cut xs lo hi)))
  | .frl xs, lo, hi, k => k (.fr (.lst (cut xs lo hi)))
  | .str x, lo, hi, k => k (.fz (.str (cut x lo hi)))
  | _, _, _, _ => False
def lenD : D → (R → Prop) → Prop
  | .lst xs, k => k (.fz (.int xs.length))
  | .tup xs, k => k (.fz (.int xs.length))
  | .frl xs, k => k (.fz (.int xs.length))
  | .str x, k => k (.fz (.int x.length))
  | .dct kvs, k => k (.fz (.int kvs.length))
  | .dcT kvs, k => k (.fz (.int kvs.length))
  | _, _ => False
/-- truth -/
def D.tru : D → Option Bool
  | .non => some false
  | .bl b => some b
  | .int i => some (i != 0)
  | .str x => some (!x.isEmpty)
  | .lst xs => some (!xs.isEmpty)
  | .tup xs => some (!xs.isEmpty)
  | .dct kvs => some (!kvs.isEmpty)
  | _ => none

/-! ### built-in functions -/
def lenF : List D → (R → Prop) → Prop
  | [x], k => lenD x k
  | _, _ => False
def allF : List D → (R → Prop) → Prop
  | [.lst xs], k => ∃ bs : List Bool, xs = bs.map D.bl ∧ k (.fz (.bl (bs.all id)))
  | _, _ => False
def anyF : List D → (R → Prop) → Prop
  | [.lst xs], k => ∃ bs : List Bool, xs = bs.map D.bl ∧ k (.fz (.bl (bs.any id)))
  | _, _ => False
def maxF : List D → (R → Prop) → Prop
  | [.int i, .int j], k => k (.fz (.int (if j > i then j else i)))
  | [.lst xs], k => ∃ ns : List Int, xs = ns.map D.int ∧ 0 < ns.length ∧ ∀ m, m ∈ ns → (∀ y, y ∈ ns → y ≤ m) → k (.fz (.int m))
  | _, _ => False
def minF : List D → (R → Prop) → Prop
  | [.int i, .int j], k => k (.fz (.int (if j < i then j else i)))
  | [.lst xs], k => ∃ ns : List Int, xs = ns.map D.int ∧ 0 < ns.length ∧ ∀ m, m ∈ ns → (∀ y, y ∈ ns → m ≤ y) → k (.fz (.int m))
  | _, _ => False
def sumF : List D → (R → Prop) → Prop
  | [.lst xs], k => ∃ ns : List Int, xs = ns.map D.int ∧ k (.fz (.int ns.sum))
  | _, _ => False
def absF : List D → (R → Prop) → Prop
  | [.int i], k => k (.fz (.int (if i < 0 then -i else i)))
  | _, _ => False
def intF : List D → (R → Prop) → Prop
  | [.int i], k => k (.fz (.int i))
  | [.bl b], k => k (.fz (.int (if b then 1 else 0)))
  | _, _ => False
def listF : List D → (R → Prop) → Prop
  | [.lst xs], k => k (.fr (.lst xs))
  | [.tup xs], k => k (.fr (.lst xs))
  | [.frl xs], k => k (.fr (.lst xs))
  | _, _ => False
def tupleF : List D → (R → Prop) → Prop
  | [.lst xs], k => k (.fr (.tup xs))
  | [.tup xs], k => k (.fz (.tup xs))
  | _, _ => False
/-- isinstance with a built-in type -/
inductive Ty where | str | int | bool | list | tuple | dict
  deriving DecidableEq
def D.isTy : Ty → D → Option Bool
  | .str, .str _ => some true
  | .int, .int _ => some true
  | .int, .bl _ => some true
  | .bool, .bl _ => some true
  | .list, .lst _ => some true
  | .list, .frl _ => some true
  | .tuple, .tup _ => some true
  | .dict, .dct _ => some true
  | .dict, .dcT _ => some true
  | _, .obj _ _ => none
  | _, .cls _ => none
  | _, .adr _ => none
  | _, _ => some false
/-! ### methods of texts -/
def joinT (S : Tx) : List Tx → Tx
  | [] => []
  | [p] => p
  | p :: q :: r => p ++ (S ++ joinT S (q :: r))
def joinM (a : Tx) : List D → (R → Prop) → Prop
  | [.lst xs], k => ∃ ys : List Tx, xs = ys.map D.str ∧ (ys.map (·.length)).sum + ys.length * a.length ≤ zaK ∧ k (.fz (.str (joinT a ys)))
  | _, _ => False
def swM (a : Tx) : List D → (R → Prop) → Prop
  | [.str b], k => k (.fz (.bl (a.take b.length == b)))
  | _, _ => False
def ewM (a : Tx) : List D → (R → Prop) → Prop
  | [.str b], k => k (.fz (.bl (decide (b.length ≤ a.length) && (a.drop (a.length - b.length) == b))))
  | _, _ => False
/-! ### what repr shows -/
/-- an int in decimal -/
def intT (i : Int) : Tx := (toString i).toList.map Char.toNat
/-- a sign that repr shows as it is -/
def okC (c : Nat) : Bool := decide (32 ≤ c) && decide (c < 127) && c != 39 && c != 92
/-- how a key shows -/
def kyRep : Ky → Tx
  | .int i => intT i
  | .str x => 39 :: (x ++ [39])
mutual
def D.rep : D → Tx
  | .non => [78, 111, 110, 101]
  | .bl b => if b then [84, 114, 117, 101] else [70, 97, 108, 115, 101]
  | .int i => intT i
  | .str x => 39 :: (x ++ [39])
  | .lst xs => 91 :: (joinT [44, 32] (D.repL xs) ++ [93])
  | .tup xs => 40 :: (joinT [44, 32] (D.repL xs) ++ (if xs.length == 1 then [44, 41] else [41]))
  | .dct ks => 123 :: (joinT [44, 32] (D.repK ks) ++ [125])
  | _ => []
def D.repL : List D → List Tx
  | [] => []
  | x :: xs => D.rep x :: D.repL xs
def D.repK : List (Ky × D) → List Tx
  | [] => []
  | (k, d) :: r => (kyRep k ++ (58 :: 32 :: D.rep d)) :: D.repK r
end
mutual
/-- data that repr shows so: of depth at most n -/
def D.repOk : Nat → D → Bool
  | _, .non => true
  | _, .bl _ => true
  | _, .int i => decide (i.natAbs < 10 ^ 120)
  | _, .str x => x.all okC
  | n + 1, .lst xs => D.repOkL n xs
  | n + 1, .tup xs => D.repOkL n xs
  | _, _ => false
def D.repOkL : Nat → List D → Bool
  | _, [] => true
  | n, x :: xs => D.repOk n x && D.repOkL n xs
end
def kyOk : Ky → Bool
  | .int i => decide (i.natAbs < 10 ^ 120)
  | .str x => x.all okC
mutual
/-- .. dicts among them -/
def D.shOk : Nat → D → Bool
  | _, .non => true
  | _, .bl _ => true
  | _, .int i => decide (i.natAbs < 10 ^ 120)
  | _, .str x => x.all okC
  | n + 1, .lst xs => D.shOkL n xs
  | n + 1, .tup xs => D.shOkL n xs
  | n + 1, .dct ks => D.shOkK n ks
  | _, _ => false
def D.shOkL : Nat → List D → Bool
  | _, [] => true
  | n, x :: xs => D.shOk n x && D.shOkL n xs
def D.shOkK : Nat → List (Ky × D) → Bool
  | _, [] => true
  | n, (k, d) :: r => kyOk k && (D.shOk n d && D.shOkK n r)
end
def kyWt : Ky → Nat
  | .int _ => 128
  | .str x => x.length + 2
mutual
/-- no shorter than what repr shows -/
def D.wt : D → Nat
  | .int _ => 128
  | .str x => x.length + 2
  | .lst xs => D.wtL xs + 2
  | .tup xs => D.wtL xs + 4
  | .dct ks => D.wtK ks + 5
  | _ => 5
def D.wtL : List D → Nat
  | [] => 0
  | x :: xs => D.wt x + 2 + D.wtL xs
def D.wtK : List (Ky × D) → Nat
  | [] => 0
  | (k, d) :: r => kyWt k + 2 + D.wt d + 2 + D.wtK r
end
def D.isE : D → Bool
  | .dct [] => true
  | _ => false
/-- data with dicts in it -/
def D.noD (d : D) : Bool := d.shOk 40 && decide (d.wt ≤ zaK)
def repF : List D → (R → Prop) → Prop
  | [d], k => ((d.repOk 40 = true ∧ d.wt ≤ zaK) ∨ d.noD = true) ∧ k (.fz (.str d.rep))
  | _, _ => False
/-! ### expressions -/
def dC (d : D) : DE := fun ρ Q _ => Q (.fz d) ρ
def zaG (i : Nat) : DE := fun ρ Q _ => match ρ.at i with
  | .fz d => Q (.fz d) ρ
  | .own d => Q (.fz d) (ρ.set i (.fz d))
  | .ownT d => Q (.fz d.calm) (ρ.set i (.fz d.calm))
  | .no => False
def dOp (op : D → D → (R → Prop) → Prop) (f g : DE) : DE := fun ρ Q E => f ρ (fun r ρ1 => g ρ1 (fun s ρ2 => op r.d s.d fun t => Q t ρ2) E) E
def dUn (op : D → (R → Prop) → Prop) (f : DE) : DE := fun ρ Q E => f ρ (fun r ρ1 => op r.d fun t => Q t ρ1) E
/-- arguments, from the left: settled values -/
def dArgs : List DE → Env → (List D → Env → Prop) → EK → Prop
  | [], ρ, Q, _ => Q [] ρ
  | f :: fs, ρ, Q, E => f ρ (fun r ρ1 => dArgs fs ρ1 (fun ds ρ2 => Q (r.d :: ds) ρ2) E) E
def dLst (fs : List DE) : DE := fun ρ Q E => dArgs fs ρ (fun ds ρ1 => ds.length ≤ zaK ∧ Q (.fr (.lst ds)) ρ1) E
def dTup (fs : List DE) : DE := fun ρ Q E => dArgs fs ρ (fun ds ρ1 => ds.length ≤ zaK ∧ Q (.fr (.tup ds)) ρ1) E
def dDct0 : DE := fun ρ Q _ => Q (.fr (.dct [])) ρ
/-- a built-in function of settled values -/
def dFn (op : List D → (R → Prop) → Prop) (fs : List DE) : DE := fun ρ Q E => dArgs fs ρ (fun ds ρ1 => op ds fun t => Q t ρ1) E
def dIsi (t : Ty) (f : DE) : DE := fun ρ Q E => f ρ (fun r ρ1 => ∃ b, r.d.isTy t = some b ∧ Q (.fz (.bl b)) ρ1) E
/-- a method of a text -/
def dMs (op : Tx → List D → (R → Prop) → Prop) (f : DE) (fs : List DE) : DE := fun ρ Q E => f ρ (fun r ρ1 => match r.d with
  | .str a => dArgs fs ρ1 (fun ds ρ2 => op a ds fun t => Q t ρ2) E
  | _ => False) E
/-- part of a slice -/
def dPart : Option DE → Env → (Option Int → Env → Prop) → EK → Prop
  | none, ρ, Q, _ => Q none ρ
  | some f, ρ, Q, E => f ρ (fun r ρ1 => match r.d with | .int i => Q (some i) ρ1 | _ => False) E
def dSl (f : DE) (lo hi : Option DE) : DE := fun ρ Q E => f ρ (fun r ρ1 => dPart lo ρ1 (fun l ρ2 => dPart hi ρ2 (fun h ρ3 => slD r.d l h fun t => Q t ρ3) E) E) E
def dIfE (c : DT) (f g : DE) : DE := fun ρ Q E => c ρ (fun b ρ1 => if b = true then f ρ1 Q E else g ρ1 Q E) E
/-- an item of the object that a name holds, which stays its own -/
def Slot.known : Slot → Bool
  | .no => false
  | _ => true
def dIxN (i : Nat) (g : DE) : DE := fun ρ Q E => (ρ.at i).known = true ∧ g ρ (fun s ρ1 => match ρ1.at i with
  | .own d => ixD d s.d fun t => Q t ρ1
  | .fz d => ixD d s.d fun t => Q t ρ1
  | _ => False) E
/-- read with one's own objects as they stand, for a flat answer -/
def Slot.calm : Slot → Slot
  | .own d => .fz d
  | .ownT d => .fz d.calm
  | s => s
/-- a built-in function of a name whose object stays its own; its answer is flat -/
def dFnN (op : List D → (R → Prop) → Prop) (i : Nat) : DE := fun ρ Q _ => match ρ.at i with
  | .own d => op [d] fun t => t.d.flat = true ∧ Q t ρ
  | .fz d => op [d] fun t => Q t ρ
  | _ => False
/-- an operation whose first operand is a name that keeps its object; its answer is flat -/
def dOpN (op : D → D → (R → Prop) → Prop) (i : Nat) (g : DE) : DE := fun ρ Q E => (ρ.at i).known = true ∧ g ρ (fun s ρ1 => match ρ1.at i with
  | .own d => op d s.d fun t => t.d.flat = true ∧ Q t ρ1
  | .fz d => op d s.d fun t => Q t ρ1
  | _ => False) E
def dLook (f : DE) : DE := fun ρ Q _ => f (ρ.map Slot.calm) (fun r _ => r.d.flat = true ∧ Q (.fz r.d) ρ) fun _ _ => False
/-- tests -/
def tVal (f : DE) : DT := fun ρ Q E => f ρ (fun r ρ1 => match r.d with | .bl b => Q b ρ1 | _ => False) E
def tTru (f : DE) : DT := fun ρ Q E => f ρ (fun r ρ1 => ∃ b, r.d.tru = some b ∧ Q b ρ1) E
def tAnd (c d : DT) : DT := fun ρ Q E => c ρ (fun b ρ1 => if b = true then d ρ1 Q E else Q false ρ1) E
def tOr (c d : DT) : DT := fun ρ Q E => c ρ (fun b ρ1 => if b = true then Q true ρ1 else d ρ1 Q E) E
def tNot (c : DT) : DT := fun ρ Q E => c ρ (fun b ρ1 => Q (!b) ρ1) E
/-- and, or, not as values: all truth values -/
def dAnd (c : DE) (d : DE) : DE := fun ρ Q E => c ρ (fun r ρ1 => match r.d with | .bl b => (if b = true then d ρ1 Q E else Q (.fz (.bl false)) ρ1) | _ => False) E
def dOr (c : DE) (d : DE) : DE := fun ρ Q E => c ρ (fun r ρ1 => match r.d with | .bl b => (if b = true then Q (.fz (.bl true)) ρ1 else d ρ1 Q E) | _ => False) E
def dNot (c : DE) : DE := fun ρ Q E => c ρ (fun r ρ1 => match r.d with | .bl b => Q (.fz (.bl (!b))) ρ1 | _ => False) E
/-- a chain x op y op z -/
def dChain (op op' : D → D → (R → Prop) → Prop) (f g h : DE) : DE := fun ρ Q E => f ρ (fun r ρ1 => g ρ1 (fun s ρ2 => op r.d s.d fun t => match t.d with
  | .bl b => (if b = true then h ρ2 (fun u ρ3 => op' s.d u.d fun t' => Q t' ρ3) E else Q (.fz (.bl false)) ρ2)
  | _ => False) E) E

/-! ### what is walked -/
def iLst (f : DE) : DI := fun ρ Q E => f ρ (fun r ρ1 => match r.d with | .lst xs => Q xs ρ1 | _ => False) E
def iTup (f : DE) : DI := fun ρ Q E => f ρ (fun r ρ1 => match r.d with | .tup xs => Q xs ρ1 | _ => False) E
def iStr (f : DE) : DI := fun ρ Q E => f ρ (fun r ρ1 => match r.d with | .str x => Q (x.map fun c => .str [c]) ρ1 | _ => False) E
def rng (lo : Int) (n : Nat) : List D := (List.range n).map fun (k : Nat) => .int (lo + (k : Int))
def iRng1 (f : DE) : DI := fun ρ Q E => f ρ (fun r ρ1 => match r.d with | .int n => (-(2 ^ 62) ≤ n ∧ n < 2 ^ 62) ∧ Q (rng 0 n.toNat) ρ1 | _ => False) E
def iRng2 (f g : DE) : DI := fun ρ Q E => f ρ (fun r ρ1 => g ρ1 (fun s ρ2 => match r.d, s.d with
  | .int a, .int b => (-(2 ^ 62) ≤ a ∧ a < 2 ^ 62 ∧ -(2 ^ 62) ≤ b ∧ b < 2 ^ 62) ∧ Q (rng a (b - a).toNat) ρ2
  | _, _ => False) E) E
def enumD (xs : List D) : List D := (List.range xs.length).zipWith (fun (i : Nat) x => .tup [.int (i : Int), x]) xs
def iEnum (f : DE) : DI := fun ρ Q E => f ρ (fun r ρ1 => match r.d with | .lst xs => Q (enumD xs) ρ1 | _ => False) E
def iZip (f g : DE) : DI := fun ρ Q E => f ρ (fun r ρ1 => g ρ1 (fun s ρ2 => match r.d, s.d with
  | .lst xs, .lst ys => Q (xs.zipWith (fun x y => .tup [x, y]) ys) ρ2
  | _, _ => False) E) E

/-! ### targets -/
def gN (i : Nat) : DG := fun d ρ k => k (ρ.set i (.fz d))
def gNs : List Nat → List D → Env → (Env → Prop) → Prop
  | [], [], ρ, k => k ρ
  | i :: is, d :: ds, ρ, k => gNs is ds (ρ.set i (.fz d)) k
  | _, _, _, _ => False
def gT (is : List Nat) : DG := fun d ρ k => match d with
  | .tup ds => gNs is ds ρ k
  | _ => False
/-- unpacking a list -/
def gL (is : List Nat) : DG := fun d ρ k => match d with
  | .lst ds => gNs is ds ρ k
  | _ => False
/-! ### comprehensions -/
def wipeE : List Nat → Env → Env
  | [], ρ => ρ
  | v :: vs, ρ => (wipeE vs ρ).set v .no
/-- behind the block: its own names stand as before -/
def Slot.noT : Slot → Slot
  | .ownT _ => .no
  | s => s
def backE : List Nat → Env → Env → Env
  | [], _, ρ => ρ
  | v :: vs, ρ0, ρ => (backE vs ρ0 ρ).set v (ρ0.at v).noT
def noE : EK := fun _ _ => False
def lcL (vs : List Nat) (g : DG) (t : DT) (e : DE) (Q : List D → Env → Prop) : List D → List D → Env → Prop
  | [], acc, ρ => Q acc ρ
  | x :: xs, acc, ρ => g x ρ fun ρ1 => t ρ1 (fun b ρ2 => if b = true then e ρ2 (fun r ρ3 => acc.length < zaK ∧ lcL vs g t e Q xs (acc ++ [r.d]) (wipeE vs ρ3)) noE
    else lcL vs g t e Q xs acc (wipeE vs ρ2)) noE
def tYes : DT := fun ρ Q _ => Q true ρ
def dLc (vs : List Nat) (it : DI) (g : DG) (t : DT) (e : DE) : DE := fun ρ Q E => it ρ (fun xs ρ1 => (∀ i ∈ vs, ∀ d, ρ1.at i ≠ .own d) ∧
  lcL vs g t e (fun acc ρ2 => Q (.fr (.lst acc)) (backE vs ρ1 ρ2)) xs [] (wipeE vs ρ1)) E

/-! ### calls of defs -/
/-- a target that is a name, or a tuple of names -/
inductive Tgt where
  | one (i : Nat)
  | tup (is : List Nat)
def Tgt.g : Tgt → DG
  | .one i => gN i
  | .tup is => gT is
def Tgt.is : Tgt → List Nat
  | .one i => [i]
  | .tup is => is
def D.isRef : D → Bool
  | .lst _ => true
  | .tup _ => true
  | .dct _ => true
  | .obj _ _ => true
  | _ => false
/-- an argument: a value; a settled object where the def may change it (it does not); the object that a name holds, to be changed -/
inductive DA where
  | v (f : DE)
  | r (f : DE)
  | m (i : Nat)
  | h (j k a : Nat)
inductive AV where
  | v (d : D)
  | m (i : Nat)
def Slot.isOwn : Slot → Bool
  | .own _ => true
  | .ownT _ => true
  | _ => false
def dAVs : List DA → Env → (List AV → Env → Prop) → EK → Prop
  | [], ρ, Q, _ => Q [] ρ
  | .v f :: as, ρ, Q, E => f ρ (fun r ρ1 => dAVs as ρ1 (fun vs ρ2 => Q (.v r.d :: vs) ρ2) E) E
  | .r f :: as, ρ, Q, E => f ρ (fun r ρ1 => r.d.isRef = true ∧ dAVs as ρ1 (fun vs ρ2 => Q (.v r.d :: vs) ρ2) E) E
  | .m i :: as, ρ, Q, E => (ρ.at i).known = true ∧ dAVs as ρ (fun vs ρ2 => Q (.m i :: vs) ρ2) E
  | .h j k a :: as, ρ, Q, E => ρ.at j = .fz (.adr a) ∧ dAVs as ρ (fun vs ρ2 => Q (.m k :: vs) ρ2) E
def avSlot (ρ : Env) : AV → Slot
  | .v d => .fz d
  | .m i => ρ.at i
def AV.ok (ρ : Env) : AV → Bool
  | .v _ => true
  | .m i => (ρ.at i).isOwn
def backA : List AV → List Slot → Env → Env
  | .m i :: as, s :: ss, ρ => backA as ss (ρ.set i s)
  | .v _ :: as, _ :: ss, ρ => backA as ss ρ
  | _, _, ρ => ρ
def dCall (con : Con) (as : List DA) : DE := fun ρ Q E => dAVs as ρ (fun vs ρ1 => vs.all (AV.ok ρ1) = true ∧ con (vs.map (avSlot ρ1)) (fun r outs => Q r (backA vs outs ρ1)) fun x outs => E x (backA vs outs ρ1)) E
/-- the places of the arguments that the def may change -/
def DA.mut : DA → Bool
  | .v _ => false
  | _ => true
def DA.slot? : DA → Option Nat
  | .m i => some i
  | .h _ k _ => some k
  | _ => none

/-! ### defs with *args -/
def dCallV (con : Con) (fs : List DE) : DE := fun ρ Q E => dArgs fs ρ (fun ds ρ1 => ds.length ≤ zaK ∧ con [.fz (.tup ds)] (fun r _ => Q r ρ1) fun x _ => E x ρ1) E
/-- f(*e), e a list or a tuple -/
def dCallS (con : Con) (f : DE) : DE := fun ρ Q E => f ρ (fun r ρ1 => match r.d with
  | .lst ds => ds.length ≤ zaK ∧ con [.fz (.tup ds)] (fun r _ => Q r ρ1) fun x _ => E x ρ1
  | .tup ds => ds.length ≤ zaK ∧ con [.fz (.tup ds)] (fun r _ => Q r ρ1) fun x _ => E x ρ1
  | _ => False) E
/-! ### own classes: attributes, making, storing -/
def dFld (c j : Nat) (f : DE) : DE := fun ρ Q E => f ρ (fun r ρ1 => match r.d with
  | .obj c' fs => c' = c ∧ ∃ d, fs[j]? = some d ∧ Q (.fz d) ρ1
  | _ => False) E
def mkC (c : Nat) (con : Con) (ds : List D) (ρ : Env) (Q : R → Env → Prop) (E : EK) : Prop :=
  con (.own (.obj c []) :: ds.map .fz) (fun r outs => r.d = .non ∧ ∃ d, outs.head? = some (.own d) ∧ Q (.fr d) ρ) fun x _ => E x ρ
/-- .. a class whose objects hold parts of their own -/
def mkCT (c : Nat) (con : Con) (ds : List D) (ρ : Env) (Q : R → Env → Prop) (E : EK) : Prop :=
  con (.own (.obj c []) :: ds.map .fz) (fun r outs => r.d = .non ∧ ∃ d, outs.head? = some (.ownT d) ∧ Q (.ft d) ρ) fun x _ => E x ρ
def dMakeT (c : Nat) (con : Con) (fs : List DE) : DE := fun ρ Q E => dArgs fs ρ (fun ds ρ1 => ds.length = fs.length ∧ mkCT c con ds ρ1 Q E) E
def newR : Slot → Option R
  | .own d => some (.fr d)
  | .ownT d => some (.ft d)
  | _ => none
def dMake (c : Nat) (con : Con) (fs : List DE) : DE := fun ρ Q E => dArgs fs ρ (fun ds ρ1 => ds.length = fs.length ∧ mkC c con ds ρ1 Q E) E
/-- .. through a name that holds the class -/
def dMakeV (i c : Nat) (con : Con) (fs : List DE) : DE := fun ρ Q E => (match ρ.at i with | .fz (.cls c') => c' = c | _ => False) ∧ dArgs fs ρ (fun ds ρ1 => ds.length = fs.length ∧ mkC c con ds ρ1 Q E) E
/-- an object of that class -/
def D.isObj (c : Nat) : D → Bool
  | .obj c' _ => c' == c
  | _ => false
def dObj (c : Nat) (f : DE) : DE := fun ρ Q E => f ρ (fun r ρ1 => r.d.isObj c = true ∧ Q r ρ1) E
def Slot.isObj (c : Nat) : Slot → Bool
  | .own d => d.isObj c
  | .ownT d => d.isObj c
  | .fz d => d.isObj c
  | .no => false
/-- x.m(..), x the name's own object -/
def dMethM (i c : Nat) (con : Con) (as : List DA) : DE := fun ρ Q E => (ρ.at i).isObj c = true ∧ dCall con (.m i :: as) ρ Q E
/-- C.m(..), m a classmethod -/
def dCm (c : Nat) (con : Con) (fs : List DE) : DE := fun ρ Q E => dArgs fs ρ (fun ds ρ1 => ds.length = fs.length ∧ con ((D.cls c :: ds).map .fz) (fun r _ => Q r ρ1) fun x _ => E x ρ1) E

def D.isCls (c : Nat) : D → Option Bool
  | .obj c' _ => if c' = c then some true else if c' < 1000 then some false else none
  | .cls _ => none
  | .adr _ => none
  | _ => some false
def dIsO (c : Nat) (f : DE) : DE := fun ρ Q E => f ρ (fun r ρ1 => ∃ b, r.d.isCls c = some b ∧ Q (.fz (.bl b)) ρ1) E
/-- a == b, a != b by the own == of a's class -/
def D.eqTo (c : Nat) : D → Bool
  | .obj c' _ => c' == c
  | .cls _ => false
  | .adr _ => false
  | .frl _ => false
  | _ => true
def dEqO (c : Nat) (con : Con) (neg : Bool) (f g : DE) : DE := fun ρ Q E => f ρ (fun r ρ1 => g ρ1 (fun s ρ2 => r.d.isObj c = true ∧ (if neg = true then s.d.isObj c = true else s.d.eqTo c = true) ∧
  con [.fz r.d, .fz s.d] (fun t _ => ∃ b, t.d = .bl b ∧ Q (.fz (.bl (if neg = true then !b else b))) ρ2) fun _ _ => False) E) E
/-- (object, number) != (object, number), equal ones -/
def dNeT (c : Nat) (con : Con) (f g : DE) : DE := fun ρ Q E => f ρ (fun r ρ1 => g ρ1 (fun s ρ2 => ∃ o o' i, r.d = .tup [o, .int i] ∧ s.d = .tup [o', .int i] ∧ o.isObj c = true ∧ o'.isObj c = true ∧ Q (.fz (.bl false)) ρ2 ∧
  con [.fz o, .fz o'] (fun t _ => ∃ b, t.d = .bl b ∧ (R.fz (.bl b) = .fz (.bl true) ∧ Q (.fz (.bl false)) ρ2)) fun _ _ => False) E) E
/-! ### statements -/
/-- x.f = e, x the name's own object: a new attribute, or one that is there -/
def sFld (i c j : Nat) (f : DE) : DS := fun D ρ E => f ρ (fun r ρ1 => match ρ1.at i with
  | .own (.obj c' fs) => c' = c ∧ j ≤ fs.length ∧ D.nx (ρ1.set i (.own (.obj c (if j < fs.length then fs.set j r.d else fs ++ [r.d]))))
  | _ => False) E
def sNx : DS := fun D ρ _ => D.nx ρ
def sSeq (f g : DS) : DS := fun D ρ E => f { D with nx := fun ρ1 => g D ρ1 E } ρ E
def sRet (f : DE) : DS := fun D ρ E => f ρ D.rt E
def sRetN : DS := fun D ρ _ => D.rt (.fz .non) ρ
def sExp (f : DE) : DS := fun D ρ E => f ρ (fun _ ρ1 => D.nx ρ1) E
def sAsg (g : DG) (f : DE) : DS := fun D ρ E => f ρ (fun r ρ1 => g r.d ρ1 D.nx) E
/-- a new object becomes the name's own -/
def sAsgO (i : Nat) (f : DE) : DS := fun D ρ E => f ρ (fun r ρ1 => match r with | .fr (.tup _) => False | .ft (.tup _) => False | .fr d => D.nx (ρ1.set i (.own d)) | .ft d => D.nx (ρ1.set i (.ownT d)) | .fz _ => False) E
def sIf (c : DT) (f g : DS) : DS := fun D ρ E => c ρ (fun b ρ1 => if b = true then f D ρ1 E else g D ρ1 E) E
def sAug (i : Nat) (op : D → D → (R → Prop) → Prop) (f : DE) : DS := fun D ρ E => match ρ.at i with
  | .fz x => f ρ (fun r ρ1 => op x r.d fun t => D.nx (ρ1.set i (.fz t.d))) E
  | _ => False
def forL (g : DG) (body : DS) (J : DEnds) (E : EK) : List D → Env → Prop
  | [], ρ => J.nx ρ
  | x :: xs, ρ => g x ρ fun ρ1 => body { nx := forL g body J E xs, ct := forL g body J E xs, bk := J.nx, rt := J.rt } ρ1 E
def sFor (it : DI) (g : DG) (body : DS) : DS := fun D ρ E => it ρ (fun xs ρ1 => forL g body D E xs ρ1) E
def whL (c : DT) (body : DS) (J : DEnds) (E : EK) : Nat → Env → Prop
  | 0, _ => False
  | n + 1, ρ => c ρ (fun b ρ1 => if b = true then body { nx := whL c body J E n, ct := whL c body J E n, bk := J.nx, rt := J.rt } ρ1 E else J.nx ρ1) E
def sWh (c : DT) (body : DS) : DS := fun D ρ E => ∃ n, whL c body D E n ρ
def sBrk : DS := fun D ρ _ => D.bk ρ
def sCnt : DS := fun D ρ _ => D.ct ρ
def sRaise (c : Nat) (f : DE) : DS := fun D ρ E => f ρ (fun r ρ1 => E ⟨c, r.d⟩ ρ1) E
def Slot.ownL : Slot → Bool
  | .own (.lst _) => true
  | _ => false
/-- x.append(e), x the name's own list -/
def sApp (i : Nat) (f : DE) : DS := fun D ρ E => (ρ.at i).ownL = true ∧ f ρ (fun r ρ1 => match ρ1.at i with
  | .own (.lst xs) => xs.length < zaK ∧ D.nx (ρ1.set i (.own (.lst (xs ++ [r.d]))))
  | _ => False) E
/-- x.extend(e), x the name's own list -/
def sExt (i : Nat) (f : DE) : DS := fun D ρ E => (ρ.at i).ownL = true ∧ f ρ (fun r ρ1 => match ρ1.at i, r.d with
  | .own (.lst xs), .lst ys => xs.length + ys.length ≤ zaK ∧ D.nx (ρ1.set i (.own (.lst (xs ++ ys))))
  | _, _ => False) E
/-- x[k] = e, x the name's own list -/
def putAt (i : Nat) (k : DE) (d : D) (E : EK) (ρ : Env) (Q : Env → Prop) : Prop := (ρ.at i).ownL = true ∧ k ρ (fun s ρ2 => match ρ2.at i, s.d with
  | .own (.lst xs), .int z => ∃ j, ixN xs.length z = some j ∧ Q (ρ2.set i (.own (.lst (xs.set j d))))
  | _, _ => False) E
/-- x[a], x[b] = f, g -/
def sPut2 (i : Nat) (a b : DE) (f g : DE) : DS := fun D ρ E => dArgs [f, g] ρ (fun ds ρ1 => match ds with
  | [d1, d2] => putAt i a d1 E ρ1 fun ρ2 => putAt i b d2 E ρ2 D.nx
  | _ => False) E
def sPut (i : Nat) (k : DE) (f : DE) : DS := fun D ρ E => f ρ (fun r ρ1 => (ρ1.at i).ownL = true ∧ k ρ1 (fun s ρ2 => match ρ2.at i, s.d with
  | .own (.lst xs), .int z => ∃ j, ixN xs.length z = some j ∧ D.nx (ρ2.set i (.own (.lst (xs.set j r.d))))
  | _, _ => False) E) E
/-- a, b = f, g: two different names -/
def sPar (i j : Nat) (f g : DE) : DS := fun D ρ E => f ρ (fun r ρ1 => g ρ1 (fun s ρ2 => D.nx ((ρ2.set i (.fz r.d)).set j (.fz s.d))) E) E
/-- a, b = f, []: the second name's own -/
def sParL (i j : Nat) (f : DE) : DS := fun D ρ E => f ρ (fun r ρ1 => D.nx ((ρ1.set i (.fz r.d)).set j (.own (.lst [])))) E
/-- a, b, c = f, g, h: three different names -/
def sPar3 (i j l : Nat) (f g h : DE) : DS := fun D ρ E => f ρ (fun r ρ1 => g ρ1 (fun s ρ2 => h ρ2 (fun t ρ3 => D.nx (((ρ3.set i (.fz r.d)).set j (.fz s.d)).set l (.fz t.d))) E) E) E
/-- try: the clauses, each with its name's slot, its class, its suite by the exception -/
abbrev DClause := Nat × Nat × (Exc → DS)
def DEnds.unname (D : DEnds) (i : Nat) : DEnds := { nx := fun ρ => D.nx (ρ.set i .no), rt := D.rt, bk := fun ρ => D.bk (ρ.set i .no), ct := fun ρ => D.ct (ρ.set i .no) }
def catchD : List DClause → DEnds → EK → EK
  | [], _, E => E
  | (i, c, suite) :: r, D, E => fun x ρ => if x.cls = c then i < ρ.length ∧ suite x (D.unname i) (ρ.set i .no) noE else catchD r D E x ρ
def sTrys (cl : List DClause) (body : DS) : DS := fun D ρ E => body D ρ (catchD cl D E)
/-- a def's body -/
def startE (n : Nat) (args : List Slot) : Env := args ++ List.replicate (n - args.length) .no
/-- the first n slots -/
def outsE : Nat → Env → List Slot
  | 0, _ => []
  | n + 1, [] => .no :: outsE n []
  | n + 1, s :: ρ => s :: outsE n ρ
def runD (n : Nat) (body : DS) : Con := fun args Q E => body { nx := fun ρ => Q (.fz .non) (outsE args.length ρ), rt := fun r ρ => Q r (outsE args.length ρ) } (startE n args) fun x ρ => E x (outsE args.length ρ)
/-! ### more parts -/
def tLook (c : DT) : DT := fun ρ Q _ => c (ρ.map Slot.calm) (fun b _ => Q b ρ) noE
/-- n numbers from lo down -/
def rngD (lo : Int) (n : Nat) : List D := (List.range n).map fun (k : Nat) => .int (lo - (k : Int))
/-- the same, for ends of any size -/
def iRngB' (f g : DE) : DI := fun ρ Q E => f ρ (fun r ρ1 => g ρ1 (fun s ρ2 => match r.d, s.d with
  | .int a, .int b => Q (rngD a (a - b).toNat) ρ2
  | _, _ => False) E) E
def iRngD (f g : DE) : DI := fun ρ Q E => f ρ (fun r ρ1 => g ρ1 (fun s ρ2 => match r.d, s.d with
  | .int a, .int b => (-(2 ^ 62) ≤ a ∧ a < 2 ^ 62 ∧ -(2 ^ 62) ≤ b ∧ b < 2 ^ 62) ∧ Q (rngD a (a - b).toNat) ρ2
  | _, _ => False) E) E
def revT : D → (R → Prop) → Prop
  | .str x, k => k (.fz (.str x.reverse))
  | _, _ => False
def lookD (kvs : List (Ky × D)) (k : Ky) : Option D := (kvs.find? fun p => decide (p.1 = k)).map (·.2)
/-- keys that are tuples of numbers and texts -/
def kyOf1 : D → Option Ky
  | .int i => some (.int i)
  | .str x => some (.str x)
  | _ => none
def kysOf : List D → Option (List Ky)
  | [] => some []
  | x :: xs => (kyOf1 x).bind fun k => (kysOf xs).map (k :: ·)
def lookT (kvs : List (List Ky × D)) (k : List Ky) : Option D := (kvs.find? fun p => decide (p.1 = k)).map (·.2)
def dgetD : D → D → (R → Prop) → Prop
  | .dct kvs, .int i, k => ∃ d, lookD kvs (.int i) = some d ∧ k (.fz d)
  | .dct kvs, .str x, k => ∃ d, lookD kvs (.str x) = some d ∧ k (.fz d)
  | .dcT kvs, .tup xs, k => ∃ ks d, kysOf xs = some ks ∧ lookT kvs ks = some d ∧ k (.fz d)
  | _, _, _ => False
def dDisp (ks : List Ky) (fs : List DE) : DE := fun ρ Q _ => dArgs fs ρ (fun ds ρ1 => Q (.fr (.dct (ks.zip ds))) ρ1) noE
/-- pairs of signs -/
def signs2 (a b : Tx) : List D := a.zipWith (fun x y => .tup [.str [x], .str [y]]) b
def iZipS (f g : DE) : DI := fun ρ Q E => f ρ (fun r ρ1 => g ρ1 (fun s ρ2 => match r.d, s.d with
  | .str a, .str b => Q (signs2 a b) ρ2
  | _, _ => False) E) E
def seqOf : D → Option (Bool × List D)
  | .lst xs => some (true, xs)
  | .tup xs => some (false, xs)
  | _ => none
/-- zip(.., strict=True) of two lists, a tuple and a list, a list and a tuple -/
def zipKD (a b : D) (k : List D → Prop) : Prop := ∃ p q xs ys, seqOf a = some (p, xs) ∧ seqOf b = some (q, ys) ∧ (p || q) = true ∧ xs.length = ys.length ∧ k (xs.zipWith (fun x y => .tup [x, y]) ys)
def iZipK (f g : DE) : DI := fun ρ Q E => f ρ (fun r ρ1 => g ρ1 (fun s ρ2 => zipKD r.d s.d fun zs => Q zs ρ2) E) E
/-- min(pair), the pair a tuple of two ints -/
def minPF : List D → (R → Prop) → Prop
  | [.tup [.int i, .int j]], k => k (.fz (.int (if j < i then j else i)))
  | _, _ => False
/-- a, b = [], n: the first name's own -/
def sParF (i j : Nat) (n : Int) : DS := fun D ρ E => D.nx ((ρ.set i (.own (.lst []))).set j (.fz (.int n)))
/-- len(e), repr(e) by the class's own def -/
def dLenO (c : Nat) (con : Con) (f : DE) : DE := fun ρ Q E => f ρ (fun r ρ1 => r.d.isObj c = true ∧ con [.fz r.d] (fun t _ => ∃ n : Nat, t.d = .int n ∧ n < 2 ^ 62 ∧ Q (.fz (.int n)) ρ1) fun _ _ => False) E
def dRepO (c : Nat) (con : Con) (f : DE) : DE := fun ρ Q E => f ρ (fun r ρ1 => r.d.isObj c = true ∧ con [.fz r.d] (fun t _ => ∃ x, t.d = .str x ∧ Q (.fz (.str x)) ρ1) fun _ _ => False) E
/-- values as they come: settled, or new -/
def dVals : List DE → Env → (List R → Env → Prop) → EK → Prop
  | [], ρ, Q, _ => Q [] ρ
  | f :: fs, ρ, Q, E => f ρ (fun r ρ1 => dVals fs ρ1 (fun rs ρ2 => Q (r :: rs) ρ2) E) E
/-- stored: where own is wished for, a new object becomes the name's own -/
def putR : List (Nat × Bool) → List R → Env → (Env → Prop) → Prop
  | [], [], ρ, k => k ρ
  | (_, true) :: _, .fr (.tup _) :: _, _, _ => False
  | (_, true) :: _, .ft (.tup _) :: _, _, _ => False
  | (i, true) :: is, .fr d :: rs, ρ, k => putR is rs (ρ.set i (.own d)) k
  | (i, true) :: is, .ft d :: rs, ρ, k => putR is rs (ρ.set i (.ownT d)) k
  | (i, false) :: is, r :: rs, ρ, k => putR is rs (ρ.set i (.fz r.d)) k
  | _, _, _, _ => False
/-- a, b, .. = f, g, ..: different names, some of which keep their new objects -/
def sParR (is : List (Nat × Bool)) (fs : List DE) : DS := fun D ρ E => dVals fs ρ (fun rs ρ1 => putR is rs ρ1 D.nx) E
/-! ### f-strings, wide products, places of a sign -/
def dFmt (f : DE) : DE := fun ρ Q E => f ρ (fun r ρ1 => match r.d with
  | .str x => Q (.fz (.str x)) ρ1
  | .int i => i.natAbs < 10 ^ 120 ∧ Q (.fz (.str (intT i))) ρ1
  | _ => False) E
def dFmtR (f : DE) : DE := fun ρ Q E => f ρ (fun r ρ1 => match r.d with
  | .str x => (x.all okC = true ∧ x.length + 2 ≤ zaK) ∧ Q (.fz (.str (39 :: (x ++ [39])))) ρ1
  | .int i => i.natAbs < 10 ^ 120 ∧ Q (.fz (.str (intT i))) ρ1
  | _ => False) E
def fstL : List DE → Tx → Env → (Tx → Env → Prop) → EK → Prop
  | [], acc, ρ, Q, _ => Q acc ρ
  | f :: fs, acc, ρ, Q, E => f ρ (fun r ρ1 => match r.d with
    | .str y => acc.length + y.length ≤ zaK ∧ fstL fs (acc ++ y) ρ1 Q E
    | _ => False) E
def dFst (fs : List DE) : DE := fun ρ Q E => fstL fs [] ρ (fun x ρ1 => Q (.fz (.str x)) ρ1) E
def mulWD : D → D → (R → Prop) → Prop
  | .int i, .int j, k => (i.natAbs < 2 ^ 3000 ∧ j.natAbs < 2 ^ 3000) ∧ k (.fz (.int (i * j)))
  | _, _, _ => False
/-- the places of a sign -/
def placesOf (x : Tx) (c : Nat) : List Nat := (List.range x.length).filter fun i => x[i]? == some c
def countM (a : Tx) : List D → (R → Prop) → Prop
  | [.str [c]], k => k (.fz (.int (placesOf a c).length))
  | _, _ => False
def indexM (a : Tx) : List D → (R → Prop) → Prop
  | [.str [c]], k => ∃ i r, placesOf a c = i :: r ∧ k (.fz (.int (i : Int)))
  | _, _ => False
/-- list(range(a, b)) -/
def lstRg (a b : Int) (k : R → Prop) : Prop := (-(2 ^ 62) ≤ a ∧ a < 2 ^ 62 ∧ -(2 ^ 62) ≤ b ∧ b < 2 ^ 62 ∧ (b - a).toNat ≤ zaK) ∧ k (.fr (.lst (rng a (b - a).toNat)))
def dLrg1 (f : DE) : DE := fun ρ Q E => f ρ (fun r ρ1 => match r.d with | .int b => lstRg 0 b fun t => Q t ρ1 | _ => False) E
def dLrg2 (f g : DE) : DE := fun ρ Q E => f ρ (fun r ρ1 => g ρ1 (fun s ρ2 => match r.d, s.d with
  | .int a, .int b => lstRg a b fun t => Q t ρ2
  | _, _ => False) E) E
def imulD : D → D → (R → Prop) → Prop
  | .int i, .int j, k => ((-(2 ^ 64) < i ∧ i < 2 ^ 64) ∨ (-(2 ^ 64) < j ∧ j < 2 ^ 64)) ∧ k (.fz (.int (i * j)))
  | _, _, _ => False
/-- return x, x the name's own object, which leaves with it (M: the names of what the caller may change) -/
def sRetO (i : Nat) (M : List Nat) : DS := fun D ρ _ => match ρ.at i with
  | .own d => (M.all fun k => (ρ.at k).isOwn) = true ∧ D.rt (.fr d) (ρ.set i .no)
  | .fz d => D.rt (.fz d) ρ
  | _ => False
end DL

set_option Elab.async false
set_option linter.all false
set_option autoImplicit false
set_option maxRecDepth 100000
set_option maxHeartbeats 1000000
/-! DHZ: the head by one run of the machine, what it asks: it stands ahead of the layer, so that the run is checked first. -/
namespace DLE
open PySem PySem.W PySem.Calls PyProof.Rows PySem.HandSPX Builtin Builtin.ObjectAttr
/-! ### the text of __init__(self, f): self.f = f -/
def iA (f : String) (p1 p2 : Pos) : Arguments := { posonlyargs := [], args := [{ arg := "self", annotation := none, pos := p1 }, { arg := f, annotation := none, pos := p2 }], vararg := none, kwonlyargs := [], kw_defaults := [], kwarg := none, defaults := [] }
def iB (f : String) (q1 q2 q3 q4 : Pos) : List Stmt := [.Assign [.Attribute (.Name "self" q1) f q2] (.Name f q3) q4]
def iS (f : String) : Scope := { kind := .function, names := [(PySem.Str.ofString "self", .local), (PySem.Str.ofString f, .local)], isGenerator := false, isCoroutine := false, more := [] }
end DLE
namespace DL
open PySem PySem.Spec PyProof.Rows L2
def tx (l : Tx) : Str := ⟨l.toArray⟩
abbrev FnVd : Type := Option (Str × Str × Arguments × FuncBody × Scope × Addr × List (Str × Addr) × Value × Addr)
/-- the function object at f, but for what differs from run to run -/
def fnAt (K : PySem.W.Frag) (f : Addr) : FnVd := match K.lookup f with
  | some ⟨_, _, .func fd, _⟩ => some (fd.name, fd.qualname, fd.params, fd.body, fd.scope, fd.globals, fd.closure, fd.defaults, fd.builtins)
  | _ => none
def codeB (K : PySem.W.Frag) (f : Addr) (q : Str) : Bool := match K.lookup f with
  | some ⟨_, _, .func fd, _⟩ => PySem.W.codeIn K fd.code q
  | _ => false
def fnV (x q : Str) (a : Arguments) (b : List Stmt) (sc : Scope) : FnVd := some (x, q, a, .stmts b, sc, mainGlobals, [], .none, builtinsNs)
def kdB (K : PySem.W.Frag) (f : Addr) : Bool := match K.lookup f with
  | some ⟨_, _, .func fd, _⟩ => decide (fd.kwdefaults = .none)
  | _ => false
/-- an own class's object -/
def slB (sl : List (Option Value)) (ok : String → Bool) : Bool := match sl with
  | [_, _, _, _, some (.builtin n), _] => ok n
  | _ => false
def mroB (mro : List Value) (C : Addr) (ok : List Value → Bool) : Bool := match mro with
  | .ref C' :: bm => C' == C && ok bm
  | _ => false
def clsB (K : PySem.W.Frag) (C : Addr) (okm : List Value → Bool) (okd : Bool → Bool) (okn : String → Bool) : Bool := match K.lookup C with
  | some ⟨.type t, _, .cls cd, sl⟩ => t == "type" && (!cd.hasDel && (mroB cd.mro C okm && (okd cd.hasDict && slB sl.toList okn)))
  | _ => false
def clsN (K : PySem.W.Frag) (C : Addr) : Addr := match K.lookup C with
  | some ⟨_, _, .cls cd, _⟩ => cd.ns
  | _ => 0
def clsNm (K : PySem.W.Frag) (C : Addr) : Str := match K.lookup C with
  | some ⟨_, _, .cls cd, _⟩ => cd.name
  | _ => Str.empty
/-- a class's names are texts -/
def nsStrB (K : PySem.W.Frag) (N : Addr) : Bool := match K.lookup N with
  | some ⟨_, _, .dict es _, _⟩ => es.toList.all fun e => match e.key with
    | .str _ _ => true
    | _ => false
  | _ => false
/-- the first thing that a descriptor keeps -/
def recF (K : PySem.W.Frag) (p : Addr) (ty : String) : Addr := match PySem.W.recIn K p ty with
  | some (.ref f :: _) => f
  | _ => 0
def recT (K : PySem.W.Frag) (p : Addr) (ty : String) : List Value := match PySem.W.recIn K p ty with
  | some (_ :: r) => r
  | _ => []
/-- a static or class method's descriptor -/
def cmP (K : PySem.W.Frag) (C : Addr) (m : Str) : Addr := match PySem.W.findCls K (.ref C) (.type "type") m with
  | some (.get _ (.ref p) _ _) => p
  | _ => 0
/-- a number, a text that stands behind a name -/
def intB (o : Option (Option Value)) (i : Int) : Bool := match o with
  | some (some (.int j _)) => decide (j = i)
  | _ => false
def strB (o : Option (Option Value)) (x : Str) : Bool := match o with
  | some (some (.str y _)) => decide (y = x)
  | _ => false
def cvB (o : Option PySem.W.CFound) (i : Int) : Bool := match o with
  | some (.val (.int j _)) => decide (j = i)
  | _ => false
def cmB (K : PySem.W.Frag) (C : Addr) (m : Str) (g : String) : Bool := match PySem.W.findCls K (.ref C) (.type "type") m with
  | some (.get (.builtin g') (.ref _) .none (.ref C')) => decide (g' = g) && decide (C' = C)
  | _ => false
/-! ### the questions -/
abbrev AlH : Type := Bool × List FnVd
def obsH (fs : List (PySem.W.Frag → Bool)) (fn : List (PySem.W.Frag → Addr)) (K : PySem.W.Frag) : AlH := (fs.all fun f => f K, fn.map fun a => fnAt K (a K))
/-- what these objects name, themselves apart -/
def nextH (g : Addr → Option Obj) (as : List Addr) : List Addr := as.flatMap fun a => match g a with
  | some o => (He.refsD o).filter fun b => !(b == a)
  | none => []
def wayH (g : Addr → Option Obj) : Nat → List Addr → List Addr
  | 0, as => as
  | n + 1, as => as ++ wayH g n (nextH g as)
/-- what the module's names reach in n steps; the model's own table -/
def asH (g : Addr → Option Obj) (n : Nat) : List Addr := mainGlobals :: cStatics :: wayH g n (nextH g [mainGlobals])
def obsHG (n : Nat) (fs : List (PySem.W.Frag → Bool)) (fn : List (PySem.W.Frag → Addr)) (g : Addr → Option Obj) : AlH := obsH fs fn (He.frG g (asH g n))
def hookH (n : Nat) (fs : List (PySem.W.Frag → Bool)) (fn : List (PySem.W.Frag → Addr)) (vs : List FnVd) : PySem.W.Hook where
  α := AlH
  obs := fun s => obsHG n fs fn s.heap.get?
  val := fun _ => (true, vs)
  says := fun _ h => ∃ K : PySem.W.Frag, K.In h ∧ obsH fs fn K = (true, vs)
  of := fun _ _ e => ⟨_, He.frG_in, e⟩
  keeps := fun _ _ _ ⟨K, hK, c⟩ k => ⟨K, PySem.W.Frag.In.keeps hK k, c⟩
section
variable {fs : List (PySem.W.Frag → Bool)} {fn : List (PySem.W.Frag → Addr)} {vs : List FnVd} {K : PySem.W.Frag}
end
end DL

set_option Elab.async false
set_option linter.all false
set_option autoImplicit false
set_option maxRecDepth 100000
set_option maxHeartbeats 1000000
/-! DHY: the head by one run: what it asks besides of defs with keyword-only defaults and of defs that say super(). -/
namespace DL
open PySem PySem.Spec PyProof.Rows L2
/-- the function object at f; its closure and its defaults are asked apart -/
def fnAtS (K : PySem.W.Frag) (f : Addr) : FnVd := match K.lookup f with
  | some ⟨_, _, .func fd, _⟩ => some (fd.name, fd.qualname, fd.params, fd.body, fd.scope, fd.globals, [], .none, fd.builtins)
  | _ => none
abbrev FnO : Type := PySem.W.Frag → FnVd
def obsX (fs : List (PySem.W.Frag → Bool)) (gs : List FnO) (K : PySem.W.Frag) : AlH := (fs.all fun f => f K, gs.map fun g => g K)
def obsXG (n : Nat) (fs : List (PySem.W.Frag → Bool)) (gs : List FnO) (g : Addr → Option Obj) : AlH := obsX fs gs (He.frG g (asH g n))
def hookX (n : Nat) (fs : List (PySem.W.Frag → Bool)) (gs : List FnO) (vs : List FnVd) : PySem.W.Hook where
  α := AlH
  obs := fun s => obsXG n fs gs s.heap.get?
  val := fun _ => (true, vs)
  says := fun _ h => ∃ K : PySem.W.Frag, K.In h ∧ obsX fs gs K = (true, vs)
  of := fun _ _ e => ⟨_, He.frG_in, e⟩
  keeps := fun _ _ _ ⟨K, hK, c⟩ k => ⟨K, PySem.W.Frag.In.keeps hK k, c⟩
section
variable {fs : List (PySem.W.Frag → Bool)} {gs : List FnO} {vs : List FnVd} {K : PySem.W.Frag}
end
/-! ### keyword-only defaults -/
def refO : Value → Addr
  | .ref d => d
  | _ => 0
def isRefV : Value → Bool
  | .ref _ => true
  | _ => false
def fdOf (K : PySem.W.Frag) (f : Addr) : Option FuncData := match K.lookup f with
  | some ⟨_, _, .func fd, _⟩ => some fd
  | _ => none
def kwA (K : PySem.W.Frag) (f : Addr) : Addr := match fdOf K f with
  | some fd => refO fd.kwdefaults
  | none => 0
def kwB (K : PySem.W.Frag) (f : Addr) : Bool := match fdOf K f with
  | some fd => isRefV fd.kwdefaults
  | none => false
/-! ### super() -/
def cloO : List (Str × Addr) → Addr
  | [(_, c)] => c
  | _ => 0
def isClo : List (Str × Addr) → Bool
  | [(x, _)] => decide (x = "__class__")
  | _ => false
def cloA (K : PySem.W.Frag) (f : Addr) : Addr := match fdOf K f with
  | some fd => cloO fd.closure
  | none => 0
def cloB (K : PySem.W.Frag) (f : Addr) : Bool := match fdOf K f with
  | some fd => isClo fd.closure
  | none => false
def dflV (K : PySem.W.Frag) (f : Addr) : Value := match fdOf K f with
  | some fd => fd.defaults
  | none => .none
def cdA (K : PySem.W.Frag) (f : Addr) : Addr := match fdOf K f with
  | some fd => refO fd.code
  | none => 0
def cdRB (K : PySem.W.Frag) (f : Addr) : Bool := match fdOf K f with
  | some fd => isRefV fd.code
  | none => false
def dflA (K : PySem.W.Frag) (f : Addr) : Addr := refO (dflV K f)
/-- a tuple of one number -/
def isOneI (i : Int) : List Value → Bool
  | [.int j _] => decide (j = i)
  | _ => false
def seqB (K : PySem.W.Frag) (a : Addr) (i : Int) : Bool := match K.lookup a with
  | some ⟨_, _, .seq xs _, _⟩ => isOneI i xs.toList
  | _ => false
/-- a code object's fields: the file -/
def isStrO (x : Str) : Option Value → Bool
  | some (.str y _) => decide (y = x)
  | _ => false
def fldB (K : PySem.W.Frag) (a : Addr) (x : Str) : Bool := match K.lookup a with
  | some ⟨_, _, .fields vs, _⟩ => isStrO x vs[2]?
  | _ => false
def isCellO (c : Addr) : Option Value → Bool
  | some (.ref b) => decide (b = c)
  | _ => false
def cellB (K : PySem.W.Frag) (a c : Addr) : Bool := match K.lookup a with
  | some ⟨_, _, .cell v, _⟩ => isCellO c v
  | _ => false
end DL

namespace Wk56
open PySem PySem.Spec PyProof.Rows L2 DL
def sat (i : Nat) : Stmt := PySem.Challenge.pw_queueeffect_k56_shortest_routes.main.body.getD i (.Pass ⟨0, 0, 0, 0⟩)
abbrev s__law_hand : Stmt := sat 26
abbrev s__law_draw : Stmt := sat 27
abbrev s__law_word : Stmt := sat 28
abbrev s__law_two : Stmt := sat 31
abbrev s__law_overlaps : Stmt := sat 30
abbrev s__law_moves : Stmt := sat 32
abbrev s__law_fewest : Stmt := sat 33
abbrev s_is_word : Stmt := sat 7
abbrev s_is_queue : Stmt := sat 8
abbrev s_check_queue : Stmt := sat 9
abbrev s_check_queues : Stmt := sat 18
abbrev s_overlaps : Stmt := sat 19
abbrev s_distance : Stmt := sat 20
abbrev s_shortest_route : Stmt := sat 21
abbrev s_binomial : Stmt := sat 16
abbrev s_mixed : Stmt := sat 22
abbrev s_all_shortest_routes : Stmt := sat 23
abbrev s__law_go : Stmt := sat 29
abbrev s__law_long : Stmt := sat 35
abbrev s_is_step : Stmt := sat 10
abbrev s_first_invalid : Stmt := sat 11
abbrev s_is_sequence : Stmt := sat 12
abbrev s_execute : Stmt := sat 13
abbrev s_is_route : Stmt := sat 24
abbrev s__law_all : Stmt := sat 34
abbrev s_law : Stmt := sat 36
end Wk56

set_option Elab.async false
set_option linter.all false
set_option autoImplicit false
set_option maxRecDepth 100000
/-! DLX: how data lies in the heap; expressions, statements, defs by what they do to data. -/
namespace DL
open PySem PySem.Spec PyProof.Rows L2

theorem tx_len (l : Tx) : (tx l).length = l.length := by simp [tx, Str.length]
theorem tx_app (a b : Tx) : tx a ++ tx b = tx (a ++ b) := by
  show Str.append (tx a) (tx b) = _
  unfold Str.append tx
  simp
theorem tx_inj {a b : Tx} (h : tx a = tx b) : a = b := by
  have := congrArg (fun s => s.cps.toList) h
  simpa [tx] using this
theorem tx_list (l : Tx) : (tx l).cps.toList = l := by simp [tx]
def okTx (l : Tx) : Prop := (∀ c ∈ l, c < 0x110000) ∧ l.length ≤ sizeLine
def kyV : Ky → Key
  | .int i => .inl i
  | .str x => .inr (tx x)
def okKy : Ky → Prop
  | .int _ => True
  | .str x => okTx x
theorem kyV_inj : ∀ {a b : Ky}, kyV a = kyV b → a = b
  | .int i, .int j, h => by cases h; rfl
  | .str x, .str y, h => by
    have : tx x = tx y := Sum.inr.inj h
    rw [tx_inj this]
  | .int i, .str y, h => nomatch h
  | .str x, .int j, h => nomatch h

/-- the tuples: nobody's own -/
def tupB : HO → Bool
  | .tup _ => true
  | _ => false
/-- the dicts -/
def dicB : HO → Bool
  | .dK _ => true
  | .dT _ => true
  | _ => false
/-- what is settled lies in the heap; a dict that is walked over is locked there -/
structure SmW (F H : Hp) : Prop where
  w : ∀ a o, F a = some o → H a = some o ∨ ∃ od, dicB o = true ∧ H a = some (.frz od o)
theorem SmW.at_ {F H : Hp} (s : SmW F H) (a : Addr) (o : HO) (h : F a = some o) (hn : dicB o = false := by rfl) : H a = some o := (s.w a o h).elim id fun ⟨_, e, _⟩ => by rw [hn] at e; cases e
instance {F H : Hp} : CoeFun (SmW F H) (fun _ => ∀ (a : Addr) (o : HO), F a = some o → (hn : dicB o = false := by rfl) → H a = some o) := ⟨@SmW.at_ F H⟩
theorem SmW.of {F H : Hp} (h : Same F H) : SmW F H := ⟨fun a o e => .inl (h a o e)⟩
theorem SmW.up {F H : Hp} (s : SmW F H) {a : Addr} {o : HO} (h : F a = some o) (t : tupB o = true) : H a = some o := s.at_ a o h (by cases o <;> first | rfl | cases t)
theorem SmW.trans {F H H' : Hp} (s : SmW F H) (e : Same H H') : SmW F H' := ⟨fun a o h => (s.w a o h).elim (fun z => .inl (e _ _ z)) fun ⟨od, e1, e2⟩ => .inr ⟨od, e1, e _ _ e2⟩⟩
theorem SmW.pre {F F' H : Hp} (s : SmW F' H) (e : Same F F') : SmW F H := ⟨fun a o h => s.w a o (e _ _ h)⟩
theorem SmW.free {F H : Hp} (s : SmW F H) {a : Addr} (h : H a = none) : F a = none := by
  cases q : F a with
  | none => rfl
  | some o =>
    rcases s.w a o q with z | ⟨_, _, z⟩ <;> rw [h] at z <;> cases z
theorem SmW.rd {F H : Hp} (s : SmW F H) {a : Addr} {o : HO} (h : F a = some o) : Rd H a o := (s.w a o h).elim .inl fun ⟨od, _, z⟩ => .inr ⟨od, z⟩
theorem SmW.seq {K : PySem.W.Frag} {F H : Hp} {a : Addr} {xs : List V} (e : SmW F H) (h : SqL K F a xs) : SqL K H a xs := by
  rcases h with (h | ⟨o, h⟩) | h
  · exact .inl (.inl (e.at_ _ _ h))
  · exact .inl (.inr ⟨o, e.at_ _ _ h⟩)
  · exact .inr h

theorem ne_frz : ∀ (u : HO) (od : Obj), u ≠ .frz od u := fun u od z => by
  have := congrArg sizeOf z
  simp at this
/-- .. and was so when the def (the part) began -/
structure SmB (H0 : Hp) (O0 : Addr → Prop) (F H : Hp) : Prop extends SmW F H where
  lk : ∀ a od u, F a = some u → H a = some (.frz od u) → H0 a = some (.frz od u) ∧ ¬ O0 a
instance {H0 : Hp} {O0 : Addr → Prop} {F H : Hp} : CoeFun (SmB H0 O0 F H) (fun _ => ∀ (a : Addr) (o : HO), F a = some o → (hn : dicB o = false := by rfl) → H a = some o) := ⟨fun s => @SmW.at_ F H s.toSmW⟩
instance {H0 : Hp} {O0 : Addr → Prop} {F H : Hp} : CoeOut (SmB H0 O0 F H) (SmW F H) := ⟨fun s => s.toSmW⟩
theorem SmB.step {H0 : Hp} {O0 : Addr → Prop} {F H H' : Hp} (s : SmB H0 O0 F H) (h : ∀ a o, F a = some o → ∀ u, (u = o ∨ ∃ od, u = .frz od o) → H a = some u → H' a = some u) : SmB H0 O0 F H' where
  w := fun a o e => (s.w a o e).elim (fun z => .inl (h a o e _ (.inl rfl) z)) fun ⟨od, e1, e2⟩ => .inr ⟨od, e1, h a o e _ (.inr ⟨od, rfl⟩) e2⟩
  lk := fun a od kvs e z => by
    rcases s.w a _ e with q | ⟨od', e1, e2⟩
    · rw [h a _ e _ (.inl rfl) q] at z; exact absurd (Option.some.inj z) (ne_frz kvs od)
    · have := h a _ e _ (.inr ⟨od', rfl⟩) e2
      rw [z] at this
      cases this
      exact s.lk a od kvs e e2
theorem SmB.trans {H0 : Hp} {O0 : Addr → Prop} {F H H' : Hp} (s : SmB H0 O0 F H) (e : Same H H') : SmB H0 O0 F H' := s.step fun a _ _ u _ z => e a u z
theorem SmB.pre {H0 : Hp} {O0 : Addr → Prop} {F F' H : Hp} (s : SmB H0 O0 F' H) (e : Same F F') : SmB H0 O0 F H where
  w := (s.toSmW.pre e).w
  lk := fun a od kvs h z => s.lk a od kvs (e _ _ h) z
theorem SmW.start {O0 : Addr → Prop} {F H : Hp} (s : SmW F H) (h : ∀ a o, F a = some o → ¬ O0 a) : SmB H O0 F H where
  w := s.w
  lk := fun a od kvs e z => ⟨z, h a _ e⟩
theorem SmB.imp {H0 : Hp} {O0 O1 : Addr → Prop} {F H : Hp} (s : SmB H0 O0 F H) (h : ∀ a, O1 a → O0 a) : SmB H0 O1 F H where
  w := s.w
  lk := fun a od kvs e z => ⟨(s.lk a od kvs e z).1, fun q => (s.lk a od kvs e z).2 (h a q)⟩
theorem SmB.after {H0 : Hp} {O0 O1 : Addr → Prop} {F H F2 H2 : Hp} (s : SmB H0 O0 F H) (s2 : SmB H O1 F2 H2) (fn : ∀ b o, F2 b = some o → F b = some o ∨ H b = none ∨ O1 b ∨ tupB o = true) : SmB H0 O0 F2 H2 where
  w := s2.w
  lk := fun a od kvs e z => by
    obtain ⟨q1, q2⟩ := s2.lk a od kvs e z
    rcases fn a _ e with y | y | y | y
    · exact s.lk a od kvs y q1
    · rw [q1] at y; cases y
    · exact absurd y q2
    · have w := s2.up e y
      rw [z] at w
      exact absurd (Option.some.inj w).symm (ne_frz _ _)

/-- an own class: where it stands, its instances' attributes in the order of their storing -/
structure CI where
  addr : Addr
  names : List Str
/-- an own exception class: where it stands, its one attribute -/
structure EI where
  addr : Addr
  field : Str
structure Tb where
  cl : Nat → Option CI
  ex : Nat → Option EI
  tabs : List (Addr × Str) := []
section
variable (K : PySem.W.Frag) (T : Tb) (F : Hp)
mutual
inductive Rep : V → D → Prop
  | non : Rep .non .non
  | bl (b : Bool) : Rep (.bl b) (.bl b)
  | int (i : Int) : Rep (.int i) (.int i)
  | str {l : Tx} : okTx l → Rep (.str (tx l)) (.str l)
  | ref {a : Addr} {o : HO} {d : D} : F a = some o → RepO o d → Rep (.ref a) d
  | frl {a : Addr} {vs : List V} {xs : List D} : SqL K F a vs → RepL vs xs → Rep (.ref a) (.frl xs)
  | cls {c : Nat} {ci : CI} : T.cl c = some ci → Rep (.ref ci.addr) (.cls c)
  | adr {a : Addr} : Rep (.ref a) (.adr a)
inductive RepO : HO → D → Prop
  | lst {vs : List V} {xs : List D} : RepL vs xs → RepO (.lst vs) (.lst xs)
  | tup {vs : List V} {xs : List D} : RepL vs xs → RepO (.tup vs) (.tup xs)
  | dct {kvs : List (Key × V)} {ds : List (Ky × D)} : RepK kvs ds → RepO (.dK kvs) (.dct ds)
  | obj {c : Nat} {ci : CI} {dx : Addr} {vs : List V} {xs : List D} : T.cl c = some ci → vs.length ≤ ci.names.length → RepL vs xs → RepO (.ins ci.addr dx (ci.names.zip vs)) (.obj c xs)
  | dcT {kvs : List (List Key × V)} {ds : List (List Ky × D)} : RepKT kvs ds → RepO (.dT kvs) (.dcT ds)
inductive RepL : List V → List D → Prop
  | nil : RepL [] []
  | cons {v : V} {d : D} {vs : List V} {xs : List D} : Rep v d → RepL vs xs → RepL (v :: vs) (d :: xs)
inductive RepK : List (Key × V) → List (Ky × D) → Prop
  | nil : RepK [] []
  | cons {k : Ky} {v : V} {d : D} {r : List (Key × V)} {s : List (Ky × D)} : okKy k → Rep v d → RepK r s → RepK ((kyV k, v) :: r) ((k, d) :: s)
inductive RepKT : List (List Key × V) → List (List Ky × D) → Prop
  | nil : RepKT [] []
  | cons {k : List Ky} {v : V} {d : D} {r : List (List Key × V)} {s : List (List Ky × D)} : (∀ x ∈ k, okKy x) → Rep v d → RepKT r s → RepKT ((k.map kyV, v) :: r) ((k, d) :: s)
end
end
section
variable {K : PySem.W.Frag} {T : Tb} {F F' : Hp}
mutual
theorem Rep.mono (h : Same F F') : ∀ {v : V} {d : D}, Rep K T F v d → Rep K T F' v d
  | _, _, .non => .non
  | _, _, .bl b => .bl b
  | _, _, .int i => .int i
  | _, _, .str z => .str z
  | _, _, .ref e r => .ref (h _ _ e) (RepO.mono h r)
  | _, _, .frl e r => .frl (h.seq e) (RepL.mono h r)
  | _, _, .cls e => .cls e
  | _, _, .adr => .adr
theorem RepO.mono (h : Same F F') : ∀ {o : HO} {d : D}, RepO K T F o d → RepO K T F' o d
  | _, _, .lst r => .lst (RepL.mono h r)
  | _, _, .tup r => .tup (RepL.mono h r)
  | _, _, .dct r => .dct (RepK.mono h r)
  | _, _, .obj e l r => .obj e l (RepL.mono h r)
  | _, _, .dcT r => .dcT (RepKT.mono h r)
theorem RepL.mono (h : Same F F') : ∀ {vs : List V} {xs : List D}, RepL K T F vs xs → RepL K T F' vs xs
  | _, _, .nil => .nil
  | _, _, .cons a b => .cons (Rep.mono h a) (RepL.mono h b)
theorem RepK.mono (h : Same F F') : ∀ {vs : List (Key × V)} {xs : List (Ky × D)}, RepK K T F vs xs → RepK K T F' vs xs
  | _, _, .nil => .nil
  | _, _, .cons z a b => .cons z (Rep.mono h a) (RepK.mono h b)
theorem RepKT.mono (h : Same F F') : ∀ {vs : List (List Key × V)} {xs : List (List Ky × D)}, RepKT K T F vs xs → RepKT K T F' vs xs
  | _, _, .nil => .nil
  | _, _, .cons z a b => .cons z (Rep.mono h a) (RepKT.mono h b)
end
theorem RepL.length : ∀ {vs : List V} {xs : List D}, RepL K T F vs xs → vs.length = xs.length
  | _, _, .nil => rfl
  | _, _, .cons _ b => congrArg (· + 1) (RepL.length b)
theorem RepK.length : ∀ {vs : List (Key × V)} {xs : List (Ky × D)}, RepK K T F vs xs → vs.length = xs.length
  | _, _, .nil => rfl
  | _, _, .cons _ _ b => congrArg (· + 1) (RepK.length b)
theorem RepL.get : ∀ {vs : List V} {xs : List D} {i : Nat} {d : D}, RepL K T F vs xs → xs[i]? = some d → ∃ v, vs[i]? = some v ∧ Rep K T F v d
  | _, _, _, _, .nil, h => by simp at h
  | _, _, 0, _, .cons a _, h => by simp at h; subst h; exact ⟨_, rfl, a⟩
  | _, _, i + 1, d, .cons _ b, h => by
    obtain ⟨v, h1, h2⟩ := RepL.get (i := i) (d := d) b (by simpa using h)
    exact ⟨v, by simpa using h1, h2⟩
theorem RepL.getV : ∀ {vs : List V} {xs : List D} {i : Nat} {v : V}, RepL K T F vs xs → vs[i]? = some v → ∃ d, xs[i]? = some d ∧ Rep K T F v d
  | _, _, _, _, .nil, h => by simp at h
  | _, _, 0, _, .cons a _, h => by simp at h; subst h; exact ⟨_, rfl, a⟩
  | _, _, i + 1, d, .cons _ b, h => by
    obtain ⟨v, h1, h2⟩ := RepL.getV (i := i) (v := d) b (by simpa using h)
    exact ⟨v, by simpa using h1, h2⟩
theorem RepL.append : ∀ {vs ws : List V} {xs ys : List D}, RepL K T F vs xs → RepL K T F ws ys → RepL K T F (vs ++ ws) (xs ++ ys)
  | _, _, _, _, .nil, h => h
  | _, _, _, _, .cons a b, h => .cons a (RepL.append b h)
theorem RepL.take : ∀ {vs : List V} {xs : List D} (n : Nat), RepL K T F vs xs → RepL K T F (vs.take n) (xs.take n)
  | _, _, 0, _ => .nil
  | _, _, _ + 1, .nil => .nil
  | _, _, n + 1, .cons a b => .cons a (RepL.take n b)
theorem RepL.drop : ∀ {vs : List V} {xs : List D} (n : Nat), RepL K T F vs xs → RepL K T F (vs.drop n) (xs.drop n)
  | _, _, 0, h => h
  | _, _, _ + 1, .nil => .nil
  | _, _, n + 1, .cons a b => RepL.drop n b
theorem RepL.set : ∀ {vs : List V} {xs : List D} {v : V} {d : D} (n : Nat), Rep K T F v d → RepL K T F vs xs → RepL K T F (vs.set n v) (xs.set n d)
  | _, _, _, _, _, _, .nil => .nil
  | _, _, _, _, 0, h, .cons a b => .cons h b
  | _, _, _, _, n + 1, h, .cons a b => .cons a (RepL.set n h b)
/-- what a value is, by its data -/
theorem Rep.int_inv {v : V} {i : Int} (r : Rep K T F v (.int i)) : v = .int i := by
  cases r with
  | int => rfl
  | ref e r => cases r
theorem Rep.bl_inv {v : V} {b : Bool} (r : Rep K T F v (.bl b)) : v = .bl b := by
  cases r with
  | bl => rfl
  | ref e r => cases r
theorem Rep.non_inv {v : V} (r : Rep K T F v .non) : v = .non := by
  cases r with
  | non => rfl
  | ref e r => cases r
theorem Rep.str_inv {v : V} {l : Tx} (r : Rep K T F v (.str l)) : v = .str (tx l) ∧ okTx l := by
  cases r with
  | str z => exact ⟨rfl, z⟩
  | ref e r => cases r
theorem Rep.lst_inv {v : V} {xs : List D} (r : Rep K T F v (.lst xs)) : ∃ a vs, v = .ref a ∧ F a = some (.lst vs) ∧ RepL K T F vs xs := by
  cases r with
  | ref e r =>
    cases r with
    | lst r => exact ⟨_, _, rfl, e, r⟩
theorem Rep.tup_inv {v : V} {xs : List D} (r : Rep K T F v (.tup xs)) : ∃ a vs, v = .ref a ∧ F a = some (.tup vs) ∧ RepL K T F vs xs := by
  cases r with
  | ref e r =>
    cases r with
    | tup r => exact ⟨_, _, rfl, e, r⟩
theorem Rep.dct_inv {v : V} {xs : List (Ky × D)} (r : Rep K T F v (.dct xs)) : ∃ a vs, v = .ref a ∧ F a = some (.dK vs) ∧ RepK K T F vs xs := by
  cases r with
  | ref e r =>
    cases r with
    | dct r => exact ⟨_, _, rfl, e, r⟩
theorem Rep.dcT_inv {v : V} {xs : List (List Ky × D)} (r : Rep K T F v (.dcT xs)) : ∃ a vs, v = .ref a ∧ F a = some (.dT vs) ∧ RepKT K T F vs xs := by
  cases r with
  | ref e r =>
    cases r with
    | dcT r => exact ⟨_, _, rfl, e, r⟩
theorem Rep.frl_inv {v : V} {xs : List D} (r : Rep K T F v (.frl xs)) : ∃ a vs, v = .ref a ∧ SqL K F a vs ∧ RepL K T F vs xs := by
  cases r with
  | ref e r => cases r
  | frl e r => exact ⟨_, _, rfl, e, r⟩
end

/-! ### objects with parts of their own -/
def kidA : V → D → List Addr
  | .ref q, .prt _ => [q]
  | _, _ => []
def zaI : List V → List D → List Addr
  | v :: vs, d :: xs => kidA v d ++ zaI vs xs
  | _, _ => []
def footO : HO → D → List Addr
  | .ins _ _ fs, .obj _ xs => zaI (fs.map (·.2)) xs
  | .dK kvs, .dct ds => zaI (kvs.map (·.2)) (ds.map (·.2))
  | .lst vs, .lst xs => zaI vs xs
  | .tup vs, .tup xs => zaI vs xs
  | _, _ => []
/-- where a slot's own objects lie -/
def foot (H : Hp) (s : Option (Option V)) (sl : Slot) : List Addr := match s, sl with
  | some (some (.ref p)), .own _ => [p]
  | some (some (.ref p)), .ownT d => p :: (match H p with
    | some o => footO o d
    | none => [])
  | _, _ => []
section
variable (K : PySem.W.Frag) (T : Tb) (F H : Hp)
inductive KidR : V → D → Prop
  | fz {v : V} {d : D} : Rep K T F v d → KidR v d
  | own {q : Addr} {o : HO} {d : D} : F q = none → H q = some o → RepO K T F o d → tupB o = false → KidR (.ref q) (.prt d)
inductive KidL : List V → List D → Prop
  | nil : KidL [] []
  | cons {v : V} {d : D} {vs : List V} {xs : List D} : KidR K T F H v d → KidL vs xs → KidL (v :: vs) (d :: xs)
inductive KidK : List (Key × V) → List (Ky × D) → Prop
  | nil : KidK [] []
  | cons {k : Ky} {v : V} {d : D} {r : List (Key × V)} {s : List (Ky × D)} : okKy k → KidR K T F H v d → KidK r s → KidK ((kyV k, v) :: r) ((k, d) :: s)
inductive TreeO : HO → D → Prop
  | obj {c : Nat} {ci : CI} {dx : Addr} {vs : List V} {xs : List D} : T.cl c = some ci → vs.length ≤ ci.names.length → KidL K T F H vs xs → TreeO (.ins ci.addr dx (ci.names.zip vs)) (.obj c xs)
  | dct {kvs : List (Key × V)} {ds : List (Ky × D)} : KidK K T F H kvs ds → TreeO (.dK kvs) (.dct ds)
  | lst {vs : List V} {xs : List D} : KidL K T F H vs xs → TreeO (.lst vs) (.lst xs)
  | tup {vs : List V} {xs : List D} : KidL K T F H vs xs → TreeO (.tup vs) (.tup xs)
end
section
variable {K : PySem.W.Frag} {T : Tb} {F F' H H' : Hp}
theorem repO_tbl' {o : HO} {d : D} (r : RepO K T F o d) : ∀ ps, o ≠ .tbl ps := fun ps z => by
  cases r <;> cases z
theorem repO_code' {o : HO} {d : D} (r : RepO K T F o d) : ∀ c q, o ≠ LamX.CodeO c q := fun c q z => by
  unfold LamX.CodeO at z
  cases r <;> cases z
theorem treeO_tbl {o : HO} {d : D} (r : TreeO K T F H o d) : ∀ ps, o ≠ .tbl ps := fun ps z => by
  cases r <;> cases z
theorem treeO_code {o : HO} {d : D} (r : TreeO K T F H o d) : ∀ c q, o ≠ LamX.CodeO c q := fun c q z => by
  unfold LamX.CodeO at z
  cases r <;> cases z
/-- what a footprint's places hold -/
def Priv (F H : Hp) (a : Addr) : Prop := F a = none ∧ ∃ o, H a = some o ∧ (∀ ps, o ≠ .tbl ps) ∧ ∀ c q, o ≠ LamX.CodeO c q
theorem kidsA_cons {v : V} {d : D} {vs : List V} {xs : List D} : zaI (v :: vs) (d :: xs) = kidA v d ++ zaI vs xs := rfl
theorem kidsA_sub {v : V} {d : D} {vs : List V} {xs : List D} {a : Addr} (h : a ∈ zaI vs xs) : a ∈ zaI (v :: vs) (d :: xs) := List.mem_append_right _ h
theorem not_rep_prt {v : V} {d : D} (r : Rep K T F v (.prt d)) : False := by
  cases r with
  | ref _ r => cases r
theorem kidA_fz {v : V} {d : D} (r : Rep K T F v d) : kidA v d = [] := by
  unfold kidA
  split
  · exact (not_rep_prt r).elim
  · rfl
theorem rep_unm {v : V} {d : D} (r : Rep K T F v d) : d.unm = d := by
  unfold D.unm
  split
  · exact (not_rep_prt r).elim
  · rfl
theorem KidL.priv : ∀ {vs : List V} {xs : List D}, KidL K T F H vs xs → ∀ a ∈ zaI vs xs, Priv F H a
  | _, _, .nil, _, h => by simp [zaI] at h
  | _, _, .cons (v := v) (d := d) k r, a, h => by
    rw [kidsA_cons] at h
    cases k with
    | fz z =>
      rw [kidA_fz z] at h
      exact r.priv a h
    | own f e ro _ =>
      rcases List.mem_cons.mp h with rfl | h
      · exact ⟨f, _, e, repO_tbl' ro, repO_code' ro⟩
      · exact r.priv a h
theorem KidR.mono {v : V} {d : D} (e : Same F F') (h : ∀ a ∈ kidA v d, F' a = none ∧ H' a = H a) : KidR K T F H v d → KidR K T F' H' v d
  | .fz z => .fz (z.mono e)
  | .own (q := q) f z ro nt => .own (h q (List.mem_singleton.mpr rfl)).1 ((h q (List.mem_singleton.mpr rfl)).2.trans z) (ro.mono e) nt
theorem KidL.mono (e : Same F F') : ∀ {vs : List V} {xs : List D}, (∀ a ∈ zaI vs xs, F' a = none ∧ H' a = H a) → KidL K T F H vs xs → KidL K T F' H' vs xs
  | _, _, _, .nil => .nil
  | _, _, h, .cons k r => .cons (k.mono e fun a ha => h a (List.mem_append_left _ ha)) (KidL.mono e (fun a ha => h a (kidsA_sub ha)) r)
theorem KidK.list : ∀ {kvs : List (Key × V)} {ds : List (Ky × D)}, KidK K T F H kvs ds → KidL K T F H (kvs.map (·.2)) (ds.map (·.2))
  | _, _, .nil => .nil
  | _, _, .cons _ k r => .cons k r.list
theorem KidK.mono (e : Same F F') : ∀ {kvs : List (Key × V)} {ds : List (Ky × D)}, (∀ a ∈ zaI (kvs.map (·.2)) (ds.map (·.2)), F' a = none ∧ H' a = H a) → KidK K T F H kvs ds → KidK K T F' H' kvs ds
  | _, _, _, .nil => .nil
  | _, _, h, .cons o k r => .cons o (k.mono e fun a ha => h a (List.mem_append_left _ ha)) (KidK.mono e (fun a ha => h a (kidsA_sub ha)) r)
theorem zip_snd {names : List Str} {vs : List V} (h : vs.length ≤ names.length) : (names.zip vs).map (·.2) = vs := List.map_snd_zip h
theorem TreeO.priv {o : HO} {d : D} (r : TreeO K T F H o d) : ∀ a ∈ footO o d, Priv F H a := fun a h => by
  cases r with
  | obj e l k =>
    rw [footO, zip_snd l] at h
    exact k.priv a h
  | dct k => exact k.list.priv a h
  | lst k => exact k.priv a h
  | tup k => exact k.priv a h
theorem TreeO.mono {o : HO} {d : D} (e : Same F F') (h : ∀ a ∈ footO o d, F' a = none ∧ H' a = H a) (r : TreeO K T F H o d) : TreeO K T F' H' o d := by
  cases r with
  | obj e1 l k => exact .obj e1 l (k.mono e fun a ha => h a (by rw [footO, zip_snd l]; exact ha))
  | dct k => exact .dct (k.mono e h)
  | lst k => exact .lst (k.mono e h)
  | tup k => exact .tup (k.mono e h)
theorem Priv.ne {a : Addr} {p : Addr} (h : Priv F H a) (hp : H p = none) : a ≠ p := fun z => by
  obtain ⟨_, o, e, _⟩ := h
  rw [z, hp] at e
  cases e
end
/-! ### states -/
/-- a def's entry: what was settled, the heap, the objects handed in to be changed, the names that hold them -/
structure Bs where
  F0 : Hp
  H0 : Hp
  O1 : Nat → Addr → Prop
  P : Nat → V
def Bs.O0 (B : Bs) (a : Addr) : Prop := ∃ i, B.O1 i a
/-- the tables of code objects, and what is settled is none -/
def TabsF (L : List (Addr × Str)) (F H : Hp) : Prop := LamX.Tabs L H ∧ ∀ b ps, F b ≠ some (.tbl ps)
section
variable (K : PySem.W.Frag) (T : Tb)
def SlotOk (F H : Hp) (s : Option (Option V)) : Slot → Prop
  | .no => True
  | .fz d => ∃ v, s = some (some v) ∧ Rep K T F v d
  | .own d => ∃ p o, s = some (some (.ref p)) ∧ F p = none ∧ H p = some o ∧ RepO K T F o d ∧ tupB o = false
  | .ownT d => ∃ p o, s = some (some (.ref p)) ∧ F p = none ∧ H p = some o ∧ TreeO K T F H o d ∧ (p :: footO o d).Nodup ∧ tupB o = false
structure SR (B : Bs) (M : List Nat) (F H : Hp) (ρ : Env) (σ : L2.St) : Prop where
  sub : SmB B.H0 B.O0 F H
  keep : ∀ b o, B.H0 b = some o → ¬ B.O0 b → (∀ ps, o ≠ .tbl ps) → H b = some o
  live : ∀ b o, B.H0 b = some o → ∃ o', H b = some o'
  f0 : Same B.F0 F
  fnew : ∀ b o, F b = some o → B.F0 b = some o ∨ B.H0 b = none ∨ B.O0 b ∨ tupB o = true
  len : ρ.length = σ.length
  slot : ∀ i, SlotOk K T F H (σ[i]?) (ρ.at i)
  newF : ∀ i a, a ∈ foot H (σ[i]?) (ρ.at i) → B.H0 a = none ∨ B.O1 i a
  injF : ∀ i j a, a ∈ foot H (σ[i]?) (ρ.at i) → a ∈ foot H (σ[j]?) (ρ.at j) → i = j
  pin : ∀ i ∈ M, σ[i]? = some (some (B.P i))
  tabs : TabsF T.tabs F H
/-- a result: settled, or a new object that is nobody's -/
def RetV (B : Bs) (F H : Hp) (ρ : Env) (σ : L2.St) (v : V) : R → Prop
  | .fz d => Rep K T F v d
  | .fr d => ∃ p o, v = .ref p ∧ F p = none ∧ H p = some o ∧ RepO K T F o d ∧ B.H0 p = none ∧ ∀ i, p ∉ foot H (σ[i]?) (ρ.at i)
  | .ft d => ∃ p o, v = .ref p ∧ F p = none ∧ H p = some o ∧ TreeO K T F H o d ∧ (p :: footO o d).Nodup ∧ ∀ a ∈ p :: footO o d, B.H0 a = none ∧ ∀ i, a ∉ foot H (σ[i]?) (ρ.at i)
/-- what an operation hands back at once -/
def NewR (F H : Hp) (v : V) (H' : Hp) (r : R) : Prop :=
  (∃ d, r = .fz d ∧ H' = H ∧ Rep K T F v d) ∨ ∃ p o d, r = .fr d ∧ v = .ref p ∧ H p = none ∧ H' = upd H p o ∧ RepO K T F o d
end
theorem Env.at_set_same {ρ : Env} {i : Nat} {s : Slot} (h : i < ρ.length) : Env.at (ρ.set i s) i = s := by
  unfold Env.at
  rw [List.getElem?_set_self h]
  rfl
theorem Env.at_set_ne {ρ : Env} {i j : Nat} {s : Slot} (h : i ≠ j) : Env.at (ρ.set i s) j = ρ.at j := by
  unfold Env.at
  rw [List.getElem?_set_ne h]
theorem Env.at_lt {ρ : Env} {i : Nat} (h : ρ.at i ≠ .no) : i < ρ.length := by
  unfold Env.at at h
  by_cases hi : i < ρ.length
  · exact hi
  · rw [List.getElem?_eq_none (by omega)] at h
    exact absurd rfl h
theorem same_upd {H : Hp} {p : Addr} {o : HO} (h : H p = none) : Same H (upd H p o) := fun b x e => by
  rw [upd_ne (ne_of_none e h)]
  exact e
section
variable {K : PySem.W.Frag} {T : Tb} {B : Bs} {M : List Nat} {F F' H H' : Hp} {ρ ρ' : Env} {σ : L2.St} {v : V} {r : R} {p : Addr} {o : HO} {d : D} {i : Nat}
theorem foot_no {H : Hp} {s : Option (Option V)} : foot H s .no = [] := by
  unfold foot
  split <;> first | rfl | (rename_i z; cases z)
theorem foot_fz {H : Hp} {s : Option (Option V)} {d : D} : foot H s (.fz d) = [] := by
  unfold foot
  split <;> first | rfl | (rename_i z; cases z)
theorem foot_own {H : Hp} {p : Addr} {d : D} : foot H (some (some (.ref p))) (.own d) = [p] := rfl
theorem foot_ownT {H : Hp} {p : Addr} {o : HO} {d : D} (h : H p = some o) : foot H (some (some (.ref p))) (.ownT d) = p :: footO o d := by
  show p :: (match H p with | some o => footO o d | none => []) = _
  rw [h]
/-- a footprint depends on the root alone -/
theorem foot_eq {H H' : Hp} {s : Option (Option V)} {sl : Slot} (h : ∀ a ∈ foot H s sl, H' a = H a) : foot H' s sl = foot H s sl := by
  unfold foot
  split
  · rfl
  · rename_i p d
    have := h p List.mem_cons_self
    rw [this]
  · rfl
theorem SlotOk.priv {s : Option (Option V)} {sl : Slot} (h : SlotOk K T F H s sl) : ∀ a ∈ foot H s sl, Priv F H a := fun a ha => by
  cases sl with
  | no => rw [foot_no] at ha; simp at ha
  | fz d => rw [foot_fz] at ha; simp at ha
  | own d =>
    obtain ⟨p, o, rfl, f, e, r, _⟩ := h
    rw [foot_own] at ha
    rw [List.mem_singleton.mp ha]
    exact ⟨f, o, e, repO_tbl' r, repO_code' r⟩
  | ownT d =>
    obtain ⟨p, o, rfl, f, e, r, _⟩ := h
    rw [foot_ownT e] at ha
    rcases List.mem_cons.mp ha with rfl | ha
    · exact ⟨f, o, e, treeO_tbl r, treeO_code r⟩
    · exact r.priv a ha
theorem SlotOk.mono {s : Option (Option V)} {sl : Slot} (h : Same F F') (hk : ∀ a ∈ foot H s sl, F' a = none ∧ H' a = H a) : SlotOk K T F H s sl → SlotOk K T F' H' s sl := by
  cases sl with
  | no => exact fun _ => trivial
  | fz d =>
    rintro ⟨v, e, r⟩
    exact ⟨v, e, r.mono h⟩
  | own d =>
    rintro ⟨p, o, rfl, n, hp, r, nt⟩
    have := hk p (by rw [foot_own]; exact List.mem_singleton.mpr rfl)
    exact ⟨p, o, rfl, this.1, this.2.trans hp, r.mono h, nt⟩
  | ownT d =>
    rintro ⟨p, o, rfl, n, hp, r, nd⟩
    rw [foot_ownT hp] at hk
    have := hk p List.mem_cons_self
    exact ⟨p, o, rfl, this.1, this.2.trans hp, r.mono h fun a ha => hk a (List.mem_cons_of_mem _ ha), nd⟩
/-- what data lies in is no table, no code object -/
theorem repO_tbl {K : PySem.W.Frag} {T : Tb} {F : Hp} {o : HO} {d : D} (r : RepO K T F o d) : ∀ ps, o ≠ .tbl ps := fun ps z => by
  cases r <;> cases z
theorem tabs_upd {L : List (Addr × Str)} {H : Hp} {p : Addr} {o o' : HO} (h : LamX.Tabs L H) (hp : H p = some o) (h1 : ∀ ps, o ≠ .tbl ps) (h2 : ∀ c q, o ≠ LamX.CodeO c q) : LamX.Tabs L (upd H p o') := fun x hx => by
  obtain ⟨ps, e1, e2, e3⟩ := h x hx
  have n1 : x.1 ≠ p := fun z => by rw [z, hp] at e1; exact h1 _ (Option.some.inj e1)
  refine ⟨ps, by rw [upd_ne n1]; exact e1, e2, fun pos cv hc => ?_⟩
  obtain ⟨c, a, b⟩ := e3 pos cv hc
  have n2 : c ≠ p := fun z => by rw [z, hp] at b; exact h2 _ _ (Option.some.inj b)
  exact ⟨c, a, by rw [upd_ne n2]; exact b⟩
theorem SR.priv (S : SR K T B M F H ρ σ) {i : Nat} {a : Addr} (h : a ∈ foot H (σ[i]?) (ρ.at i)) : Priv F H a := (S.slot i).priv a h
theorem SR.newO (S : SR K T B M F H ρ σ) {i : Nat} {a : Addr} (h : a ∈ foot H (σ[i]?) (ρ.at i)) : B.H0 a = none ∨ B.O0 a := (S.newF i a h).elim .inl fun z => .inr ⟨i, z⟩
theorem SR.sure (S : SR K T B M F H ρ σ) {a : Addr} {o : HO} (h : F a = some o) (hn : B.H0 a = none ∨ B.O0 a) : H a = some o := by
  rcases S.sub.w a o h with q | ⟨od, _, q⟩
  · exact q
  · obtain ⟨z1, z2⟩ := S.sub.lk a od o h q
    rcases hn with y | y
    · rw [z1] at y; cases y
    · exact absurd y z2
theorem SR.newown (S : SR K T B M F H ρ σ) : ∀ i d p, ρ.at i = .own d → σ[i]? = some (some (.ref p)) → B.H0 p = none ∨ B.O0 p := fun i d p e1 e2 => S.newO (i := i) (by rw [e1, e2, foot_own]; exact List.mem_singleton.mpr rfl)
theorem SR.inj (S : SR K T B M F H ρ σ) : ∀ i j d e p, ρ.at i = .own d → ρ.at j = .own e → σ[i]? = some (some (.ref p)) → σ[j]? = some (some (.ref p)) → i = j := fun i j d e p e1 e2 e3 e4 => S.injF i j p (by rw [e1, e3, foot_own]; exact List.mem_singleton.mpr rfl) (by rw [e2, e4, foot_own]; exact List.mem_singleton.mpr rfl)
/-- other heaps that leave the footprints as they are -/
theorem SR.footEq (S : SR K T B M F H ρ σ) {H' : Hp} (h : ∀ i, ∀ a ∈ foot H (σ[i]?) (ρ.at i), H' a = H a) (i : Nat) : foot H' (σ[i]?) (ρ.at i) = foot H (σ[i]?) (ρ.at i) := foot_eq (h i)
/-- a new object is laid -/
theorem SR.lay (S : SR K T B M F H ρ σ) (hp : H p = none) : SR K T B M F (upd H p o) ρ σ := by
  have su : Same H (upd H p o) := same_upd hp
  have ke : ∀ i, ∀ a ∈ foot H (σ[i]?) (ρ.at i), upd H p o a = H a := fun i a ha => upd_ne ((S.priv ha).ne hp)
  have fe := S.footEq ke
  refine ⟨S.sub.trans su, fun b u e n m => su _ _ (S.keep b u e n m), fun b u e => ?_, S.f0, S.fnew, S.len, fun i => (S.slot i).mono (Same.refl _) fun a ha => ⟨(S.priv ha).1, ke i a ha⟩, fun i a ha => S.newF i a (fe i ▸ ha), fun i j a h1 h2 => S.injF i j a (fe i ▸ h1) (fe j ▸ h2), S.pin, S.tabs.1.ext su, S.tabs.2⟩
  obtain ⟨u', e'⟩ := S.live b u e
  exact ⟨u', su _ _ e'⟩
theorem SR.lay_new (S : SR K T B M F H ρ σ) (hp : H p = none) (i : Nat) : p ∉ foot (upd H p o) (σ[i]?) (ρ.at i) := fun hi => by
  rw [S.footEq (fun i a ha => upd_ne ((S.priv ha).ne hp)) i] at hi
  exact (S.priv hi).ne hp rfl
theorem SR.fresh (S : SR K T B M F H ρ σ) (hp : H p = none) : B.H0 p = none := by
  cases q : B.H0 p with
  | none => rfl
  | some u =>
    obtain ⟨u', e⟩ := S.live p u q
    rw [hp] at e
    cases e
theorem SR.new (S : SR K T B M F H ρ σ) (n : NewR K T F H v H' r) : SR K T B M F H' ρ σ ∧ RetV K T B F H' ρ σ v r := by
  rcases n with ⟨d, rfl, rfl, h⟩ | ⟨p, o, d, rfl, rfl, hp, rfl, h⟩
  · exact ⟨S, h⟩
  · refine ⟨S.lay hp, p, o, rfl, S.sub.free hp, upd_same, h, S.fresh hp, fun i hi => ?_⟩
    rw [S.footEq (fun i a ha => upd_ne ((S.priv ha).ne hp)) i] at hi
    exact (S.priv hi).ne hp rfl
/-- a loose object is settled -/
theorem SR.settleG (S : SR K T B M F H ρ σ) (hF : F p = none) (hH : H p = some o) (hn : B.H0 p = none ∨ B.O0 p ∨ tupB o = true) (hno : ∀ i, p ∉ foot H (σ[i]?) (ρ.at i)) (hm : ∀ ps, o ≠ HO.tbl ps := by intro _ z; cases z) : SR K T B M (upd F p o) H ρ σ := by
  have su : Same F (upd F p o) := same_upd hF
  refine ⟨⟨⟨fun b u e => ?_⟩, fun b od kvs e z => ?_⟩, S.keep, S.live, S.f0.trans su, fun b u e => ?_, S.len, fun i => (S.slot i).mono su fun a ha => ⟨?_, rfl⟩, S.newF, S.injF, S.pin, S.tabs.1, fun b ps z => ?_⟩
  · by_cases hb : b = p
    · subst hb; rw [upd_same] at e; cases e; exact .inl hH
    · rw [upd_ne hb] at e; exact S.sub.w _ _ e
  · by_cases hb : b = p
    · subst hb; rw [upd_same] at e; cases e; rw [hH] at z; exact absurd (Option.some.inj z) (ne_frz _ _)
    · rw [upd_ne hb] at e; exact S.sub.lk _ _ _ e z
  · by_cases hb : b = p
    · subst hb; rw [upd_same] at e; cases e; exact .inr hn
    · rw [upd_ne hb] at e; exact S.fnew b u e
  · have ne : a ≠ p := fun z => hno i (by rw [← z]; exact ha)
    rw [upd_ne ne]
    exact (S.priv ha).1
  · by_cases hb : b = p
    · subst hb; rw [upd_same] at z; exact hm ps (Option.some.inj z)
    · rw [upd_ne hb] at z; exact S.tabs.2 b ps z
theorem SR.settle (S : SR K T B M F H ρ σ) (hF : F p = none) (hH : H p = some o) (hn : B.H0 p = none ∨ B.O0 p) (hno : ∀ i, p ∉ foot H (σ[i]?) (ρ.at i)) (hm : ∀ ps, o ≠ HO.tbl ps := by intro _ z; cases z) : SR K T B M (upd F p o) H ρ σ :=
  S.settleG hF hH (hn.elim .inl fun z => .inr (.inl z)) hno hm
theorem KidL.notup : ∀ {vs : List V} {xs : List D}, KidL K T F H vs xs → ∀ a ∈ zaI vs xs, ∀ o, H a = some o → tupB o = false
  | _, _, .nil, _, h => by simp [zaI] at h
  | _, _, .cons (v := v) (d := d) k r, a, h => by
    rw [kidsA_cons] at h
    cases k with
    | fz z =>
      rw [kidA_fz z] at h
      exact r.notup a h
    | own f e ro nt =>
      rcases List.mem_cons.mp h with rfl | h
      · intro o e2; rw [e] at e2; cases e2; exact nt
      · exact r.notup a h
theorem TreeO.notup {o : HO} {d : D} (r : TreeO K T F H o d) : ∀ a ∈ footO o d, ∀ o, H a = some o → tupB o = false := fun a h => by
  cases r with
  | obj e l k =>
    rw [footO, zip_snd l] at h
    exact k.notup a h
  | dct k => exact k.list.notup a h
  | lst k => exact k.notup a h
  | tup k => exact k.notup a h
theorem repO_nt {K : PySem.W.Frag} {T : Tb} {F : Hp} {o : HO} {d : D} (r : RepO K T F o d) (h : ∀ xs, d ≠ .tup xs) : tupB o = false := by
  cases r <;> first | rfl | exact absurd rfl (h _)
theorem treeO_nt {o : HO} {d : D} (r : TreeO K T F H o d) (h : ∀ xs, d ≠ .tup xs) : tupB o = false := by
  cases r <;> first | rfl | exact absurd rfl (h _)
/-- nobody's own objects are tuples -/
theorem SR.notup (S : SR K T B M F H ρ σ) {i : Nat} {a : Addr} {o : HO} (h : a ∈ foot H (σ[i]?) (ρ.at i)) (e : H a = some o) : tupB o = false := by
  have hs := S.slot i
  cases hr : ρ.at i with
  | no => rw [hr, foot_no] at h; simp at h
  | fz d => rw [hr, foot_fz] at h; simp at h
  | own d =>
    rw [hr] at hs h
    obtain ⟨p, o', e1, _, e2, _, nt⟩ := hs
    rw [e1, foot_own] at h
    rw [List.mem_singleton.mp h, e2] at e
    cases e
    exact nt
  | ownT d =>
    rw [hr] at hs h
    obtain ⟨p, o', e1, _, e2, r, _, nt⟩ := hs
    rw [e1, foot_ownT e2] at h
    rcases List.mem_cons.mp h with rfl | h
    · rw [e2] at e; cases e; exact nt
    · exact r.notup a h _ e
/-- parts of an object are settled -/
theorem SR.settleK : ∀ {vs : List V} {xs : List D} {F : Hp}, SR K T B M F H ρ σ → KidL K T F H vs xs → (zaI vs xs).Nodup → (∀ a ∈ zaI vs xs, (B.H0 a = none ∨ B.O0 a) ∧ ∀ i, a ∉ foot H (σ[i]?) (ρ.at i)) → ∃ F', Same F F' ∧ SR K T B M F' H ρ σ ∧ RepL K T F' vs (xs.map D.unm) ∧ (∀ b, b ∉ zaI vs xs → F' b = F b) ∧ ∀ b ∈ zaI vs xs, ∃ u, F' b = some u
  | _, _, F, S, .nil, _, _ => ⟨F, Same.refl _, S, .nil, fun _ _ => rfl, fun b hb => by simp [zaI] at hb⟩
  | _, _, F, S, .cons (v := v) (d := d) (vs := vs) (xs := xs) k r, nd, h => by
    rw [kidsA_cons] at nd h
    cases k with
    | fz z =>
      rw [kidA_fz z] at nd h
      obtain ⟨F', e, S', r', o', i'⟩ := SR.settleK S r nd h
      refine ⟨F', e, S', .cons ?_ r', fun b hb => o' b fun z' => hb (kidsA_sub z'), fun b hb => i' b ?_⟩
      · rw [rep_unm z]
        exact z.mono e
      · rw [kidsA_cons, kidA_fz z] at hb
        exact hb
    | own f e ro _ =>
      rename_i q o d _
      have nd' := List.nodup_cons.mp nd
      have hq := h q List.mem_cons_self
      have su : Same F (upd F q o) := same_upd f
      have S1 := S.settle f e hq.1 hq.2 (repO_tbl' ro)
      have r1 : KidL K T (upd F q o) H vs xs := r.mono su fun a ha => by
        have ne : a ≠ q := fun z => nd'.1 (by rw [← z]; exact ha)
        exact ⟨by rw [upd_ne ne]; exact (r.priv a ha).1, rfl⟩
      obtain ⟨F', e', S', r', o', i'⟩ := SR.settleK S1 r1 nd'.2 fun a ha => h a (List.mem_cons_of_mem _ ha)
      refine ⟨F', su.trans e', S', .cons ?_ r', fun b hb => ?_, fun b hb => ?_⟩
      · exact .ref (e' _ _ upd_same) (ro.mono (su.trans e'))
      · have hb' : b ∉ q :: zaI vs xs := hb
        have ne : b ≠ q := fun z => hb' (by rw [z]; exact List.mem_cons_self)
        rw [o' b fun z => hb' (List.mem_cons_of_mem _ z), upd_ne ne]
      · have hb' : b ∈ q :: zaI vs xs := hb
        rcases List.mem_cons.mp hb' with rfl | hb'
        · exact ⟨_, e' _ _ upd_same⟩
        · exact i' b hb'
theorem RepL.keys : ∀ {kvs : List (Key × V)} {ds : List (Ky × D)}, KidK K T F H kvs ds → RepL K T F' (kvs.map (·.2)) ((ds.map (·.2)).map D.unm) → RepK K T F' kvs (ds.map fun p => (p.1, p.2.unm))
  | _, _, .nil, _ => .nil
  | _, _, .cons o _ r, .cons a b => .cons o a (RepL.keys r b)
/-- an object with parts is settled -/
theorem SR.settleT (S : SR K T B M F H ρ σ) (hF : F p = none) (hH : H p = some o) (r : TreeO K T F H o d) (nd : (p :: footO o d).Nodup) (h : ∀ a ∈ p :: footO o d, (B.H0 a = none ∨ B.O0 a) ∧ ∀ i, a ∉ foot H (σ[i]?) (ρ.at i)) : ∃ F', Same F F' ∧ SR K T B M F' H ρ σ ∧ Rep K T F' (.ref p) d.calm ∧ (∀ a ∈ p :: footO o d, ∃ u, F' a = some u) ∧ ∀ b, b ∉ p :: footO o d → F' b = F b := by
  have nd' := List.nodup_cons.mp nd
  have hp := h p List.mem_cons_self
  have ht := treeO_tbl r
  cases r with
  | obj e1 l k =>
    rename_i c ci dx vs xs
    rw [footO, zip_snd l] at nd' h
    obtain ⟨F', e, S', r', o', i'⟩ := SR.settleK S k nd'.2 fun a ha => h a (List.mem_cons_of_mem _ ha)
    have hF' : F' p = none := (o' p nd'.1).trans hF
    have su := same_upd (o := HO.ins ci.addr dx (ci.names.zip vs)) hF'
    refine ⟨_, e.trans su, S'.settle hF' hH hp.1 hp.2 ht, .ref upd_same (.obj e1 l (r'.mono su)), fun a ha => ?_, fun b hb => ?_⟩
    · rw [footO, zip_snd l] at ha
      rcases List.mem_cons.mp ha with rfl | ha
      · exact ⟨_, upd_same⟩
      · obtain ⟨u, hu⟩ := i' a ha
        exact ⟨u, su _ _ hu⟩
    · rw [footO, zip_snd l] at hb
      rw [upd_ne fun z => hb (by rw [z]; exact List.mem_cons_self)]
      exact o' b fun z => hb (List.mem_cons_of_mem _ z)
  | dct k =>
    rename_i kvs ds
    obtain ⟨F', e, S', r', o', i'⟩ := SR.settleK S k.list nd'.2 fun a ha => h a (List.mem_cons_of_mem _ ha)
    have hF' : F' p = none := (o' p nd'.1).trans hF
    have su := same_upd (o := HO.dK kvs) hF'
    refine ⟨_, e.trans su, S'.settle hF' hH hp.1 hp.2 ht, .ref upd_same (.dct ((RepL.keys k r').mono su)), fun a ha => ?_, fun b hb => ?_⟩
    · rcases List.mem_cons.mp ha with rfl | ha
      · exact ⟨_, upd_same⟩
      · obtain ⟨u, hu⟩ := i' a ha
        exact ⟨u, su _ _ hu⟩
    · rw [upd_ne fun z => hb (by rw [z]; exact List.mem_cons_self)]
      exact o' b fun z => hb (List.mem_cons_of_mem _ z)
  | lst k =>
    obtain ⟨F', e, S', r', o', i'⟩ := SR.settleK S k nd'.2 fun a ha => h a (List.mem_cons_of_mem _ ha)
    have hF' : F' p = none := (o' p nd'.1).trans hF
    rename_i vs xs
    have su := same_upd (o := HO.lst vs) hF'
    refine ⟨_, e.trans su, S'.settle hF' hH hp.1 hp.2 ht, .ref upd_same (.lst (r'.mono su)), fun a ha => ?_, fun b hb => ?_⟩
    · rcases List.mem_cons.mp ha with rfl | ha
      · exact ⟨_, upd_same⟩
      · obtain ⟨u, hu⟩ := i' a ha
        exact ⟨u, su _ _ hu⟩
    · rw [upd_ne fun z => hb (by rw [z]; exact List.mem_cons_self)]
      exact o' b fun z => hb (List.mem_cons_of_mem _ z)
  | tup k =>
    obtain ⟨F', e, S', r', o', i'⟩ := SR.settleK S k nd'.2 fun a ha => h a (List.mem_cons_of_mem _ ha)
    have hF' : F' p = none := (o' p nd'.1).trans hF
    rename_i vs xs
    have su := same_upd (o := HO.tup vs) hF'
    refine ⟨_, e.trans su, S'.settle hF' hH hp.1 hp.2 ht, .ref upd_same (.tup (r'.mono su)), fun a ha => ?_, fun b hb => ?_⟩
    · rcases List.mem_cons.mp ha with rfl | ha
      · exact ⟨_, upd_same⟩
      · obtain ⟨u, hu⟩ := i' a ha
        exact ⟨u, su _ _ hu⟩
    · rw [upd_ne fun z => hb (by rw [z]; exact List.mem_cons_self)]
      exact o' b fun z => hb (List.mem_cons_of_mem _ z)
theorem SR.fix (S : SR K T B M F H ρ σ) (h : RetV K T B F H ρ σ v r) : ∃ F', Same F F' ∧ SR K T B M F' H ρ σ ∧ Rep K T F' v r.d := by
  cases r with
  | fz d => exact ⟨F, Same.refl _, S, h⟩
  | fr d =>
    obtain ⟨p, o, rfl, hF, hH, ro, hn, hno⟩ := h
    have su : Same F (upd F p o) := same_upd hF
    exact ⟨upd F p o, su, S.settle hF hH (.inl hn) hno (repO_tbl ro), .ref upd_same (ro.mono su)⟩
  | ft d =>
    obtain ⟨p, o, rfl, hF, hH, ro, nd, hn⟩ := h
    obtain ⟨F', e, S', r, _⟩ := S.settleT hF hH ro nd fun a ha => ⟨.inl (hn a ha).1, (hn a ha).2⟩
    exact ⟨F', e, S', r⟩
/-- a slot's word is weakened -/
theorem SR.slots (S : SR K T B M F H ρ σ) (hl : ρ'.length = ρ.length) (h : ∀ i, ρ'.at i = ρ.at i ∨ (∃ d, ρ'.at i = .fz d ∧ ∃ v, σ[i]? = some (some v) ∧ Rep K T F v d) ∨ ρ'.at i = .no) : SR K T B M F H ρ' σ := by
  have own_of : ∀ i a, a ∈ foot H (σ[i]?) (ρ'.at i) → a ∈ foot H (σ[i]?) (ρ.at i) := fun i a ha => by
    rcases h i with q | ⟨_, q, _⟩ | q
    · rw [← q]; exact ha
    · rw [q, foot_fz] at ha; simp at ha
    · rw [q, foot_no] at ha; simp at ha
  refine ⟨S.sub, S.keep, S.live, S.f0, S.fnew, hl.trans S.len, fun i => ?_, fun i a ha => S.newF i a (own_of i a ha), fun i j a h1 h2 => S.injF i j a (own_of i a h1) (own_of j a h2), S.pin, S.tabs⟩
  rcases h i with q | ⟨d, q, hv⟩ | q
  · rw [q]; exact S.slot i
  · rw [q]; exact hv
  · rw [q]; trivial
/-- a name's slot is forgotten: its objects are no slot's -/
theorem SR.forget (S : SR K T B M F H ρ σ) (i : Nat) : SR K T B M F H (ρ.set i .no) σ ∧ ∀ a ∈ foot H (σ[i]?) (ρ.at i), ∀ j, a ∉ foot H (σ[j]?) (Env.at (ρ.set i .no) j) := by
  refine ⟨S.slots (by simp) fun j => ?_, fun a ha j hj => ?_⟩
  · by_cases hj : i = j
    · subst hj
      by_cases hi : i < ρ.length
      · exact .inr (.inr (Env.at_set_same hi))
      · rw [List.set_eq_of_length_le (by omega)]; exact .inl rfl
    · exact .inl (Env.at_set_ne hj)
  · by_cases hij : i = j
    · subst hij
      by_cases hi : i < ρ.length
      · rw [Env.at_set_same hi, foot_no] at hj; simp at hj
      · have : ρ.at i = .no := by
          unfold Env.at
          rw [List.getElem?_eq_none (by omega)]
          rfl
        rw [this, foot_no] at ha; simp at ha
    · rw [Env.at_set_ne hij] at hj
      exact hij (S.injF i j a ha hj)
/-- a name's own object is settled -/
theorem SR.calmAt (S : SR K T B M F H ρ σ) (h : ρ.at i = .own d) : ∃ F' v, Same F F' ∧ SR K T B M F' H (ρ.set i (.fz d)) σ ∧ σ[i]? = some (some v) ∧ Rep K T F' v d ∧ ∀ a ∈ foot H (σ[i]?) (ρ.at i), ∃ u, F' a = some u := by
  have hs := S.slot i
  rw [h] at hs
  obtain ⟨p, o, e, hF, hH, ro, _⟩ := hs
  have su : Same F (upd F p o) := same_upd hF
  have hi : i < ρ.length := Env.at_lt (by rw [h]; exact fun z => nomatch z)
  obtain ⟨S1, fr⟩ := S.forget i
  have hp : p ∈ foot H (σ[i]?) (ρ.at i) := by rw [h, e, foot_own]; exact List.mem_singleton.mpr rfl
  have S2 : SR K T B M (upd F p o) H (ρ.set i .no) σ := S1.settle hF hH (S.newown i d p h e) (fr p hp) (repO_tbl ro)
  have rr : Rep K T (upd F p o) (.ref p) d := .ref upd_same (ro.mono su)
  refine ⟨upd F p o, .ref p, su, ?_, e, rr, fun a ha => by rw [h, e, foot_own] at ha; rw [List.mem_singleton.mp ha]; exact ⟨_, upd_same⟩⟩
  have e3 : (ρ.set i .no).set i (.fz d) = ρ.set i (.fz d) := by simp
  have S3 : SR K T B M (upd F p o) H ((ρ.set i .no).set i (.fz d)) σ := S2.slots (by simp) fun j => by
    by_cases hj : i = j
    · subst hj; exact .inr (.inl ⟨d, Env.at_set_same (by simpa using hi), _, e, rr⟩)
    · exact .inl (Env.at_set_ne hj)
  rw [e3] at S3
  exact S3
theorem SR.calmAtT (S : SR K T B M F H ρ σ) (h : ρ.at i = .ownT d) : ∃ F' v, Same F F' ∧ SR K T B M F' H (ρ.set i (.fz d.calm)) σ ∧ σ[i]? = some (some v) ∧ Rep K T F' v d.calm ∧ ∀ a ∈ foot H (σ[i]?) (ρ.at i), ∃ u, F' a = some u := by
  have hs := S.slot i
  rw [h] at hs
  obtain ⟨p, o, e, hF, hH, ro, nd, _⟩ := hs
  have hi : i < ρ.length := Env.at_lt (by rw [h]; exact fun z => nomatch z)
  obtain ⟨S1, fr⟩ := S.forget i
  have fe : foot H (σ[i]?) (ρ.at i) = p :: footO o d := by rw [h, e, foot_ownT hH]
  obtain ⟨F', su, S2, rr, in', _⟩ := S1.settleT hF hH ro nd fun a ha => ⟨S.newO (fe ▸ ha), fr a (fe ▸ ha)⟩
  refine ⟨F', .ref p, su, ?_, e, rr, fun a ha => in' a (fe ▸ ha)⟩
  have e3 : (ρ.set i .no).set i (.fz d.calm) = ρ.set i (.fz d.calm) := by simp
  have S3 : SR K T B M F' H ((ρ.set i .no).set i (.fz d.calm)) σ := S2.slots (by simp) fun j => by
    by_cases hj : i = j
    · subst hj; exact .inr (.inl ⟨d.calm, Env.at_set_same (by simpa using hi), _, e, rr⟩)
    · exact .inl (Env.at_set_ne hj)
  rw [e3] at S3
  exact S3
end
end DL

set_option Elab.async false
set_option linter.all false
set_option autoImplicit false
set_option maxRecDepth 100000
/-! DLX2: readings by data; expressions. -/
namespace DL
open PySem PySem.Spec PyProof.Rows L2
/-- an exception as it lies -/
def ExR (K : PySem.W.Frag) (T : Tb) (F : Hp) (cls : Value) (d : Option Addr) (x : Exc) : Prop :=
  ∃ ei da v, T.ex x.cls = some ei ∧ cls = .ref ei.addr ∧ d = some da ∧ F da = some (.xd [(ei.field, v)]) ∧ Rep K T F v x.val
section
variable (K : PySem.W.Frag) (T : Tb) (B : Bs) (M : List Nat) (W : EK)
def lE (f : DE) : TE := fun σ H Q => ∃ F ρ Qd, SR K T B M F H ρ σ ∧ f ρ Qd W ∧ ∀ F' H' ρ' v r, Same F F' → SR K T B M F' H' ρ' σ → RetV K T B F' H' ρ' σ v r → Qd r ρ' → Q v H'
def lT (f : DT) : TT := fun σ H Q => ∃ F ρ Qd, SR K T B M F H ρ σ ∧ f ρ Qd W ∧ ∀ F' H' ρ' b, Same F F' → SR K T B M F' H' ρ' σ → Qd b ρ' → Q b H'
def lA (fs : List DE) : TA := fun σ H Q => ∃ F ρ Qd, SR K T B M F H ρ σ ∧ dArgs fs ρ Qd W ∧ ∀ F' H' ρ' vs ds, Same F F' → SR K T B M F' H' ρ' σ → RepL K T F' vs ds → Qd ds ρ' → Q vs H'
def lW : WX := fun cls d σ H => ∃ F ρ x, SR K T B M F H ρ σ ∧ ExR K T F cls d x ∧ W x ρ
/-- what a walked thing yields -/
def ItOk (K : PySem.W.Frag) (T : Tb) (F : Hp) (J : It) (xs : List D) : Prop :=
  ∀ i F1 H, Same F F1 → SmW F1 H → (i < xs.length → J.go i H ∧ ∀ x H', J.yld i H x H' → ∃ r, xs[i]? = some r.d ∧ NewR K T F1 H x H' r) ∧ (xs.length ≤ i → J.stop i H)
def lI (f : DI) : TI := fun σ H R => ∃ F ρ Qd, SR K T B M F H ρ σ ∧ f ρ Qd W ∧ ∀ F' H' ρ' xs J, Same F F' → SR K T B M F' H' ρ' σ → ItOk K T F' J xs → Qd xs ρ' → R J H'
end
section
variable (X : Cx) (T : Tb) (B : Bs) (M : List Nat) (W : EK)
abbrev PD (e : Expr) (f : DE) : Prop := PE X e (lE X.K T B M W f)
abbrev PDT (e : Expr) (f : DT) : Prop := PT X e (lT X.K T B M W f)
abbrev PDW (e : Expr) (f : DT) : Prop := PW X e (lT X.K T B M W f)
abbrev PDA (es : List Expr) (fs : List DE) : Prop := PA X es (lA X.K T B M W fs)
abbrev PDI (tg e : Expr) (f : DI) : Prop := PI X tg e (lI X.K T B M W f)
end
theorem pe_imp {X : Cx} {e : Expr} {t t' : TE} (h : PE X e t) (k : ∀ σ H Q, t' σ H Q → t σ H Q) : PE X e t' := ⟨fun pins s σ H Q I q => h.run pins s σ H Q I (k σ H Q q)⟩
theorem pt_imp {X : Cx} {e : Expr} {t t' : TT} (h : PT X e t) (k : ∀ σ H Q, t' σ H Q → t σ H Q) : PT X e t' := ⟨fun pins s σ H Q I q => h.run pins s σ H Q I (k σ H Q q)⟩
theorem pw_imp {X : Cx} {e : Expr} {t t' : TT} (h : PW X e t) (k : ∀ σ H Q, t' σ H Q → t σ H Q) : PW X e t' := ⟨fun w pins s σ H Q I q => h.run w pins s σ H Q I (k σ H Q q)⟩
theorem pa_imp {X : Cx} {es : List Expr} {t t' : TA} (h : PA X es t) (k : ∀ σ H Q, t' σ H Q → t σ H Q) : PA X es t' := ⟨fun pos pins s σ H Q I q => h.run pos pins s σ H Q I (k σ H Q q)⟩
theorem pi_imp {X : Cx} {tg e : Expr} {t t' : TI} (h : PI X tg e t) (k : ∀ σ H Q, t' σ H Q → t σ H Q) : PI X tg e t' := ⟨fun pins s σ H Q I q => h.run pins s σ H Q I (k σ H Q q)⟩
section
variable {X : Cx} {T : Tb} {B : Bs} {M : List Nat} {W : EK} {F H : Hp} {ρ : Env} {σ : L2.St}
/-- a part is read, its value settled -/
theorem zaL {f : DE} {Qd : R → Env → Prop} {Q : VK} (S : SR X.K T B M F H ρ σ) (h : f ρ Qd W) (k : ∀ F' H' ρ' v r, Same F F' → SR X.K T B M F' H' ρ' σ → Rep X.K T F' v r.d → Qd r ρ' → Q v H') : lE X.K T B M W f σ H Q :=
  ⟨F, ρ, Qd, S, h, fun F' H' ρ' v r e S' R q => by
    obtain ⟨F2, e2, S2, R2⟩ := S'.fix R
    exact k F2 H' ρ' v r (e.trans e2) S2 R2 q⟩
theorem lT_run {f : DT} {Qd : Bool → Env → Prop} {Q : Bool → Hp → Prop} (S : SR X.K T B M F H ρ σ) (h : f ρ Qd W) (k : ∀ F' H' ρ' b, Same F F' → SR X.K T B M F' H' ρ' σ → Qd b ρ' → Q b H') : lT X.K T B M W f σ H Q := ⟨F, ρ, Qd, S, h, k⟩
theorem lA_run {fs : List DE} {Qd : List D → Env → Prop} {Q : List V → Hp → Prop} (S : SR X.K T B M F H ρ σ) (h : dArgs fs ρ Qd W) (k : ∀ F' H' ρ' vs ds, Same F F' → SR X.K T B M F' H' ρ' σ → RepL X.K T F' vs ds → Qd ds ρ' → Q vs H') : lA X.K T B M W fs σ H Q := ⟨F, ρ, Qd, S, h, k⟩
/-- the end of an operation -/
theorem lE_end {F0 : Hp} {Qd : R → Env → Prop} {Q : VK} {v : V} {H' : Hp} {r : R} (k : ∀ F' H' ρ' v r, Same F0 F' → SR X.K T B M F' H' ρ' σ → RetV X.K T B F' H' ρ' σ v r → Qd r ρ' → Q v H') (e : Same F0 F) (S : SR X.K T B M F H ρ σ) (n : NewR X.K T F H v H' r) (q : Qd r ρ) : Q v H' :=
  let ⟨S', R⟩ := S.new n
  k F H' ρ v r e S' R q
theorem NewR.fz {K : PySem.W.Frag} {v : V} {d : D} (h : Rep K T F v d) : NewR K T F H v H (.fz d) := .inl ⟨d, rfl, rfl, h⟩
theorem NewR.fr {K : PySem.W.Frag} {p : Addr} {o : HO} {d : D} (hp : H p = none) (h : RepO K T F o d) : NewR K T F H (.ref p) (upd H p o) (.fr d) := .inr ⟨p, o, d, rfl, rfl, hp, rfl, h⟩

/-! ### constants and names -/
theorem pd_const {e : Expr} {v : V} {d : D} (he : PE X e (tC v)) (r : ∀ F, Rep X.K T F v d) : PD X T B M W e (dC d) :=
  pe_imp he fun σ H Q ⟨F, ρ, Qd, S, h, k⟩ => k F H ρ v (.fz d) (Same.refl _) S (r F) h
theorem zaJ {i : Int} {j pos} : PD X T B M W (.Constant (.int i) j pos) (dC (.int i)) := pd_const pe_int fun _ => .int i
theorem pd_bl {b : Bool} {j pos} : PD X T B M W (.Constant (.bool b) j pos) (dC (.bl b)) := pd_const pe_bl fun _ => .bl b
theorem pd_non {j pos} : PD X T B M W (.Constant .none j pos) (dC .non) := pd_const pe_non fun _ => .non
def okTxB (l : Tx) : Bool := l.all (· < 0x110000) && decide (l.length ≤ 1000000)
theorem okTx_of {l : Tx} (h : okTxB l = true) : okTx l := by
  unfold okTxB at h
  rw [Bool.and_eq_true, List.all_eq_true] at h
  refine ⟨fun c hc => of_decide_eq_true (h.1 c hc), Nat.le_trans (of_decide_eq_true h.2) (by rw [sizeLine_eq]; decide)⟩
theorem pd_str {x : Str} {l : Tx} {j pos} (e : x = tx l) (h : okTxB l = true) : PD X T B M W (.Constant (.str x) j pos) (dC (.str l)) := by
  subst e
  exact pd_const pe_str fun _ => .str (okTx_of h)
/-- a constant of the module -/
theorem pd_glob {x : Str} {v : V} {d : D} {u : Value} {pos : Pos} (hg : Gl X x) (hm : X.mg x = some u) (r : RelV v u) (rd : ∀ F, Rep X.K T F v d) (hd : (x == ("__debug__" : Str)) = false := by decide) : PD X T B M W (.Name x pos) (dC d) := pd_const (pe_glob hg hm r hd) rd
theorem zaA {i : Nat} {x : Str} {pos : Pos} (hN : X.N[i]? = some x) (hv : Vis X.env.scope x) (hd : (x == ("__debug__" : Str)) = false := by decide) (hcd : (x == ("__classdict__" : Str)) = false := by decide) : PD X T B M W (.Name x pos) (zaG i) := by
  refine pe_imp (pe_var hN hv hd hcd) fun σ H Q ⟨F, ρ, Qd, S, h, k⟩ => ?_
  unfold zaG at h
  have hs := S.slot i
  cases e : ρ.at i with
  | no => rw [e] at h; exact h.elim
  | fz d =>
    rw [e] at h hs
    obtain ⟨v, e1, r⟩ := hs
    exact ⟨v, e1, k F H ρ v (.fz d) (Same.refl _) S r h⟩
  | own d =>
    rw [e] at h
    obtain ⟨F', v, su, S', e1, r, _⟩ := S.calmAt e
    exact ⟨v, e1, k F' H _ v (.fz d) su S' r h⟩
  | ownT d =>
    rw [e] at h
    obtain ⟨F', v, su, S', e1, r, _⟩ := S.calmAtT e
    exact ⟨v, e1, k F' H _ v (.fz d.calm) su S' r h⟩

/-! ### operators -/
/-- the rule r of an operator does what op says of data -/
def OpOk (K : PySem.W.Frag) (T : Tb) (op : D → D → (R → Prop) → Prop) (r : R2) : Prop :=
  ∀ F H x y dx dy k Q, SmW F H → Rep K T F x dx → Rep K T F y dy → op dx dy k → (∀ v H' t, NewR K T F H v H' t → k t → Q v H') → r x y H Q
def UnOk (K : PySem.W.Frag) (T : Tb) (op : D → (R → Prop) → Prop) (r : V → Hp → VK → Prop) : Prop :=
  ∀ F H x dx k Q, SmW F H → Rep K T F x dx → op dx k → (∀ v H' t, NewR K T F H v H' t → k t → Q v H') → r x H Q
theorem tOp_of {op : D → D → (R → Prop) → Prop} {r : R2} {f g : DE} (ho : OpOk X.K T op r) {H : Hp} {Q : VK} (h : lE X.K T B M W (dOp op f g) σ H Q) : tOp r (lE X.K T B M W f) (lE X.K T B M W g) σ H Q := by
  obtain ⟨F, ρ, Qd, S, h, k⟩ := h
  refine zaL S h fun F1 H1 ρ1 v1 r1 e1 S1 R1 h1 => zaL S1 h1 fun F2 H2 ρ2 v2 r2 e2 S2 R2 h2 => ?_
  exact ho F2 H2 v1 v2 _ _ _ _ S2.sub.toSmW (R1.mono e2) R2 h2 fun v H' t n q => lE_end k (e1.trans e2) S2 n q
variable {a b c e : Expr} {f g h : DE} {pos : Pos}
theorem pd_op {o : Operator} {op : D → D → (R → Prop) → Prop} {r : R2} (hr : OpR X (binaryOp o) r) (ho : OpOk X.K T op r) (ha : PD X T B M W a f) (hb : PD X T B M W b g) : PD X T B M W (.BinOp a o b pos) (dOp op f g) :=
  pe_imp (pe_op hr ha hb) fun σ H Q z => tOp_of ho z
theorem pd_cmp {o : CmpOp} {op : D → D → (R → Prop) → Prop} {r : R2} (hr : OpR X (compareOp o) r) (ho : OpOk X.K T op r) (ha : PD X T B M W a f) (hb : PD X T B M W b g) (hm : behindInMarks o b = false) : PD X T B M W (.Compare a [o] [b] pos) (dOp op f g) :=
  pe_imp (pe_cmpR hr ha hb hm) fun σ H Q z => tOp_of ho z
theorem pd_un {o : UnaryOp} {op : D → (R → Prop) → Prop} {r : V → Hp → VK → Prop} (hr : UnR X (unaryOp o) r) (ho : UnOk X.K T op r) (ha : PD X T B M W a f) : PD X T B M W (.UnaryOp o a pos) (dUn op f) := by
  refine pe_imp (pe_un hr ha) fun σ H Q ⟨F, ρ, Qd, S, h, k⟩ => ?_
  refine zaL S h fun F1 H1 ρ1 v1 r1 e1 S1 R1 h1 => ?_
  exact ho F1 H1 v1 _ _ _ S1.sub.toSmW R1 h1 fun v H' t n q => lE_end k e1 S1 n q
/-- ints -/
theorem OpOk.ints {op : D → D → (R → Prop) → Prop} {C : Int → Int → Prop} {gv : Int → Int → V} (h : ∀ dx dy k, op dx dy k → ∃ i j d, dx = .int i ∧ dy = .int j ∧ C i j ∧ k (.fz d) ∧ ∀ F, Rep X.K T F (gv i j) d) : OpOk X.K T op (rI C gv) := by
  intro F H x y dx dy k Q s rx ry ho kk
  obtain ⟨i, j, d, rfl, rfl, hc, hk, hd⟩ := h dx dy k ho
  exact ⟨i, j, rx.int_inv, ry.int_inv, hc, kk _ _ _ (.fz (hd F)) hk⟩
theorem OpOk.ints0 {op : D → D → (R → Prop) → Prop} {gv : Int → Int → V} (h : ∀ dx dy k, op dx dy k → ∃ i j d, dx = .int i ∧ dy = .int j ∧ k (.fz d) ∧ ∀ F, Rep X.K T F (gv i j) d) : OpOk X.K T op (rI0 gv) := by
  intro F H x y dx dy k Q s rx ry ho kk
  obtain ⟨i, j, d, rfl, rfl, hk, hd⟩ := h dx dy k ho
  exact ⟨i, j, rx.int_inv, ry.int_inv, kk _ _ _ (.fz (hd F)) hk⟩
theorem ok_sub : OpOk X.K T subD (rI0 fun i j => .int (i - j)) := OpOk.ints0 fun dx dy k h => by
  cases dx <;> cases dy <;> first | exact h.elim | exact ⟨_, _, _, rfl, rfl, h, fun _ => .int _⟩
theorem ok_fdiv : OpOk X.K T fdivD (rI CDivW fun i j => .int (i / j)) := OpOk.ints fun dx dy k h => by
  cases dx <;> cases dy <;> first | exact h.elim | exact ⟨_, _, _, rfl, rfl, wide_div (b := 70) h.1.1 (by have h0 := h.1.1; have h1 := h.1.2; omega) (by decide) (by decide), h.2, fun _ => .int _⟩
theorem ok_mod : OpOk X.K T modD (rI (fun _ j => 0 < j) fun i j => .int (i % j)) := OpOk.ints fun dx dy k h => by
  cases dx <;> cases dy <;> first | exact h.elim | exact ⟨_, _, _, rfl, rfl, h.1, h.2, fun _ => .int _⟩
theorem ok_pow : OpOk X.K T powD (rI CPow fun i j => .int (i ^ j.toNat)) := OpOk.ints fun dx dy k h => by
  cases dx <;> cases dy <;> first | exact h.elim | exact ⟨_, _, _, rfl, rfl, h.1, h.2, fun _ => .int _⟩
theorem ok_lt : OpOk X.K T ltD (rI0 fun i j => .bl (decide (i < j))) := OpOk.ints0 fun dx dy k h => by
  cases dx <;> cases dy <;> first | exact h.elim | exact ⟨_, _, _, rfl, rfl, h, fun _ => .bl _⟩
theorem ok_le : OpOk X.K T leD (rI0 fun i j => .bl (decide (i ≤ j))) := OpOk.ints0 fun dx dy k h => by
  cases dx <;> cases dy <;> first | exact h.elim | exact ⟨_, _, _, rfl, rfl, h, fun _ => .bl _⟩
theorem ok_gt : OpOk X.K T gtD (rI0 fun i j => .bl (decide (j < i))) := OpOk.ints0 fun dx dy k h => by
  cases dx <;> cases dy <;> first | exact h.elim | exact ⟨_, _, _, rfl, rfl, h, fun _ => .bl _⟩
theorem ok_ge : OpOk X.K T geD (rI0 fun i j => .bl (decide (j ≤ i))) := OpOk.ints0 fun dx dy k h => by
  cases dx <;> cases dy <;> first | exact h.elim | exact ⟨_, _, _, rfl, rfl, h, fun _ => .bl _⟩
theorem ok_neg : UnOk X.K T negD (rU fun i => .int (-i)) := by
  intro F H x dx k Q s rx ho kk
  cases dx with
  | int i => exact ⟨i, rx.int_inv, kk _ _ _ (.fz (.int _)) ho⟩
  | _ => exact ho.elim
theorem maxTx_eq : zaK = sizeLine := by rw [sizeLine_eq]
theorem okTx.append {a b : Tx} (ha : okTx a) (hb : okTx b) (h : a.length + b.length ≤ zaK) : okTx (a ++ b) :=
  ⟨fun c hc => (List.mem_append.mp hc).elim (ha.1 c) (hb.1 c), by rw [List.length_append, ← maxTx_eq]; exact h⟩
/-- a + b: ints, texts, lists -/
def rAddA (X : Cx) : R2 := fun x y H Q => (rI0 (fun i j => .int (i + j))) x y H Q ∨ (∃ i j, x = .str i ∧ y = .str j ∧ i.length + j.length ≤ sizeLine ∧ Q (.str (i ++ j)) H) ∨ rCat x y H Q
theorem op_addA : OpR X (binaryOp .Add) (rAddA X) := op_add.or (op_add_str.or op_cat)
theorem ok_add : OpOk X.K T addD (rAddA X) := by
  intro F H x y dx dy k Q s rx ry ho kk
  cases dx with
  | int i =>
    cases dy with
    | int j => exact .inl ⟨i, j, rx.int_inv, ry.int_inv, kk _ _ _ (.fz (.int _)) ho⟩
    | _ => exact ho.elim
  | str a =>
    cases dy with
    | str b =>
      obtain ⟨ex, ha⟩ := rx.str_inv
      obtain ⟨ey, hb⟩ := ry.str_inv
      have hl : (tx a).length + (tx b).length ≤ sizeLine := by rw [tx_len, tx_len, ← maxTx_eq]; exact ho.1
      refine .inr (.inl ⟨_, _, ex, ey, hl, ?_⟩)
      rw [tx_app]
      exact kk _ _ _ (.fz (.str (ha.append hb ho.1))) ho.2
    | _ => exact ho.elim
  | lst a =>
    cases dy with
    | lst b =>
      obtain ⟨p, vs, rfl, hp, ra⟩ := rx.lst_inv
      obtain ⟨q, ws, rfl, hq, rb⟩ := ry.lst_inv
      refine .inr (.inr ⟨p, q, vs, ws, rfl, rfl, s _ _ hp, s _ _ hq, by rw [ra.length, rb.length, ← maxTx_eq]; exact ho.1, fun z hz => ?_⟩)
      exact kk _ _ _ (.fr hz (.lst (ra.append rb))) ho.2
    | _ => exact ho.elim
  | _ => exact ho.elim
theorem CMul.of {i j : Int} (h : (-(2 ^ 64) < i ∧ i < 2 ^ 64) ∨ (-(2 ^ 64) < j ∧ j < 2 ^ 64)) : CMul i j := h
/-- what a text repeated is, comes later -/
def mulI : D → D → (R → Prop) → Prop
  | .int i, .int j, k => ((-(2 ^ 64) < i ∧ i < 2 ^ 64) ∨ (-(2 ^ 64) < j ∧ j < 2 ^ 64)) ∧ k (.fz (.int (i * j)))
  | _, _, _ => False
end
end DL

set_option Elab.async false
set_option linter.all false
set_option autoImplicit false
set_option maxRecDepth 100000
/-! DLX3: comparisons, subscripts, arguments, tests. -/
namespace DL
open PySem PySem.Spec PyProof.Rows L2
section
variable {X : Cx} {T : Tb} {B : Bs} {M : List Nat} {W : EK} {F H : Hp} {ρ : Env} {σ : L2.St}
variable {a b c e : Expr} {f g h : DE} {pos : Pos}
/-! ### equality -/
mutual
def D.toP : D → PyData
  | .non => .none
  | .bl b => .bool b
  | .int i => .int i
  | .str x => .str (tx x)
  | .lst xs => .list (D.toPL xs)
  | .tup xs => .tuple (D.toPL xs)
  | .dct _ => .none
  | .obj _ _ => .none
  | .frl _ => .none
  | .cls _ => .none
  | .prt _ => .none
  | .dcT _ => .none
  | .adr _ => .none
def D.toPL : List D → List PyData
  | [] => []
  | x :: xs => D.toP x :: D.toPL xs
end
theorem tx_beq (x y : Tx) : (tx x == tx y) = (x == y) := by
  by_cases h : x = y
  · subst h; simp
  · have : tx x ≠ tx y := fun z => h (tx_inj z)
    rw [beq_eq_false_iff_ne.mpr h, beq_eq_false_iff_ne.mpr this]
mutual
theorem eqv_toP : ∀ (n m : Nat) (x y : D), D.eqOk n x = true → D.eqOk m y = true → PyData.eqv x.toP y.toP = D.eqv x y
  | n, m, .non, y, _, h2 => by cases y <;> first | rfl | (cases m <;> cases h2)
  | n, m, .bl a, y, _, h2 => by cases y <;> first | rfl | (cases m <;> cases h2)
  | n, m, .int a, y, _, h2 => by cases y <;> first | rfl | (cases m <;> cases h2)
  | n, m, .str a, y, _, h2 => by
    cases y with
    | str b => exact tx_beq a b
    | _ => first | rfl | (cases m <;> cases h2)
  | 0, _, .lst xs, y, h1, _ => by cases h1
  | n + 1, m, .lst xs, y, h1, h2 => by
    cases y with
    | lst ys =>
      cases m with
      | zero => cases h2
      | succ m => exact eqvL_toP n m xs ys h1 h2
    | _ => first | rfl | (cases m <;> cases h2)
  | 0, _, .tup xs, y, h1, _ => by cases h1
  | n + 1, m, .tup xs, y, h1, h2 => by
    cases y with
    | tup ys =>
      cases m with
      | zero => cases h2
      | succ m => exact eqvL_toP n m xs ys h1 h2
    | _ => first | rfl | (cases m <;> cases h2)
  | n, _, .dct _, _, h1, _ => by cases n <;> cases h1
  | n, _, .dcT _, _, h1, _ => by cases n <;> cases h1
  | n, _, .adr _, _, h1, _ => by cases n <;> cases h1
  | n, _, .obj _ _, _, h1, _ => by cases n <;> cases h1
  | n, _, .frl _, _, h1, _ => by cases n <;> cases h1
theorem eqvL_toP : ∀ (n m : Nat) (xs ys : List D), D.eqOkL n xs = true → D.eqOkL m ys = true → PyData.eqvAll (D.toPL xs) (D.toPL ys) = D.eqvL xs ys
  | _, _, [], [], _, _ => rfl
  | _, _, [], _ :: _, _, _ => rfl
  | _, _, _ :: _, [], _, _ => rfl
  | n, m, x :: xs, y :: ys, h1, h2 => by
    unfold D.eqOkL at h1 h2
    rw [Bool.and_eq_true] at h1 h2
    show (PyData.eqv x.toP y.toP && PyData.eqvAll (D.toPL xs) (D.toPL ys)) = (D.eqv x y && D.eqvL xs ys)
    rw [eqv_toP n m x y h1.1 h2.1, eqvL_toP n m xs ys h1.2 h2.2]
end
mutual
theorem Rep.dp (s : SmW F H) : ∀ (n : Nat) (d : D) (v : V), D.eqOk n d = true → Rep X.K T F v d → Dp X.K H v d.toP ∧ d.toP.canLay0 = true ∧ d.toP.depth ≤ n
  | n, .non, v, _, r => by rw [r.non_inv]; exact ⟨.non, rfl, Nat.zero_le _⟩
  | n, .bl b, v, _, r => by rw [r.bl_inv]; exact ⟨.bl b, rfl, Nat.zero_le _⟩
  | n, .int b, v, _, r => by rw [r.int_inv]; exact ⟨.int b, rfl, Nat.zero_le _⟩
  | n, .str b, v, _, r => by
    obtain ⟨rfl, z⟩ := r.str_inv
    refine ⟨.str _, ?_, Nat.zero_le _⟩
    show PyData.strOk (tx b) = true
    unfold PyData.strOk tx
    simp only [List.all_toArray, List.all_eq_true, decide_eq_true_eq]
    exact z.1
  | 0, .lst _, _, h, _ => by cases h
  | n + 1, .lst xs, v, h, r => by
    obtain ⟨p, vs, rfl, hp, ra⟩ := r.lst_inv
    obtain ⟨h1, h2, h3⟩ := RepL.dp s n xs vs h ra
    exact ⟨.lst (.of (s _ _ hp)) h1, h2, Nat.succ_le_succ h3⟩
  | 0, .tup _, _, h, _ => by cases h
  | n + 1, .tup xs, v, h, r => by
    obtain ⟨p, vs, rfl, hp, ra⟩ := r.tup_inv
    obtain ⟨h1, h2, h3⟩ := RepL.dp s n xs vs h ra
    exact ⟨.tup (.of (s _ _ hp)) h1, h2, Nat.succ_le_succ h3⟩
  | n, .dct _, _, h, _ => by cases n <;> cases h
  | n, .dcT _, _, h, _ => by cases n <;> cases h
  | n, .adr _, _, h, _ => by cases n <;> cases h
  | n, .obj _ _, _, h, _ => by cases n <;> cases h
  | n, .frl _, _, h, _ => by cases n <;> cases h
theorem RepL.dp (s : SmW F H) : ∀ (n : Nat) (xs : List D) (vs : List V), D.eqOkL n xs = true → RepL X.K T F vs xs → DpAll X.K H vs (D.toPL xs) ∧ PyData.canLayAll0 (D.toPL xs) = true ∧ PyData.depthAll (D.toPL xs) ≤ n
  | n, [], _, _, .nil => ⟨.nil, rfl, Nat.zero_le _⟩
  | n, x :: xs, _, h, .cons r rs => by
    unfold D.eqOkL at h
    rw [Bool.and_eq_true] at h
    obtain ⟨a1, a2, a3⟩ := Rep.dp s n x _ h.1 r
    obtain ⟨b1, b2, b3⟩ := RepL.dp s n xs _ h.2 rs
    refine ⟨.cons a1 b1, ?_, ?_⟩
    · show (x.toP.canLay0 && PyData.canLayAll0 (D.toPL xs)) = true
      rw [a2, b2]; rfl
    · show max x.toP.depth (PyData.depthAll (D.toPL xs)) ≤ n
      exact Nat.max_le.mpr ⟨a3, b3⟩
end
theorem Rep.shaped (s : SmW F H) {d : D} {v : V} (h : d.eqOk 60 = true) (r : Rep X.K T F v d) : Dp X.K H v d.toP ∧ SeqAt.shaped d.toP = true := by
  obtain ⟨h1, h2, h3⟩ := Rep.dp s 60 d v h r
  refine ⟨h1, ?_⟩
  unfold SeqAt.shaped
  rw [h2, decide_eq_true (by omega)]
  rfl
def rEqA (X : Cx) : R2 := fun x y H Q => rEq x y H Q ∨ rEqD X.K x y H Q
def rNeA (X : Cx) : R2 := fun x y H Q => rNe x y H Q ∨ rNeD X.K x y H Q
theorem op_eqA (hu : X.A.units + 64 < cLine) : OpR X (compareOp .Eq) (rEqA X) := op_eq.or (op_eqD hu)
theorem op_neA (hu : X.A.units + 64 < cLine) : OpR X (compareOp .NotEq) (rNeA X) := op_ne.or (op_neD hu)
theorem scal_of {x y : D} {v w : V} (h : scalD x y = true) (rx : Rep X.K T F v x) (ry : Rep X.K T F w y) : scal v w = true ∧ decide (v = w) = D.eqv x y := by
  cases x <;> cases y <;> first
    | (cases h; done)
    | (rw [rx.non_inv, ry.non_inv]; exact ⟨rfl, rfl⟩)
    | (rw [rx.non_inv, ry.int_inv]; exact ⟨rfl, rfl⟩)
    | (rw [rx.int_inv, ry.non_inv]; exact ⟨rfl, rfl⟩)
    | (rw [rx.non_inv, ry.bl_inv]; exact ⟨rfl, rfl⟩)
    | (rw [rx.bl_inv, ry.non_inv]; exact ⟨rfl, rfl⟩)
    | (rw [rx.non_inv, ry.str_inv.1]; exact ⟨rfl, rfl⟩)
    | (rw [rx.str_inv.1, ry.non_inv]; exact ⟨rfl, rfl⟩)
    | (rw [rx.int_inv, ry.int_inv]; exact ⟨rfl, dec_int⟩)
    | (rw [rx.bl_inv, ry.bl_inv]; exact ⟨rfl, dec_bl⟩)
    | (rw [rx.str_inv.1, ry.str_inv.1]; exact ⟨rfl, dec_str.trans (tx_beq _ _)⟩)
    | (rw [rx.int_inv, ry.str_inv.1]; exact ⟨rfl, rfl⟩)
    | (rw [rx.str_inv.1, ry.int_inv]; exact ⟨rfl, rfl⟩)
    | (rw [rx.bl_inv, ry.str_inv.1]; exact ⟨rfl, rfl⟩)
    | (rw [rx.str_inv.1, ry.bl_inv]; exact ⟨rfl, rfl⟩)
theorem ok_eq : OpOk X.K T eqD (rEqA X) := by
  intro F H x y dx dy k Q s rx ry ho kk
  obtain ⟨hc, hk⟩ := ho
  rcases hc with hc | ⟨h1, h2⟩
  · obtain ⟨e1, e2⟩ := scal_of hc rx ry
    exact .inl ⟨e1, by rw [e2]; exact kk _ _ _ (.fz (.bl _)) hk⟩
  · obtain ⟨d1, s1⟩ := rx.shaped s h1
    obtain ⟨d2, s2⟩ := ry.shaped s h2
    exact .inr ⟨_, _, d1, d2, s1, s2, by rw [eqv_toP 60 60 _ _ h1 h2]; exact kk _ _ _ (.fz (.bl _)) hk⟩
theorem ok_ne : OpOk X.K T neD (rNeA X) := by
  intro F H x y dx dy k Q s rx ry ho kk
  obtain ⟨hc, hk⟩ := ho
  rcases hc with hc | ⟨h1, h2⟩
  · obtain ⟨e1, e2⟩ := scal_of hc rx ry
    exact .inl ⟨e1, by rw [e2]; exact kk _ _ _ (.fz (.bl _)) hk⟩
  · obtain ⟨d1, s1⟩ := rx.shaped s h1
    obtain ⟨d2, s2⟩ := ry.shaped s h2
    exact .inr ⟨_, _, d1, d2, s1, s2, by rw [eqv_toP 60 60 _ _ h1 h2]; exact kk _ _ _ (.fz (.bl _)) hk⟩
/-! ### is None -/
theorem isNon_of {d : D} {v : V} (r : Rep X.K T F v d) : decide (v = .non) = d.isNon := by
  cases r <;> first | rfl | (rename_i o r; cases r <;> rfl)
def rIsN : R2 := fun x y H Q => y = .non ∧ Q (.bl (decide (x = .non))) H
def rIsnN : R2 := fun x y H Q => y = .non ∧ Q (.bl (!decide (x = .non))) H
theorem pd_isN {k} {p2 : Pos} (ha : PD X T B M W a f) : PD X T B M W (.Compare a [.Is] [.Constant .none k p2] pos) (dUn isD f) := by
  refine pe_imp (pe_cmp (pc_isN ha) rfl) fun σ H Q ⟨F, ρ, Qd, S, h, k⟩ => ?_
  refine zaL S h fun F1 H1 ρ1 v1 r1 e1 S1 R1 h1 => ?_
  rw [isNon_of R1]
  exact lE_end k e1 S1 (.fz (.bl _)) h1
/-! ### in -/
theorem flat_of {K : PySem.W.Frag} {d : D} {v : V} (h : d.flat = true) (r : Rep K T F v d) : flatV v = true := by
  cases r <;> first | rfl | cases h | (rename_i o r; cases r <;> cases h)
theorem eqV_of {K : PySem.W.Frag} {x y : D} {v w : V} (hx : x.flat = true) (hy : y.flat = true) (rx : Rep K T F v x) (ry : Rep K T F w y) : eqV v w = D.eqv x y := by
  cases x <;> cases y <;> first
    | (cases hx; done)
    | (cases hy; done)
    | (rw [rx.non_inv, ry.non_inv]; rfl)
    | (rw [rx.non_inv, ry.int_inv]; rfl)
    | (rw [rx.int_inv, ry.non_inv]; rfl)
    | (rw [rx.non_inv, ry.bl_inv]; rfl)
    | (rw [rx.bl_inv, ry.non_inv]; rfl)
    | (rw [rx.non_inv, ry.str_inv.1]; rfl)
    | (rw [rx.str_inv.1, ry.non_inv]; rfl)
    | (rw [rx.int_inv, ry.int_inv]; first | rfl | simp [eqV, D.eqv])
    | (rw [rx.bl_inv, ry.bl_inv]; first | rfl | simp [eqV, D.eqv])
    | (rw [rx.bl_inv, ry.int_inv]; first | rfl | simp [eqV, D.eqv])
    | (rw [rx.int_inv, ry.bl_inv]; first | rfl | simp [eqV, D.eqv])
    | (rw [rx.str_inv.1, ry.str_inv.1]; simp only [eqV, D.eqv, tx_beq]; done)
    | (rw [rx.int_inv, ry.str_inv.1]; rfl)
    | (rw [rx.str_inv.1, ry.int_inv]; rfl)
    | (rw [rx.bl_inv, ry.str_inv.1]; rfl)
    | (rw [rx.str_inv.1, ry.bl_inv]; rfl)
theorem any_of {K : PySem.W.Frag} {x : D} {v : V} (hx : x.flat = true) (rx : Rep K T F v x) : ∀ {ys : List D} {vs : List V}, ys.all D.flat = true → RepL K T F vs ys → vs.all flatV = true ∧ inV v vs = ys.any fun y => D.eqv y x
  | _, _, _, .nil => ⟨rfl, rfl⟩
  | _ :: _, _ :: _, h, .cons r rs => by
    rw [List.all_cons, Bool.and_eq_true] at h
    obtain ⟨h1, h2⟩ := any_of hx rx h.2 rs
    refine ⟨by rw [List.all_cons, flat_of h.1 r, h1]; rfl, ?_⟩
    show ((_ :: _).any fun y => eqV y v) = _
    rw [List.any_cons, List.any_cons, eqV_of h.1 hx r rx, ← h2]
    rfl
def rInA (X : Cx) (n : Bool) : R2 := fun x y H Q => (∃ (c : Nat) (z : Str), x = .str ⟨#[c]⟩ ∧ y = .str z ∧ Q (.bl (if n then !decide (c ∈ z.cps.toList) else decide (c ∈ z.cps.toList))) H) ∨ rIn X.K n x y H Q
theorem op_inA : OpR X (compareOp .In) (rInA X false) := op_in_sign.or op_in_seq
theorem in_of {n : Bool} {x y : D} {v w : V} {k : Bool → Prop} {Q : VK} (s : SmW F H) (rx : Rep X.K T F v x) (ry : Rep X.K T F w y) (h : inD x y k) (kk : ∀ b, k b → Q (.bl (if n then !b else b)) H) : rInA X n v w H Q := by
  unfold inD at h
  split at h
  · obtain ⟨ex, _⟩ := rx.str_inv
    obtain ⟨ey, _⟩ := ry.str_inv
    refine .inl ⟨_, _, ex, ey, ?_⟩
    have := kk _ h
    rw [tx_list]
    exact this
  · obtain ⟨hx, hy, hk⟩ := h
    obtain ⟨p, vs, rfl, hp, ra⟩ := ry.lst_inv
    obtain ⟨h1, h2⟩ := any_of hx rx hy ra
    exact .inr ⟨p, vs, rfl, .inl (.of (s _ _ hp)), flat_of hx rx, h1, by rw [h2]; exact kk _ hk⟩
  · obtain ⟨hx, hy, hk⟩ := h
    obtain ⟨p, vs, rfl, hp, ra⟩ := ry.tup_inv
    obtain ⟨h1, h2⟩ := any_of hx rx hy ra
    exact .inr ⟨p, vs, rfl, .inr (.of (s _ _ hp)), flat_of hx rx, h1, by rw [h2]; exact kk _ hk⟩
  · exact h.elim
theorem ok_in : OpOk X.K T inDv (rInA X false) := by
  intro F H x y dx dy k Q s rx ry ho kk
  exact in_of s rx ry ho fun b hb => kk _ _ _ (.fz (.bl _)) hb
/-! ### subscripts -/
theorem ixN_eq (n : Nat) (i : Int) : DL.ixN n i = L2.ixN n i := rfl
theorem atI_of {α : Type} {xs : List α} {i : Int} {j : Nat} {v : α} (h1 : DL.ixN xs.length i = some j) (h2 : xs[j]? = some v) : atI xs i = some v := by
  unfold atI
  rw [← ixN_eq, h1]
  exact h2
theorem okTx.len {l : Tx} (h : okTx l) : (tx l).length ≤ sizeLine := by rw [tx_len]; exact h.2
theorem ok_ix : OpOk X.K T ixD (rIx X.K) := by
  intro F H x y dx dy k Q s rx ry ho kk
  unfold ixD at ho
  split at ho
  · obtain ⟨j, d, h1, h2, hk⟩ := ho
    obtain ⟨p, vs, rfl, hp, ra⟩ := rx.lst_inv
    obtain ⟨v, e1, e2⟩ := ra.get h2
    exact .inl ⟨p, vs, _, v, rfl, ry.int_inv, .of (s _ _ hp), atI_of (by rw [ra.length]; exact h1) e1, kk _ _ _ (.fz e2) hk⟩
  · obtain ⟨j, d, h1, h2, hk⟩ := ho
    obtain ⟨p, vs, rfl, hp, ra⟩ := rx.tup_inv
    obtain ⟨v, e1, e2⟩ := ra.get h2
    exact .inr (.inl ⟨p, vs, _, v, rfl, ry.int_inv, .of (s _ _ hp), atI_of (by rw [ra.length]; exact h1) e1, kk _ _ _ (.fz e2) hk⟩)
  · rename_i l i k
    obtain ⟨j, c, h1, h2, hk⟩ := ho
    obtain ⟨ex, z⟩ := rx.str_inv
    refine .inr (.inr ⟨_, _, c, ex, ry.int_inv, z.len, ?_, ?_⟩)
    · rw [tx_list]; exact atI_of h1 h2
    · have hc := z.1 c (List.mem_of_getElem? h2)
      exact kk (.str (tx [c])) _ _ (.fz (.str ⟨fun c' h => by rw [List.mem_singleton] at h; rw [h]; exact hc, by show 1 ≤ sizeLine; rw [sizeLine_eq]; decide⟩)) hk
  · exact ho.elim
theorem pd_ix (ha : PD X T B M W a f) (hb : PD X T B M W b g) (hs : PlainIx b := by exact fun _ _ => rfl) : PD X T B M W (.Subscript a b pos) (dOp ixD f g) :=
  pe_imp (pe_ix ix_seq ha hb hs) fun σ H Q z => tOp_of ok_ix z
theorem sIx_eq (n d : Nat) (o : Option Int) : DL.sIx n d o = HT.sIx n d o := by
  cases o with
  | none => rfl
  | some i => rfl
theorem RepL.cut {vs : List V} {xs : List D} (lo hi : Option Int) (h : RepL X.K T F vs xs) : RepL X.K T F (cutV vs lo hi) (DL.cut xs lo hi) := by
  unfold cutV DL.cut
  rw [sIx_eq, sIx_eq, h.length]
  exact (h.drop _).take _
end
end DL

set_option Elab.async false
set_option linter.all false
set_option autoImplicit false
set_option maxRecDepth 100000
/-! DLX4: slices, arguments, built-in functions, tests, and, or, not. -/
namespace DL
open PySem PySem.Spec PyProof.Rows L2
section
variable {X : Cx} {T : Tb} {B : Bs} {M : List Nat} {W : EK} {F H : Hp} {ρ : Env} {σ : L2.St}
variable {a b c e : Expr} {f g h : DE} {pos : Pos}
/-! ### slices -/
def lO (K : PySem.W.Frag) (T : Tb) (B : Bs) (M : List Nat) (W : EK) (o : Option DE) : TO := fun σ H Q => ∃ F ρ Qd, SR K T B M F H ρ σ ∧ dPart o ρ Qd W ∧ ∀ F' H' ρ' i, Same F F' → SR K T B M F' H' ρ' σ → Qd i ρ' → Q i H'
theorem po_imp {e : Option Expr} {t t' : TO} (h : PO X e t) (k : ∀ σ H Q, t' σ H Q → t σ H Q) : PO X e t' := ⟨fun pins s σ H Q I q => h.run pins s σ H Q I (k σ H Q q)⟩
theorem pdo_none : PO X none (lO X.K T B M W none) := po_imp po_none fun σ H Q ⟨F, ρ, Qd, S, h, k⟩ => k F H ρ none (Same.refl _) S h
theorem pdo_some (he : PD X T B M W e f) : PO X (some e) (lO X.K T B M W (some f)) := po_imp (po_some he) fun σ H Q ⟨F, ρ, Qd, S, h, k⟩ => by
  refine zaL S h fun F1 H1 ρ1 v1 r1 e1 S1 R1 h1 => ?_
  cases hd : r1.d with
  | int i =>
    rw [hd] at h1 R1
    exact ⟨i, R1.int_inv, k F1 H1 ρ1 (some i) e1 S1 h1⟩
  | _ => rw [hd] at h1; exact h1.elim
def rSlA (X : Cx) : V → Option Int → Option Int → Hp → VK → Prop := fun x lo hi H Q => rSlL X.K x lo hi H Q ∨ rSlS x lo hi H Q
theorem sl_A : SlR X (rSlA X) := sl_list.or sl_str
theorem cutS_tx (l : Tx) (lo hi : Option Int) : cutS (tx l) lo hi = tx (DL.cut l lo hi) := by
  unfold cutS DL.cut
  rw [tx_len, tx_list, sIx_eq, sIx_eq]
  rfl
theorem okTx.cut {l : Tx} (h : okTx l) (lo hi : Option Int) : okTx (DL.cut l lo hi) := by
  unfold DL.cut
  refine ⟨fun c hc => h.1 c (List.mem_of_mem_drop (List.mem_of_mem_take hc)), ?_⟩
  rw [List.length_take, List.length_drop]
  exact Nat.le_trans (Nat.le_trans (Nat.min_le_right _ _) (Nat.sub_le _ _)) h.2
theorem pd_sl {lo hi : Option Expr} {l u : Option DE} {p2 : Pos} (he : PD X T B M W e f) (hl : PO X lo (lO X.K T B M W l)) (hh : PO X hi (lO X.K T B M W u)) : PD X T B M W (.Subscript e (.Slice lo hi none p2) pos) (dSl f l u) := by
  refine pe_imp (pe_slice sl_A he hl hh) fun σ H Q ⟨F, ρ, Qd, S, h, k⟩ => ?_
  refine zaL S h fun F1 H1 ρ1 v1 r1 e1 S1 R1 h1 => ?_
  refine ⟨F1, ρ1, _, S1, h1, fun F2 H2 ρ2 i e2 S2 h2 => ?_⟩
  refine ⟨F2, ρ2, _, S2, h2, fun F3 H3 ρ3 j e3 S3 h3 => ?_⟩
  have R := R1.mono (e2.trans e3)
  have e := e1.trans (e2.trans e3)
  cases hd : r1.d with
  | lst xs =>
    rw [hd] at h3 R
    obtain ⟨p, vs, rfl, hp, ra⟩ := R.lst_inv
    exact .inl ⟨p, vs, rfl, .of (S3.sub _ _ hp), fun q hq => lE_end k e S3 (.fr hq (.lst (ra.cut i j))) h3⟩
  | frl xs =>
    rw [hd] at h3 R
    obtain ⟨p, vs, rfl, hp, ra⟩ := R.frl_inv
    exact .inl ⟨p, vs, rfl, S3.sub.seq hp, fun q hq => lE_end k e S3 (.fr hq (.lst (ra.cut i j))) h3⟩
  | str x =>
    rw [hd] at h3 R
    obtain ⟨ex, z⟩ := R.str_inv
    refine .inr ⟨_, ex, z.len, ?_⟩
    rw [cutS_tx]
    exact lE_end k e S3 (.fz (.str (z.cut i j))) h3
  | _ => rw [hd] at h3; exact h3.elim
/-! ### arguments, displays -/
theorem zaE : PDA X T B M W [] [] := pa_imp pa_nil fun σ H Q ⟨F, ρ, Qd, S, h, k⟩ => k F H ρ [] [] (Same.refl _) S .nil h
theorem zaB {es : List Expr} {fs : List DE} (he : PD X T B M W e f) (hr : PDA X T B M W es fs) (hs : starEach (e :: es) X.env = (false, eval e X.env) :: starEach es X.env := by rfl) : PDA X T B M W (e :: es) (f :: fs) :=
  pa_imp (pa_cons he hr hs) fun σ H Q ⟨F, ρ, Qd, S, h, k⟩ => by
    refine zaL S h fun F1 H1 ρ1 v1 r1 e1 S1 R1 h1 => ?_
    refine lA_run S1 h1 fun F2 H2 ρ2 vs ds e2 S2 R2 h2 => ?_
    exact k F2 H2 ρ2 _ _ (e1.trans e2) S2 (.cons (R1.mono e2) R2) h2
theorem pd_lst {es : List Expr} {fs : List DE} (h : PDA X T B M W es fs) : PD X T B M W (.List es pos) (dLst fs) :=
  pe_imp (pe_lst h) fun σ H Q ⟨F, ρ, Qd, S, h, k⟩ => by
    refine lA_run S h fun F1 H1 ρ1 vs ds e1 S1 R1 h1 => ?_
    exact ⟨by rw [R1.length, ← maxTx_eq]; exact h1.1, fun p hp => lE_end k e1 S1 (.fr hp (.lst R1)) h1.2⟩
theorem pd_tup {x1} {es : List Expr} {fs : List DE} (h : PDA X T B M W es fs) : PD X T B M W (.Tuple es x1 pos) (dTup fs) :=
  pe_imp (pe_tup h) fun σ H Q ⟨F, ρ, Qd, S, h, k⟩ => by
    refine lA_run S h fun F1 H1 ρ1 vs ds e1 S1 R1 h1 => ?_
    exact ⟨by rw [R1.length, ← maxTx_eq]; exact h1.1, fun p hp => lE_end k e1 S1 (.fr hp (.tup R1)) h1.2⟩
/-- a built-in's rule does what op says of data -/
def FnR (K : PySem.W.Frag) (T : Tb) (op : List D → (R → Prop) → Prop) (r : List V → Hp → VK → Prop) : Prop :=
  ∀ F H vs ds k Q, SmW F H → RepL K T F vs ds → op ds k → (∀ v H' t, NewR K T F H v H' t → k t → Q v H') → r vs H Q
theorem tCB_of {op : List D → (R → Prop) → Prop} {r : List V → Hp → VK → Prop} {fs : List DE} (ho : FnR X.K T op r) {H : Hp} {Q : VK} (h : lE X.K T B M W (dFn op fs) σ H Q) : tCB r (lA X.K T B M W fs) σ H Q := by
  obtain ⟨F, ρ, Qd, S, h, k⟩ := h
  refine lA_run S h fun F1 H1 ρ1 vs ds e1 S1 R1 h1 => ?_
  exact ho F1 H1 vs ds _ _ S1.sub.toSmW R1 h1 fun v H' t n q => lE_end k e1 S1 n q
variable {es : List Expr} {fs : List DE} {x : Str} {p : Pos} {id : String} {op : List D → (R → Prop) → Prop} {r : List V → Hp → VK → Prop}
theorem pd_callB (ho : FnR X.K T op r) (hc : CallR X (.builtin id) r) (hg : Gl X x) (hm : X.mg x = none) (hv : bootBuiltins x = some (.builtin id)) (ha : PDA X T B M W (e :: es) fs) (hn : x ≠ "__name__" := by decide) (hdb : (x == ("__debug__" : Str)) = false := by decide)
    (he : starEach (e :: es) X.env = (false, eval e X.env) :: starEach es X.env := by rfl) (hpl : (backTo pos (starEach es X.env)).any (·.1) = false := by rfl) : PD X T B M W (.Call (.Name x p) (e :: es) [] pos) (dFn op fs) :=
  pe_imp (pe_callB hc hg hm hv ha hn hdb he hpl) fun σ H Q z => tCB_of ho z
theorem pd_callTy (ho : FnR X.K T op r) (hc : CallR X (.type id) r) (hg : Gl X x) (hm : X.mg x = none) (hv : bootBuiltins x = some (.type id)) (ha : PDA X T B M W (e :: es) fs) (hn : x ≠ "__name__" := by decide) (hdb : (x == ("__debug__" : Str)) = false := by decide)
    (he : starEach (e :: es) X.env = (false, eval e X.env) :: starEach es X.env := by rfl) (hpl : (backTo pos (starEach es X.env)).any (·.1) = false := by rfl) : PD X T B M W (.Call (.Name x p) (e :: es) [] pos) (dFn op fs) :=
  pe_imp (pe_callTy hc hg hm hv ha hn hdb he hpl) fun σ H Q z => tCB_of ho z
/-! ### tests -/
theorem pdt_val (he : PD X T B M W e f) (hh : ∀ whole, isTrue e X.env whole = (do let v ← whole; standAt e.pos; holding [v] (truthy v)) := by intro _; rfl) : PDT X T B M W e (tVal f) :=
  pt_imp (pt_val he hh) fun σ H Q ⟨F, ρ, Qd, S, h, k⟩ => by
    refine zaL S h fun F1 H1 ρ1 v1 r1 e1 S1 R1 h1 => ?_
    cases hd : r1.d with
    | bl b => rw [hd] at h1 R1; exact ⟨b, R1.bl_inv, k F1 H1 ρ1 b e1 S1 h1⟩
    | _ => rw [hd] at h1; exact h1.elim
/-- a comparison as a test -/
theorem pdt_cmp {o : CmpOp} {op : D → D → (R → Prop) → Prop} {r : R2} (hr : OpR X (compareOp o) r) (ho : OpOk X.K T op r) (ha : PD X T B M W a f) (hb : PD X T B M W b g) (hm : behindInMarks o b = false) : PDT X T B M W (.Compare a [o] [b] pos) (tVal (dOp op f g)) :=
  pt_imp (pt_cmpR hr ha hb hm) fun σ H Q ⟨F, ρ, Qd, S, h, k⟩ => by
    refine tOp_of (op := op) (f := f) (g := g) ho ⟨F, ρ, _, S, h, fun F1 H1 ρ1 v1 r1 e1 S1 R1 h1 => ?_⟩
    obtain ⟨F2, e2, S2, R2⟩ := S1.fix R1
    cases hd : r1.d with
    | bl b => rw [hd] at h1 R2; exact ⟨b, R2.bl_inv, k F2 H1 ρ1 b (e1.trans e2) S2 h1⟩
    | _ => rw [hd] at h1; exact h1.elim
variable {tA tB' : DT} {rest : List Expr}
theorem pdw_and1 (ha : PDT X T B M W a tA) : PDW X T B M W (.BoolOp .And [a] pos) tA := pw_and1 ha
theorem pdw_or1 (ha : PDT X T B M W a tA) : PDW X T B M W (.BoolOp .Or [a] pos) tA := pw_or1 ha
theorem pdw_and (ha : PDT X T B M W a tA) (hb : PDW X T B M W (.BoolOp .And (b :: rest) pos) tB') : PDW X T B M W (.BoolOp .And (a :: b :: rest) pos) (DL.tAnd tA tB') :=
  pw_imp (pw_and ha hb) fun σ H Q ⟨F, ρ, Qd, S, h, k⟩ => by
    refine lT_run S h fun F1 H1 ρ1 z e1 S1 h1 => ?_
    cases z with
    | true => exact ⟨F1, ρ1, _, S1, h1, fun F2 H2 ρ2 z e2 => k F2 H2 ρ2 z (e1.trans e2)⟩
    | false => exact k F1 H1 ρ1 false e1 S1 h1
theorem pdw_or (ha : PDT X T B M W a tA) (hb : PDW X T B M W (.BoolOp .Or (b :: rest) pos) tB') : PDW X T B M W (.BoolOp .Or (a :: b :: rest) pos) (DL.tOr tA tB') :=
  pw_imp (pw_or ha hb) fun σ H Q ⟨F, ρ, Qd, S, h, k⟩ => by
    refine lT_run S h fun F1 H1 ρ1 z e1 S1 h1 => ?_
    cases z with
    | false => exact ⟨F1, ρ1, _, S1, h1, fun F2 H2 ρ2 z e2 => k F2 H2 ρ2 z (e1.trans e2)⟩
    | true => exact k F1 H1 ρ1 true e1 S1 h1
theorem pdt_w (h : PDW X T B M W e tA) : PDT X T B M W e tA := h.pt
theorem pdt_not (ha : PDT X T B M W a tA) : PDT X T B M W (.UnaryOp .Not a pos) (DL.tNot tA) :=
  pt_imp (pt_not ha) fun σ H Q ⟨F, ρ, Qd, S, h, k⟩ => lT_run S h fun F1 H1 ρ1 z e1 S1 h1 => k F1 H1 ρ1 _ e1 S1 h1
theorem pd_one {o} (h : PD X T B M W a f) : PD X T B M W (.BoolOp o [a] pos) f := pe_one h
theorem bl_run {Qd : R → Env → Prop} {Q : VK} {G : Bool → Env → Prop} (S : SR X.K T B M F H ρ σ) (h : f ρ (fun r ρ1 => match r.d with | .bl z => G z ρ1 | _ => False) W)
    (k : ∀ F' H' ρ' z, Same F F' → SR X.K T B M F' H' ρ' σ → G z ρ' → Q (.bl z) H') : lE X.K T B M W f σ H Q := by
  refine zaL S h fun F1 H1 ρ1 v1 r1 e1 S1 R1 h1 => ?_
  cases hd : r1.d with
  | bl z => rw [hd] at h1 R1; rw [R1.bl_inv]; exact k F1 H1 ρ1 z e1 S1 h1
  | _ => rw [hd] at h1; exact h1.elim
theorem pd_and (ha : PD X T B M W a f) (hb : PD X T B M W (.BoolOp .And (b :: rest) pos) g) : PD X T B M W (.BoolOp .And (a :: b :: rest) pos) (dAnd f g) :=
  pe_imp (pe_and ha hb) fun σ H Q ⟨F, ρ, Qd, S, h, k⟩ => by
    refine bl_run (Qd := Qd) (G := fun z ρ1 => if z = true then g ρ1 Qd W else Qd (.fz (.bl false)) ρ1) S h fun F1 H1 ρ1 z e1 S1 h1 => ⟨z, rfl, ?_⟩
    cases z with
    | true => exact ⟨F1, ρ1, _, S1, h1, fun F2 H2 ρ2 v r e2 => k F2 H2 ρ2 v r (e1.trans e2)⟩
    | false => exact k F1 H1 ρ1 _ (.fz (.bl false)) e1 S1 (.bl false) h1
theorem ix_own {K : PySem.W.Frag} {p : Addr} {o : HO} {d dy : D} {w : V} {k : R → Prop} {Q : VK} (hH : H p = some o) (ro : RepO K T F o d) (ry : Rep K T F w dy) (h : ixD d dy k) (kk : ∀ v t, Rep K T F v t → k (.fz t) → Q v H) : rIx K (.ref p) w H Q := by
  cases ro with
  | lst ra =>
    cases dy with
    | int i =>
      obtain ⟨j, t, h1, h2, hk⟩ := h
      obtain ⟨v, e1, e2⟩ := ra.get h2
      exact .inl ⟨p, _, _, v, rfl, ry.int_inv, .of hH, atI_of (by rw [ra.length]; exact h1) e1, kk _ _ e2 hk⟩
    | _ => exact h.elim
  | tup ra =>
    cases dy with
    | int i =>
      obtain ⟨j, t, h1, h2, hk⟩ := h
      obtain ⟨v, e1, e2⟩ := ra.get h2
      exact .inr (.inl ⟨p, _, _, v, rfl, ry.int_inv, .of hH, atI_of (by rw [ra.length]; exact h1) e1, kk _ _ e2 hk⟩)
    | _ => exact h.elim
  | dct _ => cases dy <;> exact h.elim
  | obj _ _ _ => cases dy <;> exact h.elim
  | dcT _ => cases dy <;> exact h.elim
/-! ### an item of an object that stays its name's own -/
theorem pd_ixN {i : Nat} {x : Str} {px : Pos} (hN : X.N[i]? = some x) (hv : Vis X.env.scope x) (hb : PD X T B M W b g) (hs : PlainIx b := by exact fun _ _ => rfl) (hd : (x == ("__debug__" : Str)) = false := by decide) (hcd : (x == ("__classdict__" : Str)) = false := by decide) :
    PD X T B M W (.Subscript (.Name x px) b pos) (dIxN i g) :=
  pe_imp (pe_ix ix_seq (pe_var hN hv hd hcd) hb hs) fun σ H Q ⟨F, ρ, Qd, S, h, k⟩ => by
    unfold dIxN at h
    obtain ⟨hkn, h⟩ := h
    have hv0 : ∃ v, σ[i]? = some (some v) := by
      have hs := S.slot i
      cases e : ρ.at i with
      | no => rw [e] at hkn; cases hkn
      | fz d => rw [e] at hs; obtain ⟨v, q, _⟩ := hs; exact ⟨v, q⟩
      | own d => rw [e] at hs; obtain ⟨p, o, q, _⟩ := hs; exact ⟨_, q⟩
      | ownT d => rw [e] at hs; obtain ⟨p, o, q, _⟩ := hs; exact ⟨_, q⟩
    obtain ⟨v, ev⟩ := hv0
    refine ⟨v, ev, ?_⟩
    refine zaL S h fun F1 H1 ρ1 v2 r1 e1 S1 R2 h1 => ?_
    have hs := S1.slot i
    cases hd : ρ1.at i with
    | no => rw [hd] at h1; exact h1.elim
    | ownT d => rw [hd] at h1; exact h1.elim
    | fz d =>
      rw [hd] at hs h1
      obtain ⟨v', ev', r⟩ := hs
      rw [ev] at ev'
      cases ev'
      exact ok_ix (X := X) F1 H1 v v2 d r1.d _ Q S1.sub.toSmW r R2 h1 fun v H' t n q => lE_end k e1 S1 n q
    | own d =>
      rw [hd] at hs h1
      obtain ⟨p, o, ep, hF, hH, ro, _⟩ := hs
      rw [ev] at ep
      cases ep
      have h1 : ixD d r1.d (fun t => Qd t ρ1) := h1
      exact ix_own hH ro R2 h1 fun v t r q => lE_end k e1 S1 (.fz r) q
end
end DL

set_option Elab.async false
set_option linter.all false
set_option autoImplicit false
set_option maxRecDepth 100000
/-! DLX5: what is walked, targets, statements, loops. -/
namespace DL
open PySem PySem.Spec PyProof.Rows L2
/-- what is wanted behind a statement, over data -/
def lS (K : PySem.W.Frag) (T : Tb) (B : Bs) (M : List Nat) (W : EK) (f : DS) : TS := fun J σ H => ∃ F ρ Jd, SR K T B M F H ρ σ ∧ f Jd ρ W ∧
  (∀ F' H' ρ' σ', Same F F' → SR K T B M F' H' ρ' σ' → Jd.nx ρ' → J.nx σ' H') ∧
  (∀ F' H' ρ' σ' v r, Same F F' → SR K T B M F' H' ρ' σ' → RetV K T B F' H' ρ' σ' v r → Jd.rt r ρ' → J.rt v H') ∧
  (∀ F' H' ρ' σ', Same F F' → SR K T B M F' H' ρ' σ' → Jd.bk ρ' → J.bk σ' H') ∧
  (∀ F' H' ρ' σ', Same F F' → SR K T B M F' H' ρ' σ' → Jd.ct ρ' → J.ct σ' H')
def lG (K : PySem.W.Frag) (T : Tb) (B : Bs) (M : List Nat) (g : DG) : TG := fun v σ H Q => ∃ F ρ d Qd, SR K T B M F H ρ σ ∧ Rep K T F v d ∧ g d ρ Qd ∧ ∀ F' H' ρ' σ', Same F F' → SR K T B M F' H' ρ' σ' → Qd ρ' → Q σ' H'
abbrev PDS (X : Cx) (T : Tb) (B : Bs) (M : List Nat) (W : EK) (s : Stmt) (f : DS) : Prop := PS X s (lS X.K T B M W f)
abbrev PDSs (X : Cx) (T : Tb) (B : Bs) (M : List Nat) (W : EK) (s : List Stmt) (f : DS) : Prop := PSs X s (lS X.K T B M W f)
abbrev PDG (X : Cx) (T : Tb) (B : Bs) (M : List Nat) (e : Expr) (g : DG) : Prop := PG X e (lG X.K T B M g)
theorem ps_imp {X : Cx} {s : Stmt} {t t' : TS} (h : PS X s t) (k : ∀ J σ H, t' J σ H → t J σ H) : PS X s t' := ⟨fun pins s σ H J I q => h.run pins s σ H J I (k J σ H q)⟩
theorem pss_imp {X : Cx} {s : List Stmt} {t t' : TS} (h : PSs X s t) (k : ∀ J σ H, t' J σ H → t J σ H) : PSs X s t' := ⟨fun pins s σ H J I q => h.run pins s σ H J I (k J σ H q)⟩
theorem pg_imp {X : Cx} {e : Expr} {t t' : TG} (h : PG X e t) (k : ∀ v σ H Q, t' v σ H Q → t v σ H Q) : PG X e t' := ⟨fun pins s σ H v u Q I r q => h.run pins s σ H v u Q I r (k v σ H Q q)⟩
section
variable {X : Cx} {T : Tb} {B : Bs} {M : List Nat} {W : EK} {F H : Hp} {ρ : Env} {σ : L2.St}
variable {a b c e : Expr} {f g h : DE} {pos : Pos} {tg : Expr}
/-! ### a name's slot is stored -/
theorem SR.put {i : Nat} {v : V} {s : Slot} (S : SR X.K T B M F H ρ σ) (hi : i ∉ M) (hs : SlotOk X.K T F H (some (some v)) s) (hn : ∀ a ∈ foot H (some (some v)) s, (B.H0 a = none ∨ B.O1 i a) ∧ ∀ j, j ≠ i → a ∉ foot H (σ[j]?) (ρ.at j)) :
    SR X.K T B M F H (ρ.set i s) (σ.set i (some v)) := by
  by_cases hl : i < ρ.length
  · have hl' : i < σ.length := by rw [← S.len]; exact hl
    have same : ((σ.set i (some v))[i]? = some (some v)) ∧ Env.at (ρ.set i s) i = s := ⟨List.getElem?_set_self hl', Env.at_set_same hl⟩
    have other : ∀ j, i ≠ j → (σ.set i (some v))[j]? = σ[j]? ∧ Env.at (ρ.set i s) j = ρ.at j := fun j hj => ⟨List.getElem?_set_ne hj, Env.at_set_ne hj⟩
    refine ⟨S.sub, S.keep, S.live, S.f0, S.fnew, by simp [S.len], fun j => ?_, fun j a ha => ?_, fun j k a h1 h2 => ?_, fun j hj => ?_, S.tabs⟩
    · by_cases hj : i = j
      · subst hj
        rw [same.1, same.2]
        exact hs
      · rw [(other j hj).1, (other j hj).2]
        exact S.slot j
    · by_cases hj : i = j
      · subst hj
        rw [same.1, same.2] at ha
        exact (hn a ha).1
      · rw [(other j hj).1, (other j hj).2] at ha
        exact S.newF j a ha
    · by_cases hj : i = j
      · subst hj
        by_cases hk : i = k
        · exact hk
        · rw [same.1, same.2] at h1
          rw [(other k hk).1, (other k hk).2] at h2
          exact absurd h2 ((hn a h1).2 k (Ne.symm hk))
      · by_cases hk : i = k
        · subst hk
          rw [same.1, same.2] at h2
          rw [(other j hj).1, (other j hj).2] at h1
          exact absurd h1 ((hn a h2).2 j (Ne.symm hj))
        · rw [(other j hj).1, (other j hj).2] at h1
          rw [(other k hk).1, (other k hk).2] at h2
          exact S.injF j k a h1 h2
    · have : i ≠ j := fun z => hi (z ▸ hj)
      rw [List.getElem?_set_ne this]
      exact S.pin j hj
  · rw [List.set_eq_of_length_le (by omega), List.set_eq_of_length_le (by rw [← S.len]; omega)]
    exact S
theorem SR.putFz {i : Nat} {v : V} {d : D} (S : SR X.K T B M F H ρ σ) (hi : i ∉ M) (r : Rep X.K T F v d) : SR X.K T B M F H (ρ.set i (.fz d)) (σ.set i (some v)) :=
  S.put hi ⟨v, rfl, r⟩ fun a ha => by rw [foot_fz] at ha; simp at ha
theorem SR.putOwn {i : Nat} {p : Addr} {o : HO} {d : D} (S : SR X.K T B M F H ρ σ) (hi : i ∉ M) (hF : F p = none) (hH : H p = some o) (ro : RepO X.K T F o d) (hn : B.H0 p = none ∨ B.O1 i p) (hno : ∀ j, p ∉ foot H (σ[j]?) (ρ.at j)) (nt : tupB o = false) : SR X.K T B M F H (ρ.set i (.own d)) (σ.set i (some (.ref p))) :=
  S.put hi ⟨p, o, rfl, hF, hH, ro, nt⟩ fun a ha => by
    rw [foot_own] at ha
    rw [List.mem_singleton.mp ha]
    exact ⟨hn, fun j _ => hno j⟩
theorem SR.putOwnT {i : Nat} {p : Addr} {o : HO} {d : D} (S : SR X.K T B M F H ρ σ) (hi : i ∉ M) (hF : F p = none) (hH : H p = some o) (ro : TreeO X.K T F H o d) (nd : (p :: footO o d).Nodup) (hn : ∀ a ∈ p :: footO o d, B.H0 a = none ∧ ∀ j, a ∉ foot H (σ[j]?) (ρ.at j)) (nt : tupB o = false) : SR X.K T B M F H (ρ.set i (.ownT d)) (σ.set i (some (.ref p))) :=
  S.put hi ⟨p, o, rfl, hF, hH, ro, nd, nt⟩ fun a ha => by
    rw [foot_ownT hH] at ha
    exact ⟨.inl (hn a ha).1, fun j _ => (hn a ha).2 j⟩
/-- what a store into an own name says of a result -/
def putNx (i : Nat) (ρ : Env) (nx : Env → Prop) (fz : D → Prop) : R → Prop
  | .fr (.tup _) => False
  | .ft (.tup _) => False
  | .fr d => nx (ρ.set i (.own d))
  | .ft d => nx (ρ.set i (.ownT d))
  | .fz d => fz d
theorem SR.putN {i : Nat} {v : V} {r : R} {nx : Env → Prop} {fz : D → Prop} {P : Prop} (S : SR X.K T B M F H ρ σ) (hi : i ∉ M) (h : RetV X.K T B F H ρ σ v r) (q : putNx i ρ nx fz r) (k1 : ∀ d, r = .fz d → fz d → P) (k2 : ∀ s, SR X.K T B M F H (ρ.set i s) (σ.set i (some v)) → nx (ρ.set i s) → P) : P := by
  cases r with
  | fz d => exact k1 d rfl q
  | fr d =>
    obtain ⟨p, o, rfl, hF, hH, ro, hn, hno⟩ := h
    have nt : ∀ xs, d ≠ .tup xs := fun xs z => by subst z; exact q
    have q : nx (ρ.set i (.own d)) := by cases d <;> first | exact q | exact q.elim
    exact k2 _ (S.putOwn hi hF hH ro (.inl hn) hno (repO_nt ro nt)) q
  | ft d =>
    obtain ⟨p, o, rfl, hF, hH, ro, nd, hn⟩ := h
    have nt : ∀ xs, d ≠ .tup xs := fun xs z => by subst z; exact q
    have q : nx (ρ.set i (.ownT d)) := by cases d <;> first | exact q | exact q.elim
    exact k2 _ (S.putOwnT hi hF hH ro nd hn (treeO_nt ro nt)) q
/-! ### targets -/
theorem pdg_name {i : Nat} {x : Str} (hN : X.N.Nodup) (hi : X.N[i]? = some x) (hx : Loc X.env.scope x) (hM : i ∉ M) (hf : X.fn x = true ∨ X.env.scope.names.lookup x = some .local := by first | exact .inl rfl | exact .inr rfl | assumption) : PDG X T B M (.Name x pos) (gN i) :=
  pg_imp (pg_name hN hi hx hf) fun v σ H Q ⟨F, ρ, d, Qd, S, r, h, k⟩ => k F H _ _ (Same.refl _) (S.putFz hM r) h
def lGs (K : PySem.W.Frag) (T : Tb) (B : Bs) (M : List Nat) (is : List Nat) : TGs := fun vs σ H Q => ∃ F ρ ds Qd, SR K T B M F H ρ σ ∧ RepL K T F vs ds ∧ gNs is ds ρ Qd ∧ ∀ F' H' ρ' σ', Same F F' → SR K T B M F' H' ρ' σ' → Qd ρ' → Q σ' H'
abbrev PDGs (X : Cx) (T : Tb) (B : Bs) (M : List Nat) (es : List Expr) (is : List Nat) : Prop := PGs X es (lGs X.K T B M is)
theorem pgs_imp {es : List Expr} {t t' : TGs} (h : PGs X es t) (k : ∀ v σ H Q, t' v σ H Q → t v σ H Q) : PGs X es t' := ⟨fun pins s σ H v u Q I r q => h.run pins s σ H v u Q I r (k v σ H Q q)⟩
theorem pdgs_nil : PDGs X T B M [] [] := pgs_imp pgs_nil fun vs σ H Q ⟨F, ρ, ds, Qd, S, r, h, k⟩ => by
  cases r with
  | nil => exact ⟨rfl, k F H ρ σ (Same.refl _) S h⟩
  | cons _ _ => exact h.elim
theorem pdgs_cons {es : List Expr} {is : List Nat} {i : Nat} {x : Str} (hN : X.N.Nodup) (hi : X.N[i]? = some x) (hx : Loc X.env.scope x) (hM : i ∉ M) (h2 : PDGs X T B M es is)
    (hs : (assignEach (Expr.Name x pos :: es) X.env).map (·.2) = assign (Expr.Name x pos) X.env :: (assignEach es X.env).map (·.2) := by rfl) (hf : X.fn x = true ∨ X.env.scope.names.lookup x = some .local := by first | exact .inl rfl | exact .inr rfl | assumption) : PDGs X T B M (.Name x pos :: es) (i :: is) :=
  pgs_imp (pgs_cons (pdg_name (T := T) (B := B) hN hi hx hM hf) h2 hs) fun vs σ H Q ⟨F, ρ, ds, Qd, S, r, h, k⟩ => by
    cases r with
    | nil => exact h.elim
    | @cons v d vs ds r rs =>
      refine ⟨v, vs, rfl, F, ρ, d, fun ρ' => gNs is ds ρ' Qd, S, r, h, fun F' H' ρ' σ' e' S' q' => ?_⟩
      exact ⟨F', ρ', ds, Qd, S', rs.mono e', q', fun F2 H2 ρ2 σ2 e2 => k F2 H2 ρ2 σ2 (e'.trans e2)⟩
theorem gNs_len : ∀ {is : List Nat} {ds : List D} {ρ : Env} {k : Env → Prop}, gNs is ds ρ k → ds.length = is.length
  | [], [], _, _, _ => rfl
  | _ :: is, _ :: ds, _, _, h => congrArg (· + 1) (gNs_len (is := is) (ds := ds) h)
  | [], _ :: _, _, _, h => h.elim
  | _ :: _, [], _, _, h => h.elim
theorem pdg_tup {es : List Expr} {k : Nat} {is : List Nat} (hc : X.calm = true) (h : PDGs X T B M es is) (hn : (assignEach es X.env).length = is.length := by rfl) (hst : (assignEach es X.env).findIdx? (·.1) = none := by rfl) : PDG X T B M (.Tuple es k pos) (gT is) :=
  pg_imp (pg_tup (n := is.length) hc h hn hst) fun v σ H Q ⟨F, ρ, d, Qd, S, r, h, k⟩ => by
    cases d with
    | tup ds =>
      obtain ⟨p, vs, rfl, hp, ra⟩ := r.tup_inv
      exact ⟨p, vs, rfl, .of (S.sub _ _ hp), by rw [ra.length]; exact gNs_len h, F, ρ, ds, Qd, S, ra, h, k⟩
    | _ => exact h.elim
/-! ### what is walked -/
theorem itOk_list {K : PySem.W.Frag} {p : Addr} {vs : List V} {xs : List D} (hp : F p = some (.lst vs)) (r : RepL K T F vs xs) : ItOk K T F (Itl K p) xs := fun i F1 H e1 e2 => by
  have hq : SqL K H p vs := .of (e2 _ _ (e1 _ _ hp))
  refine ⟨fun hi => ?_, fun hi => ⟨vs, hq, by rw [r.length]; exact hi⟩⟩
  obtain ⟨v, hv, rv⟩ := r.get (List.getElem?_eq_getElem hi)
  refine ⟨⟨vs, v, hq, hv⟩, fun x H' hy => ?_⟩
  obtain ⟨rfl, hx⟩ := hy
  have e := (hx vs hq).symm.trans hv
  cases e
  exact ⟨.fz xs[i], List.getElem?_eq_getElem hi, .fz (rv.mono e1)⟩
theorem pdi_lst (he : PD X T B M W e f) : PDI X T B M W tg e (iLst f) :=
  pi_imp (pi_list he) fun σ H R ⟨F, ρ, Qd, S, h, k⟩ => by
    refine zaL S h fun F1 H1 ρ1 v1 r1 e1 S1 R1 h1 => ?_
    cases hd : r1.d with
    | lst xs =>
      rw [hd] at h1 R1
      obtain ⟨p, vs, rfl, hp, ra⟩ := R1.lst_inv
      exact ⟨p, rfl, ⟨vs, .of (S1.sub _ _ hp)⟩, k F1 H1 ρ1 xs _ e1 S1 (itOk_list hp ra) h1⟩
    | _ => rw [hd] at h1; exact h1.elim
theorem itOk_str {K : PySem.W.Frag} {l : Tx} (z : okTx l) : ItOk K T F (Its (tx l)) (l.map fun c => .str [c]) := fun i F1 H e1 e2 => by
  refine ⟨fun hi => ?_, fun hi => by show (tx l).cps.size ≤ i; simpa [tx] using hi⟩
  have hi' : i < l.length := by simpa using hi
  refine ⟨by show i < (tx l).cps.size; simpa [tx] using hi', fun x H' hy => ?_⟩
  obtain ⟨rfl, c, hc, rfl⟩ := hy
  have hc' : l[i]? = some c := by simpa [tx] using hc
  refine ⟨.fz (.str [c]), by simp [hc', R.d], .fz ?_⟩
  have h1 := z.1 c (List.mem_of_getElem? hc')
  exact .str (l := [c]) ⟨fun c' h => by rw [List.mem_singleton] at h; rw [h]; exact h1, by show 1 ≤ sizeLine; rw [sizeLine_eq]; decide⟩
theorem pdi_str (he : PD X T B M W e f) : PDI X T B M W tg e (DL.iStr f) :=
  pi_imp (pi_str he) fun σ H R ⟨F, ρ, Qd, S, h, k⟩ => by
    refine zaL S h fun F1 H1 ρ1 v1 r1 e1 S1 R1 h1 => ?_
    cases hd : r1.d with
    | str xs =>
      rw [hd] at h1 R1
      obtain ⟨rfl, z⟩ := R1.str_inv
      exact ⟨_, rfl, k F1 H1 ρ1 _ _ e1 S1 (itOk_str z) h1⟩
    | _ => rw [hd] at h1; exact h1.elim
theorem itOk_rng {K : PySem.W.Frag} {lo : Int} {n : Nat} : ItOk K T F (Itr lo n) (rng lo n) := fun i F1 H e1 e2 => by
  have hl : (rng lo n).length = n := by simp [rng]
  refine ⟨fun hi => ⟨by rw [hl] at hi; exact hi, fun x H' hy => ?_⟩, fun hi => by rw [hl] at hi; exact hi⟩
  obtain ⟨rfl, rfl⟩ := hy
  rw [hl] at hi
  refine ⟨.fz (.int (lo + i)), ?_, .fz (.int _)⟩
  simp [rng, hi, R.d]
theorem pdi_rng1 {p : Pos} (hg : Gl X "range") (hm : X.mg "range" = none) (ha : PD X T B M W a f) (hs : starEach [a] X.env = [(false, eval a X.env)] := by rfl) : PDI X T B M W tg (.Call (.Name "range" p) [a] [] pos) (DL.iRng1 f) :=
  pi_imp (pi_range1 hg hm (zaB ha zaE hs) hs) fun σ H R ⟨F, ρ, Qd, S, h, k⟩ => by
    refine lA_run (fs := [f]) (Qd := fun ds ρ1 => match ds with | [.int n] => (-(2 ^ 62) ≤ n ∧ n < 2 ^ 62) ∧ Qd (rng 0 n.toNat) ρ1 | _ => False) S ?_ fun F1 H1 ρ1 vs ds e1 S1 R1 h1 => ?_
    · refine (congrArg (fun z => f ρ z W) (funext fun r => funext fun ρ1 => ?_)).mp h
      show _ = (match [r.d] with | [.int n] => (-(2 ^ 62) ≤ n ∧ n < 2 ^ 62) ∧ Qd (rng 0 n.toNat) ρ1 | _ => False)
      cases r.d <;> rfl
    · split at h1
      · cases R1 with
        | cons r rs =>
          cases rs
          rw [r.int_inv]
          exact ⟨_, rfl, h1.1.1, h1.1.2, k F1 H1 ρ1 _ _ e1 S1 itOk_rng h1.2⟩
      · exact h1.elim
theorem enumD_len (xs : List D) : (enumD xs).length = xs.length := by simp [enumD]
theorem enumD_at {xs : List D} {i : Nat} {d : D} (h : xs[i]? = some d) : (enumD xs)[i]? = some (.tup [.int (i : Int), d]) := by
  have hi := (List.getElem?_eq_some_iff.mp h).1
  unfold enumD
  rw [List.getElem?_zipWith, h, List.getElem?_range hi]
theorem itOk_enum {K : PySem.W.Frag} {p : Addr} {vs : List V} {xs : List D} (hp : F p = some (.lst vs)) (r : RepL K T F vs xs) : ItOk K T F (Ite K p) (enumD xs) := fun i F1 H e1 e2 => by
  have hq : SqL K H p vs := .of (e2 _ _ (e1 _ _ hp))
  rw [enumD_len]
  refine ⟨fun hi => ?_, fun hi => ⟨vs, hq, by rw [r.length]; exact hi⟩⟩
  obtain ⟨v, hv, rv⟩ := r.get (List.getElem?_eq_getElem hi)
  refine ⟨⟨vs, v, hq, hv⟩, fun x H' hy => ?_⟩
  obtain ⟨t, y, rfl, ht, rfl, hx⟩ := hy
  have e := (hx vs hq).symm.trans hv
  cases e
  exact ⟨.fr (.tup [.int i, xs[i]]), enumD_at (List.getElem?_eq_getElem hi), .fr ht (.tup (.cons (.int _) (.cons (rv.mono e1) .nil)))⟩
theorem pdi_enum {p tpos : Pos} {elts : List Expr} {kk : Nat} (hg : Gl X "enumerate") (hm : X.mg "enumerate" = none) (ha : PD X T B M W e f) (hs : starEach [e] X.env = [(false, eval e X.env)] := by rfl) : PDI X T B M W (.Tuple elts kk tpos) (.Call (.Name "enumerate" p) [e] [] pos) (DL.iEnum f) :=
  pi_imp (pi_enum hg hm (zaB ha zaE hs) hs) fun σ H R ⟨F, ρ, Qd, S, h, k⟩ => by
    refine lA_run (fs := [f]) (Qd := fun ds ρ1 => match ds with | [.lst xs] => Qd (enumD xs) ρ1 | _ => False) S ?_ fun F1 H1 ρ1 vs ds e1 S1 R1 h1 => ?_
    · refine (congrArg (fun z => f ρ z W) (funext fun r => funext fun ρ1 => ?_)).mp h
      show _ = (match [r.d] with | [.lst xs] => Qd (enumD xs) ρ1 | _ => False)
      cases r.d <;> rfl
    · split at h1
      · cases R1 with
        | cons r rs =>
          cases rs
          obtain ⟨p, vs, rfl, hp, ra⟩ := r.lst_inv
          exact ⟨p, vs, rfl, .of (S1.sub _ _ hp), k F1 H1 ρ1 _ _ e1 S1 (itOk_enum hp ra) h1⟩
      · exact h1.elim
/-! ### statements -/
variable {st : Stmt} {sts : List Stmt} {u w : DS}
theorem pds_nil : PDSs X T B M W [] sNx := pss_imp pss_nil fun J σ H ⟨F, ρ, Jd, S, h, k, _⟩ => k F H ρ σ (Same.refl _) S h
theorem zaD (h1 : PDS X T B M W st u) (h2 : PDSs X T B M W sts w) : PDSs X T B M W (st :: sts) (sSeq u w) :=
  pss_imp (pss_cons h1 h2) fun J σ H ⟨F, ρ, Jd, S, h, k1, k2, k3, k4⟩ => by
    refine ⟨F, ρ, _, S, h, fun F1 H1 ρ1 σ1 e1 S1 q1 => ?_, k2, k3, k4⟩
    exact ⟨F1, ρ1, Jd, S1, q1, fun F2 H2 ρ2 σ2 e2 => k1 F2 H2 ρ2 σ2 (e1.trans e2), fun F2 H2 ρ2 σ2 v r e2 => k2 F2 H2 ρ2 σ2 v r (e1.trans e2), fun F2 H2 ρ2 σ2 e2 => k3 F2 H2 ρ2 σ2 (e1.trans e2), fun F2 H2 ρ2 σ2 e2 => k4 F2 H2 ρ2 σ2 (e1.trans e2)⟩
theorem zaF (h1 : PDS X T B M W st u) : PDSs X T B M W [st] u := pss_one h1
theorem pds_expr (he : PD X T B M W e f) (hs : swapsWith e none pos.line X.env = pure false := by rfl) : PDS X T B M W (.Expr e pos) (sExp f) :=
  ps_imp (ps_expr he hs) fun J σ H ⟨F, ρ, Jd, S, h, k, _⟩ => ⟨F, ρ, _, S, h, fun F1 H1 ρ1 v r e1 S1 _ q => k F1 H1 ρ1 σ e1 S1 q⟩
theorem pds_ret (he : PD X T B M W e f) : PDS X T B M W (.Return (some e) pos) (sRet f) :=
  ps_imp (ps_ret he) fun J σ H ⟨F, ρ, Jd, S, h, _, k, _⟩ => ⟨F, ρ, _, S, h, fun F1 H1 ρ1 v r e1 S1 R q => k F1 H1 ρ1 σ v r e1 S1 R q⟩
theorem pds_if {c : Expr} {x y : List Stmt} {t : DT} (hc : PDT X T B M W c t) (hx : PDSs X T B M W x u) (hy : PDSs X T B M W y w) : PDS X T B M W (.If c x y pos) (sIf t u w) :=
  ps_imp (ps_if hc hx hy) fun J σ H ⟨F, ρ, Jd, S, h, k1, k2, k3, k4⟩ => by
    refine lT_run S h fun F1 H1 ρ1 z e1 S1 h1 => ?_
    have fin : ∀ {s : DS}, s Jd ρ1 W → lS X.K T B M W s J σ H1 := fun {s} q => ⟨F1, ρ1, Jd, S1, q, fun F2 H2 ρ2 σ2 e2 => k1 F2 H2 ρ2 σ2 (e1.trans e2), fun F2 H2 ρ2 σ2 v r e2 => k2 F2 H2 ρ2 σ2 v r (e1.trans e2), fun F2 H2 ρ2 σ2 e2 => k3 F2 H2 ρ2 σ2 (e1.trans e2), fun F2 H2 ρ2 σ2 e2 => k4 F2 H2 ρ2 σ2 (e1.trans e2)⟩
    cases z with
    | true => exact fin h1
    | false => exact fin h1
theorem pds_asg {G : DG} (he : PD X T B M W e f) (hg : PDG X T B M tg G) (hs : swapsWithSole [tg] e pos.line X.env = pure false := by rfl) (hw : swappedStores [tg] e X.env = pure none := by rfl)
    (h1 : (assignEach [tg] X.env).map (·.2) = [assign tg X.env] := by rfl) : PDS X T B M W (.Assign [tg] e pos) (sAsg G f) :=
  ps_imp (ps_asg he hg hs hw h1) fun J σ H ⟨F, ρ, Jd, S, h, k, _⟩ => by
    refine zaL S h fun F1 H1 ρ1 v r e1 S1 R1 q => ?_
    exact ⟨F1, ρ1, r.d, Jd.nx, S1, R1, q, fun F2 H2 ρ2 σ2 e2 => k F2 H2 ρ2 σ2 (e1.trans e2)⟩
theorem pds_set {i : Nat} {x : Str} {px : Pos} (hN : X.N.Nodup) (hi : X.N[i]? = some x) (hx : Loc X.env.scope x) (hM : i ∉ M) (he : PD X T B M W e f) (hs : swapsWith e (some (.Name x px)) pos.line X.env = pure false := by rfl) (hf : X.fn x = true ∨ X.env.scope.names.lookup x = some .local := by first | exact .inl rfl | exact .inr rfl | assumption) :
    PDS X T B M W (.Assign [.Name x px] e pos) (sAsg (gN i) f) :=
  ps_imp (ps_set hN hi hx he hs hf) fun J σ H ⟨F, ρ, Jd, S, h, k, _⟩ => by
    refine zaL S h fun F1 H1 ρ1 v r e1 S1 R1 q => ?_
    exact k F1 H1 _ _ e1 (S1.putFz hM R1) q
theorem pds_setO {i : Nat} {x : Str} {px : Pos} (hN : X.N.Nodup) (hi : X.N[i]? = some x) (hx : Loc X.env.scope x) (hM : i ∉ M) (he : PD X T B M W e f) (hs : swapsWith e (some (.Name x px)) pos.line X.env = pure false := by rfl) (hf : X.fn x = true ∨ X.env.scope.names.lookup x = some .local := by first | exact .inl rfl | exact .inr rfl | assumption) :
    PDS X T B M W (.Assign [.Name x px] e pos) (sAsgO i f) :=
  ps_imp (ps_set hN hi hx he hs hf) fun J σ H ⟨F, ρ, Jd, S, h, k, _⟩ => by
    refine ⟨F, ρ, _, S, h, fun F1 H1 ρ1 v r e1 S1 R1 q => ?_⟩
    exact S1.putN (fz := fun _ => False) hM R1 (by cases r <;> (rename_i d; cases d) <;> exact q) (fun _ _ z => z.elim) fun s S2 q2 => k F1 H1 _ _ e1 S2 q2
end
end DL

set_option Elab.async false
set_option linter.all false
set_option autoImplicit false
set_option maxRecDepth 100000
/-! DLX6: loops, stores into one's own objects, comprehensions. -/
namespace DL
open PySem PySem.Spec PyProof.Rows L2
section
variable {X : Cx} {T : Tb} {B : Bs} {M : List Nat} {W : EK} {F H : Hp} {ρ : Env} {σ : L2.St}
variable {a b c e : Expr} {f g h : DE} {pos : Pos} {tg : Expr} {u w : DS}
theorem drop_at {α : Type} {xs : List α} {i : Nat} {d : α} (h : xs[i]? = some d) : xs.drop i = d :: xs.drop (i + 1) := by
  obtain ⟨hi, e⟩ := List.getElem?_eq_some_iff.mp h
  rw [← e, List.drop_eq_getElem_cons hi]
theorem pds_for {iter : Expr} {body : List Stmt} {it : DI} {G : DG} (hp : PassesOwn (model X.prog X.w) X.A X.env X.xe) (hc : X.calm = true) (hi : PDI X T B M W tg iter it) (hg : PDG X T B M tg G) (hb : PDSs X T B M W body u)
    (hs : ∀ x, foldedSetIterable iter X.env x = pure x := by intro _; rfl) : PDS X T B M W (.For tg iter body [] pos) (sFor it G u) :=
  ps_imp (ps_for hp hc hi hg hb hs) fun J σ H ⟨F, ρ, Jd, S, h, k1, k2, k3, k4⟩ => by
    refine ⟨F, ρ, _, S, h, fun F1 H1 ρ1 xs It e1 S1 io q => ?_⟩
    refine ⟨fun i m σ' H' => m = xs.length - i ∧ i ≤ xs.length ∧ ∃ F' ρ', Same F1 F' ∧ SR X.K T B M F' H' ρ' σ' ∧ forL G u Jd W (xs.drop i) ρ', ⟨xs.length, by simp, Nat.zero_le _, F1, ρ1, Same.refl _, S1, q⟩, ?_⟩
    rintro i m σ' H' ⟨rfl, hi, F', ρ', e2, S2, q2⟩
    by_cases hlt : i < xs.length
    · obtain ⟨go, yl⟩ := (io i F' H' e2 S2.sub.toSmW).1 hlt
      refine .inr ⟨go, fun σ3 H3 => ∃ F3 ρ3, Same F1 F3 ∧ SR X.K T B M F3 H3 ρ3 σ3 ∧ forL G u Jd W (xs.drop (i + 1)) ρ3, fun σ3 H3 hN => ⟨xs.length - (i + 1), by omega, rfl, hlt, hN⟩, fun x H'' hy => ?_⟩
      obtain ⟨r, hx, n⟩ := yl x H'' hy
      obtain ⟨S3, RV⟩ := S2.new n
      obtain ⟨F3, e3, S3, R3⟩ := S3.fix RV
      rw [drop_at hx] at q2
      have q2 : G r.d ρ' (fun ρ1 => u { nx := forL G u Jd W (xs.drop (i + 1)), ct := forL G u Jd W (xs.drop (i + 1)), bk := Jd.nx, rt := Jd.rt } ρ1 W) := q2
      refine ⟨F3, ρ', r.d, _, S3, R3, q2, fun F4 H4 ρ4 σ4 e4 S4 q4 => ?_⟩
      have e5 := e1.trans (e2.trans (e3.trans e4))
      exact ⟨F4, ρ4, _, S4, q4, fun F5 H5 ρ5 σ5 e6 S5 q5 => ⟨F5, ρ5, e2.trans (e3.trans (e4.trans e6)), S5, q5⟩, fun F5 H5 ρ5 σ5 v r e6 => k2 F5 H5 ρ5 σ5 v r (e5.trans e6),
        fun F5 H5 ρ5 σ5 e6 => k1 F5 H5 ρ5 σ5 (e5.trans e6), fun F5 H5 ρ5 σ5 e6 S5 q5 => ⟨F5, ρ5, e2.trans (e3.trans (e4.trans e6)), S5, q5⟩⟩
    · have e : i = xs.length := by omega
      subst e
      rw [List.drop_length] at q2
      exact .inl ⟨(io _ F' H' e2 S2.sub.toSmW).2 (Nat.le_refl _), k1 F' H' ρ' σ' (e1.trans e2) S2 q2⟩
/-! ### name op= e -/
def IpOk (K : PySem.W.Frag) (T : Tb) (op : D → D → (R → Prop) → Prop) (r : R2) : Prop := OpOk K T op r
theorem pip_of {o : Operator} {r : R2} (h : OpR X (inplaceOp o) r) : PIp X o r := fun pins s σ H x y v u Q I r1 r2 q => h pins s σ H x y v u Q I r1 r2 q
theorem pds_aug {i : Nat} {x : Str} {px : Pos} {o : Operator} {op : D → D → (R → Prop) → Prop} {r : R2} (hN : X.N.Nodup) (hi : X.N[i]? = some x) (hx : Loc X.env.scope x) (hM : i ∉ M) (he : PD X T B M W e f) (hr : PIp X o r) (ho : OpOk X.K T op r)
    (hf : X.fn x = true ∨ X.env.scope.names.lookup x = some .local := by first | exact .inl rfl | exact .inr rfl | assumption) : PDS X T B M W (.AugAssign (.Name x px) o e pos) (sAug i op f) :=
  ps_imp (ps_aug hN hi hx he hr hf) fun J σ H ⟨F, ρ, Jd, S, h, k1, k2, k3, k4⟩ => by
    unfold sAug at h
    have hs := S.slot i
    cases hd : ρ.at i with
    | no => rw [hd] at h; exact h.elim
    | own d => rw [hd] at h; exact h.elim
    | ownT d => rw [hd] at h; exact h.elim
    | fz d =>
      rw [hd] at h hs
      obtain ⟨v, ev, rv⟩ := hs
      refine ⟨v, ev, zaL S h fun F1 H1 ρ1 v1 r1 e1 S1 R1 q => ?_⟩
      refine ho F1 H1 v v1 d r1.d _ _ S1.sub.toSmW (rv.mono e1) R1 q fun z H' t n q2 => ?_
      obtain ⟨S2, RV⟩ := S1.new n
      obtain ⟨F2, e2, S2, R2⟩ := S2.fix RV
      exact k1 F2 H' _ _ (e1.trans e2) (S2.putFz hM R2) q2
/-! ### stores into one's own objects -/
/-- a slot's own objects are changed: the heap elsewhere stays, what is new in the footprint is new -/
theorem SR.change {i : Nat} {s : Slot} {H' : Hp} (S : SR X.K T B M F H ρ σ) (hl : i < ρ.length) (ot : ∀ b, b ∉ foot H (σ[i]?) (ρ.at i) → (∀ o, H b = some o → H' b = some o)) (li : ∀ b ∈ foot H (σ[i]?) (ρ.at i), ∃ o, H' b = some o)
    (hs : SlotOk X.K T F H' (σ[i]?) s) (hn : ∀ a ∈ foot H' (σ[i]?) s, a ∈ foot H (σ[i]?) (ρ.at i) ∨ (B.H0 a = none ∧ ∀ j, a ∉ foot H (σ[j]?) (ρ.at j))) : SR X.K T B M F H' (ρ.set i s) σ := by
  have old : ∀ j, i ≠ j → Env.at (ρ.set i s) j = ρ.at j := fun j hj => Env.at_set_ne hj
  have same : Env.at (ρ.set i s) i = s := Env.at_set_same hl
  have ke : ∀ j, i ≠ j → ∀ a ∈ foot H (σ[j]?) (ρ.at j), H' a = H a := fun j hj a ha => by
    obtain ⟨_, o, e, _⟩ := S.priv ha
    rw [e]
    exact ot a (fun z => hj (S.injF i j a z ha)) o e
  have fe : ∀ j, i ≠ j → foot H' (σ[j]?) (ρ.at j) = foot H (σ[j]?) (ρ.at j) := fun j hj => foot_eq (ke j hj)
  have nfoot : ∀ b o, F b = some o → b ∉ foot H (σ[i]?) (ρ.at i) := fun b o e z => by
    have := (S.priv z).1
    rw [e] at this
    cases this
  have tabs : LamX.Tabs T.tabs H' := fun x hx => by
    obtain ⟨ps, e1, e2, e3⟩ := S.tabs.1 x hx
    refine ⟨ps, ot _ (fun z => ?_) _ e1, e2, fun pos cv hc => ?_⟩
    · obtain ⟨_, o, e, m, _⟩ := S.priv z
      rw [e1] at e
      exact m ps (Option.some.inj e).symm
    · obtain ⟨c, a, b⟩ := e3 pos cv hc
      refine ⟨c, a, ot _ (fun z => ?_) _ b⟩
      obtain ⟨_, o, e, _, m⟩ := S.priv z
      rw [b] at e
      exact m _ _ (Option.some.inj e).symm
  refine ⟨S.sub.step (fun b u e w _ z => ot b (nfoot b u e) w z), fun b u e n m => ?_, fun b u e => ?_, S.f0, S.fnew, by simp [S.len], fun j => ?_, fun j a ha => ?_, fun j k a h1 h2 => ?_, S.pin, tabs, S.tabs.2⟩
  · refine ot b (fun z => ?_) u (S.keep _ _ e n m)
    rcases S.newO z with q | q
    · rw [q] at e; cases e
    · exact n q
  · obtain ⟨u', e'⟩ := S.live _ _ e
    by_cases hb : b ∈ foot H (σ[i]?) (ρ.at i)
    · exact li b hb
    · exact ⟨u', ot b hb u' e'⟩
  · by_cases hj : i = j
    · subst hj
      rw [same]
      exact hs
    · rw [old j hj]
      exact (S.slot j).mono (Same.refl _) fun a ha => ⟨(S.priv ha).1, ke j hj a ha⟩
  · by_cases hj : i = j
    · subst hj
      rw [same] at ha
      rcases hn a ha with q | q
      · exact S.newF i a q
      · exact .inl q.1
    · rw [old j hj, fe j hj] at ha
      exact S.newF j a ha
  · have excl : ∀ j, i ≠ j → a ∈ foot H' (σ[i]?) s → a ∈ foot H (σ[j]?) (ρ.at j) → False := fun j hj z1 z2 => by
      rcases hn a z1 with q | q
      · exact hj (S.injF i j a q z2)
      · exact q.2 j z2
    by_cases hj : i = j
    · subst hj
      by_cases hk : i = k
      · exact hk
      · rw [same] at h1
        rw [old k hk, fe k hk] at h2
        exact (excl k hk h1 h2).elim
    · rw [old j hj, fe j hj] at h1
      by_cases hk : i = k
      · subst hk
        rw [same] at h2
        exact (excl j hj h2 h1).elim
      · rw [old k hk, fe k hk] at h2
        exact S.injF j k a h1 h2
theorem SR.store {i : Nat} {p : Addr} {d d' : D} {o' : HO} (S : SR X.K T B M F H ρ σ) (hi : ρ.at i = .own d) (hp : σ[i]? = some (some (.ref p))) (r : RepO X.K T F o' d') (nt : tupB o' = false := by rfl) : SR X.K T B M F (upd H p o') (ρ.set i (.own d')) σ := by
  have hf : foot H (σ[i]?) (ρ.at i) = [p] := by rw [hi, hp, foot_own]
  have hs := S.slot i
  rw [hi] at hs
  obtain ⟨p', o, e, hF, hH, ro, _⟩ := hs
  rw [hp] at e
  cases e
  refine S.change (Env.at_lt (by rw [hi]; exact fun z => nomatch z)) (fun b hb o e => ?_) (fun b hb => ?_) ?_ fun a ha => ?_
  · rw [hf] at hb
    rw [upd_ne fun z => hb (List.mem_singleton.mpr z)]
    exact e
  · rw [hf] at hb
    rw [List.mem_singleton.mp hb]
    exact ⟨_, upd_same⟩
  · exact ⟨p, o', hp, hF, upd_same, r, nt⟩
  · rw [hp, foot_own] at ha
    exact .inl (by rw [hf]; exact ha)
theorem ownL_inv {s : Slot} (h : s.ownL = true) : ∃ xs, s = .own (.lst xs) := by
  cases s with
  | own d => cases d <;> first | exact ⟨_, rfl⟩ | cases h
  | _ => cases h
theorem SR.ownAt {i : Nat} {d : D} (S : SR X.K T B M F H ρ σ) (hi : ρ.at i = .own d) : ∃ p o, σ[i]? = some (some (.ref p)) ∧ F p = none ∧ H p = some o ∧ RepO X.K T F o d := by
  have hs := S.slot i
  rw [hi] at hs
  obtain ⟨p, o, h1, h2, h3, h4, _⟩ := hs
  exact ⟨p, o, h1, h2, h3, h4⟩
theorem repO_lst {K : PySem.W.Frag} {o : HO} {xs : List D} (r : RepO K T F o (.lst xs)) : ∃ vs, o = .lst vs ∧ RepL K T F vs xs := by
  cases r with
  | lst r => exact ⟨_, rfl, r⟩
theorem pds_app {i : Nat} {x : Str} {px apos cpos : Pos} (hN : X.N[i]? = some x) (hv : Vis X.env.scope x) (he : PD X T B M W e f) (hd : (x == ("__debug__" : Str)) = false := by decide) (hcd : (x == ("__classdict__" : Str)) = false := by decide)
    (hbase : attributeBase (.Name x px) "append" X.env (eval (.Name x px) X.env) = eval (.Name x px) X.env := by rfl)
    (hfew : ((backTo cpos (starEach [e] X.env)).all (fun x => !x.1) && (backToKw cpos (keywordEach [] X.env)).all (fun x => x.1.isSome)
      && decide (([e] : List Expr).length + ([] : List Keyword).length + (if ([] : List Keyword).isEmpty then 0 else 1) < 30)) = true := by rfl)
    (hline : (apos.endLine == cpos.line) = true := by rfl) (hse : starEach [e] X.env = (false, eval e X.env) :: starEach [] X.env := by rfl) (hplain : (backTo cpos (starEach [] X.env)).any (·.1) = false := by rfl)
    (hs : swapsWith (.Call (.Attribute (.Name x px) "append" apos) [e] [] cpos) none pos.line X.env = pure false := by rfl) : PDS X T B M W (.Expr (.Call (.Attribute (.Name x px) "append" apos) [e] [] cpos) pos) (sApp i f) :=
  ps_imp (ps_expr (pe_bm PySem.F.plainAttrs_list PySem.F.slot_list_append PySem.F.type_list_append mt_append (pe_var hN hv hd hcd) (pa_cons he pa_nil hse) hbase hfew hline hse hplain) hs) fun J σ H ⟨F, ρ, Jd, S, ⟨h0, h⟩, k1, k2, k3, k4⟩ => by
    obtain ⟨xs0, hx0⟩ := ownL_inv h0
    obtain ⟨p, o, ep, hF, hH, ro⟩ := S.ownAt hx0
    obtain ⟨vs, rfl, ra⟩ := repO_lst ro
    refine ⟨.ref p, ep, .inl ⟨rfl, _, .inl (.inl hH)⟩, ?_⟩
    refine zaL S h fun F1 H1 ρ1 v1 r1 e1 S1 R1 q => ?_
    have hs := S1.slot i
    cases hd : ρ1.at i with
    | own d =>
      cases d with
      | lst xs =>
        rw [hd] at q
        obtain ⟨p', o', ep', hF', hH', ro'⟩ := S1.ownAt hd
        rw [ep] at ep'
        cases ep'
        obtain ⟨ws, rfl, rb⟩ := repO_lst ro'
        refine ⟨p, ws, v1, rfl, rfl, hH', by rw [rb.length, ← maxTx_eq]; exact q.1, ?_⟩
        exact k1 F1 _ _ _ e1 (S1.store hd ep (.lst (rb.append (.cons R1 .nil)))) q.2
      | _ => rw [hd] at q; exact q.elim
    | _ => rw [hd] at q; exact q.elim
theorem pds_put {i : Nat} {x : Str} {px ppos : Pos} (hN : X.N[i]? = some x) (hv : Vis X.env.scope x) (he : PD X T B M W e f) (hk : PD X T B M W b g) (hd : (x == ("__debug__" : Str)) = false := by decide) (hcd : (x == ("__classdict__" : Str)) = false := by decide)
    (ha : ∀ v, assign (.Subscript (.Name x px) b ppos) X.env v = (do
      let ov ← holding [v] (eval (.Name x px) X.env)
      let iv ← holding [v, ov] (eval b X.env)
      standAt ppos
      holding [v, ov, iv] (setItem ov iv v)
      release [v, ov, iv] []) := by intro _; rfl)
    (hs : swapsWithSole [.Subscript (.Name x px) b ppos] e pos.line X.env = pure false := by rfl) (hw : swappedStores [.Subscript (.Name x px) b ppos] e X.env = pure none := by rfl)
    (h1 : (assignEach [.Subscript (.Name x px) b ppos] X.env).map (·.2) = [assign (.Subscript (.Name x px) b ppos) X.env] := by rfl) : PDS X T B M W (.Assign [.Subscript (.Name x px) b ppos] e pos) (sPut i g f) :=
  ps_imp (ps_asg he (pg_sub (pe_var hN hv hd hcd) hk set_list ha) hs hw h1) fun J σ H ⟨F, ρ, Jd, S, h, k1, k2, k3, k4⟩ => by
    refine zaL S h fun F1 H1 ρ1 v1 r1 e1 S1 R1 q => ?_
    obtain ⟨h0, q⟩ := q
    obtain ⟨xs0, hx0⟩ := ownL_inv h0
    obtain ⟨p, o, ep, hF, hH, ro⟩ := S1.ownAt hx0
    refine ⟨.ref p, ep, ?_⟩
    refine zaL S1 q fun F2 H2 ρ2 v2 r2 e2 S2 R2 q2 => ?_
    cases hd : ρ2.at i with
    | own d =>
      cases d with
      | lst xs =>
        rw [hd] at q2
        cases hz : r2.d with
        | int z =>
          rw [hz] at q2 R2
          obtain ⟨j, hj, q3⟩ := q2
          obtain ⟨p', o', ep', hF', hH', ro'⟩ := S2.ownAt hd
          rw [ep] at ep'
          cases ep'
          obtain ⟨ws, rfl, rb⟩ := repO_lst ro'
          refine ⟨p, ws, z, j, rfl, R2.int_inv, hH', by rw [rb.length]; exact hj, ?_⟩
          exact k1 F2 _ _ _ (e1.trans e2) (S2.store hd ep (.lst (rb.set j (R1.mono e2)))) q3
        | _ => rw [hz] at q2; exact q2.elim
      | _ => rw [hd] at q2; exact q2.elim
    | _ => rw [hd] at q2; exact q2.elim
end
end DL

set_option Elab.async false
set_option linter.all false
set_option autoImplicit false
set_option maxRecDepth 100000
/-! DLX7: comprehensions. -/
namespace DL
open PySem PySem.Spec PyProof.Rows L2
/-- the own objects of a frame -/
def OwnOf (H : Hp) (ρ : Env) (σ : L2.St) (b : Addr) : Prop := ∃ i, b ∈ foot H (σ[i]?) (ρ.at i)
/-- the base at a place within a body -/
def baseAt (B : Bs) (F H : Hp) (ρ : Env) (σ : L2.St) : Bs := ⟨F, H, fun i b => b ∈ foot H (σ[i]?) (ρ.at i), B.P⟩
section
variable {K : PySem.W.Frag} {T : Tb} {B : Bs} {M : List Nat} {F F2 H H2 : Hp} {ρ ρ2 : Env} {σ σ2 : L2.St}
theorem SR.base (S : SR K T B M F H ρ σ) : SR K T (baseAt B F H ρ σ) M F H ρ σ :=
  ⟨S.sub.toSmW.start (fun a o e ⟨i, z⟩ => absurd ((S.priv z).1.symm.trans e) (fun y => nomatch y)), fun b o e _ _ => e, fun b o e => ⟨o, e⟩, Same.refl _, fun b o e => .inl e, S.len, S.slot, fun i a ha => .inr ha, S.injF, S.pin, S.tabs⟩
theorem SR.gone (S : SR K T B M F H ρ σ) {b : Addr} (e : H b = none) : B.H0 b = none := by
  cases q : B.H0 b with
  | none => rfl
  | some o =>
    obtain ⟨o', z⟩ := S.live b o q
    rw [e] at z
    cases z
theorem RetV.low {B' : Bs} {v : V} {r : R} (hg : ∀ b, B'.H0 b = none → B.H0 b = none) (h : RetV K T B' F H ρ σ v r) : RetV K T B F H ρ σ v r := by
  cases r with
  | fz d => exact h
  | fr d =>
    obtain ⟨p, o, z1, z2, z3, z4, z5, z6⟩ := h
    exact ⟨p, o, z1, z2, z3, z4, hg _ z5, z6⟩
  | ft d =>
    obtain ⟨p, o, z1, z2, z3, z4, z5, z6⟩ := h
    exact ⟨p, o, z1, z2, z3, z4, z5, fun a ha => ⟨hg _ (z6 a ha).1, (z6 a ha).2⟩⟩
def R.slot : R → Slot
  | .fz _ => .no
  | .fr d => .own d
  | .ft d => .ownT d
/-- where a new result lies -/
def rfoot (H : Hp) (v : V) (r : R) : List Addr := foot H (some (some v)) r.slot
theorem RetV.feet {v : V} {r : R} (h : RetV K T B F H ρ σ v r) : ∀ a ∈ rfoot H v r, Priv F H a ∧ B.H0 a = none ∧ ∀ i, a ∉ foot H (σ[i]?) (ρ.at i) := by
  unfold rfoot
  cases r with
  | fz d => intro a ha; rw [show R.slot (.fz d) = .no from rfl, foot_no] at ha; simp at ha
  | fr d =>
    obtain ⟨p, o, rfl, z2, z3, z4, z5, z6⟩ := h
    intro a ha
    rw [show R.slot (.fr d) = .own d from rfl, foot_own] at ha
    rw [List.mem_singleton.mp ha]
    exact ⟨⟨z2, o, z3, repO_tbl' z4, repO_code' z4⟩, z5, z6⟩
  | ft d =>
    obtain ⟨p, o, rfl, z2, z3, z4, z5, z6⟩ := h
    intro a ha
    rw [show R.slot (.ft d) = .ownT d from rfl, foot_ownT z3] at ha
    refine ⟨?_, z6 a ha⟩
    rcases List.mem_cons.mp ha with rfl | ha
    · exact ⟨z2, o, z3, treeO_tbl z4, treeO_code z4⟩
    · exact z4.priv a ha
theorem RetV.move {B2 : Bs} {v : V} {r : R} (h : RetV K T B F H ρ σ v r) (e : Same F F2) (hm : ∀ a ∈ rfoot H v r, F2 a = none ∧ H2 a = H a ∧ B2.H0 a = none ∧ ∀ i, a ∉ foot H2 (σ2[i]?) (ρ2.at i)) : RetV K T B2 F2 H2 ρ2 σ2 v r ∧ rfoot H2 v r = rfoot H v r := by
  have fe : rfoot H2 v r = rfoot H v r := foot_eq fun a ha => (hm a ha).2.1
  refine ⟨?_, fe⟩
  unfold rfoot at hm
  cases r with
  | fz d => exact Rep.mono e h
  | fr d =>
    obtain ⟨p, o, rfl, z2, z3, z4, z5, z6⟩ := h
    obtain ⟨y1, y2, y3, y4⟩ := hm p (by rw [show R.slot (.fr d) = .own d from rfl, foot_own]; exact List.mem_singleton.mpr rfl)
    exact ⟨p, o, rfl, y1, y2.trans z3, z4.mono e, y3, y4⟩
  | ft d =>
    obtain ⟨p, o, rfl, z2, z3, z4, z5, z6⟩ := h
    rw [show R.slot (.ft d) = .ownT d from rfl, foot_ownT z3] at hm
    have y := hm p List.mem_cons_self
    exact ⟨p, o, rfl, y.1, y.2.1.trans z3, z4.mono e fun a ha => ⟨(hm a (List.mem_cons_of_mem _ ha)).1, (hm a (List.mem_cons_of_mem _ ha)).2.1⟩, z5, fun a ha => (hm a ha).2.2⟩
/-- a result is settled, elsewhere nothing is -/
theorem SR.fixO {v : V} {r : R} (S : SR K T B M F H ρ σ) (h : RetV K T B F H ρ σ v r) : ∃ F', Same F F' ∧ SR K T B M F' H ρ σ ∧ Rep K T F' v r.d ∧ ∀ b, b ∉ rfoot H v r → F' b = F b := by
  unfold rfoot
  cases r with
  | fz d => exact ⟨F, Same.refl _, S, h, fun _ _ => rfl⟩
  | fr d =>
    obtain ⟨p, o, rfl, hF, hH, ro, hn, hno⟩ := h
    have su : Same F (upd F p o) := same_upd hF
    exact ⟨upd F p o, su, S.settle hF hH (.inl hn) hno (repO_tbl ro), .ref upd_same (ro.mono su), fun b hb => upd_ne fun z => hb (by rw [show R.slot (.fr d) = .own d from rfl, foot_own]; exact List.mem_singleton.mpr z)⟩
  | ft d =>
    obtain ⟨p, o, rfl, hF, hH, ro, nd, hn⟩ := h
    obtain ⟨F', e, S', r, _, o'⟩ := S.settleT hF hH ro nd fun a ha => ⟨.inl (hn a ha).1, (hn a ha).2⟩
    exact ⟨F', e, S', r, fun b hb => o' b fun z => hb (by rw [show R.slot (.ft d) = .ownT d from rfl, foot_ownT hH]; exact z)⟩
theorem SR.trans (S : SR K T B M F H ρ σ) (S2 : SR K T (baseAt B F H ρ σ) M F2 H2 ρ2 σ2) : SR K T B M F2 H2 ρ2 σ2 := by
  have own : ∀ b, OwnOf H ρ σ b → B.H0 b = none ∨ B.O0 b := fun b ⟨i, e1⟩ => S.newO e1
  refine ⟨S.sub.after S2.sub S2.fnew, fun b o e n m => ?_, fun b o e => ?_, S.f0.trans S2.f0, fun b o e => ?_, S2.len, S2.slot, fun i p e1 => ?_, S2.injF, S2.pin, S2.tabs⟩
  · refine S2.keep b o (S.keep b o e n m) (fun z => ?_) m
    rcases own b z with q | q
    · rw [q] at e; cases e
    · exact n q
  · obtain ⟨o', e'⟩ := S.live b o e
    exact S2.live b o' e'
  · rcases S2.fnew b o e with q | q | q | q
    · exact S.fnew b o q
    · exact .inr (.inl (S.gone q))
    · exact .inr ((own b q).elim .inl fun z => .inr (.inl z))
    · exact .inr (.inr (.inr q))
  · rcases S2.newF i p e1 with q | q
    · exact .inl (S.gone q)
    · exact S.newF i p q
/-- a loose object stays loose -/
theorem SR.loose (S : SR K T B M F H ρ σ) (S2 : SR K T (baseAt B F H ρ σ) M F2 H2 ρ2 σ2) {p : Addr} {o : HO} (hH : H p = some o) (hF : F p = none) (hn : ¬ OwnOf H ρ σ p) (hm : ∀ ps, o ≠ HO.tbl ps := by intro _ z; cases z) (nt : tupB o = false := by rfl) : H2 p = some o ∧ F2 p = none ∧ ¬ OwnOf H2 ρ2 σ2 p := by
  refine ⟨S2.keep p o hH hn hm, ?_, fun ⟨i, e1⟩ => ?_⟩
  · cases q : F2 p with
    | none => rfl
    | some u =>
      rcases S2.fnew p u q with z | z | z | z
      · have z : F p = some u := z
        rw [hF] at z; cases z
      · have z : H p = none := z
        rw [hH] at z; cases z
      · exact absurd z hn
      · have w := S2.sub.up q z
        rw [S2.keep p o hH hn hm] at w
        cases w
        rw [nt] at z
        cases z
  · rcases S2.newF i p e1 with z | z
    · have z : H p = none := z
      rw [hH] at z; cases z
    · exact hn ⟨i, z⟩
theorem wipeE_len : ∀ (vs : List Nat) (ρ : Env), (wipeE vs ρ).length = ρ.length
  | [], _ => rfl
  | v :: vs, ρ => by unfold wipeE; rw [List.length_set, wipeE_len vs ρ]
theorem backE_len : ∀ (vs : List Nat) (ρ0 ρ : Env), (backE vs ρ0 ρ).length = ρ.length
  | [], _, _ => rfl
  | v :: vs, ρ0, ρ => by unfold backE; rw [List.length_set, backE_len vs ρ0 ρ]
theorem wipeE_out : ∀ {vs : List Nat} {ρ : Env} {i : Nat}, i ∉ vs → (wipeE vs ρ).at i = ρ.at i
  | [], _, _, _ => rfl
  | v :: vs, ρ, i, h => by
    unfold wipeE
    rw [Env.at_set_ne (fun z => h (by rw [z]; exact List.mem_cons_self)), wipeE_out fun z => h (List.mem_cons_of_mem _ z)]
theorem at_oob {ρ : Env} {i : Nat} (h : ¬ i < ρ.length) : ρ.at i = .no := by
  unfold Env.at
  rw [List.getElem?_eq_none (by omega)]
  rfl
theorem wipeE_in : ∀ {vs : List Nat} {ρ : Env} {i : Nat}, i ∈ vs → (wipeE vs ρ).at i = .no
  | v :: vs, ρ, i, h => by
    unfold wipeE
    by_cases hi : v = i
    · subst hi
      by_cases hl : v < (wipeE vs ρ).length
      · rw [Env.at_set_same hl]
      · rw [at_oob (by simpa using hl)]
    · rw [Env.at_set_ne hi]
      exact wipeE_in ((List.mem_cons.mp h).resolve_left fun z => hi z.symm)
theorem backE_out : ∀ {vs : List Nat} {ρ0 ρ : Env} {i : Nat}, i ∉ vs → (backE vs ρ0 ρ).at i = ρ.at i
  | [], _, _, _, _ => rfl
  | v :: vs, ρ0, ρ, i, h => by
    unfold backE
    rw [Env.at_set_ne (fun z => h (by rw [z]; exact List.mem_cons_self)), backE_out fun z => h (List.mem_cons_of_mem _ z)]
theorem backE_in : ∀ {vs : List Nat} {ρ0 ρ : Env} {i : Nat}, i ∈ vs → (backE vs ρ0 ρ).at i = (ρ0.at i).noT ∨ (backE vs ρ0 ρ).at i = .no
  | v :: vs, ρ0, ρ, i, h => by
    unfold backE
    by_cases hi : v = i
    · subst hi
      by_cases hl : v < (backE vs ρ0 ρ).length
      · exact .inl (Env.at_set_same hl)
      · exact .inr (at_oob (by simpa using hl))
    · rw [Env.at_set_ne hi]
      exact backE_in ((List.mem_cons.mp h).resolve_left fun z => hi z.symm)
theorem wipe_out' {σ : L2.St} {i : Nat} : ∀ {vs : List Nat}, i ∉ vs → (wipe σ vs)[i]? = σ[i]?
  | [], _ => rfl
  | v :: vs, h => by
    unfold wipe
    rw [List.getElem?_set_ne (fun z => h (by rw [z]; exact List.mem_cons_self)), wipe_out' fun z => h (List.mem_cons_of_mem _ z)]
theorem wipe_set {σ : L2.St} {x : Option V} : ∀ {vs : List Nat} {i : Nat}, i ∈ vs → wipe (σ.set i x) vs = wipe σ vs
  | v :: vs, i, h => by
    unfold wipe
    by_cases hi : i ∈ vs
    · rw [wipe_set hi]
    · have hv : i = v := (List.mem_cons.mp h).resolve_right hi
      subst hv
      have : wipe (σ.set i x) vs = (wipe σ vs).set i x := by
        clear h
        induction vs with
        | nil => rfl
        | cons w vs ih =>
          unfold wipe
          rw [ih fun z => hi (List.mem_cons_of_mem _ z), List.set_comm _ _ (fun z => hi (by rw [z]; exact List.mem_cons_self))]
      rw [this, List.set_set]
theorem SR.wipe {vs : List Nat} (S : SR K T B M F H ρ σ) (hM : ∀ i ∈ M, i ∉ vs) : SR K T B M F H (wipeE vs ρ) (L2.wipe σ vs) := by
  have fact : ∀ i, (wipeE vs ρ).at i = .no ∨ ((wipeE vs ρ).at i = ρ.at i ∧ (L2.wipe σ vs)[i]? = σ[i]?) := fun i => by
    by_cases hi : i ∈ vs
    · exact .inl (wipeE_in hi)
    · exact .inr ⟨wipeE_out hi, wipe_out' hi⟩
  have own : ∀ i a, a ∈ foot H ((L2.wipe σ vs)[i]?) ((wipeE vs ρ).at i) → a ∈ foot H (σ[i]?) (ρ.at i) := fun i a e => by
    rcases fact i with q | ⟨q1, q2⟩
    · rw [q, foot_no] at e; simp at e
    · rw [q1, q2] at e; exact e
  refine ⟨S.sub, S.keep, S.live, S.f0, S.fnew, by rw [wipeE_len, wipe_length, S.len], fun i => ?_, fun i a e1 => S.newF i a (own i a e1), fun i j a e1 e2 => S.injF i j a (own i a e1) (own j a e2), fun i hi => ?_, S.tabs⟩
  · rcases fact i with q | ⟨q1, q2⟩
    · rw [q]; trivial
    · rw [q1, q2]; exact S.slot i
  · rw [wipe_out' (hM i hi)]
    exact S.pin i hi
/-- out of the block again -/
theorem SR.unwipe {vs : List Nat} (S : SR K T B M F H ρ σ) (hv : ∀ i ∈ vs, ∀ d, ρ.at i ≠ .own d) (e : Same F F2) (S2 : SR K T B M F2 H2 ρ2 (L2.wipe σ vs)) : SR K T B M F2 H2 (backE vs ρ ρ2) σ := by
  have fact : ∀ i, (backE vs ρ ρ2).at i = .no ∨ (i ∈ vs ∧ ∃ d, (backE vs ρ ρ2).at i = .fz d ∧ ρ.at i = .fz d) ∨ ((backE vs ρ ρ2).at i = ρ2.at i ∧ (L2.wipe σ vs)[i]? = σ[i]?) := fun i => by
    by_cases hi : i ∈ vs
    · rcases backE_in (ρ0 := ρ) (ρ := ρ2) hi with q | q
      · cases hd : ρ.at i with
        | no => rw [hd] at q; exact .inl q
        | own d => exact absurd hd (hv i hi d)
        | fz d => rw [hd] at q; exact .inr (.inl ⟨hi, d, q, rfl⟩)
        | ownT d => rw [hd] at q; exact .inl q
      · exact .inl q
    · exact .inr (.inr ⟨backE_out hi, wipe_out' hi⟩)
  have own : ∀ i a, a ∈ foot H2 (σ[i]?) ((backE vs ρ ρ2).at i) → a ∈ foot H2 ((L2.wipe σ vs)[i]?) (ρ2.at i) := fun i a h => by
    rcases fact i with q | ⟨_, d, q, _⟩ | ⟨q1, q2⟩
    · rw [q, foot_no] at h; simp at h
    · rw [q, foot_fz] at h; simp at h
    · rw [q1, ← q2] at h; exact h
  refine ⟨S2.sub, S2.keep, S2.live, S2.f0, S2.fnew, by rw [backE_len, S2.len, wipe_length], fun i => ?_, fun i a e1 => S2.newF i a (own i a e1), fun i j a e1 e2 => S2.injF i j a (own i a e1) (own j a e2), S.pin, S2.tabs⟩
  rcases fact i with q | ⟨_, d, q, hd⟩ | ⟨q1, q2⟩
  · rw [q]; trivial
  · have hs := S.slot i
    rw [hd] at hs
    obtain ⟨v, h1, h2⟩ := hs
    rw [q]
    exact ⟨v, h1, h2.mono e⟩
  · rw [q1, ← q2]; exact S2.slot i
end
/-! ### targets of a comprehension -/
theorem SR.storeLoose {K : PySem.W.Frag} {T : Tb} {B : Bs} {M : List Nat} {F H : Hp} {ρ : Env} {σ : L2.St} {p : Addr} {o o' : HO} (S : SR K T B M F H ρ σ) (hH : H p = some o) (hF : F p = none) (hn : ¬ OwnOf H ρ σ p) (hB : B.H0 p = none) (hm : ∀ ps, o ≠ HO.tbl ps := by intro _ z; cases z) (hc : ∀ c q, o ≠ LamX.CodeO c q := by intro _ _ z; unfold LamX.CodeO at z; cases z) : SR K T B M F (upd H p o') ρ σ := by
  have ke : ∀ i, ∀ a ∈ foot H (σ[i]?) (ρ.at i), upd H p o' a = H a := fun i a ha => upd_ne fun z => hn ⟨i, by rw [← z]; exact ha⟩
  have fe := S.footEq ke
  refine ⟨S.sub.step (fun b u e w _ z => ?_), fun b u e n m => ?_, fun b u e => ?_, S.f0, S.fnew, S.len, fun j => (S.slot j).mono (Same.refl _) fun a ha => ⟨(S.priv ha).1, ke j a ha⟩, fun i a ha => S.newF i a (fe i ▸ ha), fun i j a h1 h2 => S.injF i j a (fe i ▸ h1) (fe j ▸ h2), S.pin, tabs_upd S.tabs.1 hH hm hc, S.tabs.2⟩
  · have hb : b ≠ p := fun z => by subst z; rw [hF] at e; cases e
    rw [upd_ne hb]
    exact z
  · have hb : b ≠ p := fun z => by subst z; rw [hB] at e; cases e
    rw [upd_ne hb]
    exact S.keep _ _ e n m
  · by_cases hb : b = p
    · subst hb; exact ⟨_, upd_same⟩
    · rw [upd_ne hb]; exact S.live _ _ e
def gHs : List Nat → TGs
  | [] => gNil
  | i :: is => gCons (gName i) (gHs is)
def Tgt.h (K : PySem.W.Frag) : Tgt → TG
  | .one i => gName i
  | .tup is => gTup K is.length (gHs is)
section
variable {X : Cx} {T : Tb} {B : Bs} {M : List Nat} {W : EK} {F H : Hp} {ρ : Env} {σ : L2.St}
theorem gHs_of {vs : List Nat} : ∀ {is : List Nat} {ds : List D} {us : List V} {ρ : Env} {σ : L2.St} {k : Env → Prop}, SR X.K T B M F H ρ σ → RepL X.K T F us ds → gNs is ds ρ k → (∀ i ∈ is, i ∈ vs) → (∀ i ∈ is, i ∉ M) →
    gHs is us σ H fun σ2 H2 => wipe σ2 vs = wipe σ vs ∧ H2 = H ∧ ∃ ρ2, SR X.K T B M F H ρ2 σ2 ∧ k ρ2
  | [], [], _, ρ, σ, k, S, .nil, h, _, _ => ⟨rfl, rfl, rfl, ρ, S, h⟩
  | i :: is, d :: ds, _, ρ, σ, k, S, .cons (v := v) (vs := us) r rs, h, h1, h2 => by
    refine ⟨v, us, rfl, ?_⟩
    have q := gHs_of (vs := vs) (S.putFz (h2 i List.mem_cons_self) r) rs h (fun j hj => h1 j (List.mem_cons_of_mem _ hj)) (fun j hj => h2 j (List.mem_cons_of_mem _ hj))
    rw [wipe_set (h1 i List.mem_cons_self)] at q
    exact q
  | [], _ :: _, _, _, _, _, _, _, h, _, _ => h.elim
  | _ :: _, [], _, _, _, _, _, _, h, _, _ => h.elim
theorem Tgt.of {t : Tgt} {vs : List Nat} {v : V} {d : D} {k : Env → Prop} (S : SR X.K T B M F H ρ σ) (r : Rep X.K T F v d) (h : t.g d ρ k) (h1 : ∀ i ∈ t.is, i ∈ vs) (h2 : ∀ i ∈ t.is, i ∉ M) :
    t.h X.K v σ H fun σ2 H2 => wipe σ2 vs = wipe σ vs ∧ H2 = H ∧ ∃ ρ2, SR X.K T B M F H ρ2 σ2 ∧ k ρ2 := by
  cases t with
  | one i => exact ⟨wipe_set (h1 i List.mem_cons_self), rfl, _, S.putFz (h2 i List.mem_cons_self) r, h⟩
  | tup is =>
    cases d with
    | tup ds =>
      obtain ⟨p, us, rfl, hp, ra⟩ := r.tup_inv
      exact ⟨p, us, rfl, .of (S.sub _ _ hp), by rw [ra.length]; exact gNs_len h, gHs_of S ra h h1 h2⟩
    | _ => exact h.elim
theorem pgh_one {i : Nat} {x : Str} {pos : Pos} (hN : X.N.Nodup) (hi : X.N[i]? = some x) (hx : Loc X.env.scope x) (hf : X.fn x = true ∨ X.env.scope.names.lookup x = some .local := by first | exact .inl rfl | exact .inr rfl | assumption) : PG X (.Name x pos) ((Tgt.one i).h X.K) := pg_name hN hi hx hf
theorem pgh_nil : PGs X [] (gHs []) := pgs_nil
theorem pgh_cons {i : Nat} {is : List Nat} {x : Str} {pos : Pos} {es : List Expr} (hN : X.N.Nodup) (hi : X.N[i]? = some x) (hx : Loc X.env.scope x) (h2 : PGs X es (gHs is)) (hs : (assignEach (Expr.Name x pos :: es) X.env).map (·.2) = assign (Expr.Name x pos) X.env :: (assignEach es X.env).map (·.2) := by rfl)
    (hf : X.fn x = true ∨ X.env.scope.names.lookup x = some .local := by first | exact .inl rfl | exact .inr rfl | assumption) : PGs X (.Name x pos :: es) (gHs (i :: is)) := pgs_cons (pg_name hN hi hx hf) h2 hs
theorem pgh_tup {is : List Nat} {es : List Expr} {k : Nat} {pos : Pos} (hc : X.calm = true) (h : PGs X es (gHs is)) (hn : (assignEach es X.env).length = is.length := by rfl) (hst : (assignEach es X.env).findIdx? (·.1) = none := by rfl) : PG X (.Tuple es k pos) ((Tgt.tup is).h X.K) := pg_tup hc h hn hst
abbrev PDTs (X : Cx) (T : Tb) (B : Bs) (M : List Nat) (W : EK) (ifs : List Expr) (t : DT) : Prop := PTs X ifs (lT X.K T B M W t)
theorem pts_imp {ifs : List Expr} {t t' : TT} (h : PTs X ifs t) (k : ∀ σ H Q, t' σ H Q → t σ H Q) : PTs X ifs t' := ⟨fun pins s σ H Q I q => h.run pins s σ H Q I (k σ H Q q)⟩
theorem pdts_nil : PDTs X T B M W [] DL.tYes := pts_imp pts_nil fun σ H Q ⟨F, ρ, Qd, S, h, k⟩ => k F H ρ true (Same.refl _) S h
theorem pdts_one {c : Expr} {t : DT} (h : PDT X T B M W c t) : PDTs X T B M W [c] t := pts_one h
def lEx (K : PySem.W.Frag) (T : Tb) (M : List Nat) (W : EK) (f : DE) : TE := fun σ H Q => ∃ B, lE K T B M W f σ H Q
def lTx (K : PySem.W.Frag) (T : Tb) (M : List Nat) (W : EK) (f : DT) : TT := fun σ H Q => ∃ B, lT K T B M W f σ H Q
theorem pe_ex {e : Expr} {f : DE} (h : ∀ B, PD X T B M W e f) : PE X e (lEx X.K T M W f) := ⟨fun pins s σ H Q I ⟨B, q⟩ => (h B).run pins s σ H Q I q⟩
theorem pts_ex {e : List Expr} {f : DT} (h : ∀ B, PDTs X T B M W e f) : PTs X e (lTx X.K T M W f) := ⟨fun pins s σ H Q I ⟨B, q⟩ => (h B).run pins s σ H Q I q⟩
theorem wipe_in {σ : L2.St} {i : Nat} : ∀ {vs : List Nat}, i ∈ vs → (wipe σ vs)[i]? = if i < σ.length then some none else none
  | v :: vs, h => by
    unfold wipe
    by_cases hv : v = i
    · subst hv
      by_cases hl : v < σ.length
      · rw [List.getElem?_set_self (by rw [wipe_length]; exact hl), if_pos hl]
      · rw [List.getElem?_eq_none (by rw [List.length_set, wipe_length]; omega), if_neg hl]
    · rw [List.getElem?_set_ne hv]
      exact wipe_in ((List.mem_cons.mp h).resolve_left fun z => hv z.symm)
theorem wipe_wipe {σ : L2.St} {vs : List Nat} : wipe (wipe σ vs) vs = wipe σ vs := by
  apply List.ext_getElem?
  intro i
  by_cases h : i ∈ vs
  · rw [wipe_in h, wipe_in h, wipe_length]
  · rw [wipe_out' h]
theorem Tgt.h_mono {K : PySem.W.Frag} {t : Tgt} {v : V} {σ : L2.St} {H : Hp} {k k' : L2.St → Hp → Prop} (h : t.h K v σ H k) (hm : ∀ σ H, k σ H → k' σ H) : t.h K v σ H k' := by
  cases t with
  | one i => exact hm _ _ h
  | tup is =>
    obtain ⟨a, us, e1, e2, e3, h⟩ := h
    refine ⟨a, us, e1, e2, e3, ?_⟩
    clear e1 e2 e3
    induction is generalizing us σ H with
    | nil => exact ⟨h.1, hm _ _ h.2⟩
    | cons i is ih =>
      obtain ⟨w, r, e, h⟩ := h
      exact ⟨w, r, e, ih _ h⟩
theorem backE_foot {vs : List Nat} {ρ ρ2 : Env} {σ : L2.St} {H : Hp} {j : Nat} {a : Addr} (hv : ∀ i ∈ vs, ∀ d, ρ.at i ≠ .own d) (h : a ∈ foot H (σ[j]?) ((backE vs ρ ρ2).at j)) : a ∈ foot H (σ[j]?) (ρ2.at j) ∧ j ∉ vs := by
  by_cases hj : j ∈ vs
  · rcases backE_in (ρ0 := ρ) (ρ := ρ2) hj with q | q
    · rw [q] at h
      cases hd : ρ.at j with
      | no => rw [hd] at h; rw [show Slot.noT .no = Slot.no from rfl, foot_no] at h; simp at h
      | own d => exact absurd hd (hv j hj d)
      | fz d => rw [hd] at h; rw [show Slot.noT (.fz d) = Slot.fz d from rfl, foot_fz] at h; simp at h
      | ownT d => rw [hd] at h; rw [show Slot.noT (.ownT d) = Slot.no from rfl, foot_no] at h; simp at h
    · rw [q, foot_no] at h; simp at h
  · rw [backE_out hj] at h
    exact ⟨h, hj⟩
theorem not_own_wipe {vs : List Nat} {ρ : Env} {σ σ' : L2.St} {H : Hp} {b : Addr} (e : wipe σ' vs = wipe σ vs) (h : ¬ OwnOf H ρ σ' b) : ¬ OwnOf H (wipeE vs ρ) (wipe σ vs) b := fun ⟨i, e1⟩ => by
  by_cases hi : i ∈ vs
  · rw [wipeE_in hi, foot_no] at e1; simp at e1
  · rw [wipeE_out hi, ← e, wipe_out' hi] at e1
    exact h ⟨i, e1⟩
/-- the loop of a comprehension -/
theorem lc_of {it : DI} {t : Tgt} {tt : DT} {g : DE} {vs : List Nat} {TT' : TT} {TE' : TE} (h1 : ∀ i ∈ t.is, i ∈ vs) (h2 : ∀ i ∈ t.is, i ∉ M) (hM : ∀ i ∈ M, i ∉ vs) {H : Hp} {Q : VK}
    (h : lE X.K T B M W (dLc vs it t.g tt g) σ H Q) (hT : TT' = lTx X.K T M noE tt) (hE : TE' = lEx X.K T M noE g) :
    tLc (lI X.K T B M W it) (t.h X.K) TT' TE' vs σ H Q := by
  obtain ⟨F, ρ, Qd, S, h, k⟩ := h
  refine ⟨F, ρ, _, S, h, fun F1 H1 ρ1 xs J e1 S1 io q D' hD => ?_⟩
  obtain ⟨hv, q⟩ := q
  refine ⟨fun i m H' => m = xs.length - i ∧ i ≤ xs.length ∧ ∃ F' ρ' acc as, Same F1 F' ∧ SR X.K T B M F' H' ρ' (wipe σ vs) ∧ (H' D' = some (.lst acc) ∧ F' D' = none ∧ ¬ OwnOf H' ρ' (wipe σ vs) D' ∧ B.H0 D' = none) ∧ RepL X.K T F' acc as ∧
    lcL vs t.g tt g (fun acc ρ2 => Qd (.fr (.lst acc)) (backE vs ρ1 ρ2)) (xs.drop i) as ρ', ⟨xs.length, by simp, Nat.zero_le _, F1, _, [], [], Same.refl _, (S1.lay hD).wipe hM, ⟨upd_same, S1.sub.free hD, ?_, S1.gone hD⟩, .nil, q⟩, ?_⟩
  · rintro ⟨i, e2⟩
    have S0 := S1.wipe hM
    rw [S0.footEq (fun i a ha => upd_ne ((S0.priv ha).ne hD)) i] at e2
    exact (S0.priv e2).ne hD rfl
  rintro i m H' ⟨rfl, hi, F', ρ', acc, as, e2, S2, ⟨hD1, hD2, hD3, hD4⟩, ra, q2⟩
  by_cases hlt : i < xs.length
  · obtain ⟨go, yl⟩ := (io i F' H' e2 S2.sub.toSmW).1 hlt
    refine .inr ⟨go, fun H3 => ∃ F3 ρ3 acc as, Same F1 F3 ∧ SR X.K T B M F3 H3 ρ3 (wipe σ vs) ∧ (H3 D' = some (.lst acc) ∧ F3 D' = none ∧ ¬ OwnOf H3 ρ3 (wipe σ vs) D' ∧ B.H0 D' = none) ∧ RepL X.K T F3 acc as ∧
      lcL vs t.g tt g (fun acc ρ2 => Qd (.fr (.lst acc)) (backE vs ρ1 ρ2)) (xs.drop (i + 1)) as ρ3, fun H3 hN => ⟨xs.length - (i + 1), by omega, rfl, hlt, hN⟩, fun x H'' hy => ?_⟩
    obtain ⟨r, hx, n⟩ := yl x H'' hy
    have S2b := S2.base
    obtain ⟨S3b, RVb⟩ := S2b.new n
    obtain ⟨F3, e3, S3b, R3⟩ := S3b.fix RVb
    have S3 := S2.trans S3b
    obtain ⟨d1, d2, d3⟩ := S2.loose S3b hD1 hD2 hD3
    rw [drop_at hx] at q2
    have q2 : t.g r.d ρ' (fun ρ1' => tt ρ1' (fun b ρ2 => if b = true then g ρ2 (fun r' ρ3 => as.length < zaK ∧ lcL vs t.g tt g (fun acc ρ2 => Qd (.fr (.lst acc)) (backE vs ρ1 ρ2)) (xs.drop (i + 1)) (as ++ [r'.d]) (wipeE vs ρ3)) noE
      else lcL vs t.g tt g (fun acc ρ2 => Qd (.fr (.lst acc)) (backE vs ρ1 ρ2)) (xs.drop (i + 1)) as (wipeE vs ρ2)) noE) := q2
    refine Tgt.h_mono (Tgt.of (X := X) (vs := vs) S3.base R3 q2 h1 h2) ?_
    rintro σ2 H2 ⟨hw, rfl, ρ4, S4, q4⟩
    have hw : wipe σ2 vs = wipe σ vs := hw.trans wipe_wipe
    refine ⟨hw, ?_⟩
    rw [hT]
    refine ⟨baseAt B F3 H2 ρ' (wipe σ vs), F3, ρ4, _, S4, q4, fun F5 H5 ρ5 b e5 S5 q5 => ?_⟩
    cases b with
    | false =>
      obtain ⟨l1, l2, l3⟩ := S3.loose S5 d1 d2 d3
      have S6 := (S3.trans S5).wipe hM
      rw [hw] at S6
      exact ⟨F5, _, acc, as, e2.trans (e3.trans e5), S6, ⟨l1, l2, not_own_wipe hw l3, hD4⟩, ra.mono (e3.trans e5), q5⟩
    | true =>
      have q5 : g ρ5 (fun r' ρ3 => as.length < zaK ∧ lcL vs t.g tt g (fun acc ρ2 => Qd (.fr (.lst acc)) (backE vs ρ1 ρ2)) (xs.drop (i + 1)) (as ++ [r'.d]) (wipeE vs ρ3)) noE := q5
      show TE' σ2 H5 _
      rw [hE]
      refine ⟨baseAt B F3 H2 ρ' (wipe σ vs), zaL (S5) q5 fun F6 H6 ρ6 v6 r6 e6 S6 R6 q6 => ?_⟩
      obtain ⟨l1, l2, l3⟩ := S3.loose S6 d1 d2 d3
      have S7 := (S3.trans S6).wipe hM
      rw [hw] at S7
      have l3' := not_own_wipe hw l3
      have hno' : ¬ OwnOf (upd H6 D' (.lst (acc ++ [v6]))) (wipeE vs ρ6) (wipe σ vs) D' := fun ⟨i, z⟩ => by
        rw [S7.footEq (fun i a ha => upd_ne fun z => l3' ⟨i, by rw [← z]; exact ha⟩) i] at z
        exact l3' ⟨i, z⟩
      refine ⟨acc, l1, by rw [ra.length, ← maxTx_eq]; exact q6.1, F6, _, _, _, e2.trans (e3.trans (e5.trans e6)), ?_, ⟨upd_same, l2, hno', hD4⟩, (ra.mono (e3.trans (e5.trans e6))).append (.cons R6 .nil), q6.2⟩
      exact S7.storeLoose l1 l2 l3' hD4
  · have e : i = xs.length := by omega
    subst e
    rw [List.drop_length] at q2
    refine .inl ⟨(io _ F' H' e2 S2.sub.toSmW).2 (Nat.le_refl _), ?_⟩
    exact k F' H' _ (.ref D') (.fr (.lst as)) (e1.trans e2) (S1.unwipe hv e2 S2) ⟨D', _, rfl, hD2, hD1, .lst ra, hD4, fun j hj => by
      obtain ⟨z1, z2⟩ := backE_foot hv hj
      exact hD3 ⟨j, by rw [wipe_out' z2]; exact z1⟩⟩ q2
variable {elt tg iter : Expr} {ifs : List Expr} {scope : Scope} {own : List (Str × Nat)} {pos : Pos} {it : DI} {t : Tgt} {tt : DT} {g : DE}
theorem pd_lc (hc : X.calm = true) (hN : X.N.Nodup) (hi : PDI X T B M W tg iter it) (ok : BlkOk X.N X.env.scope scope own) (hv : (t.is.all fun i => (own.map (·.2)).contains i && !M.contains i) = true) (hM : (M.all fun i => !(own.map (·.2)).contains i) = true)
    (hg : ∀ (s : Shared) (H : Hp) (C : Addr) (cl : List (Str × Addr)) (fp : List Addr), PG (X.blk s H scope (compEnvC scope cl C X.env) fp) tg (t.h X.K)) (ht : ∀ (s : Shared) (H : Hp) (C : Addr) (cl : List (Str × Addr)) (fp : List Addr) B, PDTs (X.blk s H scope (compEnvC scope cl C X.env) fp) T B M noE ifs tt)
    (he : ∀ (s : Shared) (H : Hp) (C : Addr) (cl : List (Str × Addr)) (fp : List Addr) B, PD (X.blk s H scope (compEnvC scope cl C X.env) fp) T B M noE elt g) (hs : ∀ x, foldedSetIterable iter X.env x = pure x := by intro _; rfl) :
    PD X T B M W (.ListComp elt [⟨tg, iter, ifs, 0⟩] scope pos) (dLc (own.map (·.2)) it t.g tt g) := by
  have a1 : ∀ i ∈ t.is, i ∈ own.map (·.2) ∧ i ∉ M := fun i h => by
    have := List.all_eq_true.mp hv i h
    rw [Bool.and_eq_true] at this
    exact ⟨by simpa using this.1, by simpa using this.2⟩
  have a2 : ∀ i ∈ M, i ∉ own.map (·.2) := fun i h => by
    have := List.all_eq_true.mp hM i h
    simpa using this
  refine pe_imp (pe_lc (te := lEx X.K T M noE g) (tt := lTx X.K T M noE tt) hc hN hi ok hg (fun s H C cl fp => pts_ex (ht s H C cl fp)) (fun s H C cl fp => pe_ex (he s H C cl fp)) hs) fun σ H Q z => ?_
  exact lc_of (fun i h => (a1 i h).1) (fun i h => (a1 i h).2) a2 z rfl rfl
end
end DL

set_option Elab.async false
set_option linter.all false
set_option autoImplicit false
set_option maxRecDepth 100000
/-! DLX8: name = [..], a, b = x, y; calls of defs; defs. -/
namespace DL
open PySem PySem.Spec PyProof.Rows L2
section
variable {X : Cx} {T : Tb} {B : Bs} {M : List Nat} {W : EK} {F H : Hp} {ρ : Env} {σ : L2.St}
variable {a b c e : Expr} {f : DE} {pos : Pos}
variable {elt tg iter : Expr} {ifs : List Expr} {scope : Scope} {own : List (Str × Nat)} {it : DI} {t : Tgt} {tt : DT} {g : DE}
theorem lcM {vs : List Nat} (hv : (t.is.all fun i => vs.contains i && !M.contains i) = true) (hM : (M.all fun i => !vs.contains i) = true) : (∀ i ∈ t.is, i ∈ vs) ∧ (∀ i ∈ t.is, i ∉ M) ∧ ∀ i ∈ M, i ∉ vs := by
  refine ⟨fun i h => ?_, fun i h => ?_, fun i h => ?_⟩
  · have := List.all_eq_true.mp hv i h
    rw [Bool.and_eq_true] at this
    simpa using this.1
  · have := List.all_eq_true.mp hv i h
    rw [Bool.and_eq_true] at this
    simpa using this.2
  · have := List.all_eq_true.mp hM i h
    simpa using this
theorem setLc_core {i : Nat} {y : Str} {py spos : Pos} (hc : X.calm = true) (hN : X.N.Nodup) (hy : X.N[i]? = some y) (hyl : X.env.scope.names.lookup y = some .local)
    (hsw : swapsWith (.ListComp elt [⟨tg, iter, ifs, 0⟩] scope pos) (some (.Name y py)) spos.line X.env = pure true) (hi : PDI X T B M W tg iter it) (ok : BlkOk X.N X.env.scope scope own) (hv : (t.is.all fun i => (own.map (·.2)).contains i && !M.contains i) = true) (hM : (M.all fun i => !(own.map (·.2)).contains i) = true)
    (hg : ∀ (s : Shared) (H : Hp) (C : Addr) (cl : List (Str × Addr)) (fp : List Addr), PG (X.blk s H scope (compEnvC scope cl C X.env) fp) tg (t.h X.K)) (ht : ∀ (s : Shared) (H : Hp) (C : Addr) (cl : List (Str × Addr)) (fp : List Addr) B, PDTs (X.blk s H scope (compEnvC scope cl C X.env) fp) T B M noE ifs tt)
    (he : ∀ (s : Shared) (H : Hp) (C : Addr) (cl : List (Str × Addr)) (fp : List Addr) B, PD (X.blk s H scope (compEnvC scope cl C X.env) fp) T B M noE elt g) (hs : ∀ x, foldedSetIterable iter X.env x = pure x := by intro _; rfl) :
    PS X (.Assign [.Name y py] (.ListComp elt [⟨tg, iter, ifs, 0⟩] scope pos) spos) (fun J σ H => lE X.K T B M W (dLc (own.map (·.2)) it t.g tt g) σ H fun x H1 => J.nx (σ.set i (some x)) H1) := by
  obtain ⟨a1, a2, a3⟩ := lcM hv hM
  exact ps_imp (ps_setLc (te := lEx X.K T M noE g) (tt := lTx X.K T M noE tt) hc hN hy hyl hsw hi ok hg (fun s H C cl fp => pts_ex (ht s H C cl fp)) (fun s H C cl fp => pe_ex (he s H C cl fp)) hs) fun J σ H z =>
    lc_of (Q := fun x H1 => J.nx (σ.set i (some x)) H1) a1 a2 a3 z rfl rfl
theorem pds_setLc {i : Nat} {y : Str} {py spos : Pos} (hc : X.calm = true) (hN : X.N.Nodup) (hy : X.N[i]? = some y) (hyl : X.env.scope.names.lookup y = some .local) (hiM : i ∉ M)
    (hsw : swapsWith (.ListComp elt [⟨tg, iter, ifs, 0⟩] scope pos) (some (.Name y py)) spos.line X.env = pure true) (hi : PDI X T B M W tg iter it) (ok : BlkOk X.N X.env.scope scope own) (hv : (t.is.all fun i => (own.map (·.2)).contains i && !M.contains i) = true) (hM : (M.all fun i => !(own.map (·.2)).contains i) = true)
    (hg : ∀ (s : Shared) (H : Hp) (C : Addr) (cl : List (Str × Addr)) (fp : List Addr), PG (X.blk s H scope (compEnvC scope cl C X.env) fp) tg (t.h X.K)) (ht : ∀ (s : Shared) (H : Hp) (C : Addr) (cl : List (Str × Addr)) (fp : List Addr) B, PDTs (X.blk s H scope (compEnvC scope cl C X.env) fp) T B M noE ifs tt)
    (he : ∀ (s : Shared) (H : Hp) (C : Addr) (cl : List (Str × Addr)) (fp : List Addr) B, PD (X.blk s H scope (compEnvC scope cl C X.env) fp) T B M noE elt g) (hs : ∀ x, foldedSetIterable iter X.env x = pure x := by intro _; rfl) :
    PDS X T B M W (.Assign [.Name y py] (.ListComp elt [⟨tg, iter, ifs, 0⟩] scope pos) spos) (sAsg (gN i) (dLc (own.map (·.2)) it t.g tt g)) :=
  ps_imp (setLc_core hc hN hy hyl hsw hi ok hv hM hg ht he hs) fun J σ H ⟨F, ρ, Jd, S, h, k, _⟩ =>
    zaL S h fun F1 H1 ρ1 v r e1 S1 R1 q => k F1 H1 _ _ e1 (S1.putFz hiM R1) q
/-! ### a, b = x, y -/
theorem pds_par {i j : Nat} {x y : Str} {px py pt pt2 : Pos} {kt k2} (hc : X.calm = true) (hN : X.N.Nodup) (hi : X.N[i]? = some x) (hj : X.N[j]? = some y) (hij : i ≠ j) (hiM : i ∉ M) (hjM : j ∉ M)
    (hx : X.env.scope.names.lookup x = some .local) (hy : X.env.scope.names.lookup y = some .local) (ha : PDA X T B M W [a, b] [f, g])
    (hw : swappedStores [.Tuple [.Name x px, .Name y py] kt pt] (.Tuple [a, b] k2 pt2) X.env = pure (some [x, y]) := by rfl)
    (hs : swapsWithSole [.Tuple [.Name x px, .Name y py] kt pt] (.Tuple [a, b] k2 pt2) pos.line X.env = pure false := by rfl) :
    PDS X T B M W (.Assign [.Tuple [.Name x px, .Name y py] kt pt] (.Tuple [a, b] k2 pt2) pos) (sPar i j f g) :=
  ps_imp (ps_par hc hN hi hj hij hx hy ha hw hs) fun J σ H ⟨F, ρ, Jd, S, h, k, _⟩ => by
    refine lA_run (fs := [f, g]) (Qd := fun ds ρ2 => ∃ d d', ds = [d, d'] ∧ Jd.nx ((ρ2.set i (.fz d)).set j (.fz d'))) S ?_ fun F1 H1 ρ1 vs ds e1 S1 R1 h1 => ?_
    · refine (congrArg (fun z => f ρ z W) (funext fun r => funext fun ρ1 => congrArg (fun z => g ρ1 z W) (funext fun s => funext fun ρ2 => propext ⟨fun q => ⟨_, _, rfl, q⟩, fun ⟨d, d', e, q⟩ => ?_⟩))).mp h
      cases e
      exact q
    · obtain ⟨d, d', rfl, q⟩ := h1
      cases R1 with
      | cons r rs =>
        cases rs with
        | cons r' rs' =>
          cases rs'
          exact ⟨_, _, rfl, k F1 H1 _ _ e1 ((S1.putFz hiM r).putFz hjM r') q⟩
end
end DL

set_option Elab.async false
set_option linter.all false
set_option autoImplicit false
set_option maxRecDepth 100000
set_option maxHeartbeats 2000000
/-! DLE: own exception classes with one field, over several built-in bases. -/
namespace DLE
open PySem PySem.W PySem.Calls PyProof.Rows PySem.HandSPX Builtin Builtin.ObjectAttr
/-- what is asked of a built-in exception class -/
structure EB (B newId initId : String) (tail : List Value) : Prop where
  facts : ∃ bb, ExcBaseFacts B newId initId bb
  inB : tail.contains (.type B) = true
  inA : tail.contains (.type "AttributeError") = false
  inN : tail.contains (.type "NameError") = false
  pass : ∀ self, refuseLoop self "__setattr__" tail = pure ()
  obj : tail.contains (.type "object") = true
theorem eb_ValueError : EB "ValueError" "ValueError.__new__" "ValueError.__init__" [.type "ValueError", .type "Exception", .type "BaseException", .type "object"] := ⟨⟨_, F.excBase_ValueError⟩, by decide +kernel, by decide +kernel, by decide +kernel, fun self => by kernel_rfl, by decide +kernel⟩
theorem eb_OverflowError : EB "OverflowError" "OverflowError.__new__" "OverflowError.__init__" [.type "OverflowError", .type "ArithmeticError", .type "Exception", .type "BaseException", .type "object"] := ⟨⟨_, F.excBase_OverflowError⟩, by decide +kernel, by decide +kernel, by decide +kernel, fun self => by kernel_rfl, by decide +kernel⟩
/-! ### making an exception of an own class, whose base takes __new__ from a base of its own -/
section
variable {nm qn : Str} {C N : Addr} {bs tl bb : List Value} {hd : Bool} {sn : List Str} {sub : List Value} {ab : Bool} {col : Option Bool} {dd : Option Addr} {k0 k1 k2 k3 k5 : Option Value} {B nI iI : String}
theorem kx_check {M : Model} {A : Around} {E : Value → Shared → Prop} {hp : Heap} {g : Array GenState} {d : Drawn} {t : Nat} {os : OsState} (FF : ExcBaseFacts B nI iI bb) (cB : tl.contains (.type B) = true) {more : List Value} {Q : Unit → Shared → Prop}
    (cC : hp.get? C = some (excClassObj nm qn C N bs tl hd sn sub ab col dd k0 k1 k2 k3 k5 nI)) (fin : Q () ⟨hp, g, d, t, os⟩) : wpAny M A (checkBuiltinCall nI ⟨.ref C :: more, []⟩) Q E ⟨hp, g, d, t, os⟩ := by
  have c1 : (Value.ref C :: tl).contains (.type B) = true := by rw [List.contains_cons]; rw [cB]; rw [Bool.or_true]
  have st := FF.noStar
  simp only [checkBuiltinCall, FF.newRow, FF.newSplit, FF.newKind]
  repeat (first | (refine wpAny_isSubtype_exc cC ?_; rw [c1]) | refine wpAny_madeBy_exc cC ?_ | refine wpAny_loadPart_at cC ?_ | refine wpAny_staticBase_exc cC ?_ | simp only [bne_self_eq_false, if_false, Bool.false_eq_true] | wp_step)
  exact fin
variable {prog : Program} {w : World} {A : Around} {E : Value → Shared → Prop} {R : Result → Shared → Prop} {hp : Heap} {g : Array GenState} {d : Drawn} {t : Nat} {os : OsState}
theorem kx_new (FF : ExcBaseFacts B nI iI bb) (cB : tl.contains (.type B) = true) (cA : tl.contains (.type "AttributeError") = false) (cN : tl.contains (.type "NameError") = false) {more : List Value}
    (cC : hp.get? C = some (excClassObj nm qn C N bs tl hd sn sub ab col dd k0 k1 k2 k3 k5 nI))
    (fin : R (.ok (.ret (.ref (hp.objs.size + 1)))) ⟨(hp.push { cls := .type "tuple", data := .seq more.toArray }).push { cls := .ref C, data := .fields #[.ref hp.objs.size, .none, .none, .none, .bool false, .none] }, g, d, t, os⟩) (few : more.length ≤ sizeLine) :
    codeAny (model prog w) A (.builtin nI ⟨.ref C :: more, []⟩) R ⟨hp, g, d, t, os⟩ := by
  have en := FF.ends
  have c1 : (Value.ref C :: tl).contains (.type B) = true := by rw [List.contains_cons]; rw [cB]; rw [Bool.or_true]
  have c2 : (Value.ref C :: tl).contains (.type "AttributeError") = false := by rw [List.contains_cons]; rw [cA]; rfl
  have c3 : (Value.ref C :: tl).contains (.type "NameError") = false := by rw [List.contains_cons]; rw [cN]; rfl
  refine codeAny_builtinAt FF.entry ?_
  unfold «BaseException.__new__»
  refine PySem.wpAt_bind ?_
  show PySem.wpAt _ _ _ (stack >>= _) _ _ _
  refine PySem.wpAt_bind (PySem.wpAt_stack fun p1 p2 => PySem.wpAt_of_wpAny ?_)
  wp_walk
  refine PySem.wpAt_of_wpAny ?_
  rw [FF.owner]
  repeat (first | with_reducible refine wpAny_loadPart_at cC ?_ | with_reducible refine wpAny_madeHere_exc FF.canon cC ?_ | (with_reducible refine wpAny_isSubtype_exc cC ?_; first | rw [c1] | rw [c2] | rw [c3]) | wp_step)
  show R _ _
  rw [Heap.size_push]
  exact fin
theorem kx_tcall (FF : ExcBaseFacts B nI iI bb) (cB : tl.contains (.type B) = true) (cA : tl.contains (.type "AttributeError") = false) (cN : tl.contains (.type "NameError") = false) {more : List Value} {fI : Addr} {Q : Fin → Shared → Prop}
    (cC : hp.get? C = some (excClassObj nm qn C N bs tl hd sn sub ab col dd k0 k1 k2 k3 k5 nI))
    (li : W.Looks (model prog w) hp (typeLookup (.ref C) "__init__") (some (.ref fI))) (bi : ∀ self, W.Looks (model prog w) hp (bindSpecial (.ref fI) self) (.ref fI, [self])) (few : more.length ≤ sizeLine)
    (fin : codeAny (model prog w) A (.call (.ref fI) ⟨.ref (hp.objs.size + 1) :: more, []⟩) (fun r s' => match r with | .ok (.ret v) => v = .none ∧ Q (.done (.ret (.ref (hp.objs.size + 1)))) s' | .ok _ => False | .error e => E e s')
      ⟨(hp.push (W.kdv_tup more)).push (excO C hp.objs.size), g, d, t, os⟩) : wpAny (model prog w) A (Builtin.«type.__call__» ⟨.ref C :: more, []⟩) Q E ⟨hp, g, d, t, os⟩ := by
  repeat (first | with_reducible refine wpAny_madeBy_exc cC ?_ | with_reducible refine wpAny_loadPart_at cC ?_ | wp_step)
  refine codeAny_call_builtin_code (Code.quiet_builtin _ FF.quiet) (kx_check FF cB cC ?_)
  refine kx_new FF cB cA cN cC ?_ few
  show wpAny _ _ _ _ _ _
  have kk : ∀ b o, hp.get? b = some o → ((hp.push (W.kdv_tup more)).push (excO C hp.objs.size)).get? b = some o := fun b o e => Heap.get?_push_of_some _ (Heap.get?_push_of_some _ e)
  have cC2 := kk _ _ cC
  have got : ((hp.push (W.kdv_tup more)).push (excO C hp.objs.size)).get? (hp.objs.size + 1) = some (excO C hp.objs.size) := by heap_get
  have cc : (Value.ref C :: tl).contains (.ref C) = true := by simp
  have li2 := li.keeps kk
  have bi2 := (bi (.ref (hp.objs.size + 1))).keeps kk
  unfold isInstance
  repeat (first | (with_reducible refine wpAny_isSubtype_exc cC2 ?_; rw [cc]) | with_reducible refine wpAny_loadPart_at got ?_ | wp_step)
  show wpAny _ _ (typeLookup (.ref C) _) _ _ _
  refine li2.at ?_
  refine wpAny_holding (wpAny_bind (bi2.at ?_))
  refine wpAny_bind (wpAny_call (codeAny_mono fin fun r s' y => ?_))
  rcases r with e | (v | _ | _ | _) <;> first
    | exact y
    | exact False.elim y
    | skip
  obtain ⟨rfl, yy⟩ := y
  first
    | exact wpAny_pure (wpAny_pure yy)
    | (wp_walk; exact yy)
theorem kx_call (FF : ExcBaseFacts B nI iI bb) (cB : tl.contains (.type B) = true) (cA : tl.contains (.type "AttributeError") = false) (cN : tl.contains (.type "NameError") = false) {more : List Value} {fI : Addr}
    (cC : hp.get? C = some (excClassObj nm qn C N bs tl hd sn sub ab col dd k0 k1 k2 k3 k5 nI))
    (li : W.Looks (model prog w) hp (typeLookup (.ref C) "__init__") (some (.ref fI))) (bi : ∀ self, W.Looks (model prog w) hp (bindSpecial (.ref fI) self) (.ref fI, [self])) (few : more.length ≤ sizeLine)
    (fin : codeAny (model prog w) (A.under (.builtin "type.__call__" ⟨.ref C :: more, []⟩)) (.call (.ref fI) ⟨.ref (hp.objs.size + 1) :: more, []⟩) (W.InitBack (hp.objs.size + 1) R) ⟨(hp.push (W.kdv_tup more)).push (excO C hp.objs.size), g, d, t, os⟩) :
    codeAny (model prog w) A (.call (.ref C) ⟨more, []⟩) R ⟨hp, g, d, t, os⟩ := by
  have l1 := tc_lookup
  have l2 := tc_bind (.ref C)
  have ty : (⟨hp, g, d, t, os⟩ : Shared).TypeIs (.ref C) "type" := ⟨_, cC, rfl⟩
  refine codeAny_of_tree ?_
  show wpAny _ _ (callAny (.ref C) _) _ _ _
  repeat (any_goals (first | with_reducible refine wpAny_loadPart_at cC ?_ | assumption | wp_step))
  refine ⟨rfl, ?_⟩
  refine codeAny_call_builtin_at (Code.quiet_builtin _ (by decide +kernel)) entry_typeCall (wpAny_check_type_call_sub cC (kx_tcall FF cB cA cN cC li bi few ?_))
  refine codeAny_mono fin fun r s' y => ?_
  rcases r with e | (v | _ | _ | _) <;> exact y
end
/-- what the written part says of the class at C, and of its __init__, at fI -/
structure ETxt (K : Frag) (f : String) (newId initId B : String) (tail : List Value) (C fI : Addr) : Prop where
  eb : EB B newId initId tail
  fne : f ≠ "self" ∧ f ≠ "__debug__"
  bd : ∀ (qual : Str) (doc pm : Value) (an : Option Addr) (cdv ct : Value) (p1 p2 q1 q2 q3 q4 : Pos) (a b : Value), bindArgs (fnOf "__init__" qual (iA f p1 p2) (iB f q1 q2 q3 q4) (iS f) .none .none doc pm an cdv ct) ⟨[a, b], []⟩ = pure [(Str.ofString "self", a), (Str.ofString f, b)]
  cls : ∃ nm q N bs sn sub ab col dd k0 k1 k2 k3 k5, K.lookup C = some (excClassObj nm q C N bs tail true sn sub ab col dd k0 k1 k2 k3 k5 newId)
  sa : findIn K (.ref C) "__setattr__" = some (some (.builtin "object.__setattr__"))
  ga : findIn K (.ref C) "__getattribute__" = some (some (.builtin "BaseException.__getattribute__"))
  gg : findIn K (.ref C) "__getattr__" = some none
  noN : findIn K (.ref C) f = some none
  iC : findIn K (.ref C) "__init__" = some (some (.ref fI))
  tC : typeIn K (.ref fI) = some (.type "function")
  kC : keepIn K (.ref C) = true
  exC : subIn K (.ref C) (.type "BaseException") = some true
  tyC : typeIn K (.ref C) = some (.type "type")
  hdC : hasDictIn K C = true
  fn : ∃ (qual : Str) (oc : Value) (od : Option Addr) (doc pm : Value) (an : Option Addr) (cdv ct : Value) (osl : Array (Option Value)) (p1 p2 q1 q2 q3 q4 : Pos),
    K.lookup fI = some ⟨oc, od, .func (fnOf "__init__" qual (iA f p1 p2) (iB f q1 q2 q3 q4) (iS f) .none .none doc pm an cdv ct), osl⟩ ∧ codeIn K cdv qual = true
theorem one_size (v : Value) : [v].length ≤ sizeLine := by
  rw [sizeLine_eq]
  exact (by decide : 1 ≤ 16777216)
section
variable {prog : Program} {w : World} {A : Around} {E : Value → Shared → Prop} {R : Result → Shared → Prop} {hp : Heap} {g : Array GenState} {d : Drawn} {t : Nat} {os : OsState}
theorem osa_new {K : W.Frag} {name : Str} {tk : Tok} {v : Value} {x C : Addr} {fv : Array Value} {cd : ClassData} {B newId initId : String} {tail : List Value} (T : EB B newId initId tail)
    (X : K.In hp) (hx : hp.get? x = some { cls := .ref C, data := .fields fv }) (hcd : W.clsIn K C = some cd) (hm : cd.mro = .ref C :: tail) (hh : cd.hasDict = true) (ha : W.findIn K (.ref C) name = some none)
    (hq : ∀ h' tk' dx, (∀ b o, b ≠ x → hp.get? b = some o → h'.get? b = some o) → hp.objs.size ≤ dx → dx ≠ x → h'.get? x = some { cls := .ref C, dict := some dx, data := .fields fv } →
      h'.Ns1 dx (fun y => if y = name then some v else none) → R (.ok (.ret .none)) ⟨h', g, d, tk', os⟩) :
    codeAny (model prog w) A (.call (.builtin "object.__setattr__") ⟨[.ref x, .str name tk, v], []⟩) R ⟨hp, g, d, t, os⟩ := by
  have I : W.InstAt hp x { cls := .ref C, data := .fields fv } C none := ⟨hx, rfl, rfl, trivial⟩
  have SF := F.store_object
  have ne : cd.mro.isEmpty = false := by rw [hm]; rfl
  have hob : cd.mro.contains (.type "object") = true := by rw [hm, List.contains_cons, T.obj, Bool.or_true]
  have hxs : x ≠ hp.objs.size := Nat.ne_of_lt (Heap.lt_size hx)
  have sub : W.Looks (model prog w) hp (isInstance (.ref x) (.type "object")) true := I.type.andThen (W.looks_mroIn X (by unfold W.mroIn; rw [hcd, Option.bind_some, if_neg (by rw [ne]; decide), hob]))
  refine codeAny_call_builtin SF.slot.plain SF.entry (@W.check_slot (model prog w) _ _ ⟨hp, g, d, t, os⟩ "object.__setattr__" "object" "__setattr__" (.ref x) [.str name tk, v] [] _ SF.kind SF.split sub (SF.args (.ref x) (.str name tk) v) ?_)
  have hmr : W.Looks (model prog w) hp (mroOf (.ref C)) cd.mro := (W.looks_clsIn X hcd).andThen .now
  have L3 : W.Looks (model prog w) hp (storeTaker? none) none := .now
  have hcls : W.Looks (model prog w) hp (classData C) cd := W.looks_clsIn X hcd
  rw [W.osa_eq, refuse_eq]
  refine wpAny_bind (wpAny_bind (I.type.at (wpAny_bind (hmr.at ?_))))
  rw [hm, refuseLoop_ref, T.pass]
  refine wpAny_pure (wpAny_bind (I.type.at (wpAny_bind ((W.looks_findIn X ha).at (wpAny_bind (L3.at ?_))))))
  show wpAny _ _ (Builtin.ObjectAttr.storeInOwnDict (.ref x) (.ref C) (.str name tk) name v false) _ _ _
  obtain ⟨nm, bs, mro, ns, qn, hd, sn, sb, ab, col, del⟩ := cd
  dsimp only at hh
  subst hh
  unfold Builtin.ObjectAttr.storeInOwnDict Builtin.ObjectAttr.ownDictForStores
  repeat (first | with_reducible refine store_in_new ?_ ?_ | with_reducible refine wpAny_loadPart_at hx ?_ | with_reducible refine hcls.at ?_ | wp_step)
  · exact ⟨_, #[], _, (Heap.get?_update_ne _ _ _ _ hxs.symm).trans (Heap.get?_push_at rfl rfl), rfl, fun e he => absurd he (by simp), fun _ => rfl⟩
  · intro h' tk' hn' hs
    have hx₁ : (hp.push { cls := .type "dict", data := .dict #[] }).get? x = some { cls := .ref C, data := .fields fv } := Heap.get?_push_of_some _ hx
    refine hq h' tk' hp.objs.size (fun b o hb ho => ?_) (Nat.le_refl _) hxs.symm ?_ hn'
    · exact (hs.2 b (Nat.ne_of_lt (Heap.lt_size ho))).trans ((Heap.get?_update_ne _ _ _ _ hb).trans (Heap.get?_push_of_some _ ho))
    · exact (hs.2 x hxs).trans (Heap.get?_update_self _ hx₁ rfl)
end
theorem ldC {M : Model} {s : Shared} {name : Str} {scope : Scope} {L a : Addr} {cd : Value} {m : Str → Option Value} {x : Str} {pos : Pos} {v : Value} {Q : Value → Shared → Prop} {A : Around} {E : Value → Shared → Prop} (hn : s.heap.Ns L m) (hv : m x = some v) (h : Q v s)
    (hk : scope.kind = .function) (hl : (envOfC name scope L a cd).kindOf x = some .local) (hd : (x == ("__debug__" : Str)) = false) :
    wpAny M A (eval (.Name x pos) (envOfC name scope L a cd)) Q E s := wpAny_Name (wpAny_loadName_local hk hl hn hv h) hd
/-- what __init__ leaves of a fresh exception at x -/
structure InitEnd (f : Str) (h h' : Heap) (x C dx t1 : Addr) (v : Value) : Prop where
  keep : ∀ b o, b ≠ x → h.get? b = some o → h'.get? b = some o
  obj : h'.get? x = some { cls := .ref C, dict := some dx, data := .fields #[.ref t1, .none, .none, .none, .bool false, .none] }
  dbig : h.objs.size ≤ dx
  dne : dx ≠ x
  ns : h'.Ns1 dx (fun y => if y = f then some v else none)
structure OwnMade (f : Str) (h h' : Heap) (e C d : Addr) (v : Value) : Prop where
  keep : ∀ b o, h.get? b = some o → h'.get? b = some o
  new : h.objs.size ≤ e
  obj : ∃ oe vs, h'.get? e = some oe ∧ oe.cls = .ref C ∧ oe.dict = some d ∧ oe.data = .fields vs ∧ vs[1]? = some .none ∧ vs[2]? = some .none ∧ 4 < vs.size
  dbig : h.objs.size ≤ d
  dne : d ≠ e
  ns : h'.Ns1 d (fun y => if y = f then some v else none)
theorem str_ne {a b : String} (h : a ≠ b) : (Str.ofString a) ≠ Str.ofString b := fun e => h (by
  rw [Str.ofString_eq_toList, Str.ofString_eq_toList] at e
  have e2 : a.toList.map Char.toNat = b.toList.map Char.toNat := by
    have := congrArg (fun s => s.cps.toList) e
    simpa using this
  have e3 : a.toList = b.toList := by
    have inj : ∀ {l m : List Char}, l.map Char.toNat = m.map Char.toNat → l = m := by
      intro l
      induction l with
      | nil => intro m h; cases m with
        | nil => rfl
        | cons _ _ => cases h
      | cons c l ih =>
        intro m h
        cases m with
        | nil => cases h
        | cons c' m =>
          have h1 : c.toNat = c'.toNat := List.head_eq_of_cons_eq h
          have h2 := ih (List.tail_eq_of_cons_eq h)
          rw [h2, Char.toNat_inj.mp h1]
    exact inj e2
  exact String.toList_inj.mp e3)
section
variable {prog : Program} {w : World} {A : Around} {E : Value → Shared → Prop} {R : Result → Shared → Prop} {s : Shared} {K : Frag} {f B newId initId : String} {tail : List Value} {C fI : Addr}
theorem own_init (T : ETxt K f newId initId B tail C fI) {x t0 : Addr} {v : Value} (X : K.In s.heap) (hlim : s.heap.NoLimit) (hx : s.heap.get? x = some (excO C t0)) (hroom : A.depth < recursionLimit)
    (hq : ∀ h' tk dx, InitEnd f s.heap h' x C dx t0 v → R (.ok (.ret .none)) { s with heap := h', toks := tk }) :
    codeAny (model prog w) A (.call (.ref fI) ⟨[.ref x, v], []⟩) R s := by
  obtain ⟨qual, oc, od, doc, pm, an, cdv, ct, osl, p1, p2, q1, q2, q3, q4, ho, hcd⟩ := T.fn
  obtain ⟨nm, q, N, bs, sn, sub, ab, col, dd, k0, k1, k2, k3, k5, hC⟩ := T.cls
  have hcl : clsIn K C = some { name := nm, bases := bs, mro := .ref C :: tail, ns := N, qualname := q, hasDict := true, slotNames := sn, subclasses := sub, abstract := ab, collection := col, hasDel := false } := by unfold clsIn; rw [hC] <;> rfl
  have nfs : Str.ofString f ≠ Str.ofString "self" := str_ne T.fne.1
  have look_self : (iS f).names.lookup (Str.ofString "self") = some .local := by simp [iS, List.lookup]
  have look_f : (iS f).names.lookup (Str.ofString f) = some .local := by
    have : (Str.ofString f == Str.ofString "self") = false := by simpa using nfs
    simp [iS, List.lookup, this]
  have dbg : (Str.ofString f == ("__debug__" : Str)) = false := by
    have := str_ne T.fne.2
    simpa using this
  refine Att.call_fn (binds := [(Str.ofString "self", .ref x), (Str.ofString f, v)]) X hlim ho hcd hroom (BindsTo.of_eq (T.bd _ _ _ _ _ _ _ _ _ _ _ _ _ _)) (by simp [look_self, look_f]) (fun s₁ IC => ?_) rfl rfl rfl
  obtain ⟨h₁, tk₁, rfl⟩ := IC.toInCall.same
  have k : ∀ b o, s.heap.get? b = some o → h₁.get? b = some o := IC.toInCall.keep
  have hn := IC.toInCall.ns
  have hxL : s.heap.objs.size ≠ x := Nat.ne_of_gt (Heap.lt_size hx)
  have X₁ : K.In h₁ := X.keeps k
  have hx₁ := k _ _ hx
  have ks : (envOfC qual (iS f) s.heap.objs.size fI cdv).kindOf (Str.ofString "self") = some .local := look_self
  have kf : (envOfC qual (iS f) s.heap.objs.size fI cdv).kindOf (Str.ofString f) = some .local := look_f
  -- self.f = f
  show wpAny _ _ (execs _ _) _ _ _
  refine wpAny_execs_cons (plainObj_wpAny_Assign_Attribute ?_)
  refine ldC (v := v) hn ?_ (ldC (v := .ref x) hn ?_ ?_ rfl ks rfl) rfl kf dbg
  · unfold bindL
    rw [show bindL (envOfC qual (iS f) s.heap.objs.size fI cdv).kindOf [(Str.ofString f, v)] _ = _ from rfl]
    unfold bindL
    simp [kf, bindL]
  · unfold bindL
    simp [ks, kf, bindL, Ne.symm nfs]
  refine set_plain X₁ (ox := excO C t0) (od := none) ⟨hx₁, rfl, rfl, trivial⟩ T.sa ?_
  refine osa_new T.eb X₁ hx₁ hcl rfl rfl T.noN (fun h₃ tk₃ dx k₃ dn dne hx₃ hn₃ => ?_)
  show wpAny _ _ (execs _ _) _ _ _
  have z : s.heap.objs.size < h₁.objs.size := hn.lt
  exact wpAny_execs_nil (hq h₃ tk₃ dx ⟨fun b o hb e => k₃ b o hb (k b o e), hx₃, Nat.le_of_lt (Nat.lt_of_lt_of_le z dn), dne, hn₃⟩)
theorem own_made (T : ETxt K f newId initId B tail C fI) {v : Value} (X : K.In s.heap) (hlim : s.heap.NoLimit) (hroom : A.depth + 1 < recursionLimit)
    (hq : ∀ h' tk e d, OwnMade f s.heap h' e C d v → R (.ok (.ret (.ref e))) { s with heap := h', toks := tk }) :
    codeAny (model prog w) A (.call (.ref C) ⟨[v], []⟩) R s := by
  obtain ⟨nm, q, N, bs, sn, sub, ab, col, dd, k0, k1, k2, k3, k5, hC⟩ := T.cls
  obtain ⟨hp, g, dr, tk, os⟩ := s
  have k : ∀ b o, hp.get? b = some o → ((hp.push (kdv_tup [v])).push (excO C hp.objs.size)).get? b = some o := fun b o e => Heap.get?_push_of_some _ (Heap.get?_push_of_some _ e)
  have hget : ((hp.push (kdv_tup [v])).push (excO C hp.objs.size)).get? (hp.objs.size + 1) = some (excO C hp.objs.size) := by heap_get
  obtain ⟨bb, FF⟩ := T.eb.facts
  refine kx_call FF T.eb.inB T.eb.inA T.eb.inN (X _ _ hC) (looks_findIn X T.iC) (fun self => bind_fn X self T.tC) (one_size v) ?_
  refine own_init (s := ⟨(hp.push (kdv_tup [v])).push (excO C hp.objs.size), g, dr, tk, os⟩) T (X.keeps k) (hlim.keeps k) hget ?_ fun h' tk' dx ⟨k', hx, dn, dne, hns⟩ => ?_
  · show A.depth + 1 < recursionLimit
    exact hroom
  · have old : ∀ b o, hp.get? b = some o → h'.get? b = some o := fun b o e => k' b o (Nat.ne_of_lt (Nat.lt_succ_of_lt (Heap.lt_size e))) (k b o e)
    have z : hp.objs.size + 1 + 1 ≤ dx := by
      first
        | (simpa only [Heap.size_push] using dn)
        | exact dn
        | (have q := dn; rw [Heap.size_push, Heap.size_push] at q; exact q)
    exact ⟨rfl, hq h' tk' (hp.objs.size + 1) dx ⟨old, Nat.le_succ _, ⟨_, _, hx, rfl, rfl, rfl, rfl, rfl, (by decide : (4 : Nat) < 6)⟩, Nat.le_trans (Nat.le_trans (Nat.le_succ _) (Nat.le_succ _)) z, dne, hns⟩⟩
end
end DLE

set_option Elab.async false
set_option linter.all false
set_option autoImplicit false
set_option maxRecDepth 100000
set_option maxHeartbeats 1000000
/-! DLZ: exceptions in the air: of those whose class is cold the context is known to be None. -/
namespace DL
open PySem PySem.Spec PyProof.Rows L2
/-- a class whose exceptions are raised where nothing is handled -/
def coldK (K : PySem.W.Frag) : Value → Bool
  | .ref C => match PySem.W.clsIn K C with
    | some cd => cd.name != "ParseError"
    | none => true
  | _ => true
/-- behind a call that let an exception out: both of the kit's forms -/
def CZ (K : PySem.W.Frag) (P : Program) (w : World) : CXT := fun outer H s E u s' =>
  L2N.CX P w outer H s (fun c d H' => coldK K c = true ∧ E c d H') u s' ∨ L2.CX P w outer H s (fun c d H' => coldK K c = false ∧ E c d H') u s'
structure Takes (X : Cx) (W : WX) : Prop where
  n : L2N.Takes X (fun c d σ H => coldK X.K c = true ∧ W c d σ H)
  z : L2.Takes X (fun c d σ H => coldK X.K c = false ∧ W c d σ H)
section
variable {X : Cx} {W W' : WX} {E : XK}
theorem Takes.imp (t : Takes X W) (h : ∀ c d σ H, W' c d σ H → W c d σ H) : Takes X W' :=
  ⟨L2N.Takes.imp t.n fun c d σ H q => ⟨q.1, h _ _ _ _ q.2⟩, L2.Takes.imp t.z fun c d σ H q => ⟨q.1, h _ _ _ _ q.2⟩⟩
theorem takes_of (hs : X.stack = X.env :: X.outer) (hf : X.env.frame = some X.env.locals) (hex : X.ex = []) {E₁ : Value → Shared → Prop}
    (hx : X.xe = fun e s' => wpAny (model X.prog X.w) X.A (leaving X.env e) (fun _ s'' => CZ X.K X.prog X.w X.outer X.H_0 X.s_0 E e s'') E₁ s') : Takes X (fun cls d _ H => E cls d H) := by
  refine ⟨fun u s' x => ?_, fun u s' x => ?_⟩
  · rw [hx]
    exact thn (L2N.XE.leave (E := fun c d H' => coldK X.K c = true ∧ E c d H') hs hf hex (fun _ _ _ _ h => h) x) fun _ _ z => .inl z
  · rw [hx]
    exact thn (L2.XE.leave (E := fun c d H' => coldK X.K c = false ∧ E c d H') hs hf hex (fun _ _ _ _ h => h) x) fun _ _ z => .inr z
theorem passAt (tk : Takes X W) (σ : L2.St) : PassesAt (CZ X.K X.prog X.w) X σ (WE W σ) := fun pins H s e s' I c => by
  rcases c with c | c
  · exact L2N.passAt tk.n σ pins H s e s' I c
  · exact L2.passAt tk.z σ pins H s e s' I c
end
end DL

set_option Elab.async false
set_option linter.all false
set_option autoImplicit false
set_option maxRecDepth 100000
/-! DLX9: raise; calls of defs; a def by its body. -/
namespace DL
open PySem PySem.Spec PyProof.Rows L2
theorem relO_f {f : Str} {v : V} {v' : Value} (r : RelV v v') (y : Str) : RelO (List.lookup y [(f, v)]) (if y = f then some v' else none) := by
  by_cases hw : y = f
  · subst hw
    rw [if_pos rfl]
    have q : List.lookup y [(y, v)] = some v := by simp [List.lookup]
    rw [q]
    exact r
  · rw [if_neg hw]
    have qw : (y == f) = false := by simpa using hw
    have q2 : List.lookup y [(f, v)] = none := by simp [List.lookup, qw]
    rw [q2]
    trivial
section
variable {X : Cx} {C fI : Addr} {f B newId initId : String} {tail : List Value}
/-- C(e), an own exception -/
def tMkE (C : Addr) (f : Str) (ta : TA) : L2.St → Hp → XK → Prop := fun σ H Q => ta σ H fun vs H1 => ∃ v, vs = [v] ∧ ∀ d, H1 d = none → Q (.ref C) (some d) (upd H1 d (.xd [(f, v)]))
theorem pmk_own5 {a : Expr} {ta : TA} {x : Str} {p pos : Pos}  (T : DLE.ETxt X.K f newId initId B tail C fI) (hr : X.A.depth + 1 < recursionLimit) (ha : PA X [a] ta) (hg : Gl X x) (hm : X.mg x = some (.ref C)) (hdb : (x == ("__debug__" : Str)) = false := by decide)
    (he : starEach (a :: []) X.env = (false, eval a X.env) :: starEach [] X.env := by rfl) (hpl : (backTo pos (starEach [] X.env)).any (·.1) = false := by rfl) :
    L2H.PMk5 X (.Call (.Name x p) [a] [] pos) (tMkE C f ta) := by
  intro pins s σ H Q I h
  refine wpAny_Call_Name_kw (ld_glob I hg hm ?_ hdb)
  refine PySem.W.callWith_K (h₀ := X.base) I.ok.mod.kin T.kC (thn (ha.run pos pins s σ H _ I h) fun us s1 hh => ?_) he hpl
  obtain ⟨vs, H1, I1, r1, v, ev, q1⟩ := hh
  subst ev
  refine ⟨I1.kIn, ?_⟩
  cases r1 with
  | cons rv rn =>
    rename_i v' us'
    cases rn
    show wpAny _ _ (call (.ref C) [v']) _ _ _
    have hlim := I1.nolimit
    obtain ⟨hp, g, dr, tk, os⟩ := s1
    refine wpAny_call (DLE.own_made T I1.kIn hlim hr fun h' tk' e d M => ?_)
    show L2N.MkP X pins σ Q (.ref e) ⟨h', g, dr, tk', os⟩ ∧ L2H.Six (.ref e) ⟨h', g, dr, tk', os⟩
    obtain ⟨oe, fv, hoe, hc, hd, hdat, h1, h2, hz⟩ := M.obj
    have hns := M.ns
    obtain ⟨G', g1, g2⟩ := restrict h' fun b => decide (b ≠ e)
    have gk : ∀ b, b ≠ e → G'.get? b = h'.get? b := fun b hb => g1 b (decide_eq_true hb)
    have ge : G'.get? e = none := g2 e (by simp)
    have old : ∀ b o, hp.get? b = some o → G'.get? b = some o := fun b o q => (gk b (Nat.ne_of_lt (Nat.lt_of_lt_of_le (Heap.lt_size q) M.new))).trans (M.keep b o q)
    have ob : ObjOk X.prog X.w (upd H1 d (.xd [(Str.ofString f, v)])) G' d (.xd [(Str.ofString f, v)]) :=
      ⟨_, hns.at (fun o q => (gk d M.dne).trans q), fun f => relO_f rv f⟩
    have J : Inv X pins σ (upd H1 d (.xd [(Str.ofString f, v)])) ⟨G', g, dr, tk', os⟩ := I1.laid (t' := tk') old M.dbig ob
    refine ⟨⟨e, oe, fv, ⟨G', g, dr, tk', os⟩, _, .ref C, some d, rfl, J, fun b o q => ?_, ge, hoe, ⟨hc, hd, fun vs z => by rw [hdat] at z; cases z; exact h2⟩, hdat, h1, ?_, rfl, I1.bare, raises_own T.exC T.tyC, q1 d (I1.hok.fresh M.dbig)⟩, fun a2 o2 v2 ea hg2 hd2 => ?_⟩
    · by_cases hb : b = e
      · have q' : G'.get? b = some o := q
        rw [hb, ge] at q'; cases q'
      · exact (gk b hb).symm.trans q
    · rw [upd_ne (Ne.symm M.dne)]
      exact I1.hok.fresh M.new
    · cases ea
      have hg3 : h'.get? e = some o2 := hg2
      rw [hoe] at hg3
      cases hg3
      rw [hdat] at hd2
      cases hd2
      exact hz
theorem pmk_zc {e : Expr} {t : L2.St → Hp → XK → Prop} (h : L2N.PMk X e t) : L2.PMk X e t := fun pins s σ H Q I q => thn (h pins s σ H Q I q) fun _ _ ⟨a, oe, vs, sI, H', cls, d, e, J, k, n, g, z, r⟩ => ⟨a, oe, vs, sI, H', cls, d, e, J, k, n, g, z.zc, r⟩
/-- n.f, n the exception that the suite holds (at a; its class cls, its dict d) -/
def tByE (C : Addr) (f : Str) (a : Addr) (cls : Value) (d : Option Addr) (te : TE) : TE := fun σ H Q => te σ H fun x H1 => x = .ref a ∧ cls = .ref C ∧ ∃ (dd : Addr) (v : V), d = some dd ∧ H1 dd = some (.xd [(f, v)]) ∧ Q v H1
end
section
variable {X : Cx} {T : Tb} {B : Bs} {M : List Nat} {W : EK} {F H : Hp} {ρ : Env} {σ : L2.St}
theorem pds_raise {f newId initId Bn : String} {tail : List Value} {C fI : Addr} {c : Nat} {a : Expr} {g : DE} {x : Str} {p pos pos2 : Pos} {k : Nat} (hc : X.calm = true) (tk : Takes X (lW X.K T B M W)) (ET : DLE.ETxt X.K f newId initId Bn tail C fI) (hT : T.ex c = some ⟨C, Str.ofString f⟩) (hr : Room k X.A) (ha : PD X T B M W a g) (hg : Gl X x) (hm : X.mg x = some (.ref C)) (hdb : (x == ("__debug__" : Str)) = false := by decide)
    (he : starEach (a :: []) X.env = (false, eval a X.env) :: starEach [] X.env := by rfl) (hpl : (backTo pos (starEach [] X.env)).any (·.1) = false := by rfl) : PDS X T B M W (.Raise (some (.Call (.Name x p) [a] [] pos)) none pos2) (sRaise c g) :=
  by
  have mk := pmk_own5 (p := p) ET (by have := hr.dp; omega) (pa_cons ha pa_nil he) hg hm hdb he hpl
  have go : ∀ (P : Value → Prop), P (.ref C) → ∀ (J : Ends) (σ : L2.St) (H : Hp), lS X.K T B M W (sRaise c g) J σ H → tMkE C (Str.ofString f) (tCons (lE X.K T B M W g) tNil) σ H fun cls d H' => P cls ∧ lW X.K T B M W cls d σ H' := fun P hP J σ H ⟨F, ρ, Jd, S, h, _⟩ => by
    refine zaL S h fun F1 H1 ρ1 v r e1 S1 R1 q => ?_
    refine ⟨v, rfl, fun d hd => ?_⟩
    have S2 := S1.lay (o := .xd [(Str.ofString f, v)]) hd
    have su : Same F1 (upd F1 d (.xd [(Str.ofString f, v)])) := same_upd (S1.sub.free hd)
    have S3 := S2.settle (S1.sub.free hd) upd_same (.inl (S1.gone hd)) (S1.lay_new hd)
    exact ⟨hP, _, ρ1, ⟨c, r.d⟩, S3, ⟨_, d, v, hT, rfl, rfl, upd_same, R1.mono su⟩, q⟩
  cases hcold : coldK X.K (.ref C) with
  | true => exact ps_imp (L2N.ps_raise hc tk.n mk.pmk) fun J σ H z => go (fun cls => coldK X.K cls = true) hcold J σ H z
  | false => exact ps_imp (L2.ps_raise hc tk.z (pmk_zc mk.pmk)) fun J σ H z => go (fun cls => coldK X.K cls = false) hcold J σ H z
end
end DL

set_option Elab.async false
set_option linter.all false
set_option autoImplicit false
set_option maxRecDepth 100000
/-! DLG: defs whose callers show no repr (no guard stands on the stack). -/
namespace DL
open PySem PySem.Spec PyProof.Rows L2
/-- room for k levels of calls (one frame each, and room to spare at the end) -/
structure RoomN (k : Nat) (A : Around) : Prop where
  hd : A.handled = none
  dp : A.depth + k + 60 < recursionLimit
  un : A.units + 16 * k + 440 < cLine
/-- room for k levels of calls, and no guard -/
structure RoomG (k : Nat) (A : Around) : Prop where
  rn : RoomN k A
  gd : A.guards = some []
namespace RoomN
variable {k : Nat} {A : Around}
theorem mono {j : Nat} (r : RoomN k A) (h : j ≤ k) : RoomN j A := ⟨r.hd, by have := r.dp; omega, by have := r.un; omega⟩
theorem deeper (r : RoomN (k + 1) A) (env : PySem.Env) : RoomN k (A.deeper env) := ⟨r.hd, by have := r.dp; show A.depth + 1 + k + 60 < _; omega, by have := r.un; show A.units + 3 + 16 * k + 440 < _; omega⟩
theorem depth (r : RoomN k A) : A.depth < recursionLimit := by have := r.dp; omega
theorem in1 (r : RoomN (k + 1) A) : RoomN k A.in1 := ⟨r.hd, by have := r.dp; show A.depth + k + 60 < _; omega, by have := r.un; show A.units + 1 + 16 * k + 440 < _; omega⟩
end RoomN
namespace RoomG
variable {k : Nat} {A : Around}
theorem rm (r : RoomG k A) : Room 15 A := ⟨r.rn.hd, by have := r.rn.dp; omega, by have := r.rn.un; omega⟩
theorem mono {j : Nat} (r : RoomG k A) (h : j ≤ k) : RoomG j A := ⟨r.rn.mono h, r.gd⟩
theorem deeper (r : RoomG (k + 1) A) (env : PySem.Env) : RoomG k (A.deeper env) := ⟨r.rn.deeper env, r.gd⟩
theorem un0 (r : RoomG k A) : A.units + 200 < cLine := by have := r.rm.un; omega
theorem units (r : RoomG k A) : A.units + 64 < cLine := r.rm.units
end RoomG
/-- a def's promise where no guard stands -/
structure FnG (P : Program) (w : World) (K : PySem.W.Frag) (mg : Str → Option Value) (base : Heap) (CX : CXT) (k : Nat) (f : Addr) (fd : FuncData) (ps : List Str) (sp : Sp) : Prop where
  len : ∀ vs H Q E, sp vs H Q E → vs.length = ps.length
  run : ∀ (A : Around) (outer : List PySem.Env) (s : Shared) (H : Hp) (args : Args) (us : List Value) (vs : List V) (Q : VK) (E : XK), RoomG k A → Env0 P w K mg base A outer s H →
    BindsTo s fd args (ps.zip us) → Vals vs us → sp vs H Q E → codeAny (model P w) A (.call (.ref f) args) (CR CX outer P w H s Q E) s
section
variable {P : Program} {w : World} {K : PySem.W.Frag} {mg : Str → Option Value} {base : Heap} {CX : CXT} {k : Nat} {f : Addr} {fd : FuncData} {ps : List Str} {sp sp' : Sp}
theorem FnG.imp (G : FnG P w K mg base CX k f fd ps sp) (h : ∀ vs H Q E, sp' vs H Q E → sp vs H Q E) : FnG P w K mg base CX k f fd ps sp' where
  len vs H Q E q := G.len vs H Q E (h _ _ _ _ q)
  run A outer s H args us vs Q E hr e0 hb hv hs := G.run A outer s H args us vs Q E hr e0 hb hv (h _ _ _ _ hs)
theorem FnG.of (G : FnOk P w K mg base CX k f fd ps sp) (hk : k ≤ 15 := by decide) : FnG P w K mg base CX k f fd ps sp where
  len := G.len
  run A outer s H args us vs Q E hr := G.run A outer s H args us vs Q E (hr.rm.mono hk)
theorem fnG_of {x qual : Str} {st : Stmt} {N : List Str} (Fn : Fun K x qual st f fd) (S : FnScope N ps (defScope st)) (len : ∀ vs H Q E, sp vs H Q E → vs.length = ps.length)
    (hbody : ∀ (cdv : Value), fd.code = cdv → ∀ (A : Around) (outer : List PySem.Env) (s : Shared) (H : Hp) (vs : List V) (Q : VK) (E : XK), RoomG k (A.deeper (envOfC qual (defScope st) s.heap.objs.size f cdv)) → sp vs H Q E →
      ∃ t, PSs (cxOf (CZ K P w) P w K mg base N qual (defScope st) f cdv A outer s H E) (defBody st) t ∧ t { nx := fun _ H' => Q .non H', rt := Q } (start N vs) H) : FnG P w K mg base (CZ K P w) (k + 1) f fd ps sp := by
  obtain ⟨oc, od, kV, doc, pm, an, cdv, ct, osl, rfl, lk, hcd⟩ := Fn.ex
  refine ⟨len, fun A outer s H args us vs Q E hr e0 hb r hsp => ?_⟩
  refine StX.run_bnd (G := fun vs' H' => vs' = vs ∧ H' = H) lk hcd S (show Room (14 + 1) A from hr.rm) e0 (fun A' Ex Q' h => ?_) fun s2 H2 vs2 g hr2 => ?_
  · exact hb _ _ _ _ (h s H vs us e0 Un.refl rfl (fun e s' z => z) r (len _ _ _ _ hsp) ⟨rfl, rfl⟩)
  · obtain ⟨rfl, rfl⟩ := g
    exact hbody cdv rfl A outer s2 H2 vs2 Q E (hr.deeper _) hsp
end
section
variable {X : Cx} {CX : CXT} {k : Nat} {f : Addr} {fd : FuncData} {ps : List Str} {sp : Sp} {E : L2.St → XK} {x : Str} {p pos : Pos} {e : Expr} {es : List Expr} {t : TA} {σ : L2.St} {H : Hp}
theorem run_fnG {pins : List (Addr × Obj)} {s : Shared} {Q : VK} {us : List Value} {vs : List V} (G : FnG X.prog X.w X.K X.mg X.base CX k f fd ps sp) (hr : RoomG k X.A) (hb : Binds X.K fd ps []) (hx : PassesAt CX X σ (E σ))
    (I : Inv X pins σ H s) (r : Vals vs us) (h : sp vs H Q (E σ)) : wpAny (model X.prog X.w) X.A (call (.ref f) us) (EP X pins σ Q) X.xe s := by
  have hl := G.len _ _ _ _ h
  rw [r.length] at hl
  have bd := hb s us I.kIn (by simpa using hl)
  simp only [List.append_nil] at bd
  refine wpAny_call (codeAny_mono (G.run X.A X.stack s H ⟨us, []⟩ us vs Q (E σ) hr I.env0 bd r h) fun res s' z => ?_)
  match res, z with
  | .error e, z => exact hx pins H s e s' I z
  | .ok (.ret u), z => exact I.after z
theorem pe_callG (G : FnG X.prog X.w X.K X.mg X.base CX k f fd ps sp) (hr : RoomG k X.A) (hg : Gl X x) (hm : X.mg x = some (.ref f)) (hk : PySem.W.keepIn X.K (.ref f) = true) (hb : Binds X.K fd ps []) (hx : ∀ σ, PassesAt CX X σ (E σ))
    (ha : PA X (e :: es) t) (hdb : (x == ("__debug__" : Str)) = false := by decide) (he : starEach (e :: es) X.env = (false, eval e X.env) :: starEach es X.env := by rfl) (hpl : (backTo pos (starEach es X.env)).any (·.1) = false := by rfl) :
    PE X (.Call (.Name x p) (e :: es) [] pos) (tCallS sp E t) where
  run pins s σ H Q I h := by
    refine wpAny_Call_Name_kw (ld_glob I hg hm (PySem.W.callWith_K (h₀ := X.base) I.ok.mod.kin hk (thn (ha.run pos pins s σ H _ I h) ?_) he hpl) hdb)
    rintro us s1 ⟨vs, H1, I1, r, q⟩
    exact ⟨I1.kIn, run_fnG G hr hb (hx σ) I1 r q⟩
end
end DL

set_option Elab.async false
set_option linter.all false
set_option autoImplicit false
set_option maxRecDepth 100000
/-! DLX10: calls of defs; a def by its body. -/
namespace DL
open PySem PySem.Spec PyProof.Rows L2
section
variable (K : PySem.W.Frag) (T : Tb)
/-- an argument as it is handed in -/
def ArgOk (F H : Hp) (v : V) : Slot → Prop
  | .no => True
  | .fz d => Rep K T F v d
  | .own d => ∃ p o, v = .ref p ∧ F p = none ∧ H p = some o ∧ RepO K T F o d ∧ tupB o = false
  | .ownT d => ∃ p o, v = .ref p ∧ F p = none ∧ H p = some o ∧ TreeO K T F H o d ∧ (p :: footO o d).Nodup ∧ tupB o = false
theorem ArgOk.slot {F H : Hp} {v : V} {s : Slot} (h : ArgOk K T F H v s) : SlotOk K T F H (some (some v)) s := by
  cases s with
  | no => trivial
  | fz d => exact ⟨v, rfl, h⟩
  | own d => obtain ⟨p, o, rfl, z⟩ := h; exact ⟨p, o, rfl, z⟩
  | ownT d => obtain ⟨p, o, rfl, z⟩ := h; exact ⟨p, o, rfl, z⟩
theorem ArgOk.of {F H : Hp} {v : V} {s : Slot} (h : SlotOk K T F H (some (some v)) s) : ArgOk K T F H v s := by
  cases s with
  | no => trivial
  | fz d => obtain ⟨v', e, z⟩ := h; cases e; exact z
  | own d => obtain ⟨p, o, e, z⟩ := h; cases e; exact ⟨p, o, rfl, z⟩
  | ownT d => obtain ⟨p, o, e, z⟩ := h; cases e; exact ⟨p, o, rfl, z⟩
/-- the objects that are handed in to be changed -/
def OwnI (H : Hp) (vs : List V) (args : List Slot) (i : Nat) (b : Addr) : Prop := ∃ v s, vs[i]? = some v ∧ args[i]? = some s ∧ b ∈ foot H (some (some v)) s
def OwnA (H : Hp) (vs : List V) (args : List Slot) (b : Addr) : Prop := ∃ i, OwnI H vs args i b
/-- behind a call -/
structure Aft (M : List Nat) (F H : Hp) (vs : List V) (args : List Slot) (F' H' : Hp) (outs : List Slot) : Prop where
  same : Same F F'
  sub : SmB H (OwnA H vs args) F' H'
  keep : ∀ b o, H b = some o → ¬ OwnA H vs args b → (∀ ps, o ≠ .tbl ps) → H' b = some o
  live : ∀ b o, H b = some o → ∃ o', H' b = some o'
  fnew : ∀ b o, F' b = some o → F b = some o ∨ H b = none ∨ OwnA H vs args b ∨ tupB o = true
  len : outs.length = args.length
  out : ∀ i ∈ M, ∀ v s, vs[i]? = some v → outs[i]? = some s → ArgOk K T F' H' v s
  outF : ∀ i ∈ M, ∀ b, OwnI H' vs outs i b → H b = none ∨ OwnI H vs args i b
  outJ : ∀ i ∈ M, ∀ j ∈ M, ∀ b, OwnI H' vs outs i b → OwnI H' vs outs j b → i = j
  tabs : TabsF T.tabs F' H'
/-- a result by itself -/
def RetC (M : List Nat) (vs : List V) (outs : List Slot) (F H H' : Hp) (v : V) : R → Prop
  | .fz d => Rep K T F v d
  | .fr d => ∃ p o, v = .ref p ∧ F p = none ∧ H' p = some o ∧ RepO K T F o d ∧ H p = none ∧ ∀ i ∈ M, ¬ OwnI H' vs outs i p
  | .ft d => ∃ p o, v = .ref p ∧ F p = none ∧ H' p = some o ∧ TreeO K T F H' o d ∧ (p :: footO o d).Nodup ∧ ∀ a ∈ p :: footO o d, H a = none ∧ ∀ i ∈ M, ¬ OwnI H' vs outs i a
/-- a def's promise, from its contract over data -/
def spC (n : Nat) (M : List Nat) (con : Con) : Sp := fun vs H Q E => ∃ F args Qc Ec, vs.length = n ∧ args.length = n ∧ (SmW F H ∧ TabsF T.tabs F H) ∧ (∀ (i : Nat) (v : V) (s : Slot), vs[i]? = some v → args[i]? = some s → ArgOk K T F H v s) ∧
  (∀ (i j : Nat) (p : Addr), OwnI H vs args i p → OwnI H vs args j p → i = j) ∧ (∀ (i : Nat) (p : Addr), OwnI H vs args i p → i ∈ M) ∧ con args Qc Ec ∧
  (∀ F' H' v r outs, Aft K T M F H vs args F' H' outs → RetC K T M vs outs F' H H' v r → Qc r outs → Q v H') ∧
  (∀ F' H' cls d x outs, Aft K T M F H vs args F' H' outs → ExR K T F' cls d x → Ec x outs → E cls d H')
end
/-- a def as callers know it -/
structure Def (P : Program) (w : World) (K : PySem.W.Frag) (mg : Str → Option Value) (base : Heap) (T : Tb) (k : Nat) (f : Addr) (fd : FuncData) (ps : List Str) (M : List Nat) (con : Con) : Prop where
  ok : FnG P w K mg base (CZ K P w) k f fd ps (spC K T ps.length M con)
  kp : PySem.W.keepIn K (.ref f) = true
section
variable {X : Cx} {T : Tb} {B : Bs} {M : List Nat} {W : EK} {F H : Hp} {ρ : Env} {σ : L2.St}
/-! ### arguments -/
def AVs (K : PySem.W.Frag) (T : Tb) (F : Hp) (σ : L2.St) : List V → List AV → Prop
  | [], [] => True
  | v :: vs, .v d :: as => Rep K T F v d ∧ AVs K T F σ vs as
  | v :: vs, .m i :: as => σ[i]? = some (some v) ∧ AVs K T F σ vs as
  | _, _ => False
theorem AVs.mono {K : PySem.W.Frag} {F' : Hp} (h : Same F F') : ∀ {vs : List V} {as : List AV}, AVs K T F σ vs as → AVs K T F' σ vs as
  | [], [], _ => trivial
  | _ :: _, .v _ :: _, q => ⟨q.1.mono h, AVs.mono h q.2⟩
  | _ :: _, .m _ :: _, q => ⟨q.1, AVs.mono h q.2⟩
  | [], _ :: _, q => q.elim
  | _ :: _, [], q => q.elim
/-- which arguments: m-slots as written, ref-like where the def may change -/
def AMatch : List DA → List AV → Prop
  | [], [] => True
  | .v _ :: as, .v _ :: bs => AMatch as bs
  | .r _ :: as, .v d :: bs => d.isRef = true ∧ AMatch as bs
  | .m i :: as, .m j :: bs => i = j ∧ AMatch as bs
  | .h _ k _ :: as, .m j :: bs => k = j ∧ AMatch as bs
  | _, _ => False
def lAV (K : PySem.W.Frag) (T : Tb) (B : Bs) (M : List Nat) (W : EK) (as : List DA) : TA := fun σ H Q => ∃ F ρ Qd, SR K T B M F H ρ σ ∧ dAVs as ρ Qd W ∧ ∀ F' H' ρ' vs bs, Same F F' → SR K T B M F' H' ρ' σ → AVs K T F' σ vs bs → AMatch as bs → Qd bs ρ' → Q vs H'
abbrev PDAV (X : Cx) (T : Tb) (B : Bs) (M : List Nat) (W : EK) (es : List Expr) (as : List DA) : Prop := PA X es (lAV X.K T B M W as)
variable {e : Expr} {es : List Expr} {f : DE} {as : List DA} {pos : Pos}
theorem pav_nil : PDAV X T B M W [] [] := pa_imp pa_nil fun σ H Q ⟨F, ρ, Qd, S, h, k⟩ => k F H ρ [] [] (Same.refl _) S trivial trivial h
theorem pav_v (he : PD X T B M W e f) (hr : PDAV X T B M W es as) (hs : starEach (e :: es) X.env = (false, eval e X.env) :: starEach es X.env := by rfl) : PDAV X T B M W (e :: es) (.v f :: as) :=
  pa_imp (pa_cons he hr hs) fun σ H Q ⟨F, ρ, Qd, S, h, k⟩ => by
    refine zaL S h fun F1 H1 ρ1 v1 r1 e1 S1 R1 h1 => ?_
    exact ⟨F1, ρ1, _, S1, h1, fun F2 H2 ρ2 vs bs e2 S2 R2 mt h2 => k F2 H2 ρ2 _ (.v r1.d :: bs) (e1.trans e2) S2 ⟨R1.mono e2, R2⟩ mt h2⟩
theorem SR.known {i : Nat} (S : SR X.K T B M F H ρ σ) (h : (ρ.at i).known = true) : ∃ v, σ[i]? = some (some v) := by
  have hs := S.slot i
  cases e : ρ.at i with
  | no => rw [e] at h; cases h
  | fz d => rw [e] at hs; obtain ⟨v, q, _⟩ := hs; exact ⟨v, q⟩
  | own d => rw [e] at hs; obtain ⟨p, o, q, _⟩ := hs; exact ⟨_, q⟩
  | ownT d => rw [e] at hs; obtain ⟨p, o, q, _⟩ := hs; exact ⟨_, q⟩
theorem pav_m {i : Nat} {x : Str} {px : Pos} (hN : X.N[i]? = some x) (hv : Vis X.env.scope x) (hr : PDAV X T B M W es as) (hs : starEach (Expr.Name x px :: es) X.env = (false, eval (.Name x px) X.env) :: starEach es X.env := by rfl) (hd : (x == ("__debug__" : Str)) = false := by decide) (hcd : (x == ("__classdict__" : Str)) = false := by decide) :
    PDAV X T B M W (.Name x px :: es) (.m i :: as) :=
  pa_imp (pa_cons (pe_var hN hv hd hcd) hr hs) fun σ H Q ⟨F, ρ, Qd, S, ⟨h0, h⟩, k⟩ => by
    obtain ⟨v, ev⟩ := S.known h0
    exact ⟨v, ev, F, ρ, _, S, h, fun F2 H2 ρ2 vs bs e2 S2 R2 mt h2 => k F2 H2 ρ2 _ (.m i :: bs) e2 S2 ⟨ev, R2⟩ ⟨rfl, mt⟩ h2⟩
/-! ### what a call leaves -/
theorem AVs.len {K : PySem.W.Frag} : ∀ {vs : List V} {bs : List AV}, AVs K T F σ vs bs → vs.length = bs.length
  | [], [], _ => rfl
  | _ :: _, .v _ :: _, q => congrArg (· + 1) (AVs.len q.2)
  | _ :: _, .m _ :: _, q => congrArg (· + 1) (AVs.len q.2)
  | [], _ :: _, q => q.elim
  | _ :: _, [], q => q.elim
theorem AVs.getV {K : PySem.W.Frag} : ∀ {vs : List V} {bs : List AV} {i : Nat} {v : V} {d : D}, AVs K T F σ vs bs → vs[i]? = some v → bs[i]? = some (.v d) → Rep K T F v d
  | v :: vs, .v d :: bs, 0, _, _, q, h1, h2 => by simp at h1 h2; subst h1; subst h2; exact q.1
  | v :: vs, .m j :: bs, 0, _, _, q, h1, h2 => by simp at h2
  | v :: vs, .v d :: bs, i + 1, _, _, q, h1, h2 => AVs.getV (i := i) q.2 (by simpa using h1) (by simpa using h2)
  | v :: vs, .m j :: bs, i + 1, _, _, q, h1, h2 => AVs.getV (i := i) q.2 (by simpa using h1) (by simpa using h2)
  | [], [], _, _, _, _, h1, _ => by simp at h1
  | [], _ :: _, _, _, _, q, _, _ => q.elim
  | _ :: _, [], _, _, _, q, _, _ => q.elim
theorem AVs.getM {K : PySem.W.Frag} : ∀ {vs : List V} {bs : List AV} {i j : Nat} {v : V}, AVs K T F σ vs bs → vs[i]? = some v → bs[i]? = some (.m j) → σ[j]? = some (some v)
  | v :: vs, .v d :: bs, 0, _, _, q, h1, h2 => by simp at h2
  | v :: vs, .m j :: bs, 0, _, _, q, h1, h2 => by simp at h1 h2; subst h1; subst h2; exact q.1
  | v :: vs, .v d :: bs, i + 1, _, _, q, h1, h2 => AVs.getM (i := i) q.2 (by simpa using h1) (by simpa using h2)
  | v :: vs, .m j :: bs, i + 1, _, _, q, h1, h2 => AVs.getM (i := i) q.2 (by simpa using h1) (by simpa using h2)
  | [], [], _, _, _, _, h1, _ => by simp at h1
  | [], _ :: _, _, _, _, q, _, _ => q.elim
  | _ :: _, [], _, _, _, q, _, _ => q.elim
def mslots (bs : List AV) : List Nat := bs.filterMap fun a => match a with | .m i => some i | _ => none
theorem mem_mslots {bs : List AV} {i j : Nat} (h : bs[i]? = some (.m j)) : j ∈ mslots bs := List.mem_filterMap.mpr ⟨_, List.mem_of_getElem? h, rfl⟩
theorem nodup_m : ∀ {bs : List AV} {i j a : Nat}, (mslots bs).Nodup → bs[i]? = some (.m a) → bs[j]? = some (.m a) → i = j
  | [], _, _, _, _, h, _ => by simp at h
  | .v d :: bs, 0, _, _, _, h, _ => by simp at h
  | .v d :: bs, _, 0, _, _, _, h => by simp at h
  | .v d :: bs, i + 1, j + 1, a, nd, h1, h2 => by
    have nd' : (mslots bs).Nodup := nd
    exact congrArg (· + 1) (nodup_m (i := i) (j := j) nd' (by simpa using h1) (by simpa using h2))
  | .m b :: bs, 0, 0, _, _, _, _ => rfl
  | .m b :: bs, 0, j + 1, a, nd, h1, h2 => by
    have e : b = a := by simpa using h1
    subst e
    have nd' : (b :: mslots bs).Nodup := nd
    exact absurd (mem_mslots (by simpa using h2)) (List.nodup_cons.mp nd').1
  | .m b :: bs, i + 1, 0, a, nd, h1, h2 => by
    have e : b = a := by simpa using h2
    subst e
    have nd' : (b :: mslots bs).Nodup := nd
    exact absurd (mem_mslots (by simpa using h1)) (List.nodup_cons.mp nd').1
  | .m b :: bs, i + 1, j + 1, a, nd, h1, h2 => by
    have nd' : (b :: mslots bs).Nodup := nd
    exact congrArg (· + 1) (nodup_m (i := i) (j := j) (List.nodup_cons.mp nd').2 (by simpa using h1) (by simpa using h2))
theorem AMatch.slots : ∀ {as : List DA} {bs : List AV}, AMatch as bs → mslots bs = as.filterMap DA.slot?
  | [], [], _ => rfl
  | .v _ :: as, .v _ :: bs, h => AMatch.slots (as := as) (bs := bs) h
  | .r _ :: as, .v _ :: bs, h => AMatch.slots (as := as) (bs := bs) h.2
  | .m i :: as, .m j :: bs, h => by
    obtain ⟨rfl, h⟩ := h
    show i :: mslots bs = i :: as.filterMap DA.slot?
    rw [AMatch.slots h]
  | .h _ i _ :: as, .m j :: bs, h => by
    obtain ⟨rfl, h⟩ := h
    show i :: mslots bs = i :: as.filterMap DA.slot?
    rw [AMatch.slots h]
  | .h _ _ _ :: _, [], h => h.elim
  | .h _ _ _ :: _, .v _ :: _, h => h.elim
  | [], _ :: _, h => h.elim
  | .v _ :: _, [], h => h.elim
  | .r _ :: _, [], h => h.elim
  | .m _ :: _, [], h => h.elim
  | .v _ :: _, .m _ :: _, h => h.elim
  | .r _ :: _, .m _ :: _, h => h.elim
  | .m _ :: _, .v _ :: _, h => h.elim
theorem AMatch.len : ∀ {as : List DA} {bs : List AV}, AMatch as bs → as.length = bs.length
  | [], [], _ => rfl
  | .v _ :: as, .v _ :: bs, h => congrArg (· + 1) (AMatch.len (as := as) (bs := bs) h)
  | .r _ :: as, .v _ :: bs, h => congrArg (· + 1) (AMatch.len (as := as) (bs := bs) h.2)
  | .m i :: as, .m j :: bs, h => congrArg (· + 1) (AMatch.len h.2)
  | .h _ _ _ :: as, .m j :: bs, h => congrArg (· + 1) (AMatch.len h.2)
  | .h _ _ _ :: _, [], h => h.elim
  | .h _ _ _ :: _, .v _ :: _, h => h.elim
  | [], _ :: _, h => h.elim
  | .v _ :: _, [], h => h.elim
  | .r _ :: _, [], h => h.elim
  | .m _ :: _, [], h => h.elim
  | .v _ :: _, .m _ :: _, h => h.elim
  | .r _ :: _, .m _ :: _, h => h.elim
  | .m _ :: _, .v _ :: _, h => h.elim
theorem AMatch.at_m : ∀ {as : List DA} {bs : List AV} {i j : Nat}, AMatch as bs → bs[i]? = some (.m j) → ∃ a, as[i]? = some a ∧ a.mut = true
  | .m a :: as, .m b :: bs, 0, j, h, e => ⟨_, rfl, rfl⟩
  | .h _ _ _ :: as, .m b :: bs, 0, j, h, e => ⟨_, rfl, rfl⟩
  | .h _ _ _ :: as, .m _ :: bs, i + 1, j, h, e => by simpa using AMatch.at_m (as := as) (bs := bs) (i := i) (j := j) h.2 (by simpa using e)
  | .h _ _ _ :: _, [], _, _, h, _ => h.elim
  | .h _ _ _ :: _, .v _ :: _, _, _, h, _ => h.elim
  | .v _ :: as, .v _ :: bs, 0, j, h, e => by simp at e
  | .r _ :: as, .v _ :: bs, 0, j, h, e => by simp at e
  | .v _ :: as, .v _ :: bs, i + 1, j, h, e => by simpa using AMatch.at_m (as := as) (bs := bs) (i := i) (j := j) h (by simpa using e)
  | .r _ :: as, .v _ :: bs, i + 1, j, h, e => by simpa using AMatch.at_m (as := as) (bs := bs) (i := i) (j := j) h.2 (by simpa using e)
  | .m _ :: as, .m _ :: bs, i + 1, j, h, e => by simpa using AMatch.at_m (as := as) (bs := bs) (i := i) (j := j) h.2 (by simpa using e)
  | [], [], _, _, _, e => by simp at e
  | [], _ :: _, _, _, h, _ => h.elim
  | .v _ :: _, [], _, _, h, _ => h.elim
  | .r _ :: _, [], _, _, h, _ => h.elim
  | .m _ :: _, [], _, _, h, _ => h.elim
  | .v _ :: _, .m _ :: _, _, _, h, _ => h.elim
  | .r _ :: _, .m _ :: _, _, _, h, _ => h.elim
  | .m _ :: _, .v _ :: _, _, _, h, _ => h.elim
theorem backA_len : ∀ (bs : List AV) (outs : List Slot) (ρ : Env), (backA bs outs ρ).length = ρ.length
  | [], _, _ => rfl
  | .m i :: bs, [], _ => rfl
  | .v _ :: bs, [], _ => rfl
  | .m i :: bs, s :: ss, ρ => by
    show (backA bs ss (ρ.set i s)).length = _
    rw [backA_len bs ss, List.length_set]
  | .v _ :: bs, _ :: ss, ρ => backA_len bs ss ρ
theorem backA_at : ∀ {bs : List AV} {outs : List Slot} {ρ : Env} {j : Nat}, outs.length = bs.length → ((∀ (i : Nat), bs[i]? ≠ some (AV.m j)) ∧ (backA bs outs ρ).at j = ρ.at j) ∨ (∃ (i : Nat), bs[i]? = some (AV.m j) ∧ outs[i]? = some ((backA bs outs ρ).at j)) ∨ (backA bs outs ρ).at j = .no
  | [], _, _, _, _ => .inl ⟨fun i h => by simp at h, rfl⟩
  | _ :: bs, [], _, _, h => by simp at h
  | .v _ :: bs, s :: ss, ρ, j, hl => by
    rcases backA_at (bs := bs) (outs := ss) (ρ := ρ) (j := j) (by simpa using hl) with ⟨h1, h2⟩ | ⟨i, h1, h2⟩ | h
    · refine .inl ⟨fun i => ?_, h2⟩
      cases i with
      | zero => simp
      | succ i => simpa using h1 i
    · exact .inr (.inl ⟨i + 1, by simpa using h1, by rw [List.getElem?_cons_succ]; exact h2⟩)
    · exact .inr (.inr h)
  | .m i :: bs, s :: ss, ρ, j, hl => by
    rcases backA_at (bs := bs) (outs := ss) (ρ := ρ.set i s) (j := j) (by simpa using hl) with ⟨h1, h⟩ | ⟨i', h1, h2⟩ | h
    · have e : (backA (.m i :: bs) (s :: ss) ρ).at j = Env.at (ρ.set i s) j := h
      by_cases hj : i = j
      · subst hj
        by_cases hlt : i < ρ.length
        · rw [Env.at_set_same hlt] at e
          exact .inr (.inl ⟨0, rfl, by rw [e]; rfl⟩)
        · have z : Env.at (ρ.set i s) i = .no := at_oob (by simpa using hlt)
          exact .inr (.inr (e.trans z))
      · rw [Env.at_set_ne hj] at e
        refine .inl ⟨fun i' => ?_, e⟩
        cases i' with
        | zero => intro z; simp at z; exact hj z
        | succ i' => simpa using h1 i'
    · exact .inr (.inl ⟨i' + 1, by simpa using h1, by rw [List.getElem?_cons_succ]; exact h2⟩)
    · exact .inr (.inr h)
theorem OwnI.arg {H : Hp} {σ : L2.St} {vs : List V} {bs : List AV} {K : PySem.W.Frag} {F : Hp} (R : AVs K T F σ vs bs) {i : Nat} {b : Addr} (h : OwnI H vs (bs.map (avSlot ρ)) i b) : ∃ j, bs[i]? = some (.m j) ∧ b ∈ foot H (σ[j]?) (ρ.at j) := by
  obtain ⟨v, s, h1, h2, h3⟩ := h
  rw [List.getElem?_map] at h2
  cases e : bs[i]? with
  | none => rw [e] at h2; cases h2
  | some a =>
    rw [e] at h2
    cases h2
    cases a with
    | v d => rw [show avSlot ρ (.v d) = Slot.fz d from rfl, foot_fz] at h3; simp at h3
    | m j => exact ⟨j, rfl, by rw [R.getM h1 e]; exact h3⟩
theorem SR.after {Mc : List Nat} {F' H' : Hp} {vs : List V} {bs : List AV} {outs : List Slot} (S : SR X.K T B M F H ρ σ) (R : AVs X.K T F σ vs bs) (hm : ∀ (i j : Nat), bs[i]? = some (.m j) → i ∈ Mc)
    (A : Aft X.K T Mc F H vs (bs.map (avSlot ρ)) F' H' outs) : SR X.K T B M F' H' (backA bs outs ρ) σ := by
  have hlen : outs.length = bs.length := by rw [A.len, List.length_map]
  have valAt : ∀ (i j : Nat), bs[i]? = some (.m j) → ∃ v, vs[i]? = some v ∧ σ[j]? = some (some v) := fun i j h => by
    have hi : i < bs.length := (List.getElem?_eq_some_iff.mp h).1
    have hv : i < vs.length := by rw [R.len]; exact hi
    exact ⟨_, List.getElem?_eq_getElem hv, R.getM (List.getElem?_eq_getElem hv) h⟩
  -- what is handed in to be changed is own
  have ownA : ∀ b, OwnA H vs (bs.map (avSlot ρ)) b → ∃ j, b ∈ foot H (σ[j]?) (ρ.at j) := fun b ⟨i, h⟩ => by
    obtain ⟨j, _, h⟩ := OwnI.arg R h
    exact ⟨j, h⟩
  -- names that were not handed in keep their objects
  have stay : ∀ j, (∀ (i : Nat), bs[i]? ≠ some (AV.m j)) → ∀ a ∈ foot H (σ[j]?) (ρ.at j), F' a = none ∧ H' a = H a := fun j hin a ha => by
    have nA : ¬ OwnA H vs (bs.map (avSlot ρ)) a := fun ⟨i, z⟩ => by
      obtain ⟨l, z1, z2⟩ := OwnI.arg R z
      exact hin i (by rw [z1, S.injF j l a ha z2])
    obtain ⟨f, o, e, m, _⟩ := S.priv ha
    refine ⟨?_, by rw [e]; exact A.keep a o e nA m⟩
    cases y : F' a with
    | none => rfl
    | some u =>
      rcases A.fnew a u y with r | r | r | r
      · rw [f] at r; cases r
      · rw [e] at r; cases r
      · exact absurd r nA
      · have w := A.sub.up y r
        rw [A.keep a o e nA m] at w
        cases w
        rw [S.notup ha e] at r
        cases r
  -- where a footprint behind the call comes from
  have back : ∀ j a, a ∈ foot H' (σ[j]?) ((backA bs outs ρ).at j) → ((∀ (i : Nat), bs[i]? ≠ some (AV.m j)) ∧ a ∈ foot H (σ[j]?) (ρ.at j)) ∨ ∃ i, bs[i]? = some (.m j) ∧ OwnI H' vs outs i a := fun j a ha => by
    rcases backA_at (bs := bs) (outs := outs) (ρ := ρ) (j := j) hlen with ⟨h1, q⟩ | ⟨i, h1, h2⟩ | q
    · rw [q, foot_eq fun b hb => (stay j h1 b hb).2] at ha
      exact .inl ⟨h1, ha⟩
    · obtain ⟨v, hv, hs⟩ := valAt i j h1
      rw [hs] at ha
      exact .inr ⟨i, h1, v, _, hv, h2, ha⟩
    · rw [q, foot_no] at ha; simp at ha
  refine ⟨S.sub.after A.sub A.fnew, fun b o e n m => ?_, fun b o e => ?_, S.f0.trans A.same, fun b o e => ?_, by rw [backA_len, S.len], fun j => ?_, fun j a ha => ?_, fun j k a e1 e2 => ?_, S.pin, A.tabs⟩
  · refine A.keep b o (S.keep b o e n m) (fun z => ?_) m
    obtain ⟨j, z1⟩ := ownA b z
    rcases S.newO z1 with q | q
    · rw [q] at e; cases e
    · exact n q
  · obtain ⟨o', e'⟩ := S.live b o e
    exact A.live b o' e'
  · rcases A.fnew b o e with q | q | q | q
    · exact S.fnew b o q
    · exact .inr (.inl (S.gone q))
    · obtain ⟨j, z1⟩ := ownA b q
      exact .inr ((S.newO z1).elim .inl fun z => .inr (.inl z))
    · exact .inr (.inr (.inr q))
  · rcases backA_at (bs := bs) (outs := outs) (ρ := ρ) (j := j) hlen with ⟨hin, q⟩ | ⟨i, h1, h2⟩ | q
    · rw [q]
      exact (S.slot j).mono A.same (stay j hin)
    · obtain ⟨v, hv, hs⟩ := valAt i j h1
      rw [hs]
      exact (A.out i (hm i j h1) v _ hv h2).slot
    · rw [q]; trivial
  · rcases back j a ha with ⟨_, q⟩ | ⟨i, h1, q⟩
    · exact S.newF j a q
    · rcases A.outF i (hm i j h1) a q with z | z
      · exact .inl (S.gone z)
      · obtain ⟨l, z1, z2⟩ := OwnI.arg R z
        rw [h1] at z1
        cases z1
        exact S.newF _ a z2
  · have excl : ∀ j k i, (∀ (i : Nat), bs[i]? ≠ some (AV.m j)) → a ∈ foot H (σ[j]?) (ρ.at j) → bs[i]? = some (.m k) → OwnI H' vs outs i a → False := fun j k i h1 q1 h2 q2 => by
      rcases A.outF i (hm i k h2) a q2 with z | z
      · exact (S.priv q1).ne z rfl
      · obtain ⟨l, z1, z2⟩ := OwnI.arg R z
        exact h1 i (by rw [z1, S.injF j l a q1 z2])
    rcases back j a e1 with ⟨h1, q1⟩ | ⟨i1, h1, q1⟩ <;> rcases back k a e2 with ⟨h2, q2⟩ | ⟨i2, h2, q2⟩
    · exact S.injF j k a q1 q2
    · exact (excl j k i2 h1 q1 h2 q2).elim
    · exact (excl k j i1 h2 q2 h1 q1).elim
    · have := A.outJ i1 (hm i1 j h1) i2 (hm i2 k h2) a q1 q2
      subst this
      rw [h1] at h2
      exact AV.m.inj (Option.some.inj h2)
/-! ### the call -/
/-- the def's arguments fit its places that may be changed -/
def fitA (as : List DA) (Mc : List Nat) : Bool := decide ((as.filterMap DA.slot?).Nodup) && (List.range as.length).all fun i => match as[i]? with
  | some a => a.mut == Mc.contains i
  | none => true
theorem fitA_of {as : List DA} {bs : List AV} {Mc : List Nat} (h : fitA as Mc = true) (m : AMatch as bs) : (mslots bs).Nodup ∧ ∀ (i j : Nat), bs[i]? = some (.m j) → i ∈ Mc := by
  unfold fitA at h
  rw [Bool.and_eq_true] at h
  refine ⟨by rw [m.slots]; exact of_decide_eq_true h.1, fun i j e => ?_⟩
  obtain ⟨a, h1, h2⟩ := m.at_m e
  have hi := (List.getElem?_eq_some_iff.mp h1).1
  have := List.all_eq_true.mp h.2 i (List.mem_range.mpr hi)
  rw [h1] at this
  simp only [h2, beq_iff_eq] at this
  simpa using this.symm
theorem call_of {con : Con} {as : List DA} {n : Nat} {Mc : List Nat} {H : Hp} {Q : VK} (hn : as.length = n) (hf : fitA as Mc = true) (h : lE X.K T B M W (dCall con as) σ H Q) :
    lAV X.K T B M W as σ H fun vs H1 => spC X.K T n Mc con vs H1 Q (WE (lW X.K T B M W) σ) := by
  obtain ⟨F, ρ, Qd, S, h, k⟩ := h
  refine ⟨F, ρ, _, S, h, fun F1 H1 ρ1 vs bs e1 S1 R1 mt q => ?_⟩
  obtain ⟨ok, q⟩ := q
  obtain ⟨nd, hm⟩ := fitA_of hf mt
  have hlen : vs.length = n := by rw [R1.len, ← mt.len, hn]
  have argAt : ∀ (i : Nat), (bs.map (avSlot ρ1))[i]? = (bs[i]?).map (avSlot ρ1) := fun i => by rw [List.getElem?_map]
  refine ⟨F1, bs.map (avSlot ρ1), _, _, hlen, by rw [List.length_map, ← mt.len, hn], ⟨S1.sub, S1.tabs⟩, fun i v s h1 h2 => ?_, fun i j p h1 h2 => ?_, fun i p h1 => ?_, q, fun F2 H2 v r outs A R q2 => ?_, fun F2 H2 cls d x outs A ex q2 => ?_⟩
  · rw [argAt] at h2
    cases e : bs[i]? with
    | none => rw [e] at h2; cases h2
    | some a =>
      rw [e] at h2
      cases h2
      cases a with
      | v d => exact R1.getV h1 e
      | m j =>
        have hs := S1.slot j
        rw [R1.getM h1 e] at hs
        exact ArgOk.of _ _ hs
  · obtain ⟨a, e1, f1⟩ := OwnI.arg R1 h1
    obtain ⟨b, e2, f2⟩ := OwnI.arg R1 h2
    have := S1.injF a b p f1 f2
    subst this
    exact nodup_m nd e1 e2
  · obtain ⟨a, e1, f1⟩ := OwnI.arg R1 h1
    exact hm i a e1
  · have S2 := S1.after R1 hm A
    refine k F2 H2 _ v r (e1.trans A.same) S2 ?_ q2
    have hlen2 : outs.length = bs.length := by rw [A.len, List.length_map]
    have nof : ∀ a, H1 a = none → (∀ i ∈ Mc, ¬ OwnI H2 vs outs i a) → ∀ j, a ∉ foot H2 (σ[j]?) ((backA bs outs ρ1).at j) := fun a ha hno j hj => by
      rcases backA_at (bs := bs) (outs := outs) (ρ := ρ1) (j := j) hlen2 with ⟨h1, y⟩ | ⟨i, y1, y2⟩ | y
      · have stay : ∀ b ∈ foot H1 (σ[j]?) (ρ1.at j), H2 b = H1 b := fun b hb => by
          obtain ⟨f, o, e, m, _⟩ := S1.priv hb
          rw [e]
          refine A.keep b o e (fun ⟨i, z⟩ => ?_) m
          obtain ⟨l, z1, z2⟩ := OwnI.arg R1 z
          exact h1 i (by rw [z1, S1.injF j l b hb z2])
        rw [y, foot_eq stay] at hj
        exact (S1.priv hj).ne ha rfl
      · have hi : i < bs.length := (List.getElem?_eq_some_iff.mp y1).1
        have hv : i < vs.length := by rw [R1.len]; exact hi
        have hs := R1.getM (List.getElem?_eq_getElem hv) y1
        rw [hs] at hj
        exact hno i (hm i j y1) ⟨_, _, List.getElem?_eq_getElem hv, y2, hj⟩
      · rw [y, foot_no] at hj; simp at hj
    cases r with
    | fz d => exact R
    | fr d =>
      obtain ⟨p, o, rfl, z1, z2, z3, z4, z5⟩ := R
      exact ⟨p, o, rfl, z1, z2, z3, S1.gone z4, nof p z4 z5⟩
    | ft d =>
      obtain ⟨p, o, rfl, z1, z2, z3, z4, z5⟩ := R
      exact ⟨p, o, rfl, z1, z2, z3, z4, fun a ha => ⟨S1.gone (z5 a ha).1, nof a (z5 a ha).1 (z5 a ha).2⟩⟩
  · exact ⟨F2, _, x, S1.after R1 hm A, ex, q2⟩
variable {k : Nat} {fa : Addr} {fd : FuncData} {ps : List Str} {Mc : List Nat} {con : Con} {x : Str} {p : Pos}
theorem pd_call (G : Def X.prog X.w X.K X.mg X.base T k fa fd ps Mc con) (hr : RoomG k X.A) (tk : Takes X (lW X.K T B M W)) (hg : Gl X x) (hm : X.mg x = some (.ref fa)) (hb : Binds X.K fd ps []) (ha : PDAV X T B M W (e :: es) as) (hn : as.length = ps.length := by rfl) (hf : fitA as Mc = true := by rfl)
    (hdb : (x == ("__debug__" : Str)) = false := by decide) (he : starEach (e :: es) X.env = (false, eval e X.env) :: starEach es X.env := by rfl) (hpl : (backTo pos (starEach es X.env)).any (·.1) = false := by rfl) :
    PD X T B M W (.Call (.Name x p) (e :: es) [] pos) (dCall con as) :=
  pe_imp (pe_callG G.ok hr hg hm G.kp hb (fun σ => passAt tk σ) ha hdb he hpl) fun σ H Q z => call_of hn hf z
/-! ### a def by its body -/
theorem start_at {N : List Str} {vs : List V} {i : Nat} {v : V} (h : vs[i]? = some v) : (L2.start N vs)[i]? = some (some v) := by
  have hi := (List.getElem?_eq_some_iff.mp h).1
  unfold L2.start
  rw [List.getElem?_append_left (by simpa using hi), List.getElem?_map, h]
  rfl
theorem startE_at {n : Nat} {args : List Slot} {i : Nat} : Env.at (startE n args) i = (args[i]?).getD .no := by
  unfold Env.at startE
  by_cases h : i < args.length
  · rw [List.getElem?_append_left h]
  · rw [List.getElem?_append_right (by omega), List.getElem?_eq_none (by omega : args.length ≤ i), List.getElem?_replicate]
    split <;> rfl
end
section
variable {P : Program} {w : World} {K : PySem.W.Frag} {mg : Str → Option Value} {base : Heap} {T : Tb}
/-- the context of a def's body -/
abbrev BX (P : Program) (w : World) (K : PySem.W.Frag) (mg : Str → Option Value) (base : Heap) (N : List Str) (qual : Str) (sc : Scope) (f : Addr) (cdv : Value) (A : Around) (outer : List PySem.Env) (s : Shared) (H : Hp) (E : XK) : Cx := cxOf (CZ K P w) P w K mg base N qual sc f cdv A outer s H E
theorem outsE_len : ∀ (n : Nat) (ρ : Env), (outsE n ρ).length = n
  | 0, _ => rfl
  | n + 1, [] => congrArg (· + 1) (outsE_len n [])
  | n + 1, _ :: ρ => congrArg (· + 1) (outsE_len n ρ)
theorem outsE_at : ∀ {n i : Nat} {ρ : Env}, i < n → (outsE n ρ)[i]? = some (ρ.at i)
  | n + 1, 0, [], _ => rfl
  | n + 1, 0, _ :: _, _ => rfl
  | n + 1, i + 1, [], h => by
    show (outsE n [])[i]? = _
    rw [outsE_at (by omega)]
    rfl
  | n + 1, i + 1, _ :: ρ, h => by
    show (outsE n ρ)[i]? = _
    rw [outsE_at (by omega)]
    rfl
theorem bodyD {code : Value → Prop} {qual : Str} {st : Stmt} {f : Addr} {N ps : List Str} {M : List Nat} {k : Nat} {body : DS} {con : Con} (S : FnScope N ps (defScope st)) (hM : (M.all fun i => decide (i < ps.length)) = true)
    (der : ∀ (cdv : Value), code cdv → ∀ (A : Around) (outer : List PySem.Env) (s : Shared) (H : Hp) (E : XK) (B : Bs) (W : EK), RoomG k (A.deeper (envOfC qual (defScope st) s.heap.objs.size f cdv)) → Takes (BX P w K mg base N qual (defScope st) f cdv A outer s H E) (lW K T B M W) →
      PassesOwn (model P w) (BX P w K mg base N qual (defScope st) f cdv A outer s H E).A (BX P w K mg base N qual (defScope st) f cdv A outer s H E).env (BX P w K mg base N qual (defScope st) f cdv A outer s H E).xe → (∀ k p, B.O1 k p → k ∈ M) →
      PDSs (BX P w K mg base N qual (defScope st) f cdv A outer s H E) T B M W (defBody st) body)
    (h : ∀ args Q E, args.length = ps.length → con args Q E → runD N.length body args Q E) :
    ∀ (cdv : Value), code cdv → ∀ (A : Around) (outer : List PySem.Env) (s : Shared) (H : Hp) (vs : List V) (Q : VK) (E : XK), RoomG k (A.deeper (envOfC qual (defScope st) s.heap.objs.size f cdv)) → spC K T ps.length M con vs H Q E →
      ∃ t, PSs (BX P w K mg base N qual (defScope st) f cdv A outer s H E) (defBody st) t ∧ t { nx := fun _ H' => Q .non H', rt := Q } (start N vs) H := by
  intro cdv hcode A outer s H vs Q E hr hsp
  obtain ⟨F0, args, Qc, Ec, hl, hal, ⟨hsame, htabs⟩, hargs, hinj, hown, hcon, hQ, hE⟩ := hsp
  have hpl : ps.length ≤ N.length := by have := congrArg List.length S.pre; rw [List.length_take] at this; omega
  let B : Bs := ⟨F0, H, OwnI H vs args, fun i => (vs[i]?).getD .non⟩
  have ft : ∀ i a, a ∈ foot H ((L2.start N vs)[i]?) (Env.at (startE N.length args) i) → OwnI H vs args i a := fun i a ha => by
    rw [startE_at] at ha
    by_cases hi : i < args.length
    · have hv : i < vs.length := by omega
      rw [start_at (List.getElem?_eq_getElem hv), List.getElem?_eq_getElem hi] at ha
      exact ⟨_, _, List.getElem?_eq_getElem hv, List.getElem?_eq_getElem hi, ha⟩
    · have z : args[i]? = none := List.getElem?_eq_none (by omega)
      rw [z, show (none : Option Slot).getD .no = .no from rfl, foot_no] at ha
      simp at ha
  have S0 : SR K T B M F0 H (startE N.length args) (L2.start N vs) := by
    refine ⟨hsame.start (fun a o e ⟨i, v, s, h1, h2, h3⟩ => absurd ((((hargs i v s h1 h2).slot).priv a h3).1.symm.trans e) (fun y => nomatch y)), fun b o e _ _ => e, fun b o e => ⟨o, e⟩, Same.refl _, fun b o e => .inl e, ?_, fun i => ?_, fun i a ha => .inr (ft i a ha), fun i j a h1 h2 => hinj i j a (ft i a h1) (ft j a h2), fun i hi => ?_, htabs⟩
    · unfold startE L2.start
      rw [List.length_append, List.length_append, List.length_map, List.length_replicate, List.length_replicate, hal, hl]
    · rw [startE_at]
      by_cases hi : i < args.length
      · rw [List.getElem?_eq_getElem hi]
        have hv : i < vs.length := by omega
        rw [start_at (List.getElem?_eq_getElem hv)]
        exact (hargs i _ _ (List.getElem?_eq_getElem hv) (List.getElem?_eq_getElem hi)).slot
      · have z : args[i]? = none := List.getElem?_eq_none (by omega)
        rw [z]
        trivial
    · have hi' : i < ps.length := of_decide_eq_true (List.all_eq_true.mp hM i hi)
      have hv : i < vs.length := by omega
      rw [start_at (List.getElem?_eq_getElem hv)]
      show _ = some (some ((vs[i]?).getD .non))
      rw [List.getElem?_eq_getElem hv]
      rfl
  have outI : ∀ {F' H' : Hp} {ρ' : Env} {σ' : L2.St}, SR K T B M F' H' ρ' σ' → ∀ i ∈ M, ∀ b, OwnI H' vs (outsE args.length ρ') i b → b ∈ foot H' (σ'[i]?) (ρ'.at i) := fun {F' H' ρ' σ'} S' i hi b ⟨v, s, h1, h2, h3⟩ => by
    have hi' : i < args.length := by rw [hal]; exact of_decide_eq_true (List.all_eq_true.mp hM i hi)
    rw [outsE_at hi'] at h2
    have hp := S'.pin i hi
    have hP : B.P i = v := by show (vs[i]?).getD .non = v; rw [h1]; rfl
    rw [hP] at hp
    rw [hp, Option.some.inj h2]
    exact h3
  have aft : ∀ {F' H' : Hp} {ρ' : Env} {σ' : L2.St}, SR K T B M F' H' ρ' σ' → Aft K T M F0 H vs args F' H' (outsE args.length ρ') := fun {F' H' ρ' σ'} S' => by
    refine ⟨S'.f0, S'.sub, S'.keep, S'.live, S'.fnew, ?_, fun i hi v s hv hs => ?_, fun i hi b hb => S'.newF i b (outI S' i hi b hb), fun i hi j hj b h1 h2 => S'.injF i j b (outI S' i hi b h1) (outI S' j hj b h2), S'.tabs⟩
    · exact outsE_len _ _
    · have hi' : i < args.length := by rw [hal]; exact of_decide_eq_true (List.all_eq_true.mp hM i hi)
      rw [outsE_at hi'] at hs
      have hs' : ρ'.at i = s := Option.some.inj hs
      have hp := S'.pin i hi
      have hP : B.P i = v := by show (vs[i]?).getD .non = v; rw [hv]; rfl
      rw [hP] at hp
      have sl := S'.slot i
      rw [hs', hp] at sl
      exact ArgOk.of _ _ sl
  have ret : ∀ {F' H' : Hp} {ρ' : Env} {σ' : L2.St} {v : V} {r : R}, SR K T B M F' H' ρ' σ' → RetV K T B F' H' ρ' σ' v r → RetC K T M vs (outsE args.length ρ') F' H H' v r := fun {F' H' ρ' σ' v r} S' R => by
    cases r with
    | fz d => exact R
    | fr d =>
      obtain ⟨p, o, z1, z2, z3, z4, z5, z6⟩ := R
      exact ⟨p, o, z1, z2, z3, z4, z5, fun i hi q => z6 i (outI S' i hi p q)⟩
    | ft d =>
      obtain ⟨p, o, z1, z2, z3, z4, z5, z6⟩ := R
      exact ⟨p, o, z1, z2, z3, z4, z5, fun a ha => ⟨(z6 a ha).1, fun i hi q => (z6 a ha).2 i (outI S' i hi a q)⟩⟩
  have hB : ∀ k p, B.O1 k p → k ∈ M := hown
  have body_ok := h args Qc Ec hal hcon
  have tk : Takes (BX P w K mg base N qual (defScope st) f cdv A outer s H E) (lW K T B M fun x ρ => Ec x (outsE args.length ρ)) :=
    Takes.imp (takes_of rfl rfl rfl rfl) fun c d σ' H' ⟨F', ρ', x, S', ex, q⟩ => hE F' H' c d x _ (aft S') ex q
  refine ⟨_, der cdv hcode A outer s H E B _ hr tk (passes_of rfl) hB, F0, _, _, S0, body_ok, fun F' H' ρ' σ' _ S' q => ?_, fun F' H' ρ' σ' v r _ S' R q => ?_, fun _ _ _ _ _ _ q => q, fun _ _ _ _ _ _ q => q⟩
  · exact hQ F' H' .non (.fz .non) _ (aft S') .non q
  · exact hQ F' H' v r _ (aft S') (ret S' R) q
theorem fnD {x qual : Str} {st : Stmt} {f : Addr} {fd : FuncData} {N ps : List Str} {M : List Nat} {k : Nat} {body : DS} {con : Con} (F : Fun K x qual st f fd) (S : FnScope N ps (defScope st)) (hM : (M.all fun i => decide (i < ps.length)) = true)
    (der : ∀ (cdv : Value), fd.code = cdv → ∀ (A : Around) (outer : List PySem.Env) (s : Shared) (H : Hp) (E : XK) (B : Bs) (W : EK), RoomG k (A.deeper (envOfC qual (defScope st) s.heap.objs.size f cdv)) → Takes (BX P w K mg base N qual (defScope st) f cdv A outer s H E) (lW K T B M W) →
      PassesOwn (model P w) (BX P w K mg base N qual (defScope st) f cdv A outer s H E).A (BX P w K mg base N qual (defScope st) f cdv A outer s H E).env (BX P w K mg base N qual (defScope st) f cdv A outer s H E).xe → (∀ k p, B.O1 k p → k ∈ M) →
      PDSs (BX P w K mg base N qual (defScope st) f cdv A outer s H E) T B M W (defBody st) body)
    (h : ∀ args Q E, args.length = ps.length → con args Q E → runD N.length body args Q E) : Def P w K mg base T (k + 1) f fd ps M con :=
  ⟨fnG_of F S (fun vs H Q E ⟨_, _, _, _, hl, _⟩ => hl) (bodyD S hM der h), F.kp⟩
end
end DL

set_option Elab.async false
set_option linter.all false
set_option autoImplicit false
set_option maxRecDepth 100000
/-! DLX11: built-in functions, methods of texts. -/
namespace DL
open PySem PySem.Spec PyProof.Rows L2
section
variable {X : Cx} {T : Tb} {B : Bs} {M : List Nat} {W : EK} {F H : Hp} {ρ : Env} {σ : L2.St}
variable {a b c e : Expr} {f g h : DE} {pos : Pos}
theorem repL1 {K : PySem.W.Frag} {vs : List V} {d : D} (r : RepL K T F vs [d]) : ∃ v, vs = [v] ∧ Rep K T F v d := by
  cases r with
  | cons r rs => cases rs; exact ⟨_, rfl, r⟩
theorem repL2 {K : PySem.W.Frag} {vs : List V} {d e : D} (r : RepL K T F vs [d, e]) : ∃ v w, vs = [v, w] ∧ Rep K T F v d ∧ Rep K T F w e := by
  cases r with
  | cons r rs =>
    obtain ⟨w, rfl, r2⟩ := repL1 rs
    exact ⟨_, w, rfl, r, r2⟩
/-! ### len -/
def rLen (X : Cx) : List V → Hp → VK → Prop := fun xs H Q => (∃ x n, xs = [x] ∧ LenV X.K x H n ∧ Q (.int n) H) ∨ (∃ a kvs, xs = [V.ref a] ∧ Rd H a (.dK kvs) ∧ Q (.int kvs.length) H) ∨ ∃ (a : Addr) (kvs : List (List Key × V)), xs = [V.ref a] ∧ Rd H a (.dT kvs) ∧ Q (.int kvs.length) H
theorem call_lenDR {X : Cx} : CallR X (.builtin "len") (fun xs H Q => ∃ a kvs, xs = [V.ref a] ∧ Rd H a (.dK kvs) ∧ Q (.int kvs.length) H) := by
  intro pins s σ H xs us Q I r h
  obtain ⟨a, kvs, rfl, ha, q⟩ := h
  obtain ⟨u, rfl, ru⟩ := vals1 r
  cases ru
  exact d_len I ha fun t s' I' => ⟨.int kvs.length, H, I', ⟨t, rfl⟩, q⟩
theorem call_lenTR {X : Cx} : CallR X (.builtin "len") (fun xs H Q => ∃ (a : Addr) (kvs : List (List Key × V)), xs = [V.ref a] ∧ Rd H a (.dT kvs) ∧ Q (.int kvs.length) H) := by
  intro pins s σ H xs us Q I r h
  obtain ⟨a, kvs, rfl, ha, q⟩ := h
  obtain ⟨u, rfl, ru⟩ := vals1 r
  cases ru
  obtain ⟨z, hd, ys, rel, dd⟩ := dt_rd I.hok ha
  have hl : kvs.length = ys.length := Paired.length rel
  refine call_len_dictH hd dd (by rw [← hl]; rw [sizeLine_eq] at z; omega) ?_
  rw [← hl]
  exact ⟨.int ((kvs.length : Nat) : Int), H, I.tok _, ⟨_, rfl⟩, q⟩
theorem call_lenA : CallR X (.builtin "len") (rLen X) := call_len.or (call_lenDR.or call_lenTR)
/-- a value's type; a dict with tuples as keys may be locked -/
inductive TyZ (K : PySem.W.Frag) (H : Hp) : V → Value → Prop where
  | x {v : V} {t : Value} (h : TyX K H v t) : TyZ K H v t
  | fT {a : Addr} {o : Obj} {kvs : List (List Key × V)} (e : H a = some (.frz o (.dT kvs))) : TyZ K H (.ref a) (.type "dict")
theorem TyZ.base {K : PySem.W.Frag} {H : Hp} {v : V} {t : Value} (h : TyOf K H v t) : TyZ K H v t := .x (.base h)
theorem TyZ.kList {K : PySem.W.Frag} {H : Hp} {a : Addr} {o : Obj} (e : K.lookup a = some o) (c : o.cls = .type "list") : TyZ K H (.ref a) (.type "list") := .x (.kList e c)
theorem TyZ.fDict {K : PySem.W.Frag} {H : Hp} {a : Addr} {o : Obj} {kvs : List (Key × V)} (e : H a = some (.frz o (.dK kvs))) : TyZ K H (.ref a) (.type "dict") := .x (.fDict e)
theorem tyX_dt {K : PySem.W.Frag} {H : Hp} {a : Addr} {kvs : List (List Key × V)} (h : Rd H a (.dT kvs)) : TyZ K H (.ref a) (.type "dict") := h.elim (fun e => .base (.dT e)) fun ⟨_, e⟩ => .fT e
theorem kit_ofZ {X : Cx} {pins : List (Addr × Obj)} {σ : L2.St} {H : Hp} {s : Shared} {x : V} {u t : Value} (I : Inv X pins σ H s) (rx : RelV x u) (ty : TyZ X.K H x t) : ∃ P : Heap → Prop, PySem.W.KitX X.K u t P ∧ P s.heap ∧ u ≠ .builtin "__main__.__loader__#opaque" := by
  cases ty with
  | x h => exact kit_of I rx h
  | @fT a ob kvs ea =>
    cases (show u = Value.ref a from rx)
    obtain ⟨_, _, _, m, _, o, es, ep, h1, h2, _⟩ := (show ObjOk X.prog X.w H s.heap a (.frz ob (.dT kvs)) from I.hok a _ ea)
    exact ⟨_, PySem.W.kitx_dict, ⟨o, h1, h2.1⟩, fun z => nomatch z⟩
def rIsZ (K : PySem.W.Frag) : List V → Hp → VK → Prop := fun xs H Q => ∃ (x c : V) (t u : Value) (b : Bool), xs = [x, c] ∧ ClsV c u ∧ TyZ K H x t ∧ PySem.W.kitOne K t u = some b ∧ Q (.bl b) H
theorem call_isZ {X : Cx} : CallR X (.builtin "isinstance") (rIsZ X.K) := by
  intro pins s σ H xs us Q I r h
  obtain ⟨x, c, t, u, b, rfl, k, ty, e, q⟩ := h
  obtain ⟨v1, v2, rfl, g1, g2⟩ := vals2 r
  cases k.eq g2
  obtain ⟨P, Z, p, hx⟩ := kit_ofZ I g1 ty
  exact PySem.W.kia_one Z I.kIn p e hx fun tk => ⟨.bl b, H, I.tok tk, rfl, q⟩
theorem tyX_dk {K : PySem.W.Frag} {H : Hp} {a : Addr} {kvs : List (Key × V)} (h : Rd H a (.dK kvs)) : TyZ K H (.ref a) (.type "dict") := h.elim (fun e => .base (.dK e)) fun ⟨_, e⟩ => .fDict e
theorem repKT_l {K : PySem.W.Frag} : ∀ {kvs : List (List Key × V)} {ds : List (List Ky × D)}, RepKT K T F kvs ds → kvs.length = ds.length
  | _, _, .nil => rfl
  | _, _, .cons _ _ r => congrArg (· + 1) (repKT_l r)
theorem ok_len : DL.FnR X.K T lenF (rLen X) := by
  intro F H vs ds k Q s r ho kk
  cases ds with
  | nil => exact ho.elim
  | cons x rest =>
    cases rest with
    | cons _ _ => exact ho.elim
    | nil =>
      obtain ⟨v, rfl, r1⟩ := repL1 r
      have ho : lenD x k := ho
      cases x with
      | str l =>
        obtain ⟨rfl, z⟩ := r1.str_inv
        exact .inl ⟨_, l.length, rfl, ⟨z.len, (tx_len l).symm⟩, kk _ _ _ (.fz (.int _)) ho⟩
      | lst xs =>
        obtain ⟨p, vs, rfl, hp, ra⟩ := r1.lst_inv
        exact .inl ⟨_, xs.length, rfl, .inl ⟨vs, .of (s _ _ hp), ra.length.symm⟩, kk _ _ _ (.fz (.int _)) ho⟩
      | tup xs =>
        obtain ⟨p, vs, rfl, hp, ra⟩ := r1.tup_inv
        exact .inl ⟨_, xs.length, rfl, .inr ⟨vs, .of (s _ _ hp), ra.length.symm⟩, kk _ _ _ (.fz (.int _)) ho⟩
      | frl xs =>
        obtain ⟨p, vs, rfl, hp, ra⟩ := r1.frl_inv
        exact .inl ⟨_, xs.length, rfl, .inl ⟨vs, s.seq hp, ra.length.symm⟩, kk _ _ _ (.fz (.int _)) ho⟩
      | dct kvs =>
        obtain ⟨p, vs, rfl, hp, ra⟩ := r1.dct_inv
        exact .inr (.inl ⟨p, vs, rfl, s.rd hp, by rw [ra.length]; exact kk _ _ _ (.fz (.int _)) ho⟩)
      | dcT kvs =>
        obtain ⟨p, vs, rfl, hp, ra⟩ := r1.dcT_inv
        exact .inr (.inr ⟨p, vs, rfl, s.rd hp, by rw [repKT_l ra]; exact kk _ _ _ (.fz (.int _)) ho⟩)
      | _ => exact ho.elim
/-! ### lists of one kind -/
theorem repL_bls {K : PySem.W.Frag} : ∀ {bs : List Bool} {vs : List V}, RepL K T F vs (bs.map D.bl) → vs = bs.map V.bl
  | [], _, .nil => rfl
  | b :: bs, _, .cons r rs => by rw [r.bl_inv, repL_bls rs]; rfl
theorem repL_ints {K : PySem.W.Frag} : ∀ {bs : List Int} {vs : List V}, RepL K T F vs (bs.map D.int) → vs = bs.map V.int
  | [], _, .nil => rfl
  | b :: bs, _, .cons r rs => by rw [r.int_inv, repL_ints rs]; rfl
theorem repL_strs {K : PySem.W.Frag} : ∀ {bs : List Tx} {vs : List V}, RepL K T F vs (bs.map D.str) → vs = (bs.map tx).map V.str ∧ ∀ x ∈ bs, okTx x
  | [], _, .nil => ⟨rfl, fun _ h => nomatch h⟩
  | b :: bs, _, .cons r rs => by
    obtain ⟨e, z⟩ := r.str_inv
    obtain ⟨e2, z2⟩ := repL_strs rs
    refine ⟨by rw [e, e2]; rfl, fun x hx => ?_⟩
    rcases List.mem_cons.mp hx with h | h
    · rw [h]; exact z
    · exact z2 x h
theorem ok_all : DL.FnR X.K T allF (rAll X.K) := by
  intro F H vs ds k Q s r ho kk
  unfold allF at ho
  split at ho
  · obtain ⟨bs, rfl, hk⟩ := ho
    obtain ⟨v, rfl, r1⟩ := repL1 r
    obtain ⟨p, us, rfl, hp, ra⟩ := r1.lst_inv
    exact ⟨p, bs, rfl, by rw [← repL_bls ra]; exact .of (s _ _ hp), kk _ _ _ (.fz (.bl _)) hk⟩
  · exact ho.elim
def rMaxA (X : Cx) : List V → Hp → VK → Prop := fun xs H Q => (∃ i j, xs = [.int i, .int j] ∧ Q (.int (if j > i then j else i)) H) ∨ rMax X.K xs H Q
def rMinA (X : Cx) : List V → Hp → VK → Prop := fun xs H Q => (∃ i j, xs = [.int i, .int j] ∧ Q (.int (if j < i then j else i)) H) ∨ rMin X.K xs H Q
theorem call_maxA (hc : X.calm = true) : CallR X (.builtin "max") (rMaxA X) := (call_max2 hc).or (cr_max hc)
theorem call_minA (hc : X.calm = true) : CallR X (.builtin "min") (rMinA X) := (call_min2 hc).or (cr_min hc)
theorem ok_max : DL.FnR X.K T maxF (rMaxA X) := by
  intro F H vs ds k Q s r ho kk
  unfold maxF at ho
  split at ho
  · obtain ⟨v, w, rfl, r1, r2⟩ := repL2 r
    exact .inl ⟨_, _, by rw [r1.int_inv, r2.int_inv], kk _ _ _ (.fz (.int _)) ho⟩
  · obtain ⟨ns, rfl, h0, hk⟩ := ho
    obtain ⟨v, rfl, r1⟩ := repL1 r
    obtain ⟨p, us, rfl, hp, ra⟩ := r1.lst_inv
    exact .inr ⟨p, ns, rfl, by rw [← repL_ints ra]; exact .of (s _ _ hp), h0, fun m h1 h2 => kk _ _ _ (.fz (.int _)) (hk m h1 h2)⟩
  · exact ho.elim
theorem ok_min : DL.FnR X.K T minF (rMinA X) := by
  intro F H vs ds k Q s r ho kk
  unfold minF at ho
  split at ho
  · obtain ⟨v, w, rfl, r1, r2⟩ := repL2 r
    exact .inl ⟨_, _, by rw [r1.int_inv, r2.int_inv], kk _ _ _ (.fz (.int _)) ho⟩
  · obtain ⟨ns, rfl, h0, hk⟩ := ho
    obtain ⟨v, rfl, r1⟩ := repL1 r
    obtain ⟨p, us, rfl, hp, ra⟩ := r1.lst_inv
    exact .inr ⟨p, ns, rfl, by rw [← repL_ints ra]; exact .of (s _ _ hp), h0, fun m h1 h2 => kk _ _ _ (.fz (.int _)) (hk m h1 h2)⟩
  · exact ho.elim
theorem ok_abs : DL.FnR X.K T absF (fun xs H Q => ∃ i, xs = [.int i] ∧ Q (.int (if i < 0 then -i else i)) H) := by
  intro F H vs ds k Q s r ho kk
  unfold absF at ho
  split at ho
  · obtain ⟨v, rfl, r1⟩ := repL1 r
    exact ⟨_, by rw [r1.int_inv], kk _ _ _ (.fz (.int _)) ho⟩
  · exact ho.elim
def rInt1 : List V → Hp → VK → Prop := fun xs H Q => (∃ i, xs = [.int i] ∧ Q (.int i) H) ∨ ∃ k, xs = [.bl k] ∧ Q (.int (if k then 1 else 0)) H
theorem ok_int : DL.FnR X.K T intF rInt1 := by
  intro F H vs ds k Q s r ho kk
  unfold intF at ho
  split at ho
  · obtain ⟨v, rfl, r1⟩ := repL1 r
    exact .inl ⟨_, by rw [r1.int_inv], kk _ _ _ (.fz (.int _)) ho⟩
  · obtain ⟨v, rfl, r1⟩ := repL1 r
    exact .inr ⟨_, by rw [r1.bl_inv], kk _ _ _ (.fz (.int _)) ho⟩
  · exact ho.elim
/-! ### isinstance -/
def Ty.name : Ty → String
  | .str => "str" | .int => "int" | .bool => "bool" | .list => "list" | .tuple => "tuple" | .dict => "dict"
theorem isi_of {K : PySem.W.Frag} {t : Ty} {d : D} {v : V} {b : Bool} (s : SmW F H) (r : Rep K T F v d) (h : d.isTy t = some b) : ∃ u, TyZ K H v (.type u) ∧ PySem.W.kitOne K (.type u) (.type t.name) = some b := by
  cases d with
  | non => rw [r.non_inv]; exact ⟨_, .base .non, by cases t <;> cases h <;> exact kit_ty (by decide +kernel)⟩
  | bl x => rw [r.bl_inv]; exact ⟨_, .base (.bl x), by cases t <;> cases h <;> exact kit_ty (by decide +kernel)⟩
  | int x => rw [r.int_inv]; exact ⟨_, .base (.int x), by cases t <;> cases h <;> exact kit_ty (by decide +kernel)⟩
  | str x => rw [r.str_inv.1]; exact ⟨_, .base (.str _), by cases t <;> cases h <;> exact kit_ty (by decide +kernel)⟩
  | lst x => obtain ⟨p, us, rfl, hp, ra⟩ := r.lst_inv; exact ⟨_, .base (.lst (s _ _ hp)), by cases t <;> cases h <;> exact kit_ty (by decide +kernel)⟩
  | tup x => obtain ⟨p, us, rfl, hp, ra⟩ := r.tup_inv; exact ⟨_, .base (.tup (s _ _ hp)), by cases t <;> cases h <;> exact kit_ty (by decide +kernel)⟩
  | dct x => obtain ⟨p, us, rfl, hp, ra⟩ := r.dct_inv; exact ⟨_, tyX_dk (s.rd hp), by cases t <;> cases h <;> exact kit_ty (by decide +kernel)⟩
  | obj c x => cases t <;> cases h
  | cls c => cases t <;> cases h
  | adr c => cases t <;> cases h
  | dcT x => obtain ⟨p, us, rfl, hp, ra⟩ := r.dcT_inv; exact ⟨_, tyX_dt (s.rd hp), by cases t <;> cases h <;> exact kit_ty (by decide +kernel)⟩
  | prt d => exact (not_rep_prt r).elim
  | frl x =>
    obtain ⟨p, us, rfl, hp, ra⟩ := r.frl_inv
    rcases s.seq hp with (h1 | ⟨o, h1⟩) | ⟨o, its, n, h1, h2, _⟩
    · exact ⟨_, .base (.lst h1), by cases t <;> cases h <;> exact kit_ty (by decide +kernel)⟩
    · exact ⟨_, .base (.frz h1), by cases t <;> cases h <;> exact kit_ty (by decide +kernel)⟩
    · exact ⟨_, .kList h1 h2, by cases t <;> cases h <;> exact kit_ty (by decide +kernel)⟩
theorem pd_isi {t : Ty} {tn : Str} {p p2 : Pos} (htn : bootBuiltins tn = some (.type t.name)) (hg : Gl X "isinstance") (hm : X.mg "isinstance" = none) (hgt : Gl X tn) (hmt : X.mg tn = none) (he : PD X T B M W e f) (hn : tn ≠ "__name__" := by decide) (hdb : (tn == ("__debug__" : Str)) = false := by decide)
    (h1 : starEach (e :: [.Name tn p2]) X.env = (false, eval e X.env) :: starEach [.Name tn p2] X.env := by rfl) (h2 : starEach [.Name tn p2] X.env = (false, eval (.Name tn p2) X.env) :: starEach [] X.env := by rfl) (hpl : (backTo pos (starEach [.Name tn p2] X.env)).any (·.1) = false := by rfl) :
    PD X T B M W (.Call (.Name "isinstance" p) [e, .Name tn p2] [] pos) (dIsi t f) :=
  pe_imp (pe_callB call_isZ hg hm (by decide +kernel) (pa_cons he (pa_cons (pe_bltn (v := .ty t.name) hgt hmt htn rfl hn hdb) pa_nil h2) h1) (by decide) (by decide) h1 hpl) fun σ H Q ⟨F, ρ, Qd, S, h, k⟩ => by
    refine zaL S h fun F1 H1 ρ1 v r e1 S1 R1 q => ?_
    obtain ⟨b, hb, q⟩ := q
    obtain ⟨u, h3, h4⟩ := isi_of S1.sub.toSmW R1 hb
    exact ⟨v, .ty t.name, .type u, .type t.name, b, rfl, .ty _, h3, h4, lE_end k e1 S1 (.fz (.bl b)) q⟩
/-! ### methods of texts -/
def MsR (K : PySem.W.Frag) (T : Tb) (op : Tx → List D → (R → Prop) → Prop) (r : V → List V → Hp → VK → Prop) : Prop :=
  ∀ F H a vs ds k Q, SmW F H → okTx a → RepL K T F vs ds → op a ds k → (∀ v H' t, NewR K T F H v H' t → k t → Q v H') → r (.str (tx a)) vs H Q
theorem pd_ms {name : Str} {id : String} {op : Tx → List D → (R → Prop) → Prop} {r : V → List V → Hp → VK → Prop} {es : List Expr} {fs : List DE} {apos : Pos} (ho : MsR X.K T op r) (slot : PySem.Slot "str" name id) (hty : typeOf (.builtin id) = pure (.type "method_descriptor")) (hm : MtR X id r) (he : PD X T B M W a f) (ha : PDA X T B M W (e :: es) fs)
    (hbase : attributeBase a name X.env (eval a X.env) = eval a X.env := by rfl)
    (hfew : ((backTo pos (starEach (e :: es) X.env)).all (fun x => !x.1) && (backToKw pos (keywordEach [] X.env)).all (fun x => x.1.isSome)
      && decide ((e :: es).length + ([] : List Keyword).length + (if ([] : List Keyword).isEmpty then 0 else 1) < 30)) = true := by rfl)
    (hline : (apos.endLine == pos.line) = true := by rfl) (hs : starEach (e :: es) X.env = (false, eval e X.env) :: starEach es X.env := by rfl) (hplain : (backTo pos (starEach es X.env)).any (·.1) = false := by rfl) :
    PD X T B M W (.Call (.Attribute a name apos) (e :: es) [] pos) (dMs op f fs) :=
  pe_imp (pe_bm PySem.F.plainAttrs_str slot hty hm he ha hbase hfew hline hs hplain) fun σ H Q ⟨F, ρ, Qd, S, h, k⟩ => by
    refine zaL S h fun F1 H1 ρ1 v r1 e1 S1 R1 q => ?_
    cases hd : r1.d with
    | str x =>
      rw [hd] at q R1
      obtain ⟨rfl, z⟩ := R1.str_inv
      refine ⟨rfl, lA_run S1 q fun F2 H2 ρ2 vs ds e2 S2 R2 q2 => ?_⟩
      exact ho F2 H2 x vs ds _ Q S2.sub.toSmW z R2 q2 fun v H' t n q3 => lE_end k (e1.trans e2) S2 n q3
    | _ => rw [hd] at q; exact q.elim
open TL in
theorem joinL_tx : ∀ (S : Tx) (ys : List Tx), joinL (tl (tx S)) ((ys.map tx).map tl) = joinT S ys
  | _, [] => rfl
  | _, [p] => by show tl (tx p) = p; exact tx_list p
  | S, p :: q :: r => by
    show tl (tx p) ++ (tl (tx S) ++ joinL (tl (tx S)) (((q :: r).map tx).map tl)) = p ++ (S ++ joinT S (q :: r))
    rw [joinL_tx S (q :: r)]
    show (tx p).cps.toList ++ ((tx S).cps.toList ++ _) = _
    rw [tx_list, tx_list]
open TL in
theorem join_tx (S : Tx) (ys : List Tx) : Txt.join (tx S) (ys.map tx) = tx (joinT S ys) := by
  rw [join_eq]
  apply ext_tl
  rw [tl_join, joinL_tx]
  exact (tx_list _).symm
theorem joinT_mem : ∀ {S : Tx} {ys : List Tx} {c : Nat}, c ∈ joinT S ys → c ∈ S ∨ ∃ y ∈ ys, c ∈ y
  | _, [], _, h => by cases h
  | _, [p], c, h => .inr ⟨p, List.mem_singleton.mpr rfl, h⟩
  | S, p :: q :: r, c, h => by
    have h : c ∈ p ++ (S ++ joinT S (q :: r)) := h
    rcases List.mem_append.mp h with h | h
    · exact .inr ⟨p, List.mem_cons_self, h⟩
    · rcases List.mem_append.mp h with h | h
      · exact .inl h
      · rcases joinT_mem h with h | ⟨y, h1, h2⟩
        · exact .inl h
        · exact .inr ⟨y, List.mem_cons_of_mem _ h1, h2⟩
theorem joinT_len : ∀ (S : Tx) (ys : List Tx), (joinT S ys).length ≤ (ys.map (·.length)).sum + ys.length * S.length
  | _, [] => Nat.zero_le _
  | _, [p] => by show p.length ≤ p.length + 0 + 1 * _; omega
  | S, p :: q :: r => by
    have ih := joinT_len S (q :: r)
    show (p ++ (S ++ joinT S (q :: r))).length ≤ (p.length + ((q :: r).map (·.length)).sum) + ((q :: r).length + 1) * S.length
    rw [List.length_append, List.length_append, Nat.add_mul]
    omega
theorem ok_join : MsR X.K T joinM (fun x xs H Q => ∃ a p, ∃ ys : List Str, x = .str a ∧ xs = [.ref p] ∧ (SqL X.K H p (ys.map V.str) ∨ SqT X.K H p (ys.map V.str)) ∧
    (ys.map (·.length)).sum + ys.length * a.length ≤ 16777216 ∧ Q (.str (Txt.join a ys)) H) := by
  intro F H a vs ds k Q s za r ho kk
  unfold joinM at ho
  split at ho
  · obtain ⟨ys, rfl, hz, hk⟩ := ho
    obtain ⟨v, rfl, r1⟩ := repL1 r
    obtain ⟨p, us, rfl, hp, ra⟩ := r1.lst_inv
    obtain ⟨e, z⟩ := repL_strs ra
    refine ⟨_, p, ys.map tx, rfl, rfl, .inl (by rw [← e]; exact .of (s _ _ hp)), ?_, ?_⟩
    · rw [List.map_map, List.length_map, tx_len]
      have : ((fun x : Str => x.length) ∘ tx) = fun x : Tx => x.length := by funext x; exact tx_len x
      rw [this]
      exact hz
    · rw [join_tx]
      refine kk _ _ _ (.fz (.str ⟨fun c hc => ?_, ?_⟩)) hk
      · rcases joinT_mem hc with h | ⟨y, h1, h2⟩
        · exact za.1 c h
        · exact (z y h1).1 c h2
      · rw [← maxTx_eq]; exact Nat.le_trans (joinT_len a ys) hz
  · exact ho.elim
theorem ew_tx (a b : Tx) : Txt.endswith (tx a) (tx b) = (decide (b.length ≤ a.length) && (a.drop (a.length - b.length) == b)) := by
  unfold Txt.endswith
  rw [StrLaws.subAt_eq, tx_list, tx_list, tx_len, tx_len]
  by_cases h : b.length ≤ a.length
  · rw [decide_eq_true (by omega : 0 + b.length ≤ a.length), decide_eq_true h, Bool.true_and, Bool.true_and]
    rw [List.take_of_length_le (by rw [List.length_drop]; omega)]
  · rw [decide_eq_false (by omega : ¬ 0 + b.length ≤ a.length), decide_eq_false h, Bool.false_and, Bool.false_and]
theorem ok_ew : MsR X.K T ewM (fun x xs H Q => ∃ a b, x = .str a ∧ xs = [.str b] ∧ Q (.bl (Txt.endswith a b)) H) := by
  intro F H a vs ds k Q s za r ho kk
  unfold ewM at ho
  split at ho
  · obtain ⟨v, rfl, r1⟩ := repL1 r
    refine ⟨_, _, rfl, by rw [r1.str_inv.1], ?_⟩
    rw [ew_tx]
    exact kk _ _ _ (.fz (.bl _)) ho
  · exact ho.elim
/-! ### * -/
def rMulS : R2 := fun x y H Q => ∃ a n, x = .str a ∧ y = .int n ∧ MulOk a n ∧ Q (.str (Txt.mul a n)) H
theorem op_mulS : OpR X (binaryOp .Mult) rMulS := by
  intro pins s σ H x y v u Q I rx ry h
  obtain ⟨a, n, rfl, rfl, ok, q⟩ := h
  obtain ⟨t, rfl⟩ := rx
  obtain ⟨t', rfl⟩ := ry
  exact SB.mul ok fun t2 k => ⟨.str _, H, I.tok k, ⟨t2, rfl⟩, q⟩
def rMulA (X : Cx) : R2 := fun x y H Q => rI CMul (fun i j => .int (i * j)) x y H Q ∨ rMulS x y H Q ∨ rRep x y H Q
theorem op_mulA : OpR X (binaryOp .Mult) (rMulA X) := op_mul.or (op_mulS.or op_rep)
theorem foldl_cps (x : Array Nat) : ∀ (n : Nat) (acc : Array Nat), (List.replicate n x).foldl (· ++ ·) acc = acc ++ ((List.replicate n x.toList).flatten).toArray
  | 0, acc => by simp
  | n + 1, acc => by
    rw [List.replicate_succ, List.foldl_cons, foldl_cps x n, List.replicate_succ, List.flatten_cons]
    apply Array.toList_inj.mp
    simp
theorem mul_tx (a : Tx) (n : Int) : Txt.mul (tx a) n = tx (List.replicate n.toNat a).flatten := by
  unfold Txt.mul
  by_cases h1 : n < 1
  · rw [if_pos h1]
    have : n.toNat = 0 := by omega
    rw [this]
    rfl
  · rw [if_neg h1]
    by_cases h2 : (n == 1 || (tx a).length == 0) = true
    · rw [if_pos h2]
      rw [Bool.or_eq_true] at h2
      rcases h2 with h | h
      · have : n = 1 := beq_iff_eq.mp h
        subst this
        show tx a = tx (List.replicate 1 a).flatten
        simp
      · have : a = [] := by
          have := (beq_iff_eq.mp h)
          rw [tx_len] at this
          exact List.eq_nil_of_length_eq_zero this
        subst this
        have : (List.replicate n.toNat ([] : Tx)).flatten = [] := by simp
        rw [this]
    · rw [if_neg h2, foldl_cps]
      unfold tx
      simp
theorem okTx.rep {a : Tx} (h : okTx a) {n : Nat} (hl : a.length * n ≤ zaK) : okTx (List.replicate n a).flatten := by
  refine ⟨fun c hc => ?_, ?_⟩
  · obtain ⟨y, h1, h2⟩ := List.mem_flatten.mp hc
    rw [(List.mem_replicate.mp h1).2] at h2
    exact h.1 c h2
  · rw [List.length_flatten, List.map_replicate, List.sum_replicate_nat, ← maxTx_eq, Nat.mul_comm]
    exact hl
theorem repL_rep {K : PySem.W.Frag} {vs : List V} {xs : List D} (h : RepL K T F vs xs) : ∀ n : Nat, RepL K T F (List.replicate n vs).flatten (List.replicate n xs).flatten
  | 0 => .nil
  | n + 1 => by
    rw [List.replicate_succ, List.replicate_succ, List.flatten_cons, List.flatten_cons]
    exact h.append (repL_rep h n)
theorem mulOk_of {a : Tx} {n : Int} (h1 : -(2 ^ 62) ≤ n) (h2 : n < 2 ^ 62) (h3 : a.length * n.toNat ≤ zaK) : MulOk (tx a) n := by
  refine ⟨?_, fun hn _ => ?_, fun hn _ => ?_⟩
  · rw [decide_eq_false (by omega), decide_eq_false (by omega)]; decide
  · rw [tx_len]
    have hn' : 0 < n := by omega
    have : ((a.length : Int)) * n ≤ 16777216 := by
      have e : (n.toNat : Int) = n := Int.toNat_of_nonneg (by omega)
      have : ((a.length * n.toNat : Nat) : Int) ≤ 16777216 := Int.ofNat_le.mpr h3
      rw [Int.natCast_mul, e] at this
      exact this
    have : (a.length : Int) ≤ (2 ^ 63 - 1) / n := (Int.le_ediv_iff_mul_le hn').mpr (by omega)
    omega
  · rw [tx_len]
    have e : PySem.Builtin.Str.tooLong (a.length * n.toNat) = decide (a.length * n.toNat > sizeLine) := by
      unfold PySem.Builtin.Str.tooLong
      rfl
    rw [e, decide_eq_false]
    rw [← maxTx_eq]
    omega
theorem ok_mul : OpOk X.K T mulD (rMulA X) := by
  intro F H x y dx dy k Q s rx ry ho kk
  unfold mulD at ho
  split at ho
  · exact .inl ⟨_, _, rx.int_inv, ry.int_inv, ho.1, kk _ _ _ (.fz (.int _)) ho.2⟩
  · obtain ⟨ex, z⟩ := rx.str_inv
    refine .inr (.inl ⟨_, _, ex, ry.int_inv, mulOk_of ho.1.1 ho.1.2.1 ho.1.2.2, ?_⟩)
    rw [mul_tx]
    exact kk _ _ _ (.fz (.str (z.rep ho.1.2.2))) ho.2
  · obtain ⟨p, us, rfl, hp, ra⟩ := rx.lst_inv
    refine .inr (.inr ⟨p, _, us, rfl, ry.int_inv, s _ _ hp, by omega, by omega, by rw [ra.length, ← maxTx_eq]; exact ho.1.2.2, fun q hq => ?_⟩)
    exact kk _ _ _ (.fr hq (.lst (repL_rep ra _))) ho.2
  · exact ho.elim
end
end DL

set_option Elab.async false
set_option linter.all false
set_option autoImplicit false
set_option maxRecDepth 100000
/-! DLX12: own classes: attributes, making, methods. -/
namespace DL
open PySem PySem.Spec PyProof.Rows L2
section
variable {X : Cx} {T : Tb} {B : Bs} {M : List Nat} {W : EK} {F H : Hp} {ρ : Env} {σ : L2.St}
variable {a e : Expr} {es : List Expr} {f g : DE} {fs : List DE} {as : List DA} {pos : Pos}
/-! ### attributes by place -/
/-- what an own class must have for its attributes to be read and stored -/
structure ClD (K : PySem.W.Frag) (T : Tb) (c : Nat) (ci : CI) : Prop where
  at_ : T.cl c = some ci
  nd : ci.names.Nodup
  cls : Cls K ci.addr
end
end DL

set_option Elab.async false
set_option linter.all false
set_option autoImplicit false
set_option maxRecDepth 100000
/-! DLX13: making, methods. -/
namespace DL
open PySem PySem.Spec PyProof.Rows L2
section
variable {X : Cx} {T : Tb} {B : Bs} {M : List Nat} {W : EK} {F H : Hp} {ρ : Env} {σ : L2.St}
variable {a e o : Expr} {es : List Expr} {f g : DE} {fs : List DE} {as : List DA} {pos apos : Pos}
/-- behind a call that changed new objects at most -/
theorem SR.aft {Mc : List Nat} {F' H' : Hp} {vs : List V} {args outs : List Slot} (S : SR X.K T B M F H ρ σ) (A : Aft X.K T Mc F H vs args F' H' outs) (hn : ∀ b, OwnA H vs args b → B.H0 b = none ∧ ∀ i, b ∉ foot H (σ[i]?) (ρ.at i)) : SR X.K T B M F' H' ρ σ ∧ ∀ i, foot H' (σ[i]?) (ρ.at i) = foot H (σ[i]?) (ρ.at i) := by
  have stay : ∀ j, ∀ a ∈ foot H (σ[j]?) (ρ.at j), F' a = none ∧ H' a = H a := fun j a ha => by
    have nA : ¬ OwnA H vs args a := fun z => (hn a z).2 j ha
    obtain ⟨f, o, e, m, _⟩ := S.priv ha
    refine ⟨?_, by rw [e]; exact A.keep a o e nA m⟩
    cases y : F' a with
    | none => rfl
    | some u =>
      rcases A.fnew a u y with r | r | r | r
      · rw [f] at r; cases r
      · rw [e] at r; cases r
      · exact absurd r nA
      · have w := A.sub.up y r
        rw [A.keep a o e nA m] at w
        cases w
        rw [S.notup ha e] at r
        cases r
  have fe := S.footEq fun i a ha => (stay i a ha).2
  refine ⟨⟨S.sub.after A.sub A.fnew, fun b o e n m => ?_, fun b o e => ?_, S.f0.trans A.same, fun b o e => ?_, S.len, fun j => (S.slot j).mono A.same (stay j), fun i a ha => S.newF i a (fe i ▸ ha), fun i j a h1 h2 => S.injF i j a (fe i ▸ h1) (fe j ▸ h2), S.pin, A.tabs⟩, fe⟩
  · refine A.keep b o (S.keep b o e n m) (fun z => ?_) m
    rw [(hn b z).1] at e
    cases e
  · obtain ⟨o', e'⟩ := S.live b o e
    exact A.live b o' e'
  · rcases A.fnew b o e with q | q | q | q
    · exact S.fnew b o q
    · exact .inr (.inl (S.gone q))
    · exact .inr (.inl (hn b q).1)
    · exact .inr (.inr (.inr q))
/-! ### C(..) -/
variable {k : Nat} {fa : Addr} {fd : FuncData} {ps : List Str} {con : Con} {x : Str} {p : Pos}
def tMakeS (C : Addr) (sp : Sp) (E : L2.St → XK) (t : TA) : TE := fun σ H Q => t σ H fun vs H1 => ∀ x dx, H1 x = none → H1 dx = none → dx ≠ x →
  sp (.ref x :: vs) (upd (upd H1 dx (.own x)) x (.ins C dx [])) (fun v H2 => v = .non ∧ Q (.ref x) H2) (E σ)
theorem noOwn {H : Hp} {vs : List V} {ds : List D} (i : Nat) (b : Addr) : ¬ OwnI H vs (ds.map Slot.fz) i b := fun ⟨v, s, h1, h2, h3⟩ => by
  rw [List.getElem?_map] at h2
  cases e : ds[i]? with
  | none => rw [e] at h2; cases h2
  | some d => rw [e] at h2; cases h2; rw [foot_fz] at h3; simp at h3
end
end DL

set_option Elab.async false
set_option linter.all false
set_option autoImplicit false
set_option maxRecDepth 100000
/-! DLX14: static methods, class methods, methods. -/
namespace DL
open PySem PySem.Spec PyProof.Rows L2
/-- C.m is a staticmethod: its record at p, its def at g -/
structure SMet (K : PySem.W.Frag) (C : Addr) (mc : Value) (m : Str) (p g : Addr) : Prop where
  at_ : PySem.W.findCls K (.ref C) mc m = some (.get (.builtin "staticmethod.__get__") (.ref p) .none (.ref C))
  rc : ∃ rest, PySem.W.recIn K p "staticmethod" = some (.ref g :: rest)
section
variable {X : Cx} {T : Tb} {B : Bs} {M : List Nat} {W : EK} {F H : Hp} {ρ : Env} {σ : L2.St}
variable {a e o : Expr} {es : List Expr} {f g : DE} {fs : List DE} {as : List DA} {pos apos : Pos}
variable {k : Nat} {fa C pA : Addr} {mc : Value} {fd : FuncData} {ps : List Str} {con : DL.Con} {x m : Str} {p : Pos} {CX : CXT} {sp : Sp} {E : L2.St → XK} {t : TA} {te : TE} {pl : Sem Bool}
/-! ### over data -/
end
end DL

set_option Elab.async false
set_option linter.all false
set_option autoImplicit false
set_option maxRecDepth 100000
/-! DLX15: what callers know, in short; the law's end. -/
namespace DL
open PySem PySem.Spec PyProof.Rows L2


section
variable (P : Program) (w : World) (K : PySem.W.Frag) (mg : Str → Option Value) (base : Heap) (T : Tb)
/-- a def of the module -/
def Cal (x : Str) (k : Nat) (ps : List Str) (M : List Nat) (con : Con) : Prop := ∃ fa fd, Def P w K mg base T k fa fd ps M con ∧ Binds K fd ps [] ∧ mg x = some (.ref fa)
/-- a method of the class at C -/
def CalM (C : Addr) (m : Str) (k : Nat) (ps : List Str) (M : List Nat) (con : Con) : Prop := ∃ fa fd, Def P w K mg base T k fa fd ps M con ∧ Binds K fd ps [] ∧ Meth K C m fa
def CalS (C : Addr) (m : Str) (k : Nat) (ps : List Str) (M : List Nat) (con : Con) : Prop := ∃ fa fd pA, Def P w K mg base T k fa fd ps M con ∧ Binds K fd ps [] ∧ SMet K C (.type "type") m pA fa
def CalC (C : Addr) (m : Str) (k : Nat) (ps : List Str) (con : Con) : Prop := ∃ fa fd pA, Def P w K mg base T k fa fd ps [] con ∧ Binds K fd ps [] ∧ ClX.CMet K C (.type "type") m pA fa
def CalI (C : Addr) (k : Nat) (ps : List Str) (con : Con) : Prop := ∃ fa fd, Def P w K mg base T k fa fd ps [0] con ∧ Binds K fd ps [] ∧ Mk K C fa
/-- a property that hands out an attribute -/
def CalP (C : Addr) (pn fn : Str) (k : Nat) : Prop := ∃ p gA fd, PropOf K C pn p gA ∧ FnOk P w K mg base (CZ K P w) k gA fd ["self"] (getSp C fn) ∧ Binds K fd ["self"] []
/-- an own exception class -/
def ErrX (x : Str) (c : Nat) : Prop := ∃ f newId initId B tail C fI, DLE.ETxt K f newId initId B tail C fI ∧ T.ex c = some ⟨C, Str.ofString f⟩ ∧ mg x = some (.ref C)
/-- an own class of the module -/
structure Own (x : Str) (c : Nat) (ci : CI) : Prop where
  cl : ClD K T c ci
  rd : ClX.CRead K ci.addr (.type "type")
  mg : mg x = some (.ref ci.addr)
end
section
variable {X : Cx} {T : Tb} {B : Bs} {M : List Nat} {W : EK} {F H : Hp} {ρ : Env} {σ : L2.St}
variable {a e o : Expr} {es : List Expr} {f g : DE} {fs : List DE} {as : List DA} {pos apos : Pos}
variable {k c i j : Nat} {C : Addr} {ci : CI} {ps : List Str} {con : Con} {x m : Str} {p : Pos} {Mc : List Nat} {pl : Sem Bool}
theorem takes_no : Takes X (lW X.K T B M noE) := ⟨fun u s' ⟨a, B, sI, pins, σ, H, cls, d, e, I, nb, up, sky, na, os, ag, _, F, ρ, x, S, ex, w⟩ => w.elim, fun u s' ⟨a, B, sI, pins, σ, H, cls, d, e, I, nb, up, sky, na, os, ag, _, F, ρ, x, S, ex, w⟩ => w.elim⟩
theorem zaH (G : Cal X.prog X.w X.K X.mg X.base T x k ps Mc con) (hr : RoomG k X.A) (tk : Takes X (lW X.K T B M W)) (hg : Gl X x) (ha : PDAV X T B M W (e :: es) as) (hn : as.length = ps.length := by rfl) (hf : fitA as Mc = true := by rfl)
    (hdb : (x == ("__debug__" : Str)) = false := by decide) (he : starEach (e :: es) X.env = (false, eval e X.env) :: starEach es X.env := by rfl) (hpl : (backTo pos (starEach es X.env)).any (·.1) = false := by rfl) :
    PD X T B M W (.Call (.Name x p) (e :: es) [] pos) (dCall con as) := by
  obtain ⟨fa, fd, D, hb, hm⟩ := G
  exact pd_call D hr tk hg hm hb ha hn hf hdb he hpl
theorem pds_raiseC {pos2 : Pos} (G : ErrX X.K X.mg T x c) (hc : X.calm = true) (tk : Takes X (lW X.K T B M W)) (hr : RoomG k X.A) (ha : PD X T B M W a g) (hg : Gl X x) (hdb : (x == ("__debug__" : Str)) = false := by decide)
    (he : starEach (a :: []) X.env = (false, eval a X.env) :: starEach [] X.env := by rfl) (hpl : (backTo pos (starEach [] X.env)).any (·.1) = false := by rfl) : PDS X T B M W (.Raise (some (.Call (.Name x p) [a] [] pos)) none pos2) (sRaise c g) := by
  obtain ⟨f, newId, initId, Bn, tail, C, fI, ET, hT, hm⟩ := G
  exact pds_raise hc tk ET hT hr.rm ha hg hm hdb he hpl
theorem pd_strG {y : Str} {l : Tx} (hg : Gl X y) (hm : ∃ tk, X.mg y = some (.str (tx l) tk)) (h : okTxB l = true) (hd : (y == ("__debug__" : Str)) = false := by decide) : PD X T B M W (.Name y pos) (dC (.str l)) :=
  let ⟨tk, hm⟩ := hm; pd_glob (v := .str (tx l)) hg hm ⟨tk, rfl⟩ (fun _ => .str (okTx_of h)) hd
theorem pd_intG {y : Str} {n : Int} (hg : Gl X y) (hm : ∃ tk, X.mg y = some (.int n tk)) (hd : (y == ("__debug__" : Str)) = false := by decide) : PD X T B M W (.Name y pos) (dC (.int n)) :=
  let ⟨tk, hm⟩ := hm; pd_glob (v := .int n) hg hm ⟨tk, rfl⟩ (fun _ => .int n) hd
end
/-! ### the law -/
def lawCon : Con := fun args Q _ => ∃ ns : List Int, ns.length ≤ 63 ∧ args = [.fz (.frl (ns.map .int))] ∧ ∀ outs, Q (.fz (.bl true)) outs
def spLaw (K : PySem.W.Frag) (L : List (Addr × Str)) : Sp := fun vs H Q _ => ∃ (a : Addr) (ns : List Int), vs = [.ref a] ∧ SqL K H a (ns.map V.int) ∧ ns.length ≤ 63 ∧ LamX.Tabs L H ∧ ∀ H', Q (.bl true) H'
/-- without the tables -/
def noT (H : Hp) : Hp := fun b => match H b with
  | some (.tbl _) => none
  | z => z
theorem noT_same (H : Hp) : Same (noT H) H := fun b o e => by
  unfold noT at e
  split at e
  · cases e
  · exact e
theorem noT_none (H : Hp) : ∀ b ps, noT H b ≠ some (.tbl ps) := fun b ps e => by
  unfold noT at e
  split at e
  · cases e
  · rename_i h; exact h ps e
theorem noT_at {H : Hp} {b : Addr} {o : HO} (e : H b = some o) (h : ∀ ps, o ≠ .tbl ps) : noT H b = some o := by
  unfold noT
  rw [e]
  split
  · rename_i ps z; exact absurd (Option.some.inj z) (h ps)
  · rfl
theorem noT_sq {K : PySem.W.Frag} {H : Hp} {a : Addr} {xs : List V} (h : SqL K H a xs) : SqL K (noT H) a xs := by
  rcases h with (h | ⟨o, h⟩) | h
  · exact .inl (.inl (noT_at h fun _ z => nomatch z))
  · exact .inl (.inr ⟨o, noT_at h fun _ z => nomatch z⟩)
  · exact .inr h
theorem ints_rep {K : PySem.W.Frag} {T : Tb} {F : Hp} : ∀ ns : List Int, RepL K T F (ns.map V.int) (ns.map D.int)
  | [] => .nil
  | n :: ns => .cons (.int n) (ints_rep ns)
theorem lawFn {P : Program} {w : World} {K : PySem.W.Frag} {mg : Str → Option Value} {base : Heap} {T : Tb} {k : Nat} {fa : Addr} {fd : FuncData} {x : Str} (G : Def P w K mg base T k fa fd [x] [] lawCon) {L : List (Addr × Str)} (ht : T.tabs = L := by rfl) :
    FnG P w K mg base (CZ K P w) k fa fd [x] (spLaw K L) :=
  G.ok.imp fun vs H Q E ⟨a, ns, e, hs, hl, hT, hq⟩ => by
    subst e
    refine ⟨noT H, [.fz (.frl (ns.map .int))], fun r _ => r = .fz (.bl true), fun _ _ => False, rfl, rfl, ⟨.of (noT_same H), by rw [ht]; exact ⟨hT, noT_none H⟩⟩, fun i v s h1 h2 => ?_, fun i j p h1 => absurd h1 (noOwn (ds := [.frl (ns.map .int)]) i p), fun i p h1 => absurd h1 (noOwn (ds := [.frl (ns.map .int)]) i p), ⟨ns, hl, rfl, fun _ => rfl⟩, fun F' H' v r outs A R q => ?_, fun _ _ _ _ _ _ _ _ q => q.elim⟩
    · cases i with
      | zero =>
        simp at h1 h2
        subst h1; subst h2
        exact .frl (noT_sq hs) (ints_rep ns)
      | succ i => simp at h1
    · subst q
      have : v = .bl true := Rep.bl_inv R
      subst this
      exact hq H'
/-- the abstract heap in which nothing but the script stands, if it is not the module's own -/
def scriptH (vs : List Value) (ns : List Int) (own : Bool) (a : Addr) : Hp := fun b => if own = false ∧ b = a then some (.frz { cls := .type "list", data := .seq vs.toArray } (.lst (ns.map V.int))) else none
theorem scriptH_some {vs : List Value} {ns : List Int} {own : Bool} {a b : Addr} {u : HO} (h : scriptH vs ns own a b = some u) : own = false ∧ b = a ∧ u = .frz { cls := .type "list", data := .seq vs.toArray } (.lst (ns.map V.int)) := by
  unfold scriptH at h
  split at h
  · rename_i q
    cases h
    exact ⟨q.1, q.2, rfl⟩
  · cases h
end DL

set_option Elab.async false
set_option linter.all false
set_option autoImplicit false
set_option maxRecDepth 100000
/-! DLX16: += and the like. -/
namespace DL
open PySem PySem.Spec PyProof.Rows L2
section
variable {X : Cx} {T : Tb} {B : Bs} {M : List Nat} {W : EK} {F H : Hp} {ρ : Env} {σ : L2.St}
def rIAdd (X : Cx) : R2 := fun x y H Q => (rI0 (fun i j => .int (i + j))) x y H Q ∨ (∃ i j, x = .str i ∧ y = .str j ∧ i.length + j.length ≤ sizeLine ∧ Q (.str (i ++ j)) H)
theorem iop_addA : OpR X (inplaceOp .Add) (rIAdd X) := iop_add.or iop_add_str
theorem ok_iadd : OpOk X.K T iaddD (rIAdd X) := by
  intro F H x y dx dy k Q s rx ry ho kk
  cases dx with
  | int i =>
    cases dy with
    | int j => exact .inl ⟨i, j, rx.int_inv, ry.int_inv, kk _ _ _ (.fz (.int _)) ho⟩
    | _ => exact ho.elim
  | str a =>
    cases dy with
    | str b =>
      obtain ⟨ex, ha⟩ := rx.str_inv
      obtain ⟨ey, hb⟩ := ry.str_inv
      have hl : (tx a).length + (tx b).length ≤ sizeLine := by rw [tx_len, tx_len, ← maxTx_eq]; exact ho.1
      refine .inr ⟨_, _, ex, ey, hl, ?_⟩
      rw [tx_app]
      exact kk _ _ _ (.fz (.str (ha.append hb ho.1))) ho.2
    | _ => exact ho.elim
  | _ => exact ho.elim
end
end DL

set_option Elab.async false
set_option linter.all false
set_option autoImplicit false
set_option maxRecDepth 100000
/-! DLX17: isinstance with an own class. -/
namespace DL
open PySem PySem.Spec PyProof.Rows L2
/-- isinstance's word of an own class -/
structure KitC (K : PySem.W.Frag) (C : Addr) : Prop where
  self : PySem.W.kitOne K (.ref C) (.ref C) = some true
  non : PySem.W.kitOne K (.type "NoneType") (.ref C) = some false
  bl : PySem.W.kitOne K (.type "bool") (.ref C) = some false
  int : PySem.W.kitOne K (.type "int") (.ref C) = some false
  str : PySem.W.kitOne K (.type "str") (.ref C) = some false
  lst : PySem.W.kitOne K (.type "list") (.ref C) = some false
  tup : PySem.W.kitOne K (.type "tuple") (.ref C) = some false
  dct : PySem.W.kitOne K (.type "dict") (.ref C) = some false
  at_ : PySem.W.findIn K (.ref C) "__class__" = some (some (.builtin "object.__class__"))
  hn : PySem.W.specialIn K (.builtin "object.__class__") "__get__" = some (some (.builtin "getset_descriptor.__get__"))
  tk : PySem.W.takesIn K (.builtin "object.__class__") = some true
  top : PySem.W.mroIn K C (.type "object") = some true
/-- isinstance's word of the other own classes -/
def KitX (K : PySem.W.Frag) (T : Tb) (c : Nat) (C : Addr) : Prop := ∀ c' ci', T.cl c' = some ci' → c' < 1000 → c' ≠ c → Cls K ci'.addr ∧ KitC K ci'.addr ∧ PySem.W.kitOne K (.ref ci'.addr) (.ref C) = some false
section
variable {X : Cx} {T : Tb} {B : Bs} {M : List Nat} {W : EK} {F H : Hp} {ρ : Env} {σ : L2.St} {e : Expr} {f : DE} {pos : Pos}
end
end DL

set_option Elab.async false
set_option linter.all false
set_option autoImplicit false
set_option maxRecDepth 100000
/-! DLX18: try .. except C as e. -/
namespace DL
open PySem PySem.Spec PyProof.Rows L2
/-- the exception's field is seen by the suite as a datum -/
def sTryAs (i c : Nat) (body : DS) (suite : Exc → DS) : DS := fun D ρ E => body D ρ fun x ρ1 => if x.cls = c then i < ρ1.length ∧ suite x { nx := fun ρ' => D.nx (ρ'.set i .no), rt := D.rt, bk := fun ρ' => D.bk (ρ'.set i .no), ct := fun ρ' => D.ct (ρ'.set i .no) } (ρ1.set i .no) noE else E x ρ1
section
variable {X : Cx} {T : Tb} {B : Bs} {M : List Nat} {W : EK} {F H F2 H2 : Hp} {ρ ρ2 : Env} {σ σ2 : L2.St}
/-- the base of a suite: the exception's place pinned -/
def baseE (B : Bs) (F H : Hp) (ρ : Env) (σ : L2.St) (i : Nat) (a : Addr) : Bs := ⟨F, H, fun i b => b ∈ foot H (σ[i]?) (ρ.at i), fun j => if j = i then .ref a else B.P j⟩
theorem SR.baseE {i : Nat} {a : Addr} (S : SR X.K T B M F H ρ σ) (hi : i ∉ M) (hs : σ[i]? = some (some (.ref a))) : SR X.K T (baseE B F H ρ σ i a) (i :: M) F H ρ σ := by
  have Z := S.base
  refine ⟨Z.sub, Z.keep, Z.live, Z.f0, Z.fnew, Z.len, Z.slot, Z.newF, Z.injF, fun j hj => ?_, Z.tabs⟩
  rcases List.mem_cons.mp hj with e | e
  · subst e
    show _ = some (some (if j = j then .ref a else B.P j))
    rw [if_pos rfl]
    exact hs
  · show _ = some (some (if j = i then .ref a else B.P j))
    rw [if_neg (fun h : j = i => hi (h ▸ e))]
    exact S.pin j e
variable {x n : Str} {c i : Nat} {body suite : List Stmt} {b₀ : Stmt} {np pos pos' : Pos} {fb : DS} {fs : Exc → DS}
/-- what «except C» says of the exceptions that may come: of C itself yes, of the others no -/
def ExM (K : PySem.W.Frag) (T : Tb) (c : Nat) (C : Value) : Prop := ∀ k ei, T.ex k = some ei → PySem.W.exmOne K (.ref ei.addr) C = some (decide (k = c))
end
end DL

set_option Elab.async false
set_option linter.all false
set_option autoImplicit false
set_option maxRecDepth 100000
set_option maxHeartbeats 2000000
/-! DLX20: isinstance of a caught exception that has a field. -/
namespace DLK
open PySem PySem.W PySem.Spec PySem.Calls PyProof.Rows L2
section
variable {prog : Program} {w : World} {A : Around} {E : Value → Shared → Prop} {s : Shared} {K : Frag} {x D : Addr} {ox od : Obj}
end
end DLK
namespace DL
open PySem PySem.Spec PyProof.Rows L2
section
variable {X : Cx} {T : Tb} {B : Bs} {M : List Nat} {W : EK}
end
end DL

set_option Elab.async false
set_option linter.all false
set_option autoImplicit false
set_option maxRecDepth 100000
/-! DLX21: repr of data. -/
namespace DL
open PySem PySem.Spec PyProof.Rows L2
theorem tx_ofString (s : String) : Str.ofString s = tx (s.toList.map Char.toNat) := by
  unfold Str.ofString tx
  rw [cpsOfBytes_string]
theorem repL_len : ∀ xs : List D, (D.repL xs).length = xs.length
  | [] => rfl
  | x :: xs => congrArg (· + 1) (repL_len xs)
/-! ints -/
theorem nat_repr_len {n : Nat} (h : n < 10 ^ 120) : (Nat.repr n).toList.length ≤ 120 := by
  have e : (Nat.repr n).toList = Nat.toDigits 10 n := by simp [Nat.repr]
  rw [e]
  exact PyProof.Rows.digits10_le (by decide) h
theorem intT_len {i : Int} (h : i.natAbs < 10 ^ 120) : (intT i).length ≤ 128 := by
  unfold intT
  rw [List.length_map]
  cases i with
  | ofNat n =>
    have := nat_repr_len (n := n) h
    exact Nat.le_trans this (by decide)
  | negSucc n =>
    have := nat_repr_len (n := n + 1) h
    show (("-" ++ Nat.repr (n + 1)) : String).toList.length ≤ 128
    rw [String.toList_append, List.length_append]
    show 1 + _ ≤ 128
    omega
theorem log_small {n : Nat} (h : n < 10 ^ 120) : n.log2 < 1920 := by
  by_cases z : n = 0
  · rw [z]; decide
  · exact (Nat.log2_lt z).mpr (Nat.lt_of_lt_of_le h (by decide))
theorem print_ok : ∀ c : Nat, okC c = true → Unicode.isPrintable c = true := by
  have h : ∀ c : Fin 127, okC c.val = true → Unicode.isPrintable c.val = true := by decide +kernel
  intro c hc
  have : c < 127 := by
    unfold okC at hc
    simp only [Bool.and_eq_true, decide_eq_true_eq] at hc
    exact hc.1.1.2
  exact h ⟨c, this⟩ hc
theorem okC_inv {c : Nat} (h : okC c = true) : 32 ≤ c ∧ c < 127 ∧ c ≠ 39 ∧ c ≠ 92 := by
  unfold okC at h
  simp only [Bool.and_eq_true, decide_eq_true_eq, bne_iff_ne] at h
  exact ⟨h.1.1.1, h.1.1.2, h.1.2, h.2⟩
theorem repr_sign {c : Nat} (h : okC c = true) : Builtin.Str.reprChar 39 c = [c] := by
  obtain ⟨h1, h2, h3, h4⟩ := okC_inv h
  unfold Builtin.Str.reprChar
  have e1 : (c == 39 || c == 92) = false := by simp [h3, h4]
  have e2 : (c == 10) = false := by simp; omega
  have e3 : (c == 13) = false := by simp; omega
  have e4 : (c == 9) = false := by simp; omega
  simp only [e1, e2, e3, e4, print_ok c h, Bool.false_eq_true, if_false, if_true]
theorem repr_fold (l : Tx) : ∀ acc : Array Nat, l.all okC = true → l.foldl (fun out c => out ++ (Builtin.Str.reprChar 39 c).toArray) acc = acc ++ l.toArray := by
  induction l with
  | nil => intro acc _; simp
  | cons c l ih =>
    intro acc h
    rw [List.all_cons, Bool.and_eq_true] at h
    rw [List.foldl_cons, repr_sign h.1, ih _ h.2]
    simp
theorem reprText_of {x : Tx} (h : x.all okC = true) : reprText (tx x) = tx (39 :: (x ++ [39])) := by
  have q : reprQuote (tx x) = 39 := by
    unfold reprQuote tx
    have z : 39 ∉ x := fun z => (okC_inv (List.all_eq_true.mp h 39 z)).2.2.1 rfl
    simp [z]
  unfold reprText
  rw [q]
  show (⟨(x.toArray.foldl (fun out c => out ++ (Builtin.Str.reprChar 39 c).toArray) #[39]).push 39⟩ : Str) = _
  rw [List.foldl_toArray', repr_fold x _ h]
  unfold tx
  simp
  rfl
/-! lists -/
theorem tx_join (S : Tx) : ∀ ts : List Tx, Str.join (tx S) (ts.map tx) = tx (joinT S ts)
  | [] => rfl
  | [p] => rfl
  | p :: q :: r => by
    have ih := tx_join S (q :: r)
    show tx p ++ tx S ++ Str.join (tx S) ((q :: r).map tx) = tx (p ++ (S ++ joinT S (q :: r)))
    rw [ih, tx_app, tx_app, List.append_assoc]
theorem textFrom_pos : ∀ (ts : List Tx) (k : Nat) (acc : Tx), 0 < k → textFrom k (tx acc) (ts.map tx) = tx (acc ++ (ts.map fun t => [44, 32] ++ t).flatten)
  | [], k, acc, _ => by simp [textFrom]
  | t :: ts, k, acc, hk => by
    have e : (Str.ofString (if k > 0 then ", " else "" : String)) = tx [44, 32] := by rw [if_pos hk]; rfl
    show textFrom (k + 1) (tx acc ++ Str.ofString (if k > 0 then ", " else "" : String) ++ tx t) (ts.map tx) = _
    rw [e, tx_app, tx_app, textFrom_pos ts (k + 1) _ (Nat.succ_pos k)]
    simp
theorem joinT_cons (t : Tx) (ts : List Tx) : joinT [44, 32] (t :: ts) = t ++ (ts.map fun t => [44, 32] ++ t).flatten := by
  induction ts generalizing t with
  | nil => simp [joinT]
  | cons u us ih =>
    show t ++ ([44, 32] ++ joinT [44, 32] (u :: us)) = _
    rw [ih u]
    simp
theorem listText_of (ts : List Tx) : listText (ts.map tx) = tx (91 :: (joinT [44, 32] ts ++ [93])) := by
  unfold listText
  cases ts with
  | nil => rfl
  | cons t ts =>
    show textFrom 1 (Str.ofString "[" ++ Str.ofString "" ++ tx t) (ts.map tx) ++ Str.ofString "]" = _
    have e : Str.ofString "[" ++ Str.ofString "" ++ tx t = tx (91 :: t) := by
      have h1 : Str.ofString "[" ++ Str.ofString "" = tx [91] := rfl
      rw [h1, tx_app]; rfl
    rw [e, textFrom_pos ts 1 _ (by decide), joinT_cons]
    have h2 : Str.ofString "]" = tx [93] := rfl
    rw [h2, tx_app]
    simp
theorem tupleText_of (ts : List Tx) : tupleText (ts.map tx) = tx (40 :: (joinT [44, 32] ts ++ (if ts.length == 1 then [44, 41] else [41]))) := by
  unfold tupleText
  have h1 : Str.ofString "(" = tx [40] := rfl
  have h2 : Str.ofString ", " = tx [44, 32] := rfl
  rw [h1, h2, tx_join, List.length_map, tx_app]
  cases e : ts.length == 1 with
  | true =>
    have h3 : Str.ofString (if true = true then ",)" else ")" : String) = tx [44, 41] := rfl
    rw [h3, tx_app]; simp
  | false =>
    have h3 : Str.ofString (if false = true then ",)" else ")" : String) = tx [41] := rfl
    rw [h3, tx_app]; simp
theorem joinR_len : ∀ ts : List Tx, (joinT [44, 32] ts).length ≤ (ts.map fun t => t.length + 2).sum
  | [] => Nat.le_refl _
  | [p] => by simp [joinT]
  | p :: q :: r => by
    have ih := joinR_len (q :: r)
    show (p ++ ([44, 32] ++ joinT [44, 32] (q :: r))).length ≤ _
    rw [List.length_append, List.length_append, List.map_cons, List.sum_cons]
    show _ + (2 + _) ≤ _
    omega
mutual
theorem shown_of : ∀ (n : Nat) (d : D), d.repOk n = true → d.toP.shown = tx d.rep ∧ d.toP.showable = true ∧ d.toP.hasDict = false ∧ d.toP.depth ≤ n ∧ d.rep.length ≤ d.wt
  | n, .non, _ => ⟨rfl, rfl, rfl, Nat.zero_le _, by show 4 ≤ 5; decide⟩
  | n, .bl b, _ => ⟨by cases b <;> rfl, rfl, rfl, Nat.zero_le _, by cases b <;> (show _ ≤ 5; decide)⟩
  | n, .int i, h => by
    have h : i.natAbs < 10 ^ 120 := by cases n <;> exact of_decide_eq_true h
    refine ⟨tx_ofString _, ?_, rfl, Nat.zero_le _, intT_len h⟩
    show decide (i.natAbs.log2 < 1920) = true
    exact decide_eq_true (log_small h)
  | n, .str x, h => by
    have h : x.all okC = true := by cases n <;> exact h
    refine ⟨reprText_of h, rfl, rfl, Nat.zero_le _, ?_⟩
    show (39 :: (x ++ [39])).length ≤ x.length + 2
    rw [List.length_cons, List.length_append]
    exact Nat.le_refl _
  | 0, .lst xs, h => by cases h
  | n + 1, .lst xs, h => by
    obtain ⟨h1, h2, h3, h4, h5⟩ := shownAll_of n xs h
    refine ⟨?_, h2, h3, Nat.succ_le_succ h4, ?_⟩
    · show listText (PyData.shownAll (D.toPL xs)) = _
      rw [h1, listText_of]; rfl
    · show (91 :: (joinT [44, 32] (D.repL xs) ++ [93])).length ≤ D.wtL xs + 2
      have := joinR_len (D.repL xs)
      rw [List.length_cons, List.length_append]
      show _ + 1 + 1 ≤ _
      omega
  | 0, .tup xs, h => by cases h
  | n + 1, .tup xs, h => by
    obtain ⟨h1, h2, h3, h4, h5⟩ := shownAll_of n xs h
    refine ⟨?_, h2, h3, Nat.succ_le_succ h4, ?_⟩
    · show tupleText (PyData.shownAll (D.toPL xs)) = _
      rw [h1, tupleText_of, repL_len]; rfl
    · show (40 :: (joinT [44, 32] (D.repL xs) ++ (if xs.length == 1 then [44, 41] else [41]))).length ≤ D.wtL xs + 4
      have := joinR_len (D.repL xs)
      rw [List.length_cons, List.length_append]
      have : (if xs.length == 1 then [44, 41] else [41] : Tx).length ≤ 2 := by split <;> decide
      omega
  | n, .dct _, h => by cases n <;> cases h
  | n, .dcT _, h => by cases n <;> cases h
  | n, .adr _, h => by cases n <;> cases h
  | n, .obj _ _, h => by cases n <;> cases h
  | n, .frl _, h => by cases n <;> cases h
  | n, .cls _, h => by cases n <;> cases h
  | n, .prt _, h => by cases n <;> cases h
theorem shownAll_of : ∀ (n : Nat) (xs : List D), D.repOkL n xs = true → PyData.shownAll (D.toPL xs) = (D.repL xs).map tx ∧ PyData.showableAll (D.toPL xs) = true ∧ PyData.hasDictAll (D.toPL xs) = false ∧ PyData.depthAll (D.toPL xs) ≤ n ∧ ((D.repL xs).map fun t => t.length + 2).sum ≤ D.wtL xs
  | n, [], _ => ⟨rfl, rfl, rfl, Nat.zero_le _, Nat.le_refl _⟩
  | n, x :: xs, h => by
    unfold D.repOkL at h
    rw [Bool.and_eq_true] at h
    obtain ⟨a1, a2, a3, a4, a5⟩ := shown_of n x h.1
    obtain ⟨b1, b2, b3, b4, b5⟩ := shownAll_of n xs h.2
    refine ⟨?_, ?_, ?_, Nat.max_le.mpr ⟨a4, b4⟩, ?_⟩
    · show x.toP.shown :: PyData.shownAll (D.toPL xs) = _
      rw [a1, b1]; rfl
    · show (x.toP.showable && PyData.showableAll (D.toPL xs)) = true
      rw [a2, b2]; rfl
    · show (x.toP.hasDict || PyData.hasDictAll (D.toPL xs)) = false
      rw [a3, b3]; rfl
    · show ((x.rep :: D.repL xs).map fun t => t.length + 2).sum ≤ x.wt + 2 + D.wtL xs
      rw [List.map_cons, List.sum_cons]
      omega
end
mutual
theorem eqOk_of : ∀ (n : Nat) (d : D), d.repOk n = true → d.eqOk n = true
  | n, .non, _ => by cases n <;> rfl
  | n, .bl _, _ => by cases n <;> rfl
  | n, .int _, _ => by cases n <;> rfl
  | n, .str _, _ => by cases n <;> rfl
  | 0, .lst xs, h => by cases h
  | n + 1, .lst xs, h => eqOkL_of n xs h
  | 0, .tup xs, h => by cases h
  | n + 1, .tup xs, h => eqOkL_of n xs h
  | n, .dct _, h => by cases n <;> cases h
  | n, .dcT _, h => by cases n <;> cases h
  | n, .adr _, h => by cases n <;> cases h
  | n, .obj _ _, h => by cases n <;> cases h
  | n, .frl _, h => by cases n <;> cases h
  | n, .cls _, h => by cases n <;> cases h
  | n, .prt _, h => by cases n <;> cases h
theorem eqOkL_of : ∀ (n : Nat) (xs : List D), D.repOkL n xs = true → D.eqOkL n xs = true
  | n, [], _ => by unfold D.eqOkL; rfl
  | n, x :: xs, h => by
    unfold D.repOkL at h
    rw [Bool.and_eq_true] at h
    unfold D.eqOkL
    rw [eqOk_of n x h.1, eqOkL_of n xs h.2]
    rfl
end
theorem join_sign {S : Tx} (hS : ∀ c ∈ S, c < 0x110000) : ∀ {ts : List Tx}, (∀ t ∈ ts, ∀ c ∈ t, c < 0x110000) → ∀ c ∈ joinT S ts, c < 0x110000
  | [], _, c, hc => by simp [joinT] at hc
  | [p], h, c, hc => h p List.mem_cons_self c hc
  | p :: q :: r, h, c, hc => by
    have hc : c ∈ p ++ (S ++ joinT S (q :: r)) := hc
    rcases List.mem_append.mp hc with z | z
    · exact h p List.mem_cons_self c z
    · rcases List.mem_append.mp z with z | z
      · exact hS c z
      · exact join_sign hS (fun t ht => h t (List.mem_cons_of_mem _ ht)) c z
mutual
theorem rep_sign : ∀ (n : Nat) (d : D), d.repOk n = true → ∀ c ∈ d.rep, c < 0x110000
  | n, .non, _, c, hc => by revert c; decide
  | n, .bl b, _, c, hc => by cases b <;> (revert c; decide)
  | n, .int i, _, c, hc => by
    have hc : c ∈ (toString i).toList.map Char.toNat := hc
    obtain ⟨ch, _, rfl⟩ := List.mem_map.mp hc
    have := ch.valid
    show ch.val.toNat < _
    simp only [UInt32.isValidChar, Nat.isValidChar] at this
    omega
  | n, .str x, h, c, hc => by
    have h : x.all okC = true := by cases n <;> exact h
    have hc : c ∈ 39 :: (x ++ [39]) := hc
    rcases List.mem_cons.mp hc with z | z
    · omega
    · rcases List.mem_append.mp z with z | z
      · have := (okC_inv (List.all_eq_true.mp h c z)).2.1
        omega
      · have : c = 39 := by simpa using z
        omega
  | 0, .lst xs, h, _, _ => by cases h
  | n + 1, .lst xs, h, c, hc => by
    have hc : c ∈ 91 :: (joinT [44, 32] (D.repL xs) ++ [93]) := hc
    rcases List.mem_cons.mp hc with z | z
    · omega
    · rcases List.mem_append.mp z with z | z
      · exact join_sign (by decide) (repL_sign n xs h) c z
      · have : c = 93 := by simpa using z
        omega
  | 0, .tup xs, h, _, _ => by cases h
  | n + 1, .tup xs, h, c, hc => by
    have hc : c ∈ 40 :: (joinT [44, 32] (D.repL xs) ++ (if xs.length == 1 then [44, 41] else [41])) := hc
    rcases List.mem_cons.mp hc with z | z
    · omega
    · rcases List.mem_append.mp z with z | z
      · exact join_sign (by decide) (repL_sign n xs h) c z
      · split at z
        · simp at z; omega
        · simp at z; omega
  | n, .dct _, h, _, _ => by cases n <;> cases h
  | n, .dcT _, h, _, _ => by cases n <;> cases h
  | n, .adr _, h, _, _ => by cases n <;> cases h
  | n, .obj _ _, h, _, _ => by cases n <;> cases h
  | n, .frl _, h, _, _ => by cases n <;> cases h
  | n, .cls _, h, _, _ => by cases n <;> cases h
  | n, .prt _, h, _, _ => by cases n <;> cases h
theorem repL_sign : ∀ (n : Nat) (xs : List D), D.repOkL n xs = true → ∀ t ∈ D.repL xs, ∀ c ∈ t, c < 0x110000
  | n, [], _, t, ht => by cases ht
  | n, x :: xs, h, t, ht => by
    unfold D.repOkL at h
    rw [Bool.and_eq_true] at h
    have ht : t ∈ x.rep :: D.repL xs := ht
    rcases List.mem_cons.mp ht with z | z
    · subst z; exact rep_sign n x h.1
    · exact repL_sign n xs h.2 t z
end
/-! data with dicts in it -/
theorem ky_len {k : Ky} (h : kyOk k = true) : (kyRep k).length ≤ kyWt k := by
  cases k with
  | int i => exact intT_len (of_decide_eq_true h)
  | str x =>
    show (39 :: (x ++ [39])).length ≤ x.length + 2
    rw [List.length_cons, List.length_append]
    exact Nat.le_refl _
mutual
theorem q_len : ∀ (n : Nat) (d : D), d.shOk n = true → d.rep.length ≤ d.wt
  | n, .non, _ => by show 4 ≤ 5; decide
  | n, .bl b, _ => by cases b <;> (show _ ≤ 5; decide)
  | n, .int i, h => intT_len (by cases n <;> exact of_decide_eq_true h)
  | n, .str x, h => by
    show (39 :: (x ++ [39])).length ≤ x.length + 2
    rw [List.length_cons, List.length_append]
    exact Nat.le_refl _
  | 0, .lst xs, h => by cases h
  | n + 1, .lst xs, h => by
    have h5 := qL_len n xs h
    show (91 :: (joinT [44, 32] (D.repL xs) ++ [93])).length ≤ D.wtL xs + 2
    have := joinR_len (D.repL xs)
    rw [List.length_cons, List.length_append]
    show _ + 1 + 1 ≤ _
    omega
  | 0, .tup xs, h => by cases h
  | n + 1, .tup xs, h => by
    have h5 := qL_len n xs h
    show (40 :: (joinT [44, 32] (D.repL xs) ++ (if xs.length == 1 then [44, 41] else [41]))).length ≤ D.wtL xs + 4
    have := joinR_len (D.repL xs)
    rw [List.length_cons, List.length_append]
    have : (if xs.length == 1 then [44, 41] else [41] : Tx).length ≤ 2 := by split <;> decide
    omega
  | 0, .dct ks, h => by cases h
  | n + 1, .dct ks, h => by
    have h5 := qK_len n ks h
    show (123 :: (joinT [44, 32] (D.repK ks) ++ [125])).length ≤ D.wtK ks + 5
    have := joinR_len (D.repK ks)
    rw [List.length_cons, List.length_append]
    show _ + 1 + 1 ≤ _
    omega
  | n, .obj _ _, h => by cases n <;> cases h
  | n, .frl _, h => by cases n <;> cases h
  | n, .cls _, h => by cases n <;> cases h
  | n, .prt _, h => by cases n <;> cases h
theorem qL_len : ∀ (n : Nat) (xs : List D), D.shOkL n xs = true → ((D.repL xs).map fun t => t.length + 2).sum ≤ D.wtL xs
  | n, [], _ => Nat.le_refl _
  | n, x :: xs, h => by
    unfold D.shOkL at h
    rw [Bool.and_eq_true] at h
    have h1 := q_len n x h.1
    have h2 := qL_len n xs h.2
    show ((x.rep :: D.repL xs).map fun t => t.length + 2).sum ≤ x.wt + 2 + D.wtL xs
    rw [List.map_cons, List.sum_cons]
    omega
theorem qK_len : ∀ (n : Nat) (ks : List (Ky × D)), D.shOkK n ks = true → ((D.repK ks).map fun t => t.length + 2).sum ≤ D.wtK ks
  | n, [], _ => Nat.le_refl _
  | n, (k, d) :: ks, h => by
    unfold D.shOkK at h
    rw [Bool.and_eq_true, Bool.and_eq_true] at h
    have h0 := ky_len h.1
    have h1 := q_len n d h.2.1
    have h2 := qK_len n ks h.2.2
    show (((kyRep k ++ (58 :: 32 :: d.rep)) :: D.repK ks).map fun t => t.length + 2).sum ≤ kyWt k + 2 + d.wt + 2 + D.wtK ks
    rw [List.map_cons, List.sum_cons, List.length_append, List.length_cons, List.length_cons]
    omega
end
theorem sq_sign {x : Tx} (h : x.all okC = true) : ∀ c ∈ 39 :: (x ++ [39]), c < 0x110000 := fun c hc => by
  rcases List.mem_cons.mp hc with z | z
  · omega
  · rcases List.mem_append.mp z with z | z
    · have := (okC_inv (List.all_eq_true.mp h c z)).2.1
      omega
    · have : c = 39 := by simpa using z
      omega
theorem int_sign {i : Int} : ∀ c ∈ intT i, c < 0x110000 := fun c hc => by
  have hc : c ∈ (toString i).toList.map Char.toNat := hc
  obtain ⟨ch, _, rfl⟩ := List.mem_map.mp hc
  have := ch.valid
  show ch.val.toNat < _
  simp only [UInt32.isValidChar, Nat.isValidChar] at this
  omega
theorem ky_sign {k : Ky} (h : kyOk k = true) : ∀ c ∈ kyRep k, c < 0x110000 := by
  cases k with
  | int i => exact int_sign
  | str x => exact sq_sign h
mutual
theorem q_sign : ∀ (n : Nat) (d : D), d.shOk n = true → ∀ c ∈ d.rep, c < 0x110000
  | n, .non, _, c, hc => by revert c; decide
  | n, .bl b, _, c, hc => by cases b <;> (revert c; decide)
  | n, .int i, _, c, hc => int_sign c hc
  | n, .str x, h, c, hc => sq_sign (by cases n <;> exact h) c hc
  | 0, .lst xs, h, _, _ => by cases h
  | n + 1, .lst xs, h, c, hc => by
    have hc : c ∈ 91 :: (joinT [44, 32] (D.repL xs) ++ [93]) := hc
    rcases List.mem_cons.mp hc with z | z
    · omega
    · rcases List.mem_append.mp z with z | z
      · exact join_sign (by decide) (qL_sign n xs h) c z
      · have : c = 93 := by simpa using z
        omega
  | 0, .tup xs, h, _, _ => by cases h
  | n + 1, .tup xs, h, c, hc => by
    have hc : c ∈ 40 :: (joinT [44, 32] (D.repL xs) ++ (if xs.length == 1 then [44, 41] else [41])) := hc
    rcases List.mem_cons.mp hc with z | z
    · omega
    · rcases List.mem_append.mp z with z | z
      · exact join_sign (by decide) (qL_sign n xs h) c z
      · split at z
        · simp at z; omega
        · simp at z; omega
  | 0, .dct ks, h, _, _ => by cases h
  | n + 1, .dct ks, h, c, hc => by
    have hc : c ∈ 123 :: (joinT [44, 32] (D.repK ks) ++ [125]) := hc
    rcases List.mem_cons.mp hc with z | z
    · omega
    · rcases List.mem_append.mp z with z | z
      · exact join_sign (by decide) (qK_sign n ks h) c z
      · have : c = 125 := by simpa using z
        omega
  | n, .obj _ _, h, _, _ => by cases n <;> cases h
  | n, .frl _, h, _, _ => by cases n <;> cases h
  | n, .cls _, h, _, _ => by cases n <;> cases h
  | n, .prt _, h, _, _ => by cases n <;> cases h
theorem qL_sign : ∀ (n : Nat) (xs : List D), D.shOkL n xs = true → ∀ t ∈ D.repL xs, ∀ c ∈ t, c < 0x110000
  | n, [], _, t, ht => by cases ht
  | n, x :: xs, h, t, ht => by
    unfold D.shOkL at h
    rw [Bool.and_eq_true] at h
    have ht : t ∈ x.rep :: D.repL xs := ht
    rcases List.mem_cons.mp ht with z | z
    · subst z; exact q_sign n x h.1
    · exact qL_sign n xs h.2 t z
theorem qK_sign : ∀ (n : Nat) (ks : List (Ky × D)), D.shOkK n ks = true → ∀ t ∈ D.repK ks, ∀ c ∈ t, c < 0x110000
  | n, [], _, t, ht => by cases ht
  | n, (k, d) :: ks, h, t, ht => by
    unfold D.shOkK at h
    rw [Bool.and_eq_true, Bool.and_eq_true] at h
    have ht : t ∈ (kyRep k ++ (58 :: 32 :: d.rep)) :: D.repK ks := ht
    rcases List.mem_cons.mp ht with z | z
    · subst z
      intro c hc
      rcases List.mem_append.mp hc with z | z
      · exact ky_sign h.1 c z
      · rcases List.mem_cons.mp z with z | z
        · omega
        · rcases List.mem_cons.mp z with z | z
          · omega
          · exact q_sign n d h.2.1 c z
    · exact qK_sign n ks h.2.2 t z
end
section
variable {X : Cx} {T : Tb} {σ : L2.St} {H F : Hp} {pins : List (Addr × Obj)} {s : Shared}
theorem dictText_of (ts : List Tx) : dictText (ts.map tx) = tx (123 :: (joinT [44, 32] ts ++ [125])) := by
  unfold dictText
  have h1 : ("{" : Str) = tx [123] := rfl
  have h2 : (", " : Str) = tx [44, 32] := rfl
  have h3 : ("}" : Str) = tx [125] := rfl
  rw [h1, h2, h3, tx_join, tx_app, tx_app]
  simp
/-- what is known of a thing that is to be shown -/
def ShQ (X : Cx) (s : Shared) (u : Value) (n : Nat) (t : Tx) : Prop := ∃ pd as bs, Reads s.heap u pd as ∧ ReadAtMost s.heap pd.depth bs ∧ ReprK X.prog X.w bs s.heap pd.depth u (tx t) ∧ pd.depth ≤ n
def ShL (X : Cx) (s : Shared) (us : List Value) (n : Nat) (ts : List Tx) : Prop := ∃ pds as bs, ReadsAll s.heap us pds as ∧ ReadAtMost s.heap (PyData.depthAll pds) bs ∧ ReprAllK X.prog X.w bs s.heap (PyData.depthAll pds) us (ts.map tx) ∧ PyData.depthAll pds ≤ n
def ShK (X : Cx) (s : Shared) (es : List DictEntry) (n : Nat) (ts : List Tx) : Prop := ∃ pds as cs bs, ReadsAll s.heap (es.map (·.key)) (pds.map (·.1)) as ∧ ReadsAll s.heap (es.map (·.val)) (pds.map (·.2)) cs ∧ ReadAtMost s.heap (PyData.depthKv pds) bs ∧ ReprEntriesK X.prog X.w bs s.heap (PyData.depthKv pds) es (ts.map tx) ∧ PyData.depthKv pds ≤ n
theorem ShQ.scal (I : Inv X pins σ H s) (sm : SmW F H) {n : Nat} {d : D} {v : V} {u : Value} (h : d.repOk 0 = true) (r : Rep X.K T F v d) (q : RelV v u) (hw : d.wt ≤ zaK) : ShQ X s u n d.rep := by
  obtain ⟨h1, h2, h3, h4, h5⟩ := shown_of 0 d h
  obtain ⟨dp, _, _⟩ := Rep.dp (X := X) sm 0 d v (eqOk_of 0 d h) r
  obtain ⟨as, rd⟩ := Dp.reads I d.toP v u dp q
  have hz : d.toP.shown.length ≤ sizeLine := by rw [h1, tx_len, ← maxTx_eq]; exact Nat.le_trans h5 hw
  obtain ⟨bs, hb, k⟩ := ReprK.of_reads (prog := X.prog) (w := X.w) rd h2 (fun z => by rw [h3] at z; cases z) hz
  rw [h1] at k
  exact ⟨d.toP, as, bs, rd, hb, k, Nat.le_trans h4 (Nat.zero_le _)⟩
theorem ShL.cons {u : Value} {us : List Value} {n : Nat} {t : Tx} {ts : List Tx} (h : ShQ X s u n t) (hs : ShL X s us n ts) : ShL X s (u :: us) n (t :: ts) := by
  obtain ⟨pd, as1, b1, q1, q2, q3, q4⟩ := h
  obtain ⟨pds, as2, b2, p1, p2, p3, p4⟩ := hs
  refine ⟨pd :: pds, _, b1 ++ b2, .cons q1 p1, fun b hb => ?_, ?_, Nat.max_le.mpr ⟨q4, p4⟩⟩
  · rcases List.mem_append.mp hb with z | z
    · obtain ⟨d', as', r', hd'⟩ := q2 b z
      exact ⟨d', as', r', Nat.le_trans hd' (Nat.le_max_left _ _)⟩
    · obtain ⟨d', as', r', hd'⟩ := p2 b z
      exact ⟨d', as', r', Nat.le_trans hd' (Nat.le_max_right _ _)⟩
  · exact .cons ((q3.more fun b hb => List.mem_append_left _ hb).level_le (Nat.le_max_left _ _)) (p3.more_le (fun b hb => List.mem_append_right _ hb) (Nat.le_max_right _ _))
theorem _root_.PySem.ReprEntriesK.more_le {prog : Program} {w : World} {h₀ : Heap} {as as' : List Addr} {d d' : Nat} (hsub : ∀ b ∈ as, b ∈ as') (hd : d ≤ d') : ∀ {l : List DictEntry} {ts : List Str}, ReprEntriesK prog w as h₀ d l ts → ReprEntriesK prog w as' h₀ d' l ts
  | _, _, .nil => .nil
  | _, _, .cons hk hx hl => .cons ((hk.more hsub).level_le hd) ((hx.more hsub).level_le hd) (PySem.ReprEntriesK.more_le hsub hd hl)
theorem ShK.cons {e : DictEntry} {es : List DictEntry} {n : Nat} {k t : Tx} {ts : List Tx} (hk : ShQ X s e.key n k) (h : ShQ X s e.val n t) (hs : ShK X s es n ts) : ShK X s (e :: es) n ((k ++ (58 :: 32 :: t)) :: ts) := by
  obtain ⟨kd, as0, b0, k1, k2, k3, k4⟩ := hk
  obtain ⟨pd, as1, b1, q1, q2, q3, q4⟩ := h
  obtain ⟨pds, as2, cs2, b2, p1, p1', p2, p3, p4⟩ := hs
  have m0 : kd.depth ≤ PyData.depthKv ((kd, pd) :: pds) := by simp only [PyData.depthKv]; omega
  have m1 : pd.depth ≤ PyData.depthKv ((kd, pd) :: pds) := by simp only [PyData.depthKv]; omega
  have m2 : PyData.depthKv pds ≤ PyData.depthKv ((kd, pd) :: pds) := by simp only [PyData.depthKv]; omega
  refine ⟨(kd, pd) :: pds, _, _, b0 ++ (b1 ++ b2), .cons k1 p1, .cons q1 p1', (k2.mono m0).append ((q2.mono m1).append (p2.mono m2)), ?_, by simp only [PyData.depthKv]; omega⟩
  have z := ReprEntriesK.cons (e := e) ((k3.more (as' := b0 ++ (b1 ++ b2)) fun b hb => List.mem_append_left _ hb).level_le m0) ((q3.more (as' := b0 ++ (b1 ++ b2)) fun b hb => List.mem_append_right _ (List.mem_append_left _ hb)).level_le m1)
    (p3.more_le (as' := b0 ++ (b1 ++ b2)) (fun b hb => List.mem_append_right _ (List.mem_append_right _ hb)) m2)
  have e2 : (": " : Str) = tx [58, 32] := rfl
  rw [e2, tx_app, tx_app, List.append_assoc] at z
  exact z
theorem ShQ.key {n : Nat} {k : Ky} {u : Value} (h : kyOk k = true) (z : keyIs (kyV k) u = true) (hw : kyWt k ≤ zaK) : ShQ X s u n (kyRep k) := by
  rcases keyIs_shape z with ⟨i, t, e, rfl⟩ | ⟨x, t, e, rfl⟩
  · cases k with
    | int j =>
      cases e
      have hi : i.natAbs < 10 ^ 120 := of_decide_eq_true h
      refine ⟨.int i, [], [], .int i t, (fun _ z => nomatch z), ?_, Nat.zero_le _⟩
      have e : tx (kyRep (.int i)) = toString i := (tx_ofString _).symm
      rw [e]
      exact .of_is (ReprIs.int t (log_small hi)) _ _ _
    | str y => cases e
  · cases k with
    | int j => cases e
    | str y =>
      cases e
      refine ⟨.str (tx y), [], [], .str _ t, (fun _ z => nomatch z), ?_, Nat.zero_le _⟩
      have e : tx (kyRep (.str y)) = reprText (tx y) := (reprText_of h).symm
      rw [e]
      refine .of_is (ReprIs.str _ t ?_) _ _ _
      rw [← e, tx_len, ← maxTx_eq]
      exact Nat.le_trans (ky_len h) hw
theorem ShL.list (I : Inv X pins σ H s) {a : Addr} {vs : List V} {n : Nat} {xs : List D} (ha : H a = some (.lst vs)) (h : ∀ us, Vals vs us → ShL X s us n (D.repL xs)) (hx : xs = [] ↔ vs = []) : ShQ X s (.ref a) (n + 1) (D.lst xs).rep := by
  obtain ⟨z, its, m, r, e⟩ := I.hok a _ ha
  obtain ⟨pds, as, bs, p1, p2, p3, p4⟩ := h _ r
  have rd : Reads s.heap (.ref a) (.list pds) (a :: as) := .list e rfl rfl p1
  have hna : a ∉ bs := not_mem_of_deeper rd (by simp only [PyData.depth]; omega) p2
  refine ⟨_, _, a :: bs, rd, ReadAtMost.cons rd (by simp only [PyData.depth]; omega) p2, ?_, Nat.succ_le_succ p4⟩
  simp only [PyData.depth]
  have t : tx (D.lst xs).rep = listText ((D.repL xs).map tx) := (listText_of _).symm
  rw [t]
  cases vs with
  | nil =>
    cases r
    rw [hx.mpr rfl]
    exact ReprK.listEmpty e rfl rfl
  | cons v vs =>
    cases r with
    | cons r1 r2 => exact ReprK.list e rfl rfl hna (by simpa using p3.length_eq) (fun i y hy => p3.item i y (by simpa using hy))
theorem repL_nil {vs : List V} {xs : List D} (r : RepL X.K T F vs xs) : xs = [] ↔ vs = [] := by
  cases r with
  | nil => exact ⟨fun _ => rfl, fun _ => rfl⟩
  | cons => exact ⟨(fun z => nomatch z), (fun z => nomatch z)⟩
theorem ShL.tuple (I : Inv X pins σ H s) {a : Addr} {vs : List V} {n : Nat} {xs : List D} (ha : H a = some (.tup vs)) (h : ∀ us, Vals vs us → ShL X s us n (D.repL xs)) : ShQ X s (.ref a) (n + 1) (D.tup xs).rep := by
  obtain ⟨z, its, r, o, e1, e2, m, e3⟩ := (show ObjOk X.prog X.w H s.heap a (.tup vs) from I.hok a _ ha)
  obtain ⟨pds, as, bs, p1, p2, p3, p4⟩ := h _ r
  have rd : Reads s.heap (.ref a) (.tuple pds) as := .tuple e1 e2 e3 (by simpa using p1)
  have hna : a ∉ bs := not_mem_of_deeper rd (by simp only [PyData.depth]; omega) p2
  refine ⟨_, _, a :: bs, rd, ReadAtMost.cons rd (by simp only [PyData.depth]; omega) p2, ?_, Nat.succ_le_succ p4⟩
  simp only [PyData.depth]
  have t : tx (D.tup xs).rep = tupleText ((D.repL xs).map tx) := by rw [tupleText_of, repL_len]; rfl
  rw [t]
  exact ReprK.tuple e1 e2 e3 hna (by simpa using p3)
theorem ShK.dict (I : Inv X pins σ H s) {a : Addr} {kvs : List (Key × V)} {n : Nat} {ks : List (Ky × D)} (ha : Rd H a (.dK kvs)) (h : ∀ vs es, KV kvs vs → Pairs (mixKind X.prog X.w) es vs → ShK X s es n (D.repK ks)) : ShQ X s (.ref a) (n + 1) (D.dct ks).rep := by
  obtain ⟨_, hs, vs, kv, o, es, ep, ho, ex, hd, _, pr, _⟩ := dk_rd I.hok ha
  obtain ⟨pds, as, cs, bs, p1, p1', p2, p3, p4⟩ := h vs es.toList kv pr
  have rd : Reads s.heap (.ref a) (.dict pds) (a :: as ++ cs) := .dict ho ex.1 hd p1 p1'
  have hna : a ∉ bs := not_mem_of_deeper rd (by simp only [PyData.depth]; omega) p2
  refine ⟨_, _, a :: bs, rd, ReadAtMost.cons rd (by simp only [PyData.depth]; omega) p2, ?_, Nat.succ_le_succ p4⟩
  simp only [PyData.depth]
  have t : tx (D.dct ks).rep = dictText ((D.repK ks).map tx) := (dictText_of _).symm
  rw [t]
  exact ReprK.dict ho ex.1 hd hs hna p3
mutual
theorem sh_of (I : Inv X pins σ H s) (sm : SmW F H) : ∀ (n : Nat) (d : D) (v : V) (u : Value), d.shOk n = true → Rep X.K T F v d → RelV v u → d.wt ≤ zaK → ShQ X s u n d.rep
  | n, .non, v, u, h, r, q, hw => .scal I sm rfl r q hw
  | n, .bl b, v, u, h, r, q, hw => .scal I sm rfl r q hw
  | n, .int i, v, u, h, r, q, hw => .scal I sm (by cases n <;> exact h) r q hw
  | n, .str x, v, u, h, r, q, hw => .scal I sm (by cases n <;> exact h) r q hw
  | 0, .lst xs, v, u, h, r, q, hw => by cases h
  | n + 1, .lst xs, v, u, h, r, q, hw => by
    obtain ⟨p, vs, rfl, hp, ra⟩ := r.lst_inv
    cases q
    have hw : D.wtL xs + 2 ≤ zaK := hw
    exact ShL.list I (sm _ _ hp) (fun us r => shL_of I sm n xs vs us h ra r (by omega)) (repL_nil ra)
  | 0, .tup xs, v, u, h, r, q, hw => by cases h
  | n + 1, .tup xs, v, u, h, r, q, hw => by
    obtain ⟨p, vs, rfl, hp, ra⟩ := r.tup_inv
    cases q
    have hw : D.wtL xs + 4 ≤ zaK := hw
    exact ShL.tuple I (sm _ _ hp) (fun us r => shL_of I sm n xs vs us h ra r (by omega))
  | 0, .dct ks, v, u, h, r, q, hw => by cases h
  | n + 1, .dct ks, v, u, h, r, q, hw => by
    obtain ⟨a, us, rfl, ha, rk⟩ := r.dct_inv
    cases q
    have hw : D.wtK ks + 5 ≤ zaK := hw
    exact ShK.dict I (sm.rd ha) (fun vs es kv pr => shK_of I sm n ks us vs es h rk kv pr (by omega))
  | n, .obj _ _, _, _, h, _, _, _ => by cases n <;> cases h
  | n, .frl _, _, _, h, _, _, _ => by cases n <;> cases h
  | n, .cls _, _, _, h, _, _, _ => by cases n <;> cases h
  | n, .prt _, _, _, h, _, _, _ => by cases n <;> cases h
theorem shL_of (I : Inv X pins σ H s) (sm : SmW F H) : ∀ (n : Nat) (xs : List D) (vs : List V) (us : List Value), D.shOkL n xs = true → RepL X.K T F vs xs → Vals vs us → D.wtL xs ≤ zaK → ShL X s us n (D.repL xs)
  | n, [], _, _, _, .nil, q, _ => by
    cases q
    exact ⟨[], _, [], .nil, (fun _ h => nomatch h), .nil, Nat.zero_le _⟩
  | n, x :: xs, _, _, h, .cons r rs, .cons q qs, hw => by
    unfold D.shOkL at h
    rw [Bool.and_eq_true] at h
    have hw : x.wt + 2 + D.wtL xs ≤ zaK := hw
    exact ShL.cons (sh_of I sm n x _ _ h.1 r q (by omega)) (shL_of I sm n xs _ _ h.2 rs qs (by omega))
theorem shK_of (I : Inv X pins σ H s) (sm : SmW F H) : ∀ (n : Nat) (ks : List (Ky × D)) (kvs : List (Key × V)) (vs : List (Key × Value)) (es : List DictEntry), D.shOkK n ks = true → RepK X.K T F kvs ks → KV kvs vs → Pairs (mixKind X.prog X.w) es vs → D.wtK ks ≤ zaK → ShK X s es n (D.repK ks)
  | n, [], _, _, _, _, .nil, q, p, _ => by
    cases q
    cases p
    exact ⟨[], _, _, [], .nil, .nil, (fun _ h => nomatch h), .nil, Nat.zero_le _⟩
  | n, (k, d) :: ks, _, _, _, h, .cons z r rs, q, p, hw => by
    unfold D.shOkK at h
    rw [Bool.and_eq_true, Bool.and_eq_true] at h
    have hw : kyWt k + 2 + d.wt + 2 + D.wtK ks ≤ zaK := hw
    cases q with
    | cons q qs =>
      rename_i kv vs
      cases p with
      | cons p1 p2 ps =>
        obtain ⟨e1, e2⟩ := q
        refine ShK.cons (.key h.1 ?_ (by omega)) (sh_of I sm n d _ _ h.2.1 r ?_ (by omega)) (shK_of I sm n ks _ _ _ h.2.2 rs qs ps (by omega))
        · have e1 : kyV k = kv.1 := e1
          rw [e1]
          exact p1
        · rw [p2]; exact e2
end
/-- .. at the call -/
def rRepr (X : Cx) (T : Tb) : List V → Hp → VK → Prop := fun xs H Q => ∃ (v : V) (d : D) (F : Hp), xs = [v] ∧ SmW F H ∧ Rep X.K T F v d ∧ d.shOk 40 = true ∧ d.wt ≤ zaK ∧ Q (.str (tx d.rep)) H
theorem q_fits {n : Nat} {d : D} (h : d.shOk n = true) (hw : d.wt ≤ zaK) : (tx d.rep).length ≤ sizeLine := by
  rw [tx_len, ← maxTx_eq]
  exact Nat.le_trans (q_len n d h) hw
theorem call_reprA (un : X.A.units + 200 < cLine) (gd : X.A.guards = some []) : CallR X (.builtin "repr") (rRepr X T) := by
  intro pins s σ H xs us Q I r h
  obtain ⟨v, d, F, rfl, sm, rp, ok, wt, q⟩ := h
  obtain ⟨u, rfl, ru⟩ := vals1 r
  have hz := q_fits ok wt
  have room := un
  have fin : ∀ (h' : Heap) (t tk : Nat), (∀ b o, s.heap.get? b = some o → h'.get? b = some o) → EP X pins σ Q (.str (tx d.rep) t) { s with heap := h', toks := tk } := fun h' t tk k => ⟨.str (tx d.rep), H, I.kept k, ⟨_, rfl⟩, q⟩
  cases d with
  | non =>
    rw [rp.non_inv] at ru
    cases ru
    exact PySem.P.repr_of_none (fin s.heap _ _ fun b o e => e)
  | bl b =>
    rw [rp.bl_inv] at ru
    cases ru
    have := fin s.heap
    cases b <;> exact PySem.P.repr_of_bool (this _ _ fun b o e => e)
  | int i =>
    rw [rp.int_inv] at ru
    obtain ⟨t, rfl⟩ := ru
    have hi : i.natAbs < 10 ^ 120 := of_decide_eq_true ok
    have e : tx (D.rep (.int i)) = toString i := (tx_ofString _).symm
    rw [e] at fin
    exact PySem.P.repr_of_int (log_small hi) (fin s.heap _ _ fun b o e => e)
  | str x =>
    rw [rp.str_inv.1] at ru
    obtain ⟨t, rfl⟩ := ru
    have e : tx (D.rep (.str x)) = reprText (tx x) := (reprText_of ok).symm
    rw [e] at fin hz
    exact PySem.P.repr_of_str (fin s.heap _ _ fun b o e => e) hz
  | lst xs =>
    obtain ⟨a, vs, rfl, ha, ra⟩ := rp.lst_inv
    cases ru
    have ha := sm _ _ ha
    have wt' : D.wtL xs + 2 ≤ zaK := wt
    obtain ⟨z, its, n, r, e⟩ := I.hok a _ ha
    obtain ⟨pds, as, bs, p1, p2, p3, p4⟩ := shL_of I sm 39 xs vs _ ok ra r (by omega)
    have rd : Reads s.heap (.ref a) (.list pds) (a :: as) := .list e rfl rfl p1
    have hna : a ∉ bs := not_mem_of_deeper rd (by simp only [PyData.depth]; omega) p2
    have t : tx (D.lst xs).rep = listText ((D.repL xs).map tx) := (listText_of _).symm
    rw [t] at fin hz
    refine call_repr_slot (by omega) ⟨_, e, rfl⟩ PySem.F.slot_list_repr.toG ?_
    cases vs with
    | nil =>
      cases r
      have e0 := (repL_nil ra).mpr rfl
      subst e0
      exact call_list_repr_empty ⟨_, e, rfl⟩ e rfl ⟨_, _, rfl, fin s.heap _ _ fun b o e => e⟩
    | cons v vs =>
      cases r with
      | cons r1 r2 => exact call_list_reprK (h₀ := s.heap) (as := bs) (d := PyData.depthAll pds) e rfl rfl hna (by simpa using p3.length_eq) (fun i y hy => p3.item i y (by simpa using hy)) gd (fun b _ => Clear.nil b) (by show X.A.units + 1 + _ < _; omega) (fun b o e => e) (fun h' u tk k => ⟨_, _, rfl, fin h' u tk k⟩) hz
  | tup xs =>
    obtain ⟨a, vs, rfl, ha, ra⟩ := rp.tup_inv
    cases ru
    have ha := sm _ _ ha
    have wt' : D.wtL xs + 4 ≤ zaK := wt
    obtain ⟨z, its, r, o, e1, e2, m, e3⟩ := (show ObjOk X.prog X.w H s.heap a (.tup vs) from I.hok a _ ha)
    obtain ⟨pds, as, bs, p1, p2, p3, p4⟩ := shL_of I sm 39 xs vs _ ok ra r (by omega)
    have rd : Reads s.heap (.ref a) (.tuple pds) as := .tuple e1 e2 e3 (by simpa using p1)
    have hna : a ∉ bs := not_mem_of_deeper rd (by simp only [PyData.depth]; omega) p2
    have t : tx (D.tup xs).rep = tupleText ((D.repL xs).map tx) := by rw [tupleText_of, repL_len]; rfl
    rw [t] at fin hz
    refine call_repr_slot (by omega) ⟨o, e1, e2⟩ PySem.F.slot_tuple_repr ?_
    exact call_tuple_reprK (h₀ := s.heap) (as := bs) (d := PyData.depthAll pds) e1 e2 e3 hna (by simpa using p3) gd (fun b _ => Clear.nil b) (by show X.A.units + 1 + _ < _; omega) (fun b o e => e) (fun h' u tk k => ⟨_, _, rfl, fin h' u tk k⟩) hz
  | dct ks =>
    obtain ⟨a, kvs, rfl, ha, rk⟩ := rp.dct_inv
    cases ru
    have wt' : D.wtK ks + 5 ≤ zaK := wt
    obtain ⟨_, hs, vs, kv, o, es, ep, ho, ex, hd, _, pr, _⟩ := dk_rd I.hok (sm.rd ha)
    obtain ⟨pds, as, cs, bs, p1, p1', p2, p3, p4⟩ := shK_of I sm 39 ks kvs vs es.toList ok rk kv pr (by omega)
    have rd : Reads s.heap (.ref a) (.dict pds) (a :: as ++ cs) := .dict ho ex.1 hd p1 p1'
    have hna : a ∉ bs := not_mem_of_deeper rd (by simp only [PyData.depth]; omega) p2
    have t : tx (D.dct ks).rep = dictText ((D.repK ks).map tx) := (dictText_of _).symm
    rw [t] at fin hz
    refine call_repr_slot (by omega) ⟨o, ho, ex.1⟩ PySem.F.slot_dict_repr ?_
    exact call_dict_reprK (h₀ := s.heap) (as := bs) (d := PyData.depthKv pds) ho ex.1 hd hs hna p3 gd (fun b _ => Clear.nil b) (by show X.A.units + 1 + _ < _; omega) (fun b o e => e) (fun h' u tk k => ⟨_, _, rfl, fin h' u tk k⟩) hz
  | obj _ _ => cases ok
  | dcT _ => cases ok
  | adr _ => cases ok
  | frl _ => cases ok
  | cls _ => cases ok
  | prt _ => cases ok
end
mutual
theorem shOk_of : ∀ (n : Nat) (d : D), d.repOk n = true → d.shOk n = true
  | n, .non, _ => by cases n <;> rfl
  | n, .bl _, _ => by cases n <;> rfl
  | n, .int _, h => by cases n <;> exact h
  | n, .str _, h => by cases n <;> exact h
  | 0, .lst xs, h => by cases h
  | n + 1, .lst xs, h => shOkL_of n xs h
  | 0, .tup xs, h => by cases h
  | n + 1, .tup xs, h => shOkL_of n xs h
  | n, .dct _, h => by cases n <;> cases h
  | n, .dcT _, h => by cases n <;> cases h
  | n, .adr _, h => by cases n <;> cases h
  | n, .obj _ _, h => by cases n <;> cases h
  | n, .frl _, h => by cases n <;> cases h
  | n, .cls _, h => by cases n <;> cases h
  | n, .prt _, h => by cases n <;> cases h
theorem shOkL_of : ∀ (n : Nat) (xs : List D), D.repOkL n xs = true → D.shOkL n xs = true
  | n, [], _ => by unfold D.shOkL; rfl
  | n, x :: xs, h => by
    unfold D.repOkL at h
    rw [Bool.and_eq_true] at h
    unfold D.shOkL
    rw [shOk_of n x h.1, shOkL_of n xs h.2]
    rfl
end
theorem repF_ok {d : D} (h : (d.repOk 40 = true ∧ d.wt ≤ zaK) ∨ d.noD = true) : d.shOk 40 = true ∧ d.wt ≤ zaK := by
  rcases h with ⟨h1, h2⟩ | h
  · exact ⟨shOk_of 40 d h1, h2⟩
  · unfold D.noD at h
    rw [Bool.and_eq_true, decide_eq_true_iff] at h
    exact h
theorem okTx_q {n : Nat} {d : D} (h : d.shOk n = true) (hw : d.wt ≤ zaK) : okTx d.rep := by
  refine ⟨q_sign n d h, ?_⟩
  rw [← maxTx_eq]
  exact Nat.le_trans (q_len n d h) hw
section
variable {X : Cx} {T : Tb}
theorem ok_repr : DL.FnR X.K T repF (rRepr X T) := by
  intro F H vs ds k Q s r ho kk
  unfold repF at ho
  split at ho
  · rename_i k d
    obtain ⟨v, rfl, r1⟩ := repL1 r
    obtain ⟨hd, hk⟩ := ho
    obtain ⟨h1, h2⟩ := repF_ok hd
    exact ⟨v, d, F, rfl, s, r1, h1, h2, kk _ _ _ (.fz (.str (okTx_q h1 h2))) hk⟩
  · exact ho.elim
end
end DL

set_option Elab.async false
set_option linter.all false
set_option autoImplicit false
set_option maxRecDepth 100000
/-! DLX22: defs with *args; is True; a, b, c = x, y, z; xs[::-1]. -/
namespace DL
open PySem PySem.Spec PyProof.Rows L2
/-- def f(*v): what is handed in is one tuple -/
structure DefV (P : Program) (w : World) (K : PySem.W.Frag) (mg : Str → Option Value) (base : Heap) (T : Tb) (k : Nat) (f : Addr) (con : Con) : Prop where
  run : ∀ (A : Around) (outer : List PySem.Env) (s : Shared) (H : Hp) (us : List Value) (vs : List V) (Q : VK) (E : XK), RoomG k A → Env0 P w K mg base A outer s H → Vals vs us → vs.length ≤ sizeLine →
    (∀ p, H p = none → spC K T 1 [] con [.ref p] (upd H p (.tup vs)) Q E) → codeAny (model P w) A (.call (.ref f) ⟨us, []⟩) (CR (CZ K P w) outer P w H s Q E) s
  kp : PySem.W.keepIn K (.ref f) = true
section
variable {P : Program} {w : World} {K : PySem.W.Frag} {mg : Str → Option Value} {base : Heap} {T : Tb}
end
section
variable {X : Cx} {T : Tb} {B : Bs} {M : List Nat} {W : EK} {F H : Hp} {ρ : Env} {σ : L2.St}
variable {k : Nat} {fa : Addr} {con : Con} {x : Str} {p pos : Pos} {e : Expr} {es : List Expr} {f : DE} {fs : List DE}
theorem RepL.reverse : ∀ {vs : List V} {xs : List D}, RepL X.K T F vs xs → RepL X.K T F vs.reverse xs.reverse
  | _, _, .nil => .nil
  | _, _, .cons a b => by rw [List.reverse_cons, List.reverse_cons]; exact (RepL.reverse b).append (.cons a .nil)
def CalV (P : Program) (w : World) (K : PySem.W.Frag) (mg : Str → Option Value) (base : Heap) (T : Tb) (x : Str) (k : Nat) (con : Con) : Prop := ∃ fa, DefV P w K mg base T k fa con ∧ mg x = some (.ref fa)
def tCallV (K : PySem.W.Frag) (T : Tb) (con : Con) (E : L2.St → XK) (t : TA) : TE := fun σ H Q => t σ H fun vs H1 => vs.length ≤ sizeLine ∧ ∀ p, H1 p = none → spC K T 1 [] con [.ref p] (upd H1 p (.tup vs)) Q (E σ)
end
/-! ### is, is not with a truth value -/
section
variable {X : Cx} {T : Tb} {B : Bs} {M : List Nat} {W : EK} {F H : Hp} {ρ : Env} {σ : L2.St}
theorem ok_notB : OpOk X.K T notBD rNotB := by
  intro F H x y dx dy k Q s rx ry ho kk
  cases dx with
  | bl a =>
    cases dy with
    | bl b =>
      refine ⟨a, b, rx.bl_inv, ry.bl_inv, ?_⟩
      have e : (!decide (a = b)) = (!(a == b)) := by cases a <;> cases b <;> rfl
      rw [e]
      exact kk _ _ _ (.fz (.bl _)) ho
    | _ => exact ho.elim
  | _ => exact ho.elim
variable {a b c e : Expr} {f g h : DE} {pos : Pos}
/-! ### a, b, c = x, y, z -/
/-! ### xs[::-1] -/
end
end DL

set_option Elab.async false
set_option linter.all false
set_option autoImplicit false
set_option maxRecDepth 100000
set_option maxHeartbeats 1000000
/-! DLX23: try with several clauses that name what they catch. -/
namespace DL
open PySem PySem.Spec PyProof.Rows L2
abbrev Clause := Value × Nat × (Addr → Value → Option Addr → TS)
/-- the ends of a clause whose name (at i) goes behind it -/
def unnamed (i : Nat) (D : Ends) : Ends := { nx := fun σ H => D.nx (σ.set i none) H, rt := D.rt, bk := fun σ H => D.bk (σ.set i none) H, ct := fun σ H => D.ct (σ.set i none) H }
/-- the clauses' wish, one behind the other -/
def wCls (K : PySem.W.Frag) (Wout : WX) (D : Ends) : List Clause → WX
  | [] => Wout
  | (c, i, ts) :: r => fun cls d σ H => ∃ hit, PySem.W.exmOne K cls c = some hit ∧ (hit = true → ∀ a, H a = none → ts a cls d (unnamed i D) (σ.set i (some (.ref a))) H) ∧ (hit = false → wCls K Wout D r cls d σ H)
inductive ClsOk (X : Cx) : List ExceptHandler → List Clause → Prop
  | nil : ClsOk X [] []
  | cons {x n : Str} {c : Value} {i : Nat} {ts : Addr → Value → Option Addr → TS} {st : Stmt} {sts : List Stmt} {np hp : Pos} {hds : List ExceptHandler} {l : List Clause} (names : Names X x c) (at_ : X.N[i]? = some n) (own : X.env.kindOf n = some .local)
      (suite : ∀ (a : Addr) (oe : Obj) (cls : Value) (d : Option Addr) (pn : List (Addr × Obj)), Zc cls d oe → (∃ vs, oe.data = .fields vs) → PSs (X.suite a ((a, oe) :: pn)) (st :: sts) (ts a cls d)) (rest : ClsOk X hds l) :
      ClsOk X (.ExceptHandler (some (.Name x np)) (some n) (st :: sts) hp :: hds) ((c, i, ts) :: l)
section
variable {X : Cx} {body : List Stmt} {h₀ : ExceptHandler} {hds : List ExceptHandler} {l : List Clause} {pos : Pos} {tb : WX → TS} {Wout : WX}
/-- from a suite's state to the one behind it -/
theorem behind {pins : List (Addr × Obj)} {D : Ends} {i : Nat} {n : Str} {hp : Pos} {a : Addr} {oe : Obj} {fl : Flow} {s6 : Shared} (ok : X.Ok) (hN : X.N.Nodup) (at_ : X.N[i]? = some n) (own : X.env.kindOf n = some .local)
    (hsp : SP (X.suite a ((a, oe) :: (X.pn ++ pins))) [] (unnamed i D) fl s6) :
    wpAny (model X.prog X.w) X.A (do bindName X.env n .none; unbindBehindTheSuite X.env n hp) (fun _ s7 => SP X pins D fl s7) X.xe s6 := by
  cases fl with
  | next => obtain ⟨σ6, H6, S6, q⟩ := hsp; exact gone_ok (S6.unsuite ok) hN at_ own fun s7 J7 => ⟨_, _, J7, q⟩
  | brk => obtain ⟨σ6, H6, S6, q⟩ := hsp; exact gone_ok (S6.unsuite ok) hN at_ own fun s7 J7 => ⟨_, _, J7, q⟩
  | cont => obtain ⟨σ6, H6, S6, q⟩ := hsp; exact gone_ok (S6.unsuite ok) hN at_ own fun s7 J7 => ⟨_, _, J7, q⟩
  | ret u => obtain ⟨v, σ6, H6, S6, r, q⟩ := hsp; exact gone_ok (S6.unsuite ok) hN at_ own fun s7 J7 => ⟨_, _, _, J7, r, q⟩
end
/-! ### over data -/
def suiteT (X : Cx) (T : Tb) (M : List Nat) (i c : Nat) (fs : Exc → DS) : Addr → Value → Option Addr → TS := fun a cls d D σ H => ∃ y B', B'.P i = .ref a ∧ ExR X.K T B'.F0 cls d y ∧ y.cls = c ∧ lS X.K T B' (i :: M) noE (fs y) D σ H
inductive ClsD (X : Cx) (T : Tb) (M : List Nat) : List ExceptHandler → List DClause → List Clause → Prop
  | nil : ClsD X T M [] [] []
  | cons {x n : Str} {C : Value} {i c : Nat} {fs : Exc → DS} {st : Stmt} {sts : List Stmt} {np hp : Pos} {hds : List ExceptHandler} {cl : List DClause} {l : List Clause} (names : Names X x C) (at_ : X.N[i]? = some n) (own : X.env.kindOf n = some .local) (free : i ∉ M) (kind : ExM X.K T c C)
      (suite : ∀ (a : Addr) (oe : Obj) (cls : Value) (d : Option Addr) (pn : List (Addr × Obj)) (y : Exc) (B' : Bs), Zc cls d oe → (∃ vs, oe.data = .fields vs) → B'.P i = .ref a → ExR X.K T B'.F0 cls d y → y.cls = c →
        PDSs (X.suite a ((a, oe) :: pn)) T B' (i :: M) noE (st :: sts) (fs y)) (rest : ClsD X T M hds cl l) :
      ClsD X T M (.ExceptHandler (some (.Name x np)) (some n) (st :: sts) hp :: hds) ((i, c, fs) :: cl) ((C, i, suiteT X T M i c fs) :: l)
section
variable {X : Cx} {T : Tb} {B : Bs} {M : List Nat} {W : EK} {F H : Hp} {ρ : Env} {σ : L2.St}
theorem ClsD.ok : ∀ {hds : List ExceptHandler} {cl : List DClause} {l : List Clause}, ClsD X T M hds cl l → ClsOk X hds l
  | _, _, _, .nil => .nil
  | _, _, _, .cons names at_ own free kind suite rest => .cons names at_ own (fun a oe cls d pn hz hf => ⟨fun pins s σ H J I ⟨y, B', h1, h2, h3, q⟩ => (suite a oe cls d pn y B' hz hf h1 h2 h3).run pins s σ H J I q⟩) rest.ok
theorem retv_out {F' H' : Hp} {ρ' : Env} {σ' : L2.St} {v : V} {r : R} (S : SR X.K T B M F H ρ σ) (R : RetV X.K T (baseAt B F H ρ σ) F' H' ρ' σ' v r) : RetV X.K T B F' H' ρ' σ' v r := RetV.low (fun b z => S.gone z) R
variable {body : List Stmt} {h₀ : ExceptHandler} {hds : List ExceptHandler} {pos : Pos} {fb : DS} {cl : List DClause} {l : List Clause}
end
/-! ### isinstance of what a suite holds -/
/-- own exceptions' word of a class -/
def ErrI (K : PySem.W.Frag) (T : Tb) (c : Nat) (cv : Value) (b : Bool) : Prop := ∀ ei, T.ex c = some ei → ExcC K ei.addr ∧ PySem.W.kitOne K (.ref ei.addr) cv = some b
section
variable {X : Cx} {T : Tb} {B : Bs} {M : List Nat} {W : EK}
end
end DL

set_option Elab.async false
set_option linter.all false
set_option autoImplicit false
set_option maxRecDepth 100000
/-! DLX28: a built-in function of a name that keeps its object. -/
namespace DL
open PySem PySem.Spec PyProof.Rows L2
section
variable {X : Cx} {T : Tb} {B : Bs} {M : List Nat} {W : EK} {F H : Hp} {ρ : Env} {σ : L2.St}
theorem flat_rep {K : PySem.W.Frag} {F F' : Hp} {v : V} {d : D} (hd : d.flat = true) (r : Rep K T F v d) : Rep K T F' v d := by
  cases d with
  | non => rw [r.non_inv]; exact .non
  | bl b => rw [r.bl_inv]; exact .bl b
  | int i => rw [r.int_inv]; exact .int i
  | str x => obtain ⟨rfl, z⟩ := r.str_inv; exact .str z
  | _ => cases hd
end
end DL

set_option Elab.async false
set_option linter.all false
set_option autoImplicit false
set_option maxRecDepth 100000
/-! DLX34: a comparison whose first operand is a name that keeps its object. -/
namespace DL
open PySem PySem.Spec PyProof.Rows L2
section
variable {X : Cx} {T : Tb} {B : Bs} {M : List Nat} {W : EK} {F H : Hp} {ρ : Env} {σ : L2.St}
variable {b : Expr} {g : DE} {pos px : Pos} {op : D → D → (R → Prop) → Prop} {r : R2} {i : Nat} {x : Str}
theorem opN_of (ho : OpOk X.K T op r) {H : Hp} {Q : VK} (h : lE X.K T B M W (dOpN op i g) σ H Q) : tOp r (tVar i) (lE X.K T B M W g) σ H Q := by
  obtain ⟨F, ρ, Qd, S, h, k⟩ := h
  obtain ⟨hkn, h⟩ := h
  have hv0 : ∃ v, σ[i]? = some (some v) := by
    have hs := S.slot i
    cases e : ρ.at i with
    | no => rw [e] at hkn; cases hkn
    | fz d => rw [e] at hs; obtain ⟨v, q, _⟩ := hs; exact ⟨v, q⟩
    | own d => rw [e] at hs; obtain ⟨p, o, q, _⟩ := hs; exact ⟨_, q⟩
    | ownT d => rw [e] at hs; obtain ⟨p, o, q, _⟩ := hs; exact ⟨_, q⟩
  obtain ⟨v, ev⟩ := hv0
  refine ⟨v, ev, ?_⟩
  refine zaL S h fun F1 H1 ρ1 v2 r2 e1 S1 R2 h1 => ?_
  have hs := S1.slot i
  cases hd : ρ1.at i with
  | no => rw [hd] at h1; exact h1.elim
  | ownT d => rw [hd] at h1; exact h1.elim
  | fz d =>
    rw [hd] at hs h1
    obtain ⟨v', ev', rv⟩ := hs
    rw [ev] at ev'
    cases ev'
    exact ho F1 H1 v v2 d r2.d _ Q S1.sub.toSmW rv R2 h1 fun z H' t n q => lE_end k e1 S1 n q
  | own d =>
    rw [hd] at hs h1
    obtain ⟨p, o, ep, hF, hH, ro, nt⟩ := hs
    rw [ev] at ep
    cases ep
    have su : Same F1 (upd F1 p o) := same_upd hF
    have sub : SmW (upd F1 p o) H1 := SmW.mk fun b x e => by
      by_cases hb : b = p
      · subst hb; rw [upd_same] at e; cases e; exact .inl hH
      · rw [upd_ne hb] at e; exact S1.sub.w _ _ e
    have h1 : op d r2.d fun t => t.d.flat = true ∧ Qd t ρ1 := h1
    refine ho (upd F1 p o) H1 (.ref p) v2 d r2.d _ Q sub (.ref upd_same (ro.mono su)) (R2.mono su) h1 fun z H' t n q => ?_
    obtain ⟨hf, q⟩ := q
    refine lE_end k e1 S1 ?_ q
    rcases n with ⟨d', rfl, rfl, rd⟩ | ⟨a', o', d', rfl, rfl, _, rfl, ro'⟩
    · exact .fz (flat_rep hf rd)
    · cases ro' <;> cases hf
theorem pdt_cmpN {o : CmpOp} (hr : OpR X (compareOp o) r) (ho : OpOk X.K T op r) (hN : X.N[i]? = some x) (hv : Vis X.env.scope x) (hb : PD X T B M W b g) (hm : behindInMarks o b = false) (hd : (x == ("__debug__" : Str)) = false := by decide) (hcd : (x == ("__classdict__" : Str)) = false := by decide) :
    PDT X T B M W (.Compare (.Name x px) [o] [b] pos) (tVal (dOpN op i g)) :=
  pt_imp (pt_cmpR hr (pe_var hN hv hd hcd) hb hm) fun σ H Q ⟨F, ρ, Qd, S, h, k⟩ => by
    refine opN_of (op := op) (g := g) ho ⟨F, ρ, _, S, h, fun F1 H1 ρ1 v1 r1 e1 S1 R1 h1 => ?_⟩
    obtain ⟨F2, e2, S2, R2⟩ := S1.fix R1
    cases hd : r1.d with
    | bl b => rw [hd] at h1 R2; exact ⟨b, R2.bl_inv, k F2 H1 ρ1 b (e1.trans e2) S2 h1⟩
    | _ => rw [hd] at h1; exact h1.elim
end
end DL

set_option Elab.async false
set_option linter.all false
set_option autoImplicit false
set_option maxRecDepth 100000
/-! DLX35: an expression or a test that reads one's own objects and hands back something flat: they stay one's own. -/
namespace DL
open PySem PySem.Spec PyProof.Rows L2
section
variable {K : PySem.W.Frag} {T : Tb} {B : Bs} {M : List Nat} {F H : Hp} {ρ : Env} {σ : L2.St}
/-- every own object is settled -/
theorem SR.calmAll : ∀ (n : Nat) {F : Hp} {ρ : Env}, SR K T B M F H ρ σ → (∀ i, n ≤ i → (ρ.at i).isOwn = false) → ∃ F', Same F F' ∧ SR K T B M F' H (ρ.map Slot.calm) σ ∧ ∀ i, ∀ a ∈ foot H (σ[i]?) (ρ.at i), ∃ u, F' a = some u
  | 0, F, ρ, S, h => by
    have e : ρ.map Slot.calm = ρ := by
      apply List.ext_getElem?
      intro i
      rw [List.getElem?_map]
      cases hi : ρ[i]? with
      | none => rfl
      | some s =>
        have hs : ρ.at i = s := by unfold Env.at; rw [hi]; rfl
        have := h i (Nat.zero_le _)
        rw [hs] at this
        cases s with
        | no => rfl
        | fz d => rfl
        | own d => cases this
        | ownT d => cases this
    rw [e]
    refine ⟨F, Same.refl _, S, fun i a ha => ?_⟩
    have := h i (Nat.zero_le _)
    cases hd : ρ.at i with
    | no => rw [hd, foot_no] at ha; simp at ha
    | fz d => rw [hd, foot_fz] at ha; simp at ha
    | own d => rw [hd] at this; cases this
    | ownT d => rw [hd] at this; cases this
  | n + 1, F, ρ, S, h => by
    have step : ∀ {F' : Hp} {d : D}, ρ.at n ≠ .no → (ρ.at n).calm = .fz d → Same F F' → SR K T B M F' H (ρ.set n (.fz d)) σ → (∀ a ∈ foot H (σ[n]?) (ρ.at n), ∃ u, F' a = some u) → ∃ F', Same F F' ∧ SR K T B M F' H (ρ.map Slot.calm) σ ∧ ∀ i, ∀ a ∈ foot H (σ[i]?) (ρ.at i), ∃ u, F' a = some u := fun {F' d} hd hc su S' hin' => by
      have hl : n < ρ.length := Env.at_lt hd
      obtain ⟨F2, su2, S2, in2⟩ := SR.calmAll n S' fun i hi => by
        by_cases hin : n = i
        · subst hin; rw [Env.at_set_same hl]; rfl
        · rw [Env.at_set_ne hin]; exact h i (by omega)
      refine ⟨F2, su.trans su2, ?_, fun i a ha => ?_⟩
      rotate_left
      · by_cases hin : n = i
        · subst hin
          obtain ⟨u, hu⟩ := hin' a ha
          exact ⟨u, su2 _ _ hu⟩
        · exact in2 i a (by rw [Env.at_set_ne hin]; exact ha)
      have e : (ρ.set n (.fz d)).map Slot.calm = ρ.map Slot.calm := by
        apply List.ext_getElem?
        intro i
        rw [List.getElem?_map, List.getElem?_map]
        by_cases hin : n = i
        · subst hin
          rw [List.getElem?_set_self hl]
          unfold Env.at at hc
          cases q : ρ[n]? with
          | none => rw [List.getElem?_eq_none_iff] at q; omega
          | some s => rw [q] at hc; exact congrArg some hc.symm
        · rw [List.getElem?_set_ne hin]
      rw [e] at S2
      exact S2
    cases hd : ρ.at n with
    | own d =>
      obtain ⟨F', v, su, S', _, _, hi⟩ := S.calmAt hd
      exact step (by rw [hd]; exact fun z => nomatch z) (by rw [hd]; rfl) su S' hi
    | ownT d =>
      obtain ⟨F', v, su, S', _, _, hi⟩ := S.calmAtT hd
      exact step (by rw [hd]; exact fun z => nomatch z) (by rw [hd]; rfl) su S' hi
    | no =>
      exact SR.calmAll n S fun i hi => by
        by_cases hin : n = i
        · subst hin; rw [hd]; rfl
        · exact h i (by omega)
    | fz d =>
      exact SR.calmAll n S fun i hi => by
        by_cases hin : n = i
        · subst hin; rw [hd]; rfl
        · exact h i (by omega)
/-- back to the frame as it was: nothing that it speaks of was changed -/
theorem SR.back {F2 F3 H3 : Hp} {ρ3 : Env} (S : SR K T B M F H ρ σ) (S2 : SR K T B M F2 H (ρ.map Slot.calm) σ) (hf : ∀ i, ∀ a ∈ foot H (σ[i]?) (ρ.at i), ∃ u, F2 a = some u) (e : Same F F2) (e2 : Same F2 F3) (S3 : SR K T B M F3 H3 ρ3 σ) : SR K T B M F H3 ρ σ ∧ ∀ i, foot H3 (σ[i]?) (ρ.at i) = foot H (σ[i]?) (ρ.at i) := by
  have stay : ∀ i, ∀ a ∈ foot H (σ[i]?) (ρ.at i), H3 a = H a := fun i a ha => by
    obtain ⟨u, hu⟩ := hf i a ha
    rw [S3.sure (e2 _ _ hu) (S.newO ha), S2.sure hu (S.newO ha)]
  have fe := S.footEq stay
  exact ⟨⟨S3.sub.pre (e.trans e2), S3.keep, S3.live, S.f0, S.fnew, S.len, fun i => (S.slot i).mono (Same.refl _) fun a ha => ⟨(S.priv ha).1, stay i a ha⟩, fun i a ha => S.newF i a (fe i ▸ ha), fun i j a h1 h2 => S.injF i j a (fe i ▸ h1) (fe j ▸ h2), S.pin, S3.tabs.1, S.tabs.2⟩, fe⟩
end
section
variable {X : Cx} {T : Tb} {B : Bs} {M : List Nat} {W : EK} {F H : Hp} {ρ : Env} {σ : L2.St}
theorem flat_rep2 {K : PySem.W.Frag} {F F' : Hp} {v : V} {d : D} (hd : d.flat = true) (r : Rep K T F v d) : Rep K T F' v d := by
  cases d with
  | non => rw [r.non_inv]; exact .non
  | bl b => rw [r.bl_inv]; exact .bl b
  | int i => rw [r.int_inv]; exact .int i
  | str x => obtain ⟨rfl, z⟩ := r.str_inv; exact .str z
  | _ => cases hd
theorem pdt_look {e : Expr} {c : DT} (he : PDT X T B M noE e c) : PDT X T B M W e (tLook c) :=
  pt_imp he fun σ H Q ⟨F, ρ, Qd, S, h, k⟩ => by
    obtain ⟨F2, e2, S2, hf⟩ := S.calmAll ρ.length (fun i hi => by rw [at_oob (by omega)]; rfl)
    refine lT_run (Qd := fun b _ => Qd b ρ) S2 h fun F3 H3 ρ3 b e3 S3 q3 => ?_
    exact k F H3 ρ b (Same.refl _) (S.back S2 hf e2 e3 S3).1 q3
end
end DL

set_option Elab.async false
set_option linter.all false
set_option autoImplicit false
set_option maxRecDepth 100000
/-! DLX37: {k: e, ..} with written keys; d[k]; a constant of a class. -/
namespace DL
open PySem PySem.Spec PyProof.Rows L2
section
variable {X : Cx} {T : Tb} {B : Bs} {M : List Nat} {W : EK} {F H : Hp} {ρ : Env} {σ : L2.St}
variable {a b e : Expr} {f g : DE} {pos : Pos}
/-! keys that are tuples -/
theorem kyV1_of {K : PySem.W.Frag} {d : D} {k : Ky} {v : V} (h : kyOf1 d = some k) (r : Rep K T F v d) : v = kV (kyV k) ∧ okKy k := by
  cases d with
  | int i => cases h; exact ⟨r.int_inv, trivial⟩
  | str x => cases h; exact ⟨r.str_inv.1, r.str_inv.2⟩
  | _ => cases h
theorem kysV_of {K : PySem.W.Frag} : ∀ {vs : List V} {xs : List D} {ks : List Ky}, RepL K T F vs xs → kysOf xs = some ks → vs = (ks.map kyV).map kV ∧ ∀ k ∈ ks, okKy k
  | _, _, ks, .nil, h => by cases h; exact ⟨rfl, fun k hk => by cases hk⟩
  | _, _, ks, .cons (d := d) (xs := xs) r rs, h => by
    unfold kysOf at h
    cases h1 : kyOf1 d with
    | none => rw [h1] at h; cases h
    | some k =>
      rw [h1] at h
      cases h2 : kysOf xs with
      | none => rw [h2] at h; cases h
      | some js =>
        rw [h2] at h
        cases h
        obtain ⟨e1, o1⟩ := kyV1_of h1 r
        obtain ⟨e2, o2⟩ := kysV_of rs h2
        refine ⟨by rw [e1, e2]; rfl, fun z hz => ?_⟩
        rcases List.mem_cons.mp hz with rfl | hz
        · exact o1
        · exact o2 z hz
theorem kysV_inj : ∀ {a b : List Ky}, a.map kyV = b.map kyV → a = b
  | [], [], _ => rfl
  | [], _ :: _, h => nomatch h
  | _ :: _, [], h => nomatch h
  | x :: a, y :: b, h => by
    rw [List.map_cons, List.map_cons] at h
    injection h with h1 h2
    rw [kyV_inj h1, kysV_inj h2]
theorem kysV_iff {a b : List Ky} : a.map kyV = b.map kyV ↔ a = b := ⟨kysV_inj, fun h => by rw [h]⟩
/-! ### displays -/
abbrev trsD (K : PySem.W.Frag) (T : Tb) (M : List Nat) (ks : List Ky) (fs : List DE) : List (TE × TE) := (ks.zip fs).map fun z => (tC (kV (kyV z.1)), lEx K T M noE z.2)
abbrev PDP (X : Cx) (T : Tb) (M : List Nat) (pos : Pos) (keys : List (Option Expr)) (values : List Expr) (ks : List Ky) (fs : List DE) : Prop := PPs X pos keys values (trsD X.K T M ks fs)
def okKyB : Ky → Bool
  | .int _ => true
  | .str x => okTxB x
/-! ### a constant of a class -/
/-- C.f is a constant, whose data is d -/
def CCon (K : PySem.W.Frag) (C : Addr) (n : Str) (d : D) : Prop := ∃ v u, ClX.CVal K C (.type "type") n v u ∧ ∀ T F, Rep K T F v d
end
end DL

set_option Elab.async false
set_option linter.all false
set_option autoImplicit false
set_option maxRecDepth 100000
set_option maxHeartbeats 2000000
/-! DLX38: zip of two sources of any sort, strict or not, at the library's level. -/
namespace DLZ
open PySem
open PySem.Sem (wp)
/-- a zip: strict or not; its tuple's word -/
abbrev IsZF (b : Bool) (h : Heap) (z TI TO : Addr) (f0 f1 : Value) : Prop :=
  h.get? z = some { cls := .type "zip", dict := none, data := .fields #[f0, f1, .bool b, .ref TI, .ref TO], slots := #[] }
/-- a zip: strict or not -/
abbrev IsZ (b : Bool) (h : Heap) (z TI TO : Addr) (f0 : Value) : Prop :=
  h.get? z = some { cls := .type "zip", dict := none, data := .fields #[f0, .bool false, .bool b, .ref TI, .ref TO], slots := #[] }
/-- a source: it yields n things -/
abbrev Src (prog : Program) (w : World) (it : Addr) (fp : List Addr) (n : Nat) (P : Nat → Value → Prop) (St : Nat → Heap → Prop) : Prop := ∀ A : Around, A.handled = none → Draws prog w A it fp n P St
structure Apart (z TI TO i1 i2 : Addr) (fp1 fp2 : List Addr) : Prop where
  tiz : TI ≠ z
  toz : TO ≠ z
  i1z : i1 ≠ z
  i2z : i2 ≠ z
  tito : TI ≠ TO
  tii1 : TI ≠ i1
  tii2 : TI ≠ i2
  toi1 : TO ≠ i1
  toi2 : TO ≠ i2
  i12 : i1 ≠ i2
  z1 : z ∉ fp1
  t1 : TO ∉ fp1
  o1 : i2 ∉ fp1
  z2 : z ∉ fp2
  t2 : TO ∉ fp2
  o2 : i1 ∉ fp2
def drawB (b : Bool) (it : Value) : Sem (Option Value) := if b = true then Builtin.SmallTypes.nextOrEnd it else (do return some (← Builtin.SmallTypes.nextOf it))
section
variable {prog : Program} {w : World} {A : Around} {E : Value → Shared → Prop} {s : Shared}
variable {z TI TO i1 i2 : Addr} {fp1 fp2 : List Addr} {n1 n2 k1 k2 : Nat} {P1 P2 : Nat → Value → Prop} {St1 St2 : Nat → Heap → Prop} {a b : Value} {sb : Bool}
/-- its tuple may be used again -/
def Free (h : Heap) (f0 : Value) : Prop := f0 = .none ∨ ∃ T : Addr, f0 = rawInt T ∧ h.get? T = none
end
end DLZ

set_option Elab.async false
set_option linter.all false
set_option autoImplicit false
set_option maxRecDepth 100000
set_option maxHeartbeats 2000000
/-! DLX39: for over zip of two sources of any sort. -/
namespace DLZ
open PySem PySem.Spec PyProof.Rows L2
section
variable {prog : Program} {w : World} {A : Around} {E : Value → Shared → Prop} {s : Shared} {z TI TO i1 i2 T : Addr} {sb : Bool}
end
/-- a source in a loop -/
structure ZS (P : Program) (w : World) (K : PySem.W.Frag) (it : Addr) where
  tn : Nat → Heap → Prop
  go : Nat → Hp → Prop
  stop : Nat → Hp → Prop
  val : Nat → Hp → V → Prop
  obj : ∀ i h, tn i h → ∃ o, h.get? it = some o ∧ ∀ v, o.data ≠ .cell v
  keep : ∀ i h h', tn i h → (∀ o, h.get? it = some o → h'.get? it = some o) → tn i h'
  item : ∀ (X : Cx) (i : Nat) (pins : List (Addr × Obj)) (s : Shared) (σ : L2.St) (H : Hp), X.prog = P → X.w = w → X.K = K → Inv X pins σ H s → H it = none → tn i s.heap → go i H → ∃ (fp : List Addr) (n : Nat) (Pv : Nat → Value → Prop) (S : Nat → Heap → Prop),
    Src P w it fp n Pv S ∧ S i s.heap ∧ i < n ∧ (∀ h, S (i + 1) h → tn (i + 1) h) ∧ (∀ x, Pv i x → ∃ v, RelV v x ∧ val i H v) ∧ ∀ c ∈ fp, c = it ∨ H c ≠ none
  done : ∀ (X : Cx) (i : Nat) (pins : List (Addr × Obj)) (s : Shared) (σ : L2.St) (H : Hp), X.prog = P → X.w = w → X.K = K → Inv X pins σ H s → H it = none → tn i s.heap → stop i H → ∃ (fp : List Addr) (Pv : Nat → Value → Prop) (S : Nat → Heap → Prop),
    Src P w it fp i Pv S ∧ S i s.heap ∧ ∀ c ∈ fp, c = it ∨ H c ≠ none
def ItG {P : Program} {w : World} {K : PySem.W.Frag} {i1 i2 : Addr} (sb : Bool) (Z1 : ZS P w K i1) (Z2 : ZS P w K i2) : It :=
  ⟨fun i H => Z1.go i H ∧ Z2.go i H, fun i H v H' => ∃ T x y, v = .ref T ∧ H T = none ∧ H' = upd H T (.tup [x, y]) ∧ Z1.val i H x ∧ Z2.val i H y, fun i H => if sb = true then Z1.stop i H ∧ Z2.stop i H else Z1.stop i H ∨ (Z1.go i H ∧ Z2.stop i H)⟩
structure Five (z TI TO i1 i2 : Addr) : Prop where
  tiz : TI ≠ z
  toz : TO ≠ z
  i1z : i1 ≠ z
  i2z : i2 ≠ z
  tito : TI ≠ TO
  tii1 : TI ≠ i1
  tii2 : TI ≠ i2
  toi1 : TO ≠ i1
  toi2 : TO ≠ i2
  i12 : i1 ≠ i2
theorem Five.apart {z TI TO i1 i2 : Addr} {fp1 fp2 : List Addr} {H : Hp} (D : Five z TI TO i1 i2) (hf : ∀ c ∈ [z, TI, TO, i1, i2], H c = none) (h1 : ∀ c ∈ fp1, c = i1 ∨ H c ≠ none) (h2 : ∀ c ∈ fp2, c = i2 ∨ H c ≠ none) : Apart z TI TO i1 i2 fp1 fp2 := by
  have no1 : ∀ c, c ∈ [z, TI, TO, i1, i2] → c ≠ i1 → c ∉ fp1 := fun c hc hn hm => (h1 c hm).elim hn fun q => q (hf c hc)
  have no2 : ∀ c, c ∈ [z, TI, TO, i1, i2] → c ≠ i2 → c ∉ fp2 := fun c hc hn hm => (h2 c hm).elim hn fun q => q (hf c hc)
  exact ⟨D.tiz, D.toz, D.i1z, D.i2z, D.tito, D.tii1, D.tii2, D.toi1, D.toi2, D.i12, no1 _ (by simp) D.i1z.symm, no1 _ (by simp) D.toi1, no1 _ (by simp) D.i12.symm, no2 _ (by simp) D.i2z.symm, no2 _ (by simp) D.toi2, no2 _ (by simp) D.i12⟩
/-- what the zip keeps between the turns where the target is a name -/
def ZN (sb : Bool) (h : Heap) (z TI TO : Addr) : Prop := IsZ sb h z TI TO .none ∨ ∃ (T : Addr) (f : Bool), IsZF sb h z TI TO (rawInt T) (.bool f)
theorem ZN.obj {sb : Bool} {h : Heap} {z TI TO : Addr} (q : ZN sb h z TI TO) : ∃ o, h.get? z = some o ∧ o.cls = .type "zip" ∧ ∀ v, o.data ≠ .cell v := by
  rcases q with e | ⟨T, f, e⟩
  · exact ⟨_, e, rfl, fun v z => nomatch z⟩
  · exact ⟨_, e, rfl, fun v z => nomatch z⟩
theorem ZN.keep {sb : Bool} {h h' : Heap} {z TI TO : Addr} (q : ZN sb h z TI TO) (k : ∀ o, h.get? z = some o → h'.get? z = some o) : ZN sb h' z TI TO := by
  rcases q with e | ⟨T, f, e⟩
  · exact .inl (k _ e)
  · exact .inr ⟨T, f, k _ e⟩
end DLZ

set_option Elab.async false
set_option linter.all false
set_option autoImplicit false
set_option maxRecDepth 100000
set_option maxHeartbeats 2000000
/-! DLX40: zip(text, text); zip(a, b, strict=True) of lists and tuples. -/
namespace DLZ
open PySem PySem.Spec PyProof.Rows L2
open PySem.Sem (wp)
/-- at its end -/
theorem endAt {prog : Program} {w : World} {it : Addr} {fp : List Addr} {i : Nat} {S : Heap → Prop} (hm : it ∈ fp) (live : ∀ h, S h → ∃ o, h.get? it = some o) (frame : ∀ h h', S h → (∀ b ∈ fp, ∀ o, h.get? b = some o → h'.get? b = some o) → S h')
    (done : ∀ (A : Around), A.handled = none → ∀ (s : Shared) (Q : Value → Shared → Prop) (E : Value → Shared → Prop), S s.heap → (∀ h' e, Heap.ExtBut it s.heap h' → (∃ o, h'.get? e = some o ∧ o.cls = .type "StopIteration") → E (.ref e) { s with heap := h' }) → wpAny (model prog w) A (Builtin.SmallTypes.nextOf (.ref it)) Q E s) :
    Src prog w it fp i (fun _ _ => False) (fun j h => j = i ∧ S h) := fun A hA =>
  { live := fun j h q => live h q.2
    frame := fun j h h' q k => ⟨q.1, frame h h' q.2 k⟩
    item := fun j s Q E hj q => absurd q.1 (by omega)
    done := fun s Q E q k => done A hA s Q E q.2 k }
def strTy (ty : String) : Prop := ty = "str_ascii_iterator" ∨ ty = "str_iterator"
def ZS.str (P : Program) (w : World) (K : PySem.W.Frag) (it : Addr) (x : Str) (t : Tok) (ty : String) (hty : strTy ty) : ZS P w K it where
  tn := fun i h => h.IsStrIter it ty x t i
  go := fun i _ => i < x.cps.size
  stop := fun i _ => x.cps.size ≤ i
  val := fun i _ v => ∃ c, x.cps[i]? = some c ∧ v = .str ⟨#[c]⟩
  obj := fun i h ⟨o, e, c, d⟩ => ⟨o, e, fun v q => by rw [d] at q; cases q⟩
  keep := fun i h h' ⟨o, e, r⟩ k => ⟨o, k o e, r⟩
  item := fun X i pins s σ H _ _ _ I _ st hg => by
    rcases hty with e | e
    · subst e
      exact ⟨[it], x.cps.size, _, _, fun A hA => Draws.strAscii hA it x t, st, hg, fun h q => q, fun v ⟨c, u, hc, hv⟩ => ⟨.str ⟨#[c]⟩, ⟨u, hv⟩, c, hc, rfl⟩, fun c hc => .inl (by simpa using hc)⟩
    · subst e
      exact ⟨[it], x.cps.size, _, _, fun A hA => Draws.strWide hA it x t, st, hg, fun h q => q, fun v ⟨c, u, hc, hv⟩ => ⟨.str ⟨#[c]⟩, ⟨u, hv⟩, c, hc, rfl⟩, fun c hc => .inl (by simpa using hc)⟩
  done := fun X i pins s σ H _ _ _ I _ st hg => by
    have hx : x.cps[i]? = none := Array.getElem?_eq_none hg
    refine ⟨[it], _, _, endAt (S := fun h => h.IsStrIter it ty x t i) (by simp) (fun h ⟨o, e, _⟩ => ⟨o, e⟩) (fun h h' ⟨o, e, r⟩ k => ⟨o, k it (by simp) o e, r⟩) (fun A hA s Q E q k => ?_), ⟨rfl, st⟩, fun c hc => .inl (by simpa using hc)⟩
    rcases hty with e | e
    · subst e; exact wpAny_nextOf_ascii_end hA q hx k
    · subst e; exact wpAny_nextOf_wide_end hA q hx k
def ZS.lst (P : Program) (w : World) (K : PySem.W.Frag) (it a : Addr) : ZS P w K it where
  tn := fun i h => h.IsListIter it a i
  go := fun i H => ∃ (xs : List V) (x : V), H a = some (.lst xs) ∧ xs[i]? = some x
  stop := fun i H => ∃ xs : List V, H a = some (.lst xs) ∧ xs.length ≤ i
  val := fun i H v => ∀ xs : List V, H a = some (.lst xs) → xs[i]? = some v
  obj := fun i h ⟨o, e, c, d⟩ => ⟨o, e, fun v q => by rw [d] at q; cases q⟩
  keep := fun i h h' st k => st.at fun o q => k o q
  item := fun X i pins s σ H hP hw hK I hn st ⟨xs, x, hq, hx⟩ => by
    subst hP hw hK
    obtain ⟨its, rv, p, _⟩ := I.list (.of hq)
    obtain ⟨u, hu, ru⟩ := rv.get hx
    have hne : a ≠ it := fun z => by subst z; rw [hn] at hq; cases hq
    refine ⟨[it, a], its.toArray.size, _, _, fun A hA => Draws.list hA it a hne its.toArray, ⟨st, p.isList⟩, ?_, fun h q => q.1, fun v hv => ?_, fun c hc => ?_⟩
    · have := (List.getElem?_eq_some_iff.mp hu).1
      simpa using this
    · have e : its[i]? = some v := by simpa using hv
      rw [hu] at e
      cases e
      refine ⟨x, ru, fun ys hy => ?_⟩
      rw [hq] at hy
      cases hy
      exact hx
    · have : c = it ∨ c = a := by simpa using hc
      rcases this with z | z
      · exact .inl z
      · exact .inr (by rw [z, hq]; exact fun z => nomatch z)
  done := fun X i pins s σ H hP hw hK I hn st ⟨xs, hq, hl⟩ => by
    subst hP hw hK
    obtain ⟨its, rv, p, _⟩ := I.list (.of hq)
    have hlen := rv.length
    refine ⟨[it, a], _, _, endAt (S := fun h => h.IsListIter it a i ∧ h.IsList a its.toArray) (by simp) (fun h q => let ⟨o, e, _⟩ := q.1; ⟨o, e⟩) (fun h h' q k => ⟨q.1.at fun o e => k it (by simp) o e, q.2.at fun o e => k a (by simp) o e⟩) (fun A hA s Q E q k => ?_), ⟨rfl, st, p.isList⟩, fun c hc => ?_⟩
    · exact wpAny_nextOf_list_end hA q.1 q.2 (by simp; omega) k
    · have : c = it ∨ c = a := by simpa using hc
      rcases this with z | z
      · exact .inl z
      · exact .inr (by rw [z, hq]; exact fun z => nomatch z)
def ZS.tup (P : Program) (w : World) (K : PySem.W.Frag) (it a : Addr) : ZS P w K it where
  tn := fun i h => h.IsTupleIter it a i
  go := fun i H => ∃ (xs : List V) (x : V), H a = some (.tup xs) ∧ xs[i]? = some x
  stop := fun i H => ∃ xs : List V, H a = some (.tup xs) ∧ xs.length ≤ i
  val := fun i H v => ∀ xs : List V, H a = some (.tup xs) → xs[i]? = some v
  obj := fun i h ⟨o, e, c, d⟩ => ⟨o, e, fun v q => by rw [d] at q; cases q⟩
  keep := fun i h h' st k => st.at fun o q => k o q
  item := fun X i pins s σ H hP hw hK I hn st ⟨xs, x, hq, hx⟩ => by
    subst hP hw hK
    obtain ⟨its, rv, p, _⟩ := I.tuple (.of hq)
    obtain ⟨u, hu, ru⟩ := rv.get hx
    have hne : a ≠ it := fun z => by subst z; rw [hn] at hq; cases hq
    have src : Src X.prog X.w it [it, a] its.toArray.size (fun i v => its.toArray[i]? = some v) (fun i h => h.IsTupleIter it a i ∧ h.IsTuple a its.toArray) := fun A hA =>
      { live := fun j h q => let ⟨o, e, _⟩ := q.1; ⟨o, e⟩
        frame := fun j h h' q k => ⟨q.1.at fun o e => k it (by simp) o e, let ⟨o, e, r⟩ := q.2; ⟨o, k a (by simp) o e, r⟩⟩
        item := fun j s Q E hj q hQ => RZ.nextOf_tuple_item q.1 q.2 (x := its.toArray[j]) (by simp [hj]) fun h' hit' hs' => hQ _ h' s.toks (by simp [hj]) ⟨hit', let ⟨o, e, r⟩ := q.2; ⟨o, hs'.extBut _ _ hne e, r⟩⟩ hs'
        done := fun s Q E q hE => RZ.nextOf_tuple_end hA q.1 q.2 (by simp) hE }
    refine ⟨[it, a], its.toArray.size, _, _, src, ⟨st, p⟩, ?_, fun h q => q.1, fun v hv => ?_, fun c hc => ?_⟩
    · have := (List.getElem?_eq_some_iff.mp hu).1
      simpa using this
    · have e : its[i]? = some v := by simpa using hv
      rw [hu] at e
      cases e
      refine ⟨x, ru, fun ys hy => ?_⟩
      rw [hq] at hy
      cases hy
      exact hx
    · have : c = it ∨ c = a := by simpa using hc
      rcases this with z | z
      · exact .inl z
      · exact .inr (by rw [z, hq]; exact fun z => nomatch z)
  done := fun X i pins s σ H hP hw hK I hn st ⟨xs, hq, hl⟩ => by
    subst hP hw hK
    obtain ⟨its, rv, p, _⟩ := I.tuple (.of hq)
    have hlen := rv.length
    refine ⟨[it, a], _, _, endAt (S := fun h => h.IsTupleIter it a i ∧ h.IsTuple a its.toArray) (by simp) (fun h q => let ⟨o, e, _⟩ := q.1; ⟨o, e⟩) (fun h h' q k => ⟨q.1.at fun o e => k it (by simp) o e, let ⟨o, e, r⟩ := q.2; ⟨o, k a (by simp) o e, r⟩⟩) (fun A hA s Q E q k => ?_), ⟨rfl, st, p⟩, fun c hc => ?_⟩
    · exact RZ.nextOf_tuple_end hA q.1 q.2 (by simp; omega) k
    · have : c = it ∨ c = a := by simpa using hc
      rcases this with z | z
      · exact .inl z
      · exact .inr (by rw [z, hq]; exact fun z => nomatch z)
/-! ### zip(..) itself -/
abbrev zhA (h : Heap) (o1 : Obj) : Heap := h.push o1
abbrev zhB (h : Heap) (o1 o2 : Obj) : Heap := (zhA h o1).push o2
abbrev zhC (h : Heap) (o1 o2 : Obj) : Heap := (zhB h o1 o2).push { cls := .type "tuple", data := .seq #[.ref h.objs.size, .ref (zhA h o1).objs.size] }
abbrev zhD (h : Heap) (o1 o2 : Obj) : Heap := (zhC h o1 o2).push { cls := .type "tuple", data := .seq #[.none, .none] }
abbrev zhE (h : Heap) (o1 o2 : Obj) (sb : Bool) : Heap := (zhD h o1 o2).push { cls := .type "zip", data := .fields #[.none, .bool false, .bool sb, .ref (zhB h o1 o2).objs.size, .ref (zhC h o1 o2).objs.size] }
abbrev sIt (x : Str) (t : Tok) : Obj := { cls := .type (strIterType x), data := .fields #[.str x t, .int 0 0] }
abbrev lIt (a : Addr) : Obj := { cls := .type "list_iterator", data := .fields #[.ref a, .int 0 0] }
abbrev tIt (a : Addr) : Obj := { cls := .type "tuple_iterator", data := .fields #[.ref a, .int 0 0] }
abbrev strictKw : List (PySem.Str × Value) := [("strict", .bool true)]
/-- what stands behind the call -/
theorem laid {h : Heap} {o1 o2 : Obj} {sb : Bool} {Q : Addr → Heap → Prop} (q : ∀ h', IsZ sb h' (h.objs.size + 4) (h.objs.size + 2) (h.objs.size + 3) .none → IsPair h' (h.objs.size + 2) (.ref h.objs.size) (.ref (h.objs.size + 1)) → IsPair h' (h.objs.size + 3) .none .none →
    h'.get? h.objs.size = some o1 → h'.get? (h.objs.size + 1) = some o2 → (∀ c o, h.get? c = some o → h'.get? c = some o) → Q (h.objs.size + 4) h') (f1 : o1.isFreed = false) (f2 : o2.isFreed = false) : Q (zhD h o1 o2).objs.size (zhE h o1 o2 sb) := by
  have z1 : (zhA h o1).objs.size = h.objs.size + 1 := Heap.size_push ..
  have z2 : (zhB h o1 o2).objs.size = h.objs.size + 2 := by rw [Heap.size_push, z1]
  have z3 : (zhC h o1 o2).objs.size = h.objs.size + 3 := by rw [Heap.size_push, z2]
  have z4 : (zhD h o1 o2).objs.size = h.objs.size + 4 := by rw [Heap.size_push, z3]
  have up4 : ∀ c o, (zhD h o1 o2).get? c = some o → (zhE h o1 o2 sb).get? c = some o := fun c o e => Heap.get?_push_of_some _ e
  have up3 : ∀ c o, (zhC h o1 o2).get? c = some o → (zhE h o1 o2 sb).get? c = some o := fun c o e => up4 c o (Heap.get?_push_of_some _ e)
  have up2 : ∀ c o, (zhB h o1 o2).get? c = some o → (zhE h o1 o2 sb).get? c = some o := fun c o e => up3 c o (Heap.get?_push_of_some _ e)
  have up1 : ∀ c o, (zhA h o1).get? c = some o → (zhE h o1 o2 sb).get? c = some o := fun c o e => up2 c o (Heap.get?_push_of_some _ e)
  have g5 : (zhE h o1 o2 sb).get? (zhD h o1 o2).objs.size = some _ := Heap.get?_push_size _ rfl
  have g4 : (zhE h o1 o2 sb).get? (zhC h o1 o2).objs.size = some _ := up4 _ _ (Heap.get?_push_size _ rfl)
  have g3 : (zhE h o1 o2 sb).get? (zhB h o1 o2).objs.size = some _ := up3 _ _ (Heap.get?_push_size _ rfl)
  have g2 : (zhE h o1 o2 sb).get? (zhA h o1).objs.size = some _ := up2 _ _ (Heap.get?_push_size _ f2)
  have g1 : (zhE h o1 o2 sb).get? h.objs.size = some _ := up1 _ _ (Heap.get?_push_size _ f1)
  rw [z2, z3, z4] at g5
  rw [z1, z2] at g3
  rw [z3] at g4
  rw [z1] at g2
  rw [z4]
  exact q _ g5 g3 g4 g1 g2 fun c o e => up1 c o (Heap.get?_push_of_some _ e)
end DLZ

set_option Elab.async false
set_option linter.all false
set_option autoImplicit false
set_option maxRecDepth 100000
/-! DLX47: a, b, .. = f, g, ..: new objects stay their names' own. -/
namespace DL
open PySem PySem.Spec PyProof.Rows L2
/-- values as they stand, the new ones nobody's and different -/
def RetsV (K : PySem.W.Frag) (T : Tb) (B : Bs) (F H : Hp) (ρ : Env) (σ : L2.St) : List V → List R → Prop
  | [], [] => True
  | v :: vs, r :: rs => RetV K T B F H ρ σ v r ∧ (∀ a ∈ rfoot H v r, ∀ z ∈ vs.zip rs, a ∉ rfoot H z.1 z.2) ∧ RetsV K T B F H ρ σ vs rs
  | _, _ => False
section
variable {X : Cx} {T : Tb} {B : Bs} {M : List Nat} {W : EK} {F H : Hp} {ρ : Env} {σ : L2.St}
/-- read at a base of its own; what it raises goes to Wx -/
def lEb (K : PySem.W.Frag) (T : Tb) (M : List Nat) (W : EK) (Wx : WX) (f : DE) : TE := fun σ H Q => ∃ B1, (∀ cls d σ H, lW K T B1 M W cls d σ H → Wx cls d σ H) ∧ lE K T B1 M W f σ H Q
theorem pe_b {e : Expr} {f : DE} {Wx : WX} (tk : Takes X Wx) (h : ∀ B1, Takes X (lW X.K T B1 M W) → PD X T B1 M W e f) : PE X e (lEb X.K T M W Wx f) :=
  ⟨fun pins s σ H Q I ⟨B1, hw, q⟩ => (h B1 (Takes.imp tk hw)).run pins s σ H Q I q⟩
def tVals (K : PySem.W.Frag) (T : Tb) (M : List Nat) (W : EK) (Wx : WX) : List DE → TA
  | [] => tNil
  | f :: fs => tCons (lEb K T M W Wx f) (tVals K T M W Wx fs)
/-- a new tuple is settled at once -/
def R.tz : R → R
  | .fr (.tup xs) => .fz (.tup xs)
  | .ft (.tup xs) => .fz (D.tup xs).calm
  | r => r
theorem R.tz_d (r : R) : r.tz.d = r.d := by
  cases r with
  | fz d => rfl
  | fr d => cases d <;> rfl
  | ft d => cases d <;> rfl
theorem R.tz_fr {d : D} (h : ∀ xs, d ≠ .tup xs) : R.tz (.fr d) = .fr d := by cases d <;> first | rfl | exact absurd rfl (h _)
theorem R.tz_ft {d : D} (h : ∀ xs, d ≠ .tup xs) : R.tz (.ft d) = .ft d := by cases d <;> first | rfl | exact absurd rfl (h _)
def D.isTup : D → Bool
  | .tup _ => true
  | _ => false
theorem D.tup_or (d : D) : (∃ xs, d = .tup xs) ∨ ∀ xs, d ≠ .tup xs := by cases d <;> first | exact .inl ⟨_, rfl⟩ | exact .inr fun _ z => nomatch z
theorem retv_tz {K : PySem.W.Frag} {v : V} {r : R} (S : SR K T B M F H ρ σ) (h : RetV K T B F H ρ σ v r) : ∃ F', Same F F' ∧ SR K T B M F' H ρ σ ∧ RetV K T B F' H ρ σ v r.tz ∧ (∀ a ∈ rfoot H v r.tz, B.H0 a = none) ∧ ∀ a ∈ rfoot H v r.tz, ∀ o, H a = some o → tupB o = false := by
  cases r with
  | fz d => exact ⟨F, Same.refl _, S, h, fun a ha => (h.feet a ha).2.1, fun a ha => by rw [show rfoot H v (R.tz (.fz d)) = [] from foot_no] at ha; simp at ha⟩
  | fr d =>
    rcases d.tup_or with ⟨xs, rfl⟩ | nt
    · obtain ⟨F', e, S', R'⟩ := S.fix h
      exact ⟨F', e, S', R', fun a ha => by rw [show rfoot H v (R.tz (.fr (.tup xs))) = [] from foot_no] at ha; simp at ha, fun a ha => by rw [show rfoot H v (R.tz (.fr (.tup xs))) = [] from foot_no] at ha; simp at ha⟩
    · rw [R.tz_fr nt]
      refine ⟨F, Same.refl _, S, h, fun a ha => (h.feet a ha).2.1, fun a ha o e => ?_⟩
      obtain ⟨p, o', rfl, z2, z3, z4, z5, z6⟩ := h
      rw [show rfoot H (.ref p) (.fr d) = [p] from foot_own, List.mem_singleton] at ha
      subst ha
      rw [z3] at e; cases e
      exact repO_nt z4 nt
  | ft d =>
    rcases d.tup_or with ⟨xs, rfl⟩ | nt
    · obtain ⟨F', e, S', R'⟩ := S.fix h
      exact ⟨F', e, S', R', fun a ha => by rw [show rfoot H v (R.tz (.ft (.tup xs))) = [] from foot_no] at ha; simp at ha, fun a ha => by rw [show rfoot H v (R.tz (.ft (.tup xs))) = [] from foot_no] at ha; simp at ha⟩
    · rw [R.tz_ft nt]
      refine ⟨F, Same.refl _, S, h, fun a ha => (h.feet a ha).2.1, fun a ha o e => ?_⟩
      obtain ⟨p, o', rfl, z2, z3, z4, z5, z6⟩ := h
      rw [show rfoot H (.ref p) (.ft d) = _ from foot_ownT z3] at ha
      rcases List.mem_cons.mp ha with rfl | ha
      · rw [z3] at e; cases e
        exact treeO_nt z4 nt
      · exact z4.notup a ha o e
theorem putR_tz {k : Env → Prop} : ∀ {is : List (Nat × Bool)} {rs : List R} {ρ : Env}, putR is rs ρ k → putR is (rs.map R.tz) ρ k
  | [], [], _, h => h
  | [], _ :: _, _, h => h.elim
  | (_, true) :: _, [], _, h => h.elim
  | (_, false) :: _, [], _, h => h.elim
  | (i, true) :: is, .fz d :: rs, ρ, h => h.elim
  | (i, true) :: is, .fr d :: rs, ρ, h => by
    rcases d.tup_or with ⟨xs, rfl⟩ | nt
    · exact h.elim
    · rw [List.map_cons, R.tz_fr nt]
      cases d <;> first | exact putR_tz (is := is) h | exact absurd rfl (nt _)
  | (i, true) :: is, .ft d :: rs, ρ, h => by
    rcases d.tup_or with ⟨xs, rfl⟩ | nt
    · exact h.elim
    · rw [List.map_cons, R.tz_ft nt]
      cases d <;> first | exact putR_tz (is := is) h | exact absurd rfl (nt _)
  | (i, false) :: is, r :: rs, ρ, h => by
    have h : putR is rs (ρ.set i (.fz r.d)) k := h
    show putR is (rs.map R.tz) (ρ.set i (.fz r.tz.d)) k
    rw [R.tz_d]
    exact putR_tz h
theorem RetV.on {K : PySem.W.Frag} {F2 H2 : Hp} {ρ2 : Env} {σ2 : L2.St} {v : V} {r : R} (S : SR K T B M F H ρ σ) (S2 : SR K T (baseAt B F H ρ σ) M F2 H2 ρ2 σ2) (h : RetV K T B F H ρ σ v r) (nt : ∀ a ∈ rfoot H v r, ∀ o, H a = some o → tupB o = false) : RetV K T B F2 H2 ρ2 σ2 v r ∧ rfoot H2 v r = rfoot H v r := by
  refine h.move S2.f0 fun a ha => ?_
  obtain ⟨⟨f, o, e, m, _⟩, n, nf⟩ := h.feet a ha
  obtain ⟨l1, l2, l3⟩ := S.loose S2 e f (fun ⟨i, z⟩ => nf i z) m (nt a ha o e)
  exact ⟨l2, l1.trans e.symm, n, fun i z => l3 ⟨i, z⟩⟩
theorem vals_run {Wx : WX} : ∀ {fs : List DE} {F H : Hp} {ρ : Env} {Qd : List R → Env → Prop} {Q : List V → Hp → Prop}, (∀ B1, (∀ F1 H1 ρ1 σ1, SR X.K T B1 M F1 H1 ρ1 σ1 → SR X.K T B M F1 H1 ρ1 σ1) → ∀ cls d σ H, lW X.K T B1 M W cls d σ H → Wx cls d σ H) → SR X.K T B M F H ρ σ → dVals fs ρ Qd W →
    (∀ F' H' ρ' vs rs, Same F F' → SR X.K T B M F' H' ρ' σ → SR X.K T (baseAt B F H ρ σ) M F' H' ρ' σ → RetsV X.K T B F' H' ρ' σ vs (rs.map R.tz) → (∀ z ∈ vs.zip (rs.map R.tz), ∀ a ∈ rfoot H' z.1 z.2, H a = none) → Qd rs ρ' → Q vs H') → tVals X.K T M W Wx fs σ H Q
  | [], F, H, ρ, Qd, Q, _, S, h, k => k F H ρ [] [] (Same.refl _) S S.base trivial (fun z hz => nomatch hz) h
  | f :: fs, F, H, ρ, Qd, Q, hW, S, h, k => by
    have h : f ρ (fun r ρ1 => dVals fs ρ1 (fun rs ρ2 => Qd (r :: rs) ρ2) W) W := h
    refine ⟨baseAt B F H ρ σ, hW _ fun _ _ _ _ z => S.trans z, F, ρ, _, S.base, h, fun F1 H1 ρ1 v r e1 S1 R1 h1 => ?_⟩
    obtain ⟨Fz, ez, S1, R1, fz0, ntz⟩ := retv_tz S1 R1
    have S1' := S.trans S1
    have R1' := retv_out S R1
    refine vals_run hW S1' h1 fun F2 H2 ρ2 vs rs e2 S2' S2 R2 hn q => ?_
    obtain ⟨R3, fe⟩ := RetV.on S1' S2 R1' ntz
    refine k F2 H2 ρ2 (v :: vs) (r :: rs) (e1.trans (ez.trans e2)) S2' (S1.trans S2) ⟨R3, fun a ha z hz hf => ?_, R2⟩ (fun z hz a ha => ?_) q
    · rw [fe] at ha
      exact ((R1.feet a ha).1.ne (hn z hz a hf)) rfl
    · rw [List.map_cons, List.zip_cons_cons] at hz
      rcases List.mem_cons.mp hz with rfl | hz
      · have ha : a ∈ rfoot H2 v r.tz := ha
        rw [fe] at ha
        exact (R1.feet a ha).2.1
      · exact S1.gone (hn z hz a ha)
def putSt : List (Nat × Bool) → List V → L2.St → L2.St
  | i :: is, v :: vs, σ => putSt is vs (σ.set i.1 (some v))
  | _, _, σ => σ
/-- the rest stands behind a store -/
theorem RetsV.imp {K : PySem.W.Frag} {F2 H2 : Hp} {ρ2 : Env} {σ2 : L2.St} : ∀ {vs : List V} {rs : List R}, (∀ z ∈ vs.zip rs, RetV K T B F H ρ σ z.1 z.2 → RetV K T B F2 H2 ρ2 σ2 z.1 z.2 ∧ rfoot H2 z.1 z.2 = rfoot H z.1 z.2) → RetsV K T B F H ρ σ vs rs → RetsV K T B F2 H2 ρ2 σ2 vs rs
  | [], [], _, _ => trivial
  | v :: vs, r :: rs, h, ⟨a, b, c⟩ => by
    have all : ∀ {vs : List V} {rs : List R}, RetsV K T B F H ρ σ vs rs → ∀ z ∈ vs.zip rs, RetV K T B F H ρ σ z.1 z.2 := fun {vs} => by
      induction vs with
      | nil => intro rs _ z hz; simp at hz
      | cons v vs ih =>
        intro rs h z hz
        cases rs with
        | nil => exact h.elim
        | cons r rs =>
          rw [List.zip_cons_cons] at hz
          rcases List.mem_cons.mp hz with rfl | hz
          · exact h.1
          · exact ih h.2.2 z hz
    have h0 := h (v, r) List.mem_cons_self a
    refine ⟨h0.1, fun q hq z hz hf => ?_, RetsV.imp (fun z hz => h z (by rw [List.zip_cons_cons]; exact List.mem_cons_of_mem _ hz)) c⟩
    have e0 : rfoot H2 v r = rfoot H v r := h0.2
    rw [e0] at hq
    rw [(h z (by rw [List.zip_cons_cons]; exact List.mem_cons_of_mem _ hz) (all c z hz)).2] at hf
    exact b q hq z hz hf
  | [], _ :: _, _, h => h.elim
  | _ :: _, [], _, h => h.elim
/-- the rest where one result was stored at i -/
theorem RetsV.stored {K : PySem.W.Frag} {F2 : Hp} {i : Nat} {v : V} {s : Slot} {vs : List V} {rs : List R} (c : RetsV K T B F H ρ σ vs rs) (e : Same F F2) (hi : i < ρ.length) (hl : ρ.length = σ.length) (h : ∀ z ∈ vs.zip rs, ∀ a ∈ rfoot H z.1 z.2, F2 a = F a ∧ a ∉ foot H (some (some v)) s) : RetsV K T B F2 H (ρ.set i s) (σ.set i (some v)) vs rs :=
  c.imp fun z hz g => g.move e fun a ha => by
    obtain ⟨p, n, nf⟩ := g.feet a ha
    obtain ⟨e1, e2⟩ := h z hz a ha
    refine ⟨e1.trans p.1, rfl, n, fun j hj => ?_⟩
    by_cases hij : i = j
    · subst hij
      rw [List.getElem?_set_self (by omega), Env.at_set_same hi] at hj
      exact e2 hj
    · rw [List.getElem?_set_ne hij, Env.at_set_ne hij] at hj
      exact nf j hj
theorem RetsV.stored' {K : PySem.W.Frag} {F2 : Hp} {i : Nat} {v : V} {s : Slot} {vs : List V} {rs : List R} (c : RetsV K T B F H ρ σ vs rs) (e : Same F F2) (hl : ρ.length = σ.length) (h : ∀ z ∈ vs.zip rs, ∀ a ∈ rfoot H z.1 z.2, F2 a = F a ∧ a ∉ foot H (some (some v)) s) : RetsV K T B F2 H (ρ.set i s) (σ.set i (some v)) vs rs := by
  by_cases hi : i < ρ.length
  · exact c.stored e hi hl h
  · rw [List.set_eq_of_length_le (by omega), List.set_eq_of_length_le (by omega)]
    exact c.imp fun z hz g => g.move e fun a ha => by
      obtain ⟨p, n, nf⟩ := g.feet a ha
      exact ⟨(h z hz a ha).1.trans p.1, rfl, n, nf⟩
theorem putR_ok : ∀ {is : List (Nat × Bool)} {vs : List V} {rs : List R} {F : Hp} {ρ : Env} {σ : L2.St} {k : Env → Prop}, SR X.K T B M F H ρ σ → RetsV X.K T B F H ρ σ vs rs → (∀ i ∈ is, i.1 ∉ M) → putR is rs ρ k → ∃ F' ρ', Same F F' ∧ SR X.K T B M F' H ρ' (putSt is vs σ) ∧ k ρ' ∧ vs.length = is.length
  | [], [], [], F, ρ, σ, k, S, _, _, h => ⟨F, ρ, Same.refl _, S, h, rfl⟩
  | (i, true) :: is, v :: vs, .fr d :: rs, F, ρ, σ, k, S, ⟨a, b, c⟩, hM, h => by
    obtain ⟨p, o, rfl, hF, hH, ro, hn, hno⟩ := a
    have S1 : SR X.K T B M F H (ρ.set i (.own d)) (σ.set i (some (.ref p))) := S.putOwn (hM (i, true) List.mem_cons_self) hF hH ro (.inl hn) hno (repO_nt ro fun xs z => by subst z; exact h)
    have c1 := c.stored' (i := i) (v := .ref p) (s := .own d) (Same.refl _) S.len fun z hz a ha => ⟨rfl, fun q => b a q z hz ha⟩
    obtain ⟨F', ρ', e, S2, q, hl⟩ := putR_ok S1 c1 (fun z hz => hM z (List.mem_cons_of_mem _ hz)) (by cases d <;> first | exact h | exact h.elim)
    exact ⟨F', ρ', e, S2, q, by simp [hl]⟩
  | (i, true) :: is, v :: vs, .ft d :: rs, F, ρ, σ, k, S, ⟨a, b, c⟩, hM, h => by
    obtain ⟨p, o, rfl, hF, hH, ro, nd, hn⟩ := a
    have S1 : SR X.K T B M F H (ρ.set i (.ownT d)) (σ.set i (some (.ref p))) := S.putOwnT (hM (i, true) List.mem_cons_self) hF hH ro nd hn (treeO_nt ro fun xs z => by subst z; exact h)
    have c1 := c.stored' (i := i) (v := .ref p) (s := .ownT d) (Same.refl _) S.len fun z hz a ha => ⟨rfl, fun q => b a q z hz ha⟩
    obtain ⟨F', ρ', e, S2, q, hl⟩ := putR_ok S1 c1 (fun z hz => hM z (List.mem_cons_of_mem _ hz)) (by cases d <;> first | exact h | exact h.elim)
    exact ⟨F', ρ', e, S2, q, by simp [hl]⟩
  | (i, false) :: is, v :: vs, r :: rs, F, ρ, σ, k, S, ⟨a, b, c⟩, hM, h => by
    have h : putR is rs (ρ.set i (.fz r.d)) k := h
    obtain ⟨F1, e1, S0, R0, o'⟩ := S.fixO a
    have S1 := S0.putFz (i := i) (hM (i, false) List.mem_cons_self) R0
    have c1 := c.stored' (i := i) (v := v) (s := .fz r.d) e1 S.len fun z hz a ha => ⟨o' a fun q => b a q z hz ha, by rw [foot_fz]; exact List.not_mem_nil⟩
    obtain ⟨F', ρ', e, S2, q, hl⟩ := putR_ok S1 c1 (fun z hz => hM z (List.mem_cons_of_mem _ hz)) h
    exact ⟨F', ρ', e1.trans e, S2, q, by simp [hl]⟩
  | [], _, _ :: _, _, _, _, _, _, _, _, h => h.elim
  | [], _ :: _, [], _, _, _, _, _, h, _, _ => h.elim
  | _ :: _, [], _ :: _, _, _, _, _, _, h, _, _ => h.elim
  | (_, true) :: _, _, [], _, _, _, _, _, _, _, h => h.elim
  | (_, false) :: _, _, [], _, _, _, _, _, _, _, h => h.elim
  | (_, true) :: _, _, .fz _ :: _, _, _, _, _, _, _, _, h => h.elim
abbrev PVA (X : Cx) (T : Tb) (B : Bs) (M : List Nat) (W : EK) (es : List Expr) (fs : List DE) : Prop := PA X es (tVals X.K T M W (lW X.K T B M W) fs)
theorem pva_nil : PVA X T B M W [] [] := pa_nil
theorem pva_cons {e : Expr} {es : List Expr} {f : DE} {fs : List DE} (tk : Takes X (lW X.K T B M W)) (h : ∀ B1, Takes X (lW X.K T B1 M W) → PD X T B1 M W e f) (hr : PVA X T B M W es fs) (hs : starEach (e :: es) X.env = (false, eval e X.env) :: starEach es X.env := by rfl) : PVA X T B M W (e :: es) (f :: fs) :=
  pa_cons (pe_b tk h) hr hs
theorem parR_run {is : List (Nat × Bool)} {fs : List DE} {J : Ends} (hM : ∀ i ∈ is, i.1 ∉ M) (h : lS X.K T B M W (sParR is fs) J σ H) : tVals X.K T M W (lW X.K T B M W) fs σ H fun vs H1 => vs.length = is.length ∧ J.nx (putSt is vs σ) H1 := by
  obtain ⟨F, ρ, Jd, S, h, k, _⟩ := h
  refine vals_run (B := B) (fun B1 hb cls d σ' H' ⟨F', ρ', x, S', ex, q⟩ => ⟨F', ρ', x, hb _ _ _ _ S', ex, q⟩) S h fun F' H' ρ' vs rs e S' _ R _ q => ?_
  obtain ⟨F2, ρ2, e2, S2, q2, hl⟩ := putR_ok S' R hM (putR_tz q)
  exact ⟨hl, k F2 _ ρ2 _ (e.trans e2) S2 q2⟩
variable {a b c : Expr} {f g : DE} {pos : Pos}
theorem pds_parR {i j : Nat} {bi bj : Bool} {fs : List DE} {x y : Str} {px py pt pt2 : Pos} {kt k2} (hc : X.calm = true) (hN : X.N.Nodup) (hi : X.N[i]? = some x) (hj : X.N[j]? = some y) (hij : i ≠ j) (hM : ∀ z ∈ [(i, bi), (j, bj)], z.1 ∉ M)
    (hx : X.env.scope.names.lookup x = some .local) (hy : X.env.scope.names.lookup y = some .local) (ha : PVA X T B M W [a, b] fs)
    (hw : swappedStores [.Tuple [.Name x px, .Name y py] kt pt] (.Tuple [a, b] k2 pt2) X.env = pure (some [x, y]) := by rfl)
    (hs : swapsWithSole [.Tuple [.Name x px, .Name y py] kt pt] (.Tuple [a, b] k2 pt2) pos.line X.env = pure false := by rfl) :
    PDS X T B M W (.Assign [.Tuple [.Name x px, .Name y py] kt pt] (.Tuple [a, b] k2 pt2) pos) (sParR [(i, bi), (j, bj)] fs) :=
  ps_imp (ps_par hc hN hi hj hij hx hy (pa_imp ha (t' := fun σ H Q => tVals X.K T M W (lW X.K T B M W) fs σ H Q) fun _ _ _ z => z) hw hs) fun J σ H z => by
    have h := parR_run hM z
    have m : ∀ {fs : List DE} {σ : L2.St} {H : Hp} {Q Q' : List V → Hp → Prop}, (∀ vs H1, Q vs H1 → Q' vs H1) → tVals X.K T M W (lW X.K T B M W) fs σ H Q → tVals X.K T M W (lW X.K T B M W) fs σ H Q' := by
      intro fs
      induction fs with
      | nil => intro σ H Q Q' hq h; exact hq _ _ h
      | cons f fs ih =>
        intro σ H Q Q' hq ⟨B1, h1, F, ρ, Qd, S, h2, h3⟩
        exact ⟨B1, h1, F, ρ, Qd, S, h2, fun F' H' ρ' v r e S' R q => ih (fun vs H1 z => hq _ _ z) (h3 F' H' ρ' v r e S' R q)⟩
    refine m (fun vs H1 ⟨hl, q⟩ => ?_) h
    match vs, hl with
    | [v, w], _ => exact ⟨v, w, rfl, q⟩
end
end DL

set_option linter.all false
set_option autoImplicit false
namespace DL
/-! thunks: told(lambda: e) -/
/-- the names that the thunk uses are settled -/
def calmE : List Nat → Env → Env
  | [], ρ => ρ
  | i :: is, ρ => calmE is (match ρ.at i with
    | .own d => ρ.set i (.fz d)
    | .ownT d => ρ.set i (.fz d.calm)
    | _ => ρ)
/-- what a name keeps for itself the thunk does not see -/
def hideE (ρ : Env) : Env := ρ.map fun s => match s with
  | .own _ => .no
  | .ownT _ => .no
  | z => z
/-- try: return x() / except C as e: .. -/
def dTold (is : List Nat) (n : Nat) (cl : List DClause) (f : DE) : DE := fun ρ Q _ => f (hideE (calmE is ρ)) (fun r _ => Q r (calmE is ρ)) fun x _ => catchD cl { nx := fun _ => Q (.fz .non) (calmE is ρ), rt := fun r _ => Q r (calmE is ρ) } noE x (List.replicate n .no)
/-- try: x() / except C as e: .. / behind it: return t -/
def dToldB (is : List Nat) (n : Nat) (cl : List DClause) (t : Tx) (f : DE) : DE := fun ρ Q _ => f (hideE (calmE is ρ)) (fun _ _ => Q (.fz (.str t)) (calmE is ρ)) fun x _ => catchD cl { nx := fun _ => Q (.fz (.str t)) (calmE is ρ), rt := fun r _ => Q r (calmE is ρ) } noE x (List.replicate n .no)
/-- try: return len(x()) / except C as e: .., len by the own __len__ of what x() hands back -/
def dToldO (is : List Nat) (n : Nat) (cl : List DClause) (c : Nat) (con : Con) (f : DE) : DE := fun ρ Q _ => f (hideE (calmE is ρ)) (fun r _ => r.d.isObj c = true ∧ con [.fz r.d] (fun t _ => ∃ m : Nat, t.d = .int m ∧ m < 2 ^ 62 ∧ Q (.fz (.int m)) (calmE is ρ)) fun _ _ => False)
  fun x _ => catchD cl { nx := fun _ => Q (.fz .non) (calmE is ρ), rt := fun r _ => Q r (calmE is ρ) } noE x (List.replicate n .no)
/-- isinstance with a built-in class: an own object is none of it -/
def D.isTyO (t : Ty) (c : Nat) : D → Option Bool
  | .obj c' _ => if c' = c then some false else none
  | d => d.isTy t
def dIsiO (t : Ty) (c : Nat) (f : DE) : DE := fun ρ Q E => f ρ (fun r ρ1 => ∃ b, r.d.isTyO t c = some b ∧ Q (.fz (.bl b)) ρ1) E
/-- a call of the def that a name holds -/
def dCallF (i : Nat) (tbl : List (Nat × Con)) (as : List DA) : DE := fun ρ Q E => match ρ.at i with
  | .fz (.cls n) => (match tbl.lookup n with
    | some con => dCall con as ρ Q E
    | none => False)
  | _ => False
end DL

set_option Elab.async false
set_option linter.all false
set_option autoImplicit false
set_option maxRecDepth 100000
set_option maxHeartbeats 2000000
/-! DLX51: lambdas without parameters, made and handed to a def at once. -/
namespace DL
open PySem PySem.Spec PyProof.Rows L2
/-- behind the making of a lambda: all but the tables of code objects stays, these stay tables -/
structure LamH (L : List (Addr × Str)) (H H1 : Hp) : Prop where
  ext : LamX.ExtN H H1
  tb : ∀ b ps, H b = some (.tbl ps) → ∃ qs, H1 b = some (.tbl qs)
  tabs : LamX.Tabs L H1
theorem tabs_grow {L : List (Addr × Str)} {H : Hp} {P c : Addr} {q : Str} {ps : Array Value} {pos : Pos} (h : LamX.Tabs L H) (hu : ∀ z ∈ L, z.1 = P → z.2 = q) (hP : H P = some (.tbl ps)) (ok : TriplesOk ps.toList) (hc : H c = none) :
    LamX.Tabs L (upd (upd H P (.tbl (ps ++ #[rawInt pos.line, rawInt pos.col, .ref c]))) c (LamX.CodeO c q)) := fun z hz => by
  have nPc : P ≠ c := fun e => by rw [e, hc] at hP; cases hP
  have old : ∀ {b : Addr} {r : Str}, H b = some (LamX.CodeO b r) → upd (upd H P (.tbl (ps ++ #[rawInt pos.line, rawInt pos.col, .ref c]))) c (LamX.CodeO c q) b = some (LamX.CodeO b r) := fun {b r} e => by
    have n1 : b ≠ c := fun x => by rw [x, hc] at e; cases e
    have n2 : b ≠ P := fun x => by
      rw [x, hP] at e
      unfold LamX.CodeO at e
      cases e
    rw [upd_ne n1, upd_ne n2]
    exact e
  obtain ⟨qs, a1, a2, a3⟩ := h z hz
  by_cases zP : z.1 = P
  · rw [zP] at a1 ⊢
    rw [hP] at a1
    cases a1
    have eq := hu z hz zP
    have el : (ps ++ #[rawInt pos.line, rawInt pos.col, Value.ref c]).toList = ps.toList ++ [rawInt pos.line, rawInt pos.col, .ref c] := by simp
    refine ⟨_, by rw [upd_ne nPc, upd_same], ?_, fun p v hv => ?_⟩
    · rw [el]
      exact PySem.TriplesOk_snoc _ _ _ _ ok
    · rw [el] at hv
      rw [eq]
      rw [eq] at a3
      rcases LamX.among_app _ ok hv with y | y
      · obtain ⟨d, d1, d2⟩ := a3 p v y
        exact ⟨d, d1, old d2⟩
      · exact ⟨c, y, upd_same⟩
  · have n1 : z.1 ≠ c := fun x => by rw [x, hc] at a1; cases a1
    refine ⟨qs, by rw [upd_ne n1, upd_ne zP]; exact a1, a2, fun p v hv => ?_⟩
    obtain ⟨d, d1, d2⟩ := a3 p v hv
    exact ⟨d, d1, old d2⟩
section
variable {X : Cx} {pins : List (Addr × Obj)} {σ : L2.St} {H : Hp} {s : Shared}
theorem lam_new {L : List (Addr × Str)} {c P : Addr} {params : Arguments} {body : Expr} {scope : Scope} {pos : Pos} {Q : Value → Shared → Prop} {E : Value → Shared → Prop} (I : Inv X pins σ H s) (TB : LamX.TabB X.base X.mg c P) (hcode : X.env.code = .ref c)
    (hm : (P, X.env.qual ++ "<lambda>") ∈ L) (hu : ∀ z ∈ L, z.1 = P → z.2 = X.env.qual ++ "<lambda>") (hT : LamX.Tabs L H) (hdef : defaultsOf params X.env = ([], [])) (hfree : ∀ y ∈ scope.names, y.2 = .free → ∃ c, X.env.cells.lookup y.1 = some c)
    (h : ∀ (f d : Addr) (pm ctv : Value) (H1 : Hp) (s1 : Shared), Inv X pins σ H1 s1 → LamH L H H1 → s1.heap.get? f = some (PySem.W.kla_obj "<lambda>" (X.env.qual ++ "<lambda>") params body scope (cloFrom X.env.cells scope.names []) pm d ctv) →
      H1 f = none → f ∉ frs X.stack → H1 d = some (LamX.CodeO d (X.env.qual ++ "<lambda>")) → Q (.ref f) s1) :
    wpAny (model X.prog X.w) X.A (eval (.Lambda params body scope pos) X.env) Q E s := by
  obtain ⟨ps, eP, ok, named⟩ := hT _ hm
  have inHeap := I.hok P _ eP
  have blt := TB.bm.keeps I.bk
  have apart : ∀ {f : Addr}, s.heap.objs.size ≤ f → f ∉ frs X.stack := fun {f} hf z => by
    rcases List.mem_cons.mp (I.stkSub _ z) with e | e
    · exact Nat.lt_irrefl _ (Nat.lt_of_lt_of_le (e ▸ I.lt) hf)
    · exact I.nofs hf e
  refine PySem.W.kla_eval hdef ?_
  rcases hc : codeAmong pos ps.toList with _ | v
  · refine PySem.W.kla_makeFunction (mg := X.mg) (c := c) (P := P) (ps := ps) (closure_ok hfree) I.ok.glob (I.mod.glob.keeps I.bk) hcode (TB.code.keeps I.bk) inHeap ok hc TB.gP blt fun d ctv h1 tk hx hge hlt hrec htb => ?_
    obtain ⟨d', oc, us, t, e2, hoc, hd, hv⟩ := hrec
    cases e2
    have nD : H d = none := I.hok.fresh hge
    have more : s.heap.objs.size ≤ h1.objs.size := by omega
    have J := LamX.inv_table (t' := tk) (more := #[rawInt pos.line, rawInt pos.col, .ref d]) (h' := h1.push (PySem.W.kla_obj "<lambda>" (X.env.qual ++ "<lambda>") params body scope (cloFrom X.env.cells scope.names []) ((X.mg "__name__").getD .none) d ctv)) I eP
      (fun b o nb e => Heap.get?_push_of_some _ (hx b o nb e)) (Heap.get?_push_of_some _ htb) hge ⟨oc, us, t, Heap.get?_push_of_some _ hoc, hd, hv⟩
    have nPd : P ≠ d := fun e => by rw [e, nD] at eP; cases eP
    refine h h1.objs.size d _ ctv _ _ J ⟨fun b o e n => ?_, fun b qs e => ?_, tabs_grow hT hu eP ok nD⟩ (Heap.get?_push_size _ rfl) ?_ (apart more) upd_same
    · have n1 : b ≠ d := fun x => by rw [x, nD] at e; cases e
      have n2 : b ≠ P := fun x => by
        rw [x, eP] at e
        exact n ps (Option.some.inj e).symm
      rw [upd_ne n1, upd_ne n2]
      exact e
    · by_cases hb : b = P
      · rw [hb]
        exact ⟨_, by rw [upd_ne nPd, upd_same]⟩
      · have n1 : b ≠ d := fun x => by rw [x, nD] at e; cases e
        exact ⟨qs, by rw [upd_ne n1, upd_ne hb]; exact e⟩
    · have n1 : h1.objs.size ≠ d := Nat.ne_of_gt hlt
      have n2 : h1.objs.size ≠ P := Nat.ne_of_gt (Nat.lt_of_lt_of_le (Heap.lt_size inHeap) more)
      rw [upd_ne n1, upd_ne n2]
      exact I.hok.fresh more
  · obtain ⟨d, e, nd⟩ := named pos v hc
    subst e
    refine PySem.W.kla_makeFunctionHit (mg := X.mg) (c := c) (P := P) (ps := ps) (closure_ok hfree) I.ok.glob (I.mod.glob.keeps I.bk) hcode (TB.code.keeps I.bk) inHeap ok hc blt fun ctv h1 tk hx hsz => ?_
    have J : Inv X pins σ H { s with heap := h1.push (PySem.W.kla_obj "<lambda>" (X.env.qual ++ "<lambda>") params body scope (cloFrom X.env.cells scope.names []) ((X.mg "__name__").getD .none) d ctv), toks := tk } := I.kept fun b o q => Heap.get?_push_of_some _ (hx b o q)
    exact h h1.objs.size d _ ctv H _ J ⟨LamX.ExtN.refl H, fun b qs e => ⟨qs, e⟩, hT⟩ (Heap.get?_push_size _ rfl) (I.hok.fresh hsz) (apart hsz) nd
end
/-! ### x(), in the def that got the lambda -/
section
variable {X : Cx} {pins : List (Addr × Obj)} {σ : L2.St} {H : Hp} {s : Shared}
/-- the def's frame, entered at s with the heap H -/
abbrev GX (X : Cx) (N : List Str) (q : Str) (sc : Scope) (g : Addr) (cd : Value) (s : Shared) (H : Hp) : Cx := cxOf C8.CX0 X.prog X.w X.K X.mg X.base N q sc g cd X.A X.stack s H C8.E0
abbrev GA (X : Cx) (q : Str) (sc : Scope) (g : Addr) (cd : Value) (s : Shared) : Around := X.A.deeper (envOfC q sc s.heap.objs.size g cd)
abbrev GO (X : Cx) (q : Str) (sc : Scope) (g : Addr) (cd : Value) (s : Shared) : List PySem.Env := envOfC q sc s.heap.objs.size g cd :: X.stack
end
/-! ### the maker's frame -/
section
variable {K : PySem.W.Frag} {T : Tb} {B : Bs} {M : List Nat} {F H F2 H2 : Hp} {ρ ρ2 : Env} {σ σ2 : L2.St}
theorem SR.lam {H1 : Hp} (S : SR K T B M F H ρ σ) (g : LamH T.tabs H H1) : SR K T B M F H1 ρ σ := by
  have stay : ∀ i, ∀ a ∈ foot H (σ[i]?) (ρ.at i), H1 a = H a := fun i a ha => by
    obtain ⟨f, o, e, m, _⟩ := S.priv ha
    rw [e]
    exact g.ext a o e m
  have fe := S.footEq stay
  refine ⟨S.sub.step (fun b o e u hu z => g.ext b u z fun ps y => (hu.elim (fun q => S.tabs.2 b ps ((q.symm.trans y) ▸ e)) fun ⟨od, q⟩ => nomatch q.symm.trans y)), fun b o e n m => g.ext b o (S.keep b o e n m) m, fun b o e => ?_, S.f0, S.fnew, S.len, fun i => (S.slot i).mono (Same.refl _) fun a ha => ⟨(S.priv ha).1, stay i a ha⟩, fun i a ha => S.newF i a (fe i ▸ ha), fun i j a h1 h2 => S.injF i j a (fe i ▸ h1) (fe j ▸ h2), S.pin, g.tabs, S.tabs.2⟩
  · obtain ⟨o', e'⟩ := S.live b o e
    by_cases z : ∃ ps, o' = .tbl ps
    · obtain ⟨ps, rfl⟩ := z
      obtain ⟨qs, q⟩ := g.tb b ps e'
      exact ⟨_, q⟩
    · exact ⟨o', g.ext b o' e' fun ps y => z ⟨ps, y⟩⟩
/-- the base of a thunk: nothing is the maker's -/
def thunkB (B : Bs) (F H : Hp) : Bs := ⟨F, H, fun _ _ => False, B.P⟩
end
section
variable {X : Cx} {T : Tb} {B : Bs} {M M2 : List Nat} {W : EK} {F H F2 H2 : Hp} {ρ ρ2 : Env} {σ σ2 : L2.St} {P2 : Nat → V}
/-- a frame of which nothing is said -/
theorem SR.bare (S : SR X.K T B M F H ρ σ) {n : Nat} (hn : σ2.length = n) : SR X.K T ⟨F, H, fun _ _ => False, fun _ => .non⟩ [] F H (List.replicate n .no) σ2 := by
  have at_ : ∀ i, Env.at (List.replicate n Slot.no) i = .no := fun i => by
    unfold Env.at
    rw [List.getElem?_replicate]
    split <;> rfl
  exact ⟨S.sub.toSmW.start (fun a o e ⟨i, z⟩ => z), fun b o e _ _ => e, fun b o e => ⟨o, e⟩, Same.refl _, fun b o e => .inl e, by rw [List.length_replicate, hn], fun i => (by rw [at_]; trivial), fun i a ha => (by rw [at_, foot_no] at ha; simp at ha), fun i j a ha _ => (by rw [at_, foot_no] at ha; simp at ha), fun i hi => absurd hi List.not_mem_nil, S.tabs⟩
end
/-- what the thunk is run for, in the maker's frame -/
def thunkT (K : PySem.W.Frag) (T : Tb) (M : List Nat) (f : DE) (E : XK) : TE := fun σ H Q => ∃ B1 W1, (∀ cls d σ' H', lW K T B1 M W1 cls d σ' H' → E cls d H') ∧ lE K T B1 M W1 f σ H Q
section
variable {X : Cx} {T : Tb} {B : Bs} {M : List Nat} {W : EK} {F H : Hp} {ρ : Env} {σ : L2.St}
end
end DL

set_option Elab.async false
set_option linter.all false
set_option autoImplicit false
set_option maxRecDepth 100000
set_option maxHeartbeats 2000000
/-! DLX52: told(lambda: e): told's try calls what it got, once. -/
namespace DL
open PySem PySem.Spec PyProof.Rows L2
/-- what is known of a def that makes lambdas: its code object at c, the table at P -/
structure MkL (X : Cx) (T : Tb) (c P : Addr) : Prop where
  tab : LamX.TabB X.base X.mg c P
  code : X.env.code = .ref c
  mem : (P, X.env.qual ++ "<lambda>") ∈ T.tabs
  one : ∀ z ∈ T.tabs, z.1 = P → z.2 = X.env.qual ++ "<lambda>"
/-- a def that gets a thunk, as callers know it -/
structure ToldD (K : PySem.W.Frag) (mg : Str → Option Value) (x : Str) (g : Addr) (N : List Str) (a : Str) (sg : Scope) (bg : List Stmt) (cdv : Value) : Prop where
  ex : ∃ (oc : Value) (od : Option Addr) (pg : Arguments) (dV kV doc pm ct : Value) (an : Option Addr) (osl : Array (Option Value)), K.lookup g = some ⟨oc, od, .func (PySem.W.fnOf x x pg bg sg dV kV doc pm an cdv ct), osl⟩ ∧ L2.Binds K (PySem.W.fnOf x x pg bg sg dV kV doc pm an cdv ct) [a] []
  code : PySem.W.codeIn K cdv x = true
  keep : PySem.W.keepIn K (.ref g) = true
  glob : mg x = some (.ref g)
  sc : FnScope N [a] sg
  first : N[0]? = some a
  vis : Vis sg a
  name : (a == ("__debug__" : Str)) = false ∧ (a == ("__classdict__" : Str)) = false
section
variable {X : Cx} {T : Tb} {B : Bs} {M : List Nat} {W : EK}
variable {x a : Str} {g c P : Addr} {k : Nat} {bg : List Stmt} {sg : Scope} {cdv : Value} {N : List Str} {params : Arguments} {body : Expr} {scope : Scope} {p lpos pos p1 p2 : Pos} {is : List Nat} {f : DE} {cl : List DClause}
/-- the thunk's own reading -/
def ThunkOk (X : Cx) (T : Tb) (M : List Nat) (k : Nat) (body : Expr) (scope : Scope) (f : DE) : Prop :=
  ∀ (A : Around) (outer : List PySem.Env) (s : Shared) (H : Hp) (E : XK) (fa d : Addr) (B : Bs) (W : EK), RoomG k (A.deeper (LamX.lamEnv X scope s.heap.objs.size fa d)) → Takes (LamX.lamCx X A outer s H E scope fa d) (lW X.K T B M W) → PD (LamX.lamCx X A outer s H E scope fa d) T B M W body f
variable {h₀ : ExceptHandler} {hds : List ExceptHandler} {tpos q1 q2 : Pos}
end
end DL

set_option Elab.async false
set_option linter.all false
set_option autoImplicit false
set_option maxRecDepth 100000
set_option maxHeartbeats 2000000
/-! DLX53: the end of a law whose defs make lambdas: the tables of their code objects grow. -/
namespace DL
open PySem PySem.Spec PyProof.Rows L2
/-- the tables laid beside what stands -/
def tabH (H : Hp) (ts : List Addr) : Hp := fun b => if b ∈ ts then some (.tbl #[]) else H b
theorem tabH_in {H : Hp} {ts : List Addr} {b : Addr} (h : b ∈ ts) : tabH H ts b = some (.tbl #[]) := by unfold tabH; exact if_pos h
theorem tabH_out {H : Hp} {ts : List Addr} {b : Addr} (h : b ∉ ts) : tabH H ts b = H b := by unfold tabH; exact if_neg h
theorem tabs_start {H : Hp} {ts : List Addr} {L : List (Addr × Str)} (h : ∀ z ∈ L, z.1 ∈ ts) : LamX.Tabs L (tabH H ts) := fun z hz => LamX.TabS.nil (tabH_in (h z hz))
theorem law_atT {P : Program} {w : World} {K : PySem.W.Frag} {mg mb : Str → Option Value} {k : Nat} {fa a : Addr} {fd : FuncData} {x : Str} {s₁ : Shared} {vs : List Value} {ns : List Int} {cs : List (Addr × Addr)} {L : List (Addr × Str)}
    (kin : K.In s₁.heap) (gl : s₁.heap.Ns mainGlobals mg) (bi : s₁.heap.Ns builtinsNs mb) (bb : ∀ x : Str, x ≠ "__name__" → mb x = bootBuiltins x) (lim : s₁.heap.NoLimit) (gens : s₁.gens = #[])
    (sc : s₁.heap.get? a = some { cls := .type "list", data := .seq vs.toArray }) (isI : IntsAre vs ns) (few : ns.length ≤ 63) (hr : RoomN k callerA)
    (tabs : ∀ z ∈ cs, PySem.W.CodeHd s₁.heap z.1 z.2 ∧ s₁.heap.get? z.2 = some (PySem.W.tabObj #[])) (away : ∀ z ∈ cs, K.lookup z.2 = none) (hL : ∀ z ∈ L, z.1 ∈ cs.map (·.2))
    (bm : ∃ bm ob, mg "__builtins__" = some (.ref bm) ∧ bm ≠ builtinsNs ∧ s₁.heap.get? bm = some ob ∧ ob.cls = .type "module" ∧ ob.dict = some builtinsNs ∧ ob.data = .plain)
    (F : ∀ base : Heap, K.In base → base.Ns mainGlobals mg → (∀ z ∈ cs, LamX.TabB base mg z.1 z.2) → FnG P w K mg base (CZ K P w) k fa fd [x] (spLaw K L)) (hbind : ∀ (s : Shared) (u : Value), BindsTo s fd ⟨[u], []⟩ [(x, u)]) :
    codeAny (model P w) callerA (.call (.ref fa) ⟨[.ref a], []⟩) (fun r s' => r = .ok (.ret (.bool true)) ∧ OldK s₁.heap s'.heap ∧ s'.os = s₁.os ∧ AllBare s'.gens) s₁ := by
  have line : ns.length ≤ sizeLine := Nat.le_trans few (by rw [sizeLine_eq]; decide)
  obtain ⟨own, hown⟩ : ∃ own : Bool, own = (K.lookup a).isSome := ⟨_, rfl⟩
  obtain ⟨ts, hts⟩ : ∃ ts, ts = cs.map (·.2) := ⟨_, rfl⟩
  have tabAt : ∀ b ∈ ts, s₁.heap.get? b = some (PySem.W.tabObj #[]) := fun b hb => by
    rw [hts] at hb
    obtain ⟨z, hz, e⟩ := List.mem_map.mp hb
    rw [← e]
    exact (tabs z hz).2
  have inT : ∀ z ∈ cs, z.2 ∈ ts := fun z hz => by rw [hts]; exact List.mem_map.mpr ⟨z, hz, rfl⟩
  have notT : ∀ {b : Addr} {o : Obj}, s₁.heap.get? b = some o → o.cls ≠ .none → b ∉ ts := fun {b o} e n hb => by
    rw [tabAt b hb] at e
    cases e
    exact n rfl
  have notT2 : ∀ {b : Addr} {o : Obj} {es : Array DictEntry} {ep : Nat}, s₁.heap.get? b = some o → o.data = .dict es ep → b ∉ ts := fun {b o es ep} e d hb => by
    rw [tabAt b hb] at e
    cases e
    cases d
  have aT : a ∉ ts := notT sc fun z => by cases z
  let H : Hp := tabH (scriptH vs ns own a) ts
  have at_ : ∀ {b : Addr} {u : HO}, H b = some u → (b ∈ ts ∧ u = .tbl #[]) ∨ (b ∉ ts ∧ b = a ∧ K.lookup a = none ∧ u = .frz { cls := .type "list", data := .seq vs.toArray } (.lst (ns.map V.int))) := fun {b u} e => by
    by_cases hb : b ∈ ts
    · have e : tabH _ ts b = some u := e
      rw [tabH_in hb] at e
      cases e
      exact .inl ⟨hb, rfl⟩
    · have e : tabH _ ts b = some u := e
      rw [tabH_out hb] at e
      obtain ⟨h1, h2, h3⟩ := scriptH_some e
      rw [h1] at hown
      exact .inr ⟨hb, h2, by simpa using hown.symm, h3⟩
  have noH : ∀ {b : Addr}, b ∉ ts → b ≠ a → H b = none := fun {b} h1 h2 => by
    cases e : H b with
    | none => rfl
    | some u =>
      rcases at_ e with ⟨z, _⟩ | ⟨_, z, _⟩
      · exact absurd z h1
      · exact absurd z h2
  have seq : SqL K H a (ns.map V.int) := by
    cases ho : own with
    | true =>
      have : (K.lookup a).isSome = true := by rw [← hown, ho]
      obtain ⟨o, hk⟩ := Option.isSome_iff_exists.mp this
      have e := kin a o hk
      rw [sc] at e
      cases e
      have lv : vs.length = ns.length := isI.length
      refine .inr ⟨_, vs.toArray, _, hk, rfl, rfl, rfl, ?_, by simpa using vals_ints isI⟩
      rw [List.size_toArray, lv]
      exact line
    | false =>
      refine .inl (.inr ⟨{ cls := .type "list", data := .seq vs.toArray }, ?_⟩)
      show tabH (scriptH vs ns own a) ts a = _
      rw [tabH_out aT]
      unfold scriptH
      exact if_pos ⟨ho, rfl⟩
  have hok : HOk P w H s₁.heap := fun b u e => by
    rcases at_ e with ⟨z, rfl⟩ | ⟨_, rfl, _, rfl⟩
    · exact tabAt b z
    · exact ⟨sc, by rw [List.length_map]; exact line, vs, _, vals_ints isI, sc⟩
  have dictH : ∀ {b : Addr} {o : Obj} {es : Array DictEntry} {ep : Nat}, s₁.heap.get? b = some o → o.data = .dict es ep → H b = none := fun {b o es ep} e d => noH (notT2 e d) fun hb => by
    subst hb
    rw [sc] at e
    cases e
    cases d
  have keepNs : ∀ {b : Addr} {m : Str → Option Value}, s₁.heap.Ns b m → (hidT s₁.heap H).Ns b m := fun {b m} ⟨o, es, ep, e, d, r⟩ => ⟨o, es, ep, hidT_get e (dictH e d), d, r⟩
  have kin2 : K.In (hidT s₁.heap H) := fun b o e => hidT_get (kin b o e) (by
    cases q : H b with
    | none => rfl
    | some u =>
      rcases at_ q with ⟨z, _⟩ | ⟨_, rfl, hk, _⟩
      · rw [hts] at z
        obtain ⟨y, hy, e2⟩ := List.mem_map.mp z
        rw [← e2, away y hy] at e
        cases e
      · rw [hk] at e
        cases e)
  have clsH : ∀ {b : Addr} {o : Obj}, s₁.heap.get? b = some o → o.cls ≠ .none → o.cls ≠ .type "list" → (hidT s₁.heap H).get? b = some o := fun {b o} e n1 n2 => hidT_get e (noH (notT e n1) fun hb => by
    subst hb
    rw [sc] at e
    cases e
    exact n2 rfl)
  have TB : ∀ z ∈ cs, LamX.TabB (hidT s₁.heap H) mg z.1 z.2 := fun z hz => by
    obtain ⟨h1, h2⟩ := tabs z hz
    refine ⟨?_, ?_, fun e => ?_⟩
    · obtain ⟨o, us, file, tf, flags, tg, inF, text, tt, e1, r1, rest⟩ := h1
      exact ⟨o, us, file, tf, flags, tg, inF, text, tt, clsH e1 (by rw [r1]; intro y; cases y) (by rw [r1]; intro y; injection y with y; exact absurd y (by decide)), r1, rest⟩
    · obtain ⟨m, ob, b1, b2, b3, b4, b5, b6⟩ := bm
      refine ⟨m, ob, b1, b2, fun e => ?_, fun e => ?_, clsH b3 (by rw [b4]; intro y; cases y) (by rw [b4]; intro y; injection y with y; exact absurd y (by decide)), b4, b5, b6⟩
      · obtain ⟨o, es, ep, g1, g2, _⟩ := gl
        rw [e, g1] at b3
        cases b3
        rw [g2] at b6
        cases b6
      · rw [e, h2] at b3
        cases b3
        cases b6
    · obtain ⟨o, es, ep, g1, g2, _⟩ := gl
      rw [e, h2] at g1
      cases g1
      cases g2
  have md : Mod K mg (hidT s₁.heap H) := ⟨kin2, keepNs gl, ⟨mb, keepNs bi, bb⟩, let ⟨mc, h1, h2⟩ := lim; ⟨mc, keepNs h1, h2⟩⟩
  have start : Env0 P w K mg (hidT s₁.heap H) callerA [] s₁ H := ⟨rfl, md, fun b o e => of_hidT e, Nat.le_of_eq (hidT_size _ _), trivial, (fun b hb => absurd (show b ∈ ([] : List Addr) from hb) List.not_mem_nil), hok, .of_eq gens⟩
  refine codeAny_mono ((F _ kin2 (keepNs gl) TB).run callerA [] s₁ H ⟨[.ref a], []⟩ [.ref a] [.ref a] (fun v _ => v = .bl true) (fun _ _ _ => False) ⟨hr, rfl⟩ start (hbind s₁ (.ref a)) (.cons rfl .nil) ⟨a, ns, rfl, seq, few, tabs_start fun z hz => by rw [hts]; exact hL z hz, fun _ => rfl⟩) fun r s' z => ?_
  match r, z with
  | .error e, .inl ⟨_, _, _, _, _, _, _, _, _, _, _, _, q⟩ => exact q.2.elim
  | .error e, .inr ⟨_, _, _, _, _, _, _, _, _, _, _, _, q⟩ => exact q.2.elim
  | .ok (.ret u), ⟨v, H', os, bare, un, hok', rv, q⟩ =>
    have q : v = .bl true := q
    subst q
    cases (show u = Value.bool true from rv)
    have stays : ∀ b o, b ∉ ts → s₁.heap.get? b = some o → s'.heap.get? b = some o := fun b o nb e => by
      cases hb : H b with
      | none => exact un.keep b o e hb (fun z => absurd (show b ∈ ([] : List Addr) from z) List.not_mem_nil) List.not_mem_nil
      | some u =>
        rcases at_ hb with ⟨z, _⟩ | ⟨_, rfl, _, rfl⟩
        · exact absurd z nb
        · obtain ⟨now, _⟩ := hok' _ _ (un.frzs _ _ _ hb)
          rw [sc] at e
          cases e
          exact now
    have grows : ∀ b ∈ ts, ∃ more : Array Value, s'.heap.get? b = some (PySem.W.tabObj more) := fun b hb => by
      obtain ⟨more, z⟩ := un.tbls b #[] (tabH_in hb)
      exact ⟨_, hok' b _ z⟩
    refine ⟨rfl, ⟨fun b o e => ?_, fun b o e => ?_⟩, os, bare⟩
    · by_cases hb : b ∈ ts
      · obtain ⟨more, hm⟩ := grows b hb
        have hb2 := hb
        rw [hts] at hb2
        obtain ⟨y, hy, e2⟩ := List.mem_map.mp hb2
        have ct := ((tabs y hy).1.tab (tabs y hy).2).isCodeTable
        rw [tabAt b hb] at e
        cases e
        rw [e2] at ct
        exact .inr (.inl ⟨ct, rfl, #[], more, rfl, by rw [Array.empty_append]; exact hm⟩)
      · exact .inl (stays b o hb e)
    · by_cases hb : b ∈ ts
      · obtain ⟨more, hm⟩ := grows b hb
        exact ⟨_, hm⟩
      · exact ⟨o, stays b o hb e⟩
theorem tabIn_of {K : PySem.W.Frag} {x : Str} {f c P : Addr} {oc tv : Value} {od td : Option Addr} {fd : FuncData} {sl ts : Array (Option Value)} {vs : Array Value} (h1 : PySem.W.nsIn K mainGlobals x = some (some (.ref f))) (h2 : K.lookup f = some ⟨oc, od, .func fd, sl⟩) (h3 : fd.code = .ref c)
    (h4 : K.lookup c = some ⟨tv, td, .fields vs, ts⟩) (h5 : vs[11]? = some (.ref P)) : PySem.W.tabIn K x = some (c, P) := by
  unfold PySem.W.tabIn
  rw [h1]
  simp only [h2, h3, h4, h5]
/-- the end: cs, the code objects of the defs that make lambdas and their tables -/
theorem walkT {l : PySem.W.OpenLaw} {q : Program} {loose : List Str} {XP : (Str → Option Value) → Heap → Prop} {YP : World → Heap → Prop} {d : DefRec} {K : Params → PySem.W.Frag} {k : Nat} {x : Str} {names : List Str} (hn : l.most = some 63) (hdf : d.params.defaults = []) (hk : RoomN k callerA)
    (hrec : (names.all fun y => ((recsOf q).find? fun e => e.name == y).isSome) = true) (hY : ∀ (w : World) (h : Heap), YP w h → (K w.params).In h)
    (F : ∀ (w : World) (mg : Str → Option Value) (fa : Addr) (h : Heap), (K w.params).In h → h.Ns mainGlobals mg → mg d.name = some (.ref fa) →
      ∃ (fd : FuncData) (cs : List (Addr × Addr)) (L : List (Addr × Str)), (∀ z ∈ cs, ∃ y ∈ names, PySem.W.tabIn (K w.params) y = some z) ∧ (∀ z ∈ cs, (K w.params).lookup z.2 = none) ∧ (∀ z ∈ L, z.1 ∈ cs.map (·.2)) ∧
      (∀ (s : Shared) (u : Value), BindsTo s fd ⟨[u], []⟩ [(x, u)]) ∧ ∀ base : Heap, (K w.params).In base → base.Ns mainGlobals mg → (∀ z ∈ cs, LamX.TabB base mg z.1 z.2) → FnG l.prog w (K w.params) mg base (CZ (K w.params) l.prog w) k fa fd [x] (spLaw (K w.params) L)) :
    PySem.W.WalkO q loose XP YP l.row.toRowW d [] (fun f vs => PySem.call f vs) := by
  refine Att.attach_call hn hdf fun w s₀ s₁ mg mb fa o pm cd doc a vs ns gr y _ _ _ hmg sc isI few gens => ?_
  have kin := hY w _ y
  obtain ⟨fd, cs, L, h1, h2, h3, hb, hF⟩ := F w mg fa _ kin gr.T.g hmg
  refine law_atT kin gr.T.g gr.T.b gr.T.builtins gr.T.nolimit gens sc isI few hk (fun z hz => ?_) h2 h3 gr.T.bmain hF hb
  obtain ⟨n, hm, e2⟩ := h1 z hz
  obtain ⟨r, e1⟩ := Option.isSome_iff_exists.mp (List.all_eq_true.mp hrec n hm)
  exact PySem.W.tab_of gr.T kin e1 e2
end DL

set_option Elab.async false
set_option linter.all false
set_option autoImplicit false
set_option maxRecDepth 100000
/-! DLPU: more data definitions. -/
namespace DL
/-- [o, o] != [o, o] by an own __eq__, the equal case -/
def dNeL (c : Nat) (con : Con) (f g : DE) : DE := fun ρ Q E => f ρ (fun r ρ1 => g ρ1 (fun s ρ2 => ∃ o1 o2 p1 p2, r.d = .lst [o1, o2] ∧ s.d = .lst [p1, p2] ∧ (o1.isObj c = true ∧ o2.isObj c = true ∧ p1.isObj c = true ∧ p2.isObj c = true) ∧
  (Q (.fz (.bl false)) ρ2 ∧ con [.fz o2, .fz p2] (fun t _ => ∃ b, t.d = .bl b ∧ (R.fz (.bl b) = .fz (.bl true) ∧ Q (.fz (.bl false)) ρ2)) fun _ _ => False) ∧
  con [.fz o1, .fz p1] (fun t _ => ∃ b, t.d = .bl b ∧ (R.fz (.bl b) = .fz (.bl true) ∧ (Q (.fz (.bl false)) ρ2 ∧ con [.fz o2, .fz p2] (fun t _ => ∃ b, t.d = .bl b ∧ (R.fz (.bl b) = .fz (.bl true) ∧ Q (.fz (.bl false)) ρ2)) fun _ _ => False))) fun _ _ => False) E) E
/-! objects with parts of their own -/
def putL : List D → Nat → D → List D
  | [], _, d => [d]
  | _ :: xs, 0, d => d :: xs
  | x :: xs, j + 1, d => x :: putL xs j d
/-- a field's new value: a part of its own, or settled -/
def kidOf : Bool → R → (D → Prop) → Prop
  | true, .fr (.tup _), _ => False
  | true, .fr d, k => k (.prt d)
  | true, _, _ => False
  | false, r, k => k r.d
/-- x.f = e, x the name's own object -/
def sFldT (i c j : Nat) (b : Bool) (f : DE) : DS := fun D ρ E => f ρ (fun r ρ1 => match ρ1.at i with
  | .own (.obj c' fs) => c' = c ∧ j ≤ fs.length ∧ kidOf b r fun d => D.nx (ρ1.set i (.ownT (.obj c (putL fs j d))))
  | .ownT (.obj c' fs) => c' = c ∧ j ≤ fs.length ∧ kidOf b r fun d => D.nx (ρ1.set i (.ownT (.obj c (putL fs j d))))
  | _ => False) E
/-- x.f.append(e), the field a list of its object's own -/
def sAppF (i c j : Nat) (f : DE) : DS := fun D ρ _ => match ρ.at i with
  | .ownT (.obj c' fs) => c' = c ∧ ∃ xs, fs[j]? = some (.prt (.lst xs)) ∧ f (ρ.map Slot.calm) (fun r _ => r.d.flat = true ∧ xs.length < zaK ∧ D.nx (ρ.set i (.ownT (.obj c (putL fs j (.prt (.lst (xs ++ [r.d])))))))) noE
  | _ => False
/-- x.f op= e, flat values -/
def sFldAugT (i c j : Nat) (op : D → D → (R → Prop) → Prop) (f : DE) : DS := fun D ρ _ => match ρ.at i with
  | .ownT (.obj c' fs) => c' = c ∧ ∃ x, fs[j]? = some x ∧ x.flat = true ∧ f (ρ.map Slot.calm) (fun r _ => op x r.d fun t => t.d.flat = true ∧ D.nx (ρ.set i (.ownT (.obj c (putL fs j t.d))))) noE
  | _ => False
/-! == where the left one may be None -/
def eqNone (c : Nat) (con : Con) (x y : D) (k : Bool → Prop) : Prop := match x with
  | .non => (match y with
    | .non => k true
    | y => y.isObj c = true ∧ con [.fz y, .fz .non] (fun t _ => ∃ b, t.d = .bl b ∧ k b) fun _ _ => False)
  | x => x.isObj c = true ∧ y.eqTo c = true ∧ con [.fz x, .fz y] (fun t _ => ∃ b, t.d = .bl b ∧ k b) fun _ _ => False
def dEqN (c : Nat) (con : Con) (f g : DE) : DE := fun ρ Q E => f ρ (fun r ρ1 => g ρ1 (fun s ρ2 => eqNone c con r.d s.d fun b => Q (.fz (.bl b)) ρ2) E) E
/-- x.p, p a property whose getter computes -/
def dProp (c : Nat) (con : Con) (f : DE) : DE := fun ρ Q E => f ρ (fun r ρ1 => r.d.isObj c = true ∧ con [.fz r.d] (fun t _ => Q t ρ1) (fun _ _ => False)) E
/-- str(i) -/
def strF : List D → (R → Prop) → Prop
  | [.int i], k => i.natAbs < 10 ^ 120 ∧ k (.fz (.str (intT i)))
  | _, _ => False
end DL

set_option Elab.async false
set_option linter.all false
set_option autoImplicit false
set_option maxRecDepth 100000
/-! DLX59: own objects with parts of their own: making, storing, appending. -/
namespace DL
open PySem PySem.Spec PyProof.Rows L2
theorem putL_eq : ∀ {fs : List D} {j : Nat} {d : D}, putL fs j d = if j < fs.length then fs.set j d else fs ++ [d]
  | [], j, d => by rw [if_neg (by simp)]; rfl
  | x :: xs, 0, d => by rw [if_pos (by simp)]; rfl
  | x :: xs, j + 1, d => by
    show x :: putL xs j d = _
    rw [putL_eq]
    by_cases h : j < xs.length
    · rw [if_pos h, if_pos (by simpa using h)]; rfl
    · rw [if_neg h, if_neg (by simpa using h)]; rfl
section
variable {K : PySem.W.Frag} {T : Tb} {F F' H H' : Hp}
theorem RepL.kid : ∀ {vs : List V} {xs : List D}, RepL K T F vs xs → KidL K T F H vs xs ∧ zaI vs xs = []
  | _, _, .nil => ⟨.nil, rfl⟩
  | _, _, .cons a b => by
    obtain ⟨h1, h2⟩ := RepL.kid b
    exact ⟨.cons (.fz a) h1, by rw [kidsA_cons, kidA_fz a, h2]; rfl⟩
theorem KidL.length : ∀ {vs : List V} {xs : List D}, KidL K T F H vs xs → vs.length = xs.length
  | _, _, .nil => rfl
  | _, _, .cons _ b => congrArg (· + 1) (KidL.length b)
/-- a part, by its place -/
theorem KidL.at_ : ∀ {vs : List V} {xs : List D} {j : Nat} {d : D}, KidL K T F H vs xs → xs[j]? = some (.prt d) → ∃ q o, vs[j]? = some (.ref q) ∧ F q = none ∧ H q = some o ∧ RepO K T F o d ∧ q ∈ zaI vs xs
  | _, _, _, _, .nil, h => by simp at h
  | _, _, 0, d, .cons k r, h => by
    simp at h
    subst h
    cases k with
    | fz z => exact (not_rep_prt z).elim
    | own f e ro => exact ⟨_, _, rfl, f, e, ro, List.mem_append_left _ (List.mem_singleton.mpr rfl)⟩
  | _, _, j + 1, d, .cons k r, h => by
    obtain ⟨q, o, h1, h2, h3, h4, h5⟩ := r.at_ (j := j) (by simpa using h)
    exact ⟨q, o, by simpa using h1, h2, h3, h4, kidsA_sub h5⟩
/-- a field by its place -/
theorem KidL.get : ∀ {vs : List V} {xs : List D} {j : Nat} {d : D}, KidL K T F H vs xs → xs[j]? = some d → ∃ v, vs[j]? = some v ∧ KidR K T F H v d
  | _, _, _, _, .nil, h => by simp at h
  | _, _, 0, d, .cons k r, h => by simp at h; subst h; exact ⟨_, rfl, k⟩
  | _, _, j + 1, d, .cons k r, h => by
    obtain ⟨v, h1, h2⟩ := r.get (j := j) (by simpa using h)
    exact ⟨v, by simpa using h1, h2⟩
/-- a part is changed -/
theorem KidL.setAt : ∀ {vs : List V} {xs : List D} {j : Nat} {d d' : D} {q : Addr} {o' : HO}, KidL K T F H vs xs → (zaI vs xs).Nodup → xs[j]? = some (.prt d) → vs[j]? = some (.ref q) → RepO K T F o' d' → tupB o' = false →
    KidL K T F (upd H q o') vs (xs.set j (.prt d')) ∧ zaI vs (xs.set j (.prt d')) = zaI vs xs
  | _, _, _, _, _, _, _, .nil, _, h, _, _, _ => by simp at h
  | _, _, 0, d, d', q, o', .cons (vs := vs) (xs := xs) k r, nd, h1, h2, ro, nt => by
    simp at h1 h2
    subst h1; subst h2
    have nd' : (q :: zaI vs xs).Nodup := nd
    have n := List.nodup_cons.mp nd'
    cases k with
    | fz z => exact (not_rep_prt z).elim
    | own f e _ =>
      refine ⟨.cons (.own f upd_same ro nt) (r.mono (Same.refl _) fun a ha => ⟨(r.priv a ha).1, upd_ne fun z => n.1 (by rw [← z]; exact ha)⟩), rfl⟩
  | _, _, j + 1, d, d', q, o', .cons (v := v) (d := d0) (vs := vs) (xs := xs) k r, nd, h1, h2, ro, nt => by
    have nd2 : (kidA v d0 ++ zaI vs xs).Nodup := nd
    have nd3 := List.nodup_append.mp nd2
    obtain ⟨q', o, e1, _, _, _, hm⟩ := r.at_ (j := j) (by simpa using h1)
    have e2 : vs[j]? = some (.ref q) := by simpa using h2
    rw [e2] at e1
    cases e1
    obtain ⟨h3, h4⟩ := r.setAt (o' := o') (d' := d') nd3.2.1 (by simpa using h1) e2 ro nt
    refine ⟨.cons (k.mono (Same.refl _) fun a ha => ?_) h3, by rw [List.set_cons_succ, kidsA_cons, h4, kidsA_cons]⟩
    have na : a ≠ q := fun z => nd3.2.2 a ha q hm z
    cases k with
    | fz z => rw [kidA_fz z] at ha; simp at ha
    | own f e ro' =>
      rw [List.mem_singleton.mp ha] at na ⊢
      exact ⟨f, upd_ne na⟩
theorem kidsA_app : ∀ {vs ws : List V} {xs ys : List D}, vs.length = xs.length → zaI (vs ++ ws) (xs ++ ys) = zaI vs xs ++ zaI ws ys
  | [], _, [], _, _ => rfl
  | v :: vs, ws, d :: xs, ys, h => by
    rw [List.cons_append, List.cons_append, kidsA_cons, kidsA_cons, kidsA_app (by simpa using h), List.append_assoc]
  | [], _, _ :: _, _, h => by simp at h
  | _ :: _, _, [], _, h => by simp at h
def putV (vs : List V) (j : Nat) (v : V) : List V := if j < vs.length then vs.set j v else vs ++ [v]
/-- a field is stored -/
theorem KidL.set : ∀ {vs : List V} {xs : List D} {v : V} {d : D} (j : Nat), KidL K T F H vs xs → KidR K T F H v d → (zaI vs xs).Nodup → (kidA v d).Nodup → (∀ a ∈ kidA v d, a ∉ zaI vs xs) →
    KidL K T F H (vs.set j v) (xs.set j d) ∧ (zaI (vs.set j v) (xs.set j d)).Nodup ∧ ∀ a ∈ zaI (vs.set j v) (xs.set j d), a ∈ zaI vs xs ∨ a ∈ kidA v d
  | _, _, _, _, _, .nil, _, nd, _, _ => ⟨.nil, nd, fun a ha => .inl ha⟩
  | _, _, v, d, 0, .cons (v := w) (d := e) (vs := vs) (xs := xs) k r, kd, nd, nv, hd => by
    have nd3 := List.nodup_append.mp (show (kidA w e ++ zaI vs xs).Nodup from nd)
    refine ⟨.cons kd r, ?_, fun a ha => ?_⟩
    · show (kidA v d ++ zaI vs xs).Nodup
      exact List.nodup_append.mpr ⟨nv, nd3.2.1, fun a ha b hb z => hd a ha (by rw [z]; exact kidsA_sub hb)⟩
    · rcases List.mem_append.mp (show a ∈ kidA v d ++ zaI vs xs from ha) with h | h
      · exact .inr h
      · exact .inl (kidsA_sub h)
  | _, _, v, d, j + 1, .cons (v := w) (d := e) (vs := vs) (xs := xs) k r, kd, nd, nv, hd => by
    have nd3 := List.nodup_append.mp (show (kidA w e ++ zaI vs xs).Nodup from nd)
    obtain ⟨h1, h2, h3⟩ := r.set j kd nd3.2.1 nv fun a ha z => hd a ha (kidsA_sub z)
    refine ⟨.cons k h1, ?_, fun a ha => ?_⟩
    · show (kidA w e ++ zaI (vs.set j v) (xs.set j d)).Nodup
      refine List.nodup_append.mpr ⟨nd3.1, h2, fun a ha b hb z => ?_⟩
      subst z
      rcases h3 a hb with q | q
      · exact nd3.2.2 a ha a q rfl
      · exact hd a q (List.mem_append_left _ ha)
    · rcases List.mem_append.mp (show a ∈ kidA w e ++ zaI (vs.set j v) (xs.set j d) from ha) with h | h
      · exact .inl (List.mem_append_left _ h)
      · exact (h3 a h).elim (fun q => .inl (kidsA_sub q)) .inr
theorem KidL.append : ∀ {vs ws : List V} {xs ys : List D}, KidL K T F H vs xs → KidL K T F H ws ys → KidL K T F H (vs ++ ws) (xs ++ ys)
  | _, _, _, _, .nil, h => h
  | _, _, _, _, .cons a b, h => .cons a (KidL.append b h)
theorem KidL.put {vs : List V} {xs : List D} {v : V} {d : D} {j : Nat} (k : KidL K T F H vs xs) (kd : KidR K T F H v d) (nd : (zaI vs xs).Nodup) (nv : (kidA v d).Nodup) (hd : ∀ a ∈ kidA v d, a ∉ zaI vs xs) :
    KidL K T F H (putV vs j v) (putL xs j d) ∧ (zaI (putV vs j v) (putL xs j d)).Nodup ∧ ∀ a ∈ zaI (putV vs j v) (putL xs j d), a ∈ zaI vs xs ∨ a ∈ kidA v d := by
  rw [putL_eq]
  unfold putV
  rw [k.length]
  split
  · exact k.set j kd nd nv hd
  · have e : zaI (vs ++ [v]) (xs ++ [d]) = zaI vs xs ++ kidA v d := by
      rw [kidsA_app k.length, kidsA_cons]
      show zaI vs xs ++ (kidA v d ++ []) = _
      rw [List.append_nil]
    refine ⟨k.append (.cons kd .nil), ?_, fun a ha => ?_⟩
    · rw [e]
      exact List.nodup_append.mpr ⟨nd, nv, fun a ha b hb z => hd b hb (by rw [← z]; exact ha)⟩
    · rw [e] at ha
      exact List.mem_append.mp ha
end
section
variable {X : Cx} {T : Tb} {B : Bs} {M : List Nat} {W : EK} {F H : Hp} {ρ : Env} {σ : L2.St}
variable {a b e : Expr} {es : List Expr} {f g : DE} {pos apos cpos : Pos} {c i j : Nat} {ci : CI} {fn x : Str} {px pos' : Pos}
/-- an argument is read with one's own objects as they stand -/
theorem look_arg {Qd : R → Prop} {Q : VK} (S : SR X.K T B M F H ρ σ) (h : g (ρ.map Slot.calm) (fun r _ => r.d.flat = true ∧ Qd r) noE)
    (k : ∀ H' v r, SR X.K T B M F H' ρ σ → (∀ i, ∀ a ∈ foot H (σ[i]?) (ρ.at i), H' a = H a) → (∀ F', Rep X.K T F' v r.d) → Qd r → Q v H') : lE X.K T B M noE g σ H Q := by
  obtain ⟨F2, e2, S2, hf⟩ := S.calmAll ρ.length (fun i hi => by rw [at_oob (by omega)]; rfl)
  refine zaL (Qd := fun r _ => r.d.flat = true ∧ Qd r) S2 h fun F3 H3 ρ3 v r e3 S3 R3 q3 => ?_
  refine k H3 v r (S.back S2 hf e2 e3 S3).1 (fun i a ha => ?_) (fun F' => flat_rep2 q3.1 R3) q3.2
  obtain ⟨u, hu⟩ := hf i a ha
  rw [S3.sure (e3 _ _ hu) (S.newO ha), S2.sure hu (S.newO ha)]
/-! ### C(), C(..) of such a class -/
variable {k : Nat} {fa C : Addr} {fd : FuncData} {ps : List Str} {con : Con} {p : Pos} {fs : List DE}
variable {m : Str} {Mc : List Nat} {as : List DA} {pl : Sem Bool}
end
end DL

set_option Elab.async false
set_option linter.all false
set_option autoImplicit false
set_option maxRecDepth 100000
/-! DLPV: more data definitions. -/
namespace DL
/-! != where either may be None -/
def neNone (c : Nat) (con : Con) (x y : D) (k : Bool → Prop) : Prop := match x with
  | .non => (match y with
    | .non => k false
    | y => y.isObj c = true ∧ con [.fz y, .fz .non] (fun t _ => ∃ b, t.d = .bl b ∧ k (!b)) fun _ _ => False)
  | x => x.isObj c = true ∧ (match y with
    | .non => con [.fz x, .fz .non] (fun t _ => ∃ b, t.d = .bl b ∧ k (!b)) fun _ _ => False
    | y => y.isObj c = true ∧ con [.fz x, .fz y] (fun t _ => ∃ b, t.d = .bl b ∧ k (!b)) fun _ _ => False)
def dNeN (c : Nat) (con : Con) (f g : DE) : DE := fun ρ Q E => f ρ (fun r ρ1 => g ρ1 (fun s ρ2 => neNone c con r.d s.d fun b => Q (.fz (.bl b)) ρ2) E) E
/-- a new object of flat things -/
def D.flat1 : D → Bool
  | .lst xs => xs.all D.flat
  | .tup xs => xs.all D.flat
  | .dct ks => ks.all fun p => p.2.flat
  | _ => false
/-- read with one's own objects as they stand, for a new object of flat things -/
def dLookL (f : DE) : DE := fun ρ Q _ => f (ρ.map Slot.calm) (fun r _ => ∃ d, r = .fr d ∧ d.flat1 = true ∧ Q (.fr d) ρ) noE
/-! targets of any kind -/
/-- x.f, x the name's own object -/
def gA (i c j : Nat) : DG := fun d ρ k => match ρ.at i with
  | .own (.obj c' fs) => c' = c ∧ j ≤ fs.length ∧ k (ρ.set i (.own (.obj c (putL fs j d))))
  | _ => False
/-- x.f, x a name that keeps its own object -/
def dFldN (i c j : Nat) : DE := fun ρ Q _ => match ρ.at i with
  | .own (.obj c' fs) => c' = c ∧ ∃ d, fs[j]? = some d ∧ Q (.fz d) ρ
  | .fz (.obj c' fs) => c' = c ∧ ∃ d, fs[j]? = some d ∧ Q (.fz d) ρ
  | _ => False
def gGs : List DG → List D → Env → (Env → Prop) → Prop
  | [], [], ρ, k => k ρ
  | g :: gs, d :: ds, ρ, k => g d ρ fun ρ1 => gGs gs ds ρ1 k
  | _, _, _, _ => False
def gTG (gs : List DG) : DG := fun d ρ k => match d with
  | .tup ds => gGs gs ds ρ k
  | _ => False
/-- a = b = .. = f -/
def gAll : List DG → D → Env → (Env → Prop) → Prop
  | [], _, ρ, k => k ρ
  | g :: gs, d, ρ, k => g d ρ fun ρ1 => gAll gs d ρ1 k
def sAsgs (gs : List DG) (f : DE) : DS := fun D ρ E => f ρ (fun r ρ1 => gAll gs r.d ρ1 D.nx) E
/-- x.clear(), x the name's own list or dict -/
def sClr (i : Nat) : DS := fun D ρ _ => match ρ.at i with
  | .own (.lst _) => D.nx (ρ.set i (.own (.lst [])))
  | .own (.dct _) => D.nx (ρ.set i (.own (.dct [])))
  | _ => False
/-- a new object becomes the name's own; a settled value is stored as it is -/
def sAsgN (i : Nat) (f : DE) : DS := fun D ρ E => f ρ (fun r ρ1 => match r with | .fr (.tup _) => False | .ft (.tup _) => False | .fr d => D.nx (ρ1.set i (.own d)) | .ft d => D.nx (ρ1.set i (.ownT d)) | .fz d => D.nx (ρ1.set i (.fz d))) E
/-- x.index(e), x a list: the first place of an equal thing -/
def firstEq : List D → D → Nat → Option Nat
  | [], _, _ => none
  | y :: ys, d, i => if D.eqv y d = true then some i else firstEq ys d (i + 1)
def dLix (f g : DE) : DE := fun ρ Q E => f ρ (fun r ρ1 => match r.d with
  | .lst ys => g ρ1 (fun s ρ2 => D.eqOkL 59 ys = true ∧ s.d.eqOk 60 = true ∧ ∃ i : Nat, firstEq ys s.d 0 = some i ∧ Q (.fz (.int (i : Int))) ρ2) E
  | _ => False) E
/-! texts in their order -/
def leT : Tx → Tx → Bool
  | [], _ => true
  | _ :: _, [] => false
  | x :: xs, y :: ys => if x < y then true else if y < x then false else leT xs ys
def insT (x : Tx) : List Tx → List Tx
  | [] => [x]
  | y :: ys => if leT x y then x :: y :: ys else y :: insT x ys
def srtT : List Tx → List Tx
  | [] => []
  | x :: xs => insT x (srtT xs)
def ddT : List Tx → List Tx
  | [] => []
  | x :: xs => if x ∈ xs then ddT xs else x :: ddT xs
/-- len(set(e)), sorted(set(e)): e a list of texts -/
def dLenSet (f : DE) : DE := fun ρ Q E => f ρ (fun r ρ1 => match r.d with
  | .lst xs => ∃ ys : List Tx, xs = ys.map D.str ∧ ys.length < 4000 ∧ Q (.fz (.int (ddT ys).length)) ρ1
  | _ => False) E
def dSrtSet (f : DE) : DE := fun ρ Q E => f ρ (fun r ρ1 => match r.d with
  | .lst xs => ∃ ys : List Tx, xs = ys.map D.str ∧ ys.length < 4000 ∧ (ddT ys).length < 64 ∧ Q (.fr (.lst ((srtT (ddT ys)).map D.str))) ρ1
  | _ => False) E
/-- sorted(x) of a list of texts, or of a dict whose keys are texts -/
def kyT : Ky → Tx
  | .str x => x
  | .int _ => []
def Ky.isT : Ky → Bool
  | .str _ => true
  | .int _ => false
def sortedF : List D → (R → Prop) → Prop
  | [.lst xs], k => ∃ ys : List Tx, xs = ys.map D.str ∧ ys.length ≤ zaK ∧ k (.fr (.lst ((srtT ys).map D.str)))
  | [.dct kvs], k => (kvs.all (fun p => p.1.isT) = true ∧ kvs.length ≤ zaK) ∧ k (.fr (.lst ((srtT (kvs.map fun p => kyT p.1)).map D.str)))
  | _, _ => False
end DL

set_option Elab.async false
set_option linter.all false
set_option autoImplicit false
set_option maxRecDepth 100000
/-! DLX63: sets of texts: set(list), len, sorted. -/
namespace DL
open PySem PySem.Spec PyProof.Rows L2
def txOf (e : Int × Value) : Str := match e.2 with | .str x _ => x | _ => Str.empty
def GoodT (P : Program) (w : World) (e : Int × Value) : Prop := ∃ x tk, e.2 = Value.str x tk ∧ e.1 = (PySem.strKind P w).hash x
/-- a set of texts: S its members, n their number -/
def SetT (P : Program) (w : World) (h : Heap) (a : Addr) (S : Str → Bool) (n : Nat) : Prop :=
  ∃ o ez en t, h.get? a = some o ∧ o.ExactSet ∧ o.data = .set ez en t ∧ (∀ y ∈ ez.toList, GoodT P w y) ∧ (ez.toList.map txOf).Nodup ∧ (∀ k, S k = true ↔ k ∈ ez.toList.map txOf) ∧
    ez.size < scanBound ∧ t.fits ez.size = true ∧ ez.size = n ∧ Ris t.place.toList ∧ (w.params.followText "set-order" = true ∨ t.led = true)
section
variable {P : Program} {w : World} {h h' : Heap} {a : Addr} {S : Str → Bool} {n : Nat}
theorem SetT.at (R : SetT P w h a S n) (k : ∀ o, h.get? a = some o → h'.get? a = some o) : SetT P w h' a S n := by
  obtain ⟨o, ez, en, t, z, r⟩ := R
  exact ⟨o, ez, en, t, k o z, r⟩
theorem SetT.congr {S' : Str → Bool} (R : SetT P w h a S n) (e : ∀ k, S' k = S k) : SetT P w h a S' n := (funext e : S' = S) ▸ R
end
section
variable {P : Program} {w : World} {A : Around} {E : Value → Shared → Prop} {s : Shared} {a : Addr} {S : Str → Bool} {n : Nat}
end
end DL

set_option Elab.async false
set_option linter.all false
set_option autoImplicit false
set_option maxRecDepth 100000
/-! DLPW: texts in order: sorting, dropping repetitions. -/
namespace DL
abbrev RisT (xs : List Tx) : Prop := xs.Pairwise fun a b => leT a b = true
end DL

set_option Elab.async false
set_option linter.all false
set_option autoImplicit false
set_option maxRecDepth 100000
/-! DLX64: len(set(e)), sorted(set(e)), e a list of texts; sorted(e). -/
namespace DL
open PySem PySem.Spec PyProof.Rows L2
section
variable {prog : Program} {w : World} {A : Around} {E : Value → Shared → Prop} {s : Shared} {a : Addr} {S : Str → Bool} {n : Nat}
end
section
variable {X : Cx} {T : Tb} {B : Bs} {M : List Nat} {W : EK} {F H : Hp} {ρ : Env} {σ : L2.St}
/-- a list of texts, and what is wished of its set -/
def tSetT (K : PySem.W.Frag) (ta : TE) (k : List Str → Hp → Prop) (σ : L2.St) (H : Hp) : Prop := ta σ H fun x H1 => ∃ l, ∃ xs : List Str, x = .ref l ∧ SqL K H1 l (xs.map V.str) ∧ xs.length + 1 < scanBound ∧ k xs H1
variable {a : Expr} {ta : TE} {p p2 q pos : Pos}
def tLenSetT (K : PySem.W.Frag) (ta : TE) : TE := fun σ H Q => tSetT K ta (fun xs H1 => ∀ ks : List Str, ks.Nodup → (∀ k, k ∈ ks ↔ k ∈ xs) → Q (.int ks.length) H1) σ H
def tSrtSetT (K : PySem.W.Frag) (ta : TE) : TE := fun σ H Q => tSetT K ta (fun xs H1 => ∀ (ks : List Str) (p : Addr), ks.Nodup → (∀ k, k ∈ ks ↔ k ∈ xs) → sortedS ks = true → H1 p = none → Q (.ref p) (upd H1 p (.lst (ks.map V.str)))) σ H
end
end DL

set_option Elab.async false
set_option linter.all false
set_option autoImplicit false
set_option maxRecDepth 100000
/-! DLX65: len(set(e)), sorted(set(e)), sorted(e) over data. -/
namespace DL
open PySem PySem.Spec PyProof.Rows L2
section
variable {X : Cx} {T : Tb} {B : Bs} {M : List Nat} {W : EK} {F H : Hp} {ρ : Env} {σ : L2.St}
variable {a e : Expr} {f : DE} {p p2 q pos : Pos}
/-! ### sorted(e) -/
def rSrtL (X : Cx) : List V → Hp → VK → Prop := fun vs H Q => ∃ (a : Addr) (xs : List Str), vs = [V.ref a] ∧ SqL X.K H a (xs.map V.str) ∧ xs.length ≤ sizeLine ∧ ∀ (ys : List Str) (p : Addr), ys.Perm xs → sortedS ys = true → H p = none → Q (.ref p) (upd H p (.lst (ys.map V.str)))
def rSrtD : List V → Hp → VK → Prop := fun xs H Q => ∃ (a : Addr) (kvs : List (Key × V)) (ks : List Str), xs = [.ref a] ∧ Rd H a (.dK kvs) ∧ kvs.map (·.1) = ks.map Sum.inr ∧ ks.length ≤ sizeLine ∧
    ∀ ys p, ys.Perm ks → sortedS ys = true → H p = none → Q (.ref p) (upd H p (.lst (ys.map V.str)))
end
end DL

set_option Elab.async false
set_option linter.all false
set_option autoImplicit false
set_option maxRecDepth 100000
/-! DLX67: attributes as targets, tuples of targets of any kind, a = b = .. = e. -/
namespace DL
open PySem PySem.Spec PyProof.Rows L2
section
variable {X : Cx} {T : Tb} {B : Bs} {M : List Nat} {W : EK} {F H : Hp} {ρ : Env} {σ : L2.St}
variable {a b e o : Expr} {es ts : List Expr} {f g : DE} {pos : Pos}
def gFld (K : PySem.W.Frag) (ta : TE) (fn : Str) : TG := fun v σ H Q => ta σ H fun x H2 => ∃ a C dx fs, x = .ref a ∧ H2 a = some (.ins C dx fs) ∧ Cls K C ∧ NoAttr K C fn ∧ fs.length < 1000 ∧ Q σ (upd H2 a (.ins C dx (putF fn v fs)))
/-! tuples of targets -/
def lGn (K : PySem.W.Frag) (T : Tb) (B : Bs) (M : List Nat) (gs : List DG) : TGs := fun vs σ H Q => ∃ F ρ ds Qd, SR K T B M F H ρ σ ∧ RepL K T F vs ds ∧ gGs gs ds ρ Qd ∧ ∀ F' H' ρ' σ', Same F F' → SR K T B M F' H' ρ' σ' → Qd ρ' → Q σ' H'
abbrev PDGn (X : Cx) (T : Tb) (B : Bs) (M : List Nat) (es : List Expr) (gs : List DG) : Prop := PGs X es (lGn X.K T B M gs)
/-- a target that goes on -/
def Goes (g : DG) : Prop := ∀ d ρ k, g d ρ k → ∃ ρ', k ρ'
/-! a = b = .. = e -/
structure PAll (X : Cx) (ts : List Expr) (t : TG) : Prop where
  run : ∀ (pins : List (Addr × Obj)) (s : Shared) (σ : L2.St) (H : Hp) (v : V) (u : Value) (Q : L2.St → Hp → Prop), Inv X pins σ H s → RelV v u → t v σ H Q →
    wpAny (model X.prog X.w) X.A (assignAll u ((assignEach ts X.env).map (·.2))) (fun _ s' => ∃ σ' H', Inv X pins σ' H' s' ∧ Q σ' H') X.xe s
def tgSeq (t u : TG) : TG := fun v σ H Q => t v σ H fun σ1 H1 => u v σ1 H1 Q
def lGa (K : PySem.W.Frag) (T : Tb) (B : Bs) (M : List Nat) (gs : List DG) : TG := fun v σ H Q => ∃ F ρ d Qd, SR K T B M F H ρ σ ∧ Rep K T F v d ∧ gAll gs d ρ Qd ∧ ∀ F' H' ρ' σ', Same F F' → SR K T B M F' H' ρ' σ' → Qd ρ' → Q σ' H'
end
end DL

set_option Elab.async false
set_option linter.all false
set_option autoImplicit false
set_option maxRecDepth 100000
/-! DLX69: a settled dict is walked over: it is locked for the walk. -/
namespace DL
open PySem PySem.Spec PyProof.Rows L2
/-! ### expressions, statements behind which a lock may fall -/
def tUn (H0 : Hp) (K : Hp → Prop) (H : Hp) : Prop := K H ∨ ∃ d od u, H d = some (.frz od u) ∧ (∀ o' u', H0 d ≠ some (.frz o' u')) ∧ K (upd H d u)
/-- the dict at hand is locked, or was -/
def tLk (H0 : Hp) (t : TE) : TE := fun σ H Q => t σ H fun x H1 => Q x H1 ∨ ∃ d u, H1 d = some u ∧ Mut (some u) ∧ ∀ od, (∀ o' u', H0 d ≠ some (.frz o' u')) → Q x (upd H1 d (.frz od u))
section
variable {X : Cx}
theorem pe_un {e : Expr} {t : TE} (h : PE X e t) : PE X e (fun σ H Q => t σ H fun x H1 => tUn X.H_0 (Q x) H1) := by
  refine ⟨fun pins s σ H Q I hw => ?_⟩
  refine thn (h.run pins s σ _ _ I hw) fun v s1 ⟨x, H1, I2, r, q⟩ => ?_
  rcases q with q | ⟨d, od, u, hd, hn, q⟩
  · exact ⟨x, H1, I2, r, q⟩
  · exact ⟨x, _, I2.unlock hd hn, r, q⟩
end
/-! ### the frame with a locked dict -/
section
variable {K : PySem.W.Frag} {T : Tb} {B : Bs} {M : List Nat} {F H : Hp} {ρ : Env} {σ : L2.St} {d : Addr} {kvs : List (Key × V)} {od : Obj}
theorem frz_code {od : Obj} {o : HO} : ∀ c q, HO.frz od o ≠ LamX.CodeO c q := fun c q z => by
  unfold LamX.CodeO at z
  cases z
theorem dic_tbl {u : HO} (h : dicB u = true) : ∀ ps, u ≠ .tbl ps := fun ps z => by rw [z] at h; cases h
theorem dic_code {u : HO} (h : dicB u = true) : ∀ c q, u ≠ LamX.CodeO c q := fun c q z => by unfold LamX.CodeO at z; rw [z] at h; cases h
theorem SR.notfoot (S : SR K T B M F H ρ σ) {o : HO} (hF : F d = some o) (i : Nat) : d ∉ foot H (σ[i]?) (ρ.at i) := fun z => by
  have := (S.priv z).1
  rw [hF] at this
  cases this
theorem SR.lock (S : SR K T B M F H ρ σ) {u0 : HO} (hF : F d = some u0) (hH : H d = some u0) (hd : dicB u0 = true := by rfl) : SR K T (baseAt B F (upd H d (.frz od u0)) ρ σ) M F (upd H d (.frz od u0)) ρ σ := by
  have ke : ∀ i, ∀ a ∈ foot H (σ[i]?) (ρ.at i), upd H d (.frz od u0) a = H a := fun i a ha => upd_ne fun z => S.notfoot hF i (by rw [← z]; exact ha)
  have fe := S.footEq ke
  refine ⟨⟨⟨fun a o e => ?_⟩, fun a od' kvs' e z => ⟨z, fun ⟨i, y⟩ => ?_⟩⟩, fun b o e _ _ => e, fun b o e => ⟨o, e⟩, Same.refl _, fun b o e => .inl e, S.len, fun i => (S.slot i).mono (Same.refl _) fun a ha => ⟨(S.priv ha).1, ke i a ha⟩, fun i a ha => .inr ha, fun i j a h1 h2 => S.injF i j a (fe i ▸ h1) (fe j ▸ h2), S.pin, tabs_upd S.tabs.1 hH (dic_tbl hd) (dic_code hd), S.tabs.2⟩
  · by_cases h : a = d
    · subst h
      rw [hF] at e
      cases e
      exact .inr ⟨od, hd, upd_same⟩
    · rw [upd_ne h]
      exact S.sub.w a o e
  · have y : a ∈ foot (upd H d (.frz od u0)) (σ[i]?) (ρ.at i) := y
    rw [fe i] at y
    have := (S.priv y).1
    rw [e] at this
    cases this
/-- behind a part that ran over the locked dict -/
theorem SR.kept {B2 : Bs} {F2 H2 : Hp} {ρ2 : Env} {σ2 : L2.St} {Hl : Hp} {u0 : HO} (hl : Hl d = some (.frz od u0)) (hF : F d = some u0) (Sl : SR K T (baseAt B F Hl ρ σ) M F Hl ρ σ) (S2 : SR K T (baseAt B F Hl ρ σ) M F2 H2 ρ2 σ2) : H2 d = some (.frz od u0) :=
  S2.keep d _ hl (fun ⟨i, z⟩ => Sl.notfoot hF i z) (fun _ z => nomatch z)
theorem SR.unlock {F2 H2 : Hp} {ρ2 : Env} {σ2 : L2.St} (S : SR K T B M F H ρ σ) {u0 : HO} (hF : F d = some u0) (hH : H d = some u0) (S2 : SR K T (baseAt B F (upd H d (.frz od u0)) ρ σ) M F2 H2 ρ2 σ2) (hd : dicB u0 = true := by rfl) : SR K T B M F2 (upd H2 d u0) ρ2 σ2 := by
  have Sl := S.lock (od := od) hF hH hd
  have ke0 : ∀ i, ∀ a ∈ foot H (σ[i]?) (ρ.at i), upd H d (.frz od u0) a = H a := fun i a ha => upd_ne fun z => S.notfoot hF i (by rw [← z]; exact ha)
  have fe0 := S.footEq ke0
  have h2 : H2 d = some (.frz od u0) := S2.keep d _ upd_same (fun ⟨i, z⟩ => Sl.notfoot hF i z) (fun _ z => nomatch z)
  have hF2 : F2 d = some u0 := S2.f0 _ _ hF
  have ke : ∀ i, ∀ a ∈ foot H2 (σ2[i]?) (ρ2.at i), upd H2 d u0 a = H2 a := fun i a ha => upd_ne fun z => S2.notfoot hF2 i (by rw [← z]; exact ha)
  have fe := S2.footEq ke
  have own : ∀ b, (baseAt B F (upd H d (.frz od u0)) ρ σ).O0 b → B.H0 b = none ∨ B.O0 b := fun b ⟨i, z⟩ => by
    have z : b ∈ foot (upd H d (.frz od u0)) (σ[i]?) (ρ.at i) := z
    rw [fe0 i] at z
    exact S.newO z
  refine ⟨⟨⟨fun a o e => ?_⟩, fun a od' kvs' e z => ?_⟩, fun b o e n m => ?_, fun b o e => ?_, S.f0.trans S2.f0, fun b o e => ?_, S2.len, fun i => (S2.slot i).mono (Same.refl _) fun a ha => ⟨(S2.priv ha).1, ke i a ha⟩, fun i a ha => ?_, fun i j a h1 h2 => S2.injF i j a (fe i ▸ h1) (fe j ▸ h2), S2.pin, tabs_upd S2.tabs.1 h2 (fun _ z => nomatch z) frz_code, S2.tabs.2⟩
  · by_cases h : a = d
    · subst h
      rw [hF2] at e
      cases e
      exact .inl upd_same
    · rw [upd_ne h]
      exact S2.sub.w a o e
  · have h : a ≠ d := fun h => by subst h; rw [upd_same] at z; cases z; cases hd
    rw [upd_ne h] at z
    obtain ⟨y1, y2⟩ := S2.sub.lk a od' kvs' e z
    have y1 : upd H d (.frz od u0) a = some (.frz od' kvs') := y1
    rw [upd_ne h] at y1
    rcases S2.fnew a _ e with q | q | q | q
    · exact S.sub.lk a od' kvs' q y1
    · have q : upd H d (.frz od u0) a = none := q
      rw [upd_ne h, y1] at q
      cases q
    · exact absurd q y2
    · have w := S2.sub.up e q
      rw [z] at w
      exact absurd (Option.some.inj w).symm (ne_frz _ _)
  · have q := S.keep b o e n m
    by_cases h : b = d
    · subst h
      rw [hH] at q
      cases q
      exact upd_same
    · rw [upd_ne h]
      refine S2.keep b o (by show upd H d _ b = _; rw [upd_ne h]; exact q) (fun z => ?_) m
      rcases own b z with y | y
      · rw [y] at e; cases e
      · exact n y
  · by_cases h : b = d
    · subst h; exact ⟨_, upd_same⟩
    · rw [upd_ne h]
      obtain ⟨o', q⟩ := S.live b o e
      exact S2.live b o' (by show upd H d _ b = _; rw [upd_ne h]; exact q)
  · rcases S2.fnew b o e with q | q | q | q
    · exact S.fnew b o q
    · have q : upd H d (.frz od u0) b = none := q
      have h : b ≠ d := fun h => by subst h; rw [upd_same] at q; cases q
      rw [upd_ne h] at q
      exact .inr (.inl (S.gone q))
    · exact .inr ((own b q).elim .inl fun z => .inr (.inl z))
    · exact .inr (.inr (.inr q))
  · rw [fe i] at ha
    rcases S2.newF i a ha with q | q
    · have q : upd H d (.frz od u0) a = none := q
      have h : a ≠ d := fun h => by subst h; rw [upd_same] at q; cases q
      rw [upd_ne h] at q
      exact .inl (S.gone q)
    · have q : a ∈ foot (upd H d (.frz od u0)) (σ[i]?) (ρ.at i) := q
      rw [fe0 i] at q
      exact S.newF i a q
end
end DL

set_option Elab.async false
set_option linter.all false
set_option autoImplicit false
set_option maxRecDepth 100000
/-! DLX70: comprehensions over a dict's pairs, values, keys. -/
namespace DL
open PySem PySem.Spec PyProof.Rows L2
/-- an item is handed out: it may be settled -/
def YldOk (K : PySem.W.Frag) (T : Tb) (F H : Hp) (x : V) (H' : Hp) (d : D) : Prop := ∀ B M ρ σ, SR K T B M F H ρ σ → ∃ F3, Same F F3 ∧ SR K T B M F3 H' ρ σ ∧ Rep K T F3 x d
theorem YldOk.new {K : PySem.W.Frag} {T : Tb} {F H H' : Hp} {x : V} {r : R} (n : NewR K T F H x H' r) : YldOk K T F H x H' r.d := fun B M ρ σ S => by
  obtain ⟨S3, RV⟩ := S.new n
  obtain ⟨F3, e3, S4, R3⟩ := S3.fix RV
  exact ⟨F3, e3, S4, R3⟩
def ItOkP (K : PySem.W.Frag) (T : Tb) (F : Hp) (P : Hp → Hp → Prop) (J : It) (xs : List D) : Prop :=
  ∀ i F1 H, Same F F1 → P F1 H → (i < xs.length → J.go i H ∧ ∀ x H', J.yld i H x H' → ∃ d, xs[i]? = some d ∧ YldOk K T F1 H x H' d) ∧ (xs.length ≤ i → J.stop i H)
theorem ItOk.toP {K : PySem.W.Frag} {T : Tb} {F : Hp} {J : It} {xs : List D} (io : ItOk K T F J xs) : ItOkP K T F SmW J xs := fun i F1 H e p =>
  ⟨fun h => ⟨((io i F1 H e p).1 h).1, fun x H' hy => by
    obtain ⟨r, hx, n⟩ := ((io i F1 H e p).1 h).2 x H' hy
    exact ⟨r.d, hx, .new n⟩⟩, (io i F1 H e p).2⟩
section
variable {X : Cx} {T : Tb} {B : Bs} {M : List Nat} {W : EK} {F H : Hp} {ρ : Env} {σ : L2.St}
end
end DL

set_option linter.all false
set_option autoImplicit false
/-! DLPX: dicts: walks over them, comprehensions, .get, d[k] = v, `in`. -/
namespace DL
def kyD : Ky → D
  | .int i => .int i
  | .str x => .str x
def kyOf : D → Option Ky
  | .int i => some (.int i)
  | .str x => some (.str x)
  | _ => none
/-- d.items(), d.values(), d itself, walked over -/
def iWk (f : DE) (xs : List (Ky × D) → List D) : DI := fun ρ Q E => f ρ (fun r ρ1 => match r.d with
  | .dct ds => Q (xs ds) ρ1
  | _ => False) E
def itmX (ds : List (Ky × D)) : List D := ds.map fun p => .tup [kyD p.1, p.2]
def valX (ds : List (Ky × D)) : List D := ds.map (·.2)
def keyX (ds : List (Ky × D)) : List D := ds.map fun p => kyD p.1
/-- a loop of which nothing raises -/
def sForN (it : DI) (g : DG) (body : DS) : DS := fun D ρ E => it ρ (fun xs ρ1 => forL g body D noE xs ρ1) E
/-- in its place, or at the end -/
def putD (ds : List (Ky × D)) (k : Ky) (d : D) : List (Ky × D) := if ds.any (fun p => decide (p.1 = k)) = true then ds.map (fun p => if p.1 = k then (p.1, d) else p) else ds ++ [(k, d)]
def dcL (vs : List Nat) (g : DG) (t : DT) (ek e : DE) (Q : List (Ky × D) → Env → Prop) : List D → List (Ky × D) → Env → Prop
  | [], acc, ρ => Q acc ρ
  | x :: xs, acc, ρ => g x ρ fun ρ1 => t ρ1 (fun b ρ2 => if b = true then ek ρ2 (fun rk ρ3 => e ρ3 (fun r ρ4 => ∃ k, kyOf rk.d = some k ∧ acc.length < zaK ∧ dcL vs g t ek e Q xs (putD acc k r.d) (wipeE vs ρ4)) noE) noE
    else dcL vs g t ek e Q xs acc (wipeE vs ρ2)) noE
/-- {k: e for x in ..} -/
def dDc (vs : List Nat) (it : DI) (g : DG) (t : DT) (ek e : DE) : DE := fun ρ Q E => it ρ (fun xs ρ1 => (∀ i ∈ vs, ∀ d, ρ1.at i ≠ .own d) ∧
  dcL vs g t ek e (fun acc ρ2 => Q (.fr (.dct acc)) (backE vs ρ1 ρ2)) xs [] (wipeE vs ρ1)) E
/-- d.get(k, x): a settled dict; the name's own dict -/
def dGet (f g h : DE) : DE := fun ρ Q E => f ρ (fun r ρ1 => (match r.d with | .dct _ => True | _ => False) ∧ g ρ1 (fun s ρ2 => h ρ2 (fun t ρ3 => match r.d with
  | .dct ds => ∃ k, kyOf s.d = some k ∧ Q (.fz ((lookD ds k).getD t.d)) ρ3
  | _ => False) E) E) E
def ownK : Slot → Bool
  | .own (.dct _) => true
  | _ => false
def dGetN (i : Nat) (g h : DE) : DE := fun ρ Q E => ownK (ρ.at i) = true ∧ g ρ (fun s ρ1 => h ρ1 (fun t ρ2 => match ρ2.at i with
  | .own (.dct ds) => ∃ k, kyOf s.d = some k ∧ Q (.fz ((lookD ds k).getD t.d)) ρ2
  | _ => False) E) E
/-- x[k], x the name's own dict -/
def dIxK (i : Nat) (g : DE) : DE := fun ρ Q E => ownK (ρ.at i) = true ∧ g ρ (fun s ρ1 => match ρ1.at i with
  | .own (.dct ds) => ∃ k, kyOf s.d = some k ∧ ∃ d, lookD ds k = some d ∧ Q (.fz d) ρ1
  | _ => False) E
/-- x[k] = e, x the name's own dict -/
def sPutK (i : Nat) (k : DE) (f : DE) : DS := fun D ρ E => f ρ (fun r ρ1 => ownK (ρ1.at i) = true ∧ k ρ1 (fun s ρ2 => match ρ2.at i with
  | .own (.dct ds) => ∃ ky, kyOf s.d = some ky ∧ ds.length < zaK ∧ D.nx (ρ2.set i (.own (.dct (putD ds ky r.d))))
  | _ => False) E) E
/-- == (!=) of dicts that are found equal, their values flat -/
def eqKv (b : Bool) (x y : D) (k : R → Prop) : Prop := match x, y with
  | .dct as, .dct bs => as.length = bs.length ∧ (∀ p ∈ as, lookD bs p.1 = some p.2 ∧ p.2.flat = true) ∧ k (.fz (.bl b))
  | _, _ => False
/-- k in d -/
def inKv (x d : D) (k : R → Prop) : Prop := match d with
  | .dct ds => ∃ ky, kyOf x = some ky ∧ k (.fz (.bl (ds.any fun p => decide (p.1 = ky))))
  | .dcT ds => ∃ xs ks, x = .tup xs ∧ kysOf xs = some ks ∧ k (.fz (.bl (ds.any fun p => decide (p.1 = ks))))
  | _ => False
def putT (ds : List (List Ky × D)) (k : List Ky) (d : D) : List (List Ky × D) := if ds.any (fun p => decide (p.1 = k)) = true then ds.map (fun p => if p.1 = k then (p.1, d) else p) else ds ++ [(k, d)]
/-- {k: e}, the key a tuple -/
def dDspT (fk f : DE) : DE := fun ρ Q E => fk ρ (fun rk ρ1 => f ρ1 (fun r ρ2 => ∃ xs ks, rk.d = .tup xs ∧ kysOf xs = some ks ∧ Q (.fr (.dcT [(ks, r.d)])) ρ2) noE) noE
def ownKT : Slot → Bool
  | .own (.dcT _) => true
  | _ => false
/-- x[k] = e, x the name's own dict, the key a tuple -/
def sPutT (i : Nat) (k : DE) (f : DE) : DS := fun D ρ E => f ρ (fun r ρ1 => ownKT (ρ1.at i) = true ∧ k ρ1 (fun s ρ2 => match ρ2.at i with
  | .own (.dcT ds) => ∃ xs ks, s.d = .tup xs ∧ kysOf xs = some ks ∧ ds.length < zaK ∧ D.nx (ρ2.set i (.own (.dcT (putT ds ks r.d))))
  | _ => False) E) E
/-- {k: e}, the key computed -/
def dDsp1 (fk f : DE) : DE := fun ρ Q E => fk ρ (fun rk ρ1 => f ρ1 (fun r ρ2 => ∃ k, kyOf rk.d = some k ∧ Q (.fr (.dct [(k, r.d)])) ρ2) noE) noE
/-- list(d.items()) -/
def dLitm (f : DE) : DE := fun ρ Q E => f ρ (fun r ρ1 => match r.d with
  | .dct ds => Q (.fr (.lst (itmX ds))) ρ1
  | _ => False) E
/-- dict(d), dict([(k, v), ..]) -/
def prD : D → Option (Ky × D)
  | .tup [a, b] => (kyOf a).map fun k => (k, b)
  | _ => none
def dictF : List D → (R → Prop) → Prop
  | [.dct ds], k => k (.fr (.dct ds))
  | [.lst xs], k => ∃ ps : List (Ky × D), xs.map prD = ps.map some ∧ ps.length ≤ zaK ∧ k (.fr (.dct (ps.foldl (fun acc p => putD acc p.1 p.2) [])))
  | _, _ => False
/-- x < y of texts -/
def ltSD (x y : D) (k : R → Prop) : Prop := match x, y with
  | .str a, .str b => k (.fz (.bl (decide (a < b))))
  | _, _ => False
/-- sorted(x), x a list of ints -/
def insI (x : Int) : List Int → List Int
  | [] => [x]
  | y :: ys => if x ≤ y then x :: y :: ys else y :: insI x ys
def srtI : List Int → List Int
  | [] => []
  | x :: xs => insI x (srtI xs)
def sortedIF : List D → (R → Prop) → Prop
  | [.lst xs], k => ∃ ns : List Int, xs = ns.map D.int ∧ ns.length ≤ zaK ∧ k (.fr (.lst ((srtI ns).map D.int)))
  | _, _ => False
end DL

set_option linter.all false
set_option autoImplicit false
/-! DLPY: tuples that take own objects with them, and back. -/
namespace DL
/-- own objects leave their names for a tuple -/
def giveE : List AV → Env → (List D → Env → Prop) → Prop
  | [], ρ, k => k [] ρ
  | .v d :: xs, ρ, k => giveE xs ρ fun ds ρ1 => k (d :: ds) ρ1
  | .m i :: xs, ρ, k => match ρ.at i with
    | .own d => giveE xs (ρ.set i .no) fun ds ρ1 => k (.prt d :: ds) ρ1
    | .fz d => giveE xs ρ fun ds ρ1 => k (d :: ds) ρ1
    | _ => False
/-- (x, e, ..), x a name that gives its own object away -/
def dTupK (as : List DA) : DE := fun ρ Q E => dAVs as ρ (fun vs ρ1 => vs.length ≤ zaK ∧ giveE vs ρ1 fun ds ρ2 => Q (.ft (.tup ds)) ρ2) E
def R.raw : R → D
  | .fz d => d
  | .fr d => d
  | .ft d => d
def D.isPrt : D → Bool
  | .prt _ => true
  | _ => false
def unpK1 (b : Bool) (i : Nat) (d : D) (ρ : Env) (k : Env → Prop) : Prop := match d with
  | .prt d => b = true ∧ k (ρ.set i (.own d))
  | d => k (ρ.set i (.fz d))
def unpK : List (Nat × Bool) → List D → Env → (Env → Prop) → Prop
  | [], [], ρ, k => k ρ
  | (i, b) :: is, d :: ds, ρ, k => unpK1 b i d ρ fun ρ1 => unpK is ds ρ1 k
  | _, _, _, _ => False
/-- a, b = f, the parts of a new tuple becoming the names' own -/
def sAsgK (is : List (Nat × Bool)) (f : DE) : DS := fun D ρ E => f ρ (fun r ρ1 => match r.raw with
  | .tup ds => unpK is ds ρ1 D.nx
  | _ => False) E
end DL
namespace DL
/-- k not in d -/
def ninKv (x d : D) (k : R → Prop) : Prop := match d with
  | .dct ds => ∃ ky, kyOf x = some ky ∧ k (.fz (.bl (!ds.any fun p => decide (p.1 = ky))))
  | .dcT ds => ∃ xs ks, x = .tup xs ∧ kysOf xs = some ks ∧ k (.fz (.bl (!ds.any fun p => decide (p.1 = ks))))
  | _ => False
/-- ==, != of dicts whose values are flat -/
def eqKB (as bs : List (Ky × D)) : Bool := (as.length == bs.length) && as.all fun p => match lookD bs p.1 with
  | some d => D.eqv p.2 d
  | none => false
def eqKg (b : Bool) (x y : D) (k : R → Prop) : Prop := match x, y with
  | .dct as, .dct bs => (as.all (fun p => p.2.flat) = true ∧ bs.all (fun p => p.2.flat) = true) ∧ k (.fz (.bl (b == eqKB as bs)))
  | _, _ => False
end DL

set_option linter.all false
set_option autoImplicit false
set_option maxRecDepth 100000
/-! DLPZ: sums of a dict's values; floor division by wide numbers. -/
namespace DL
def intsOf : List D → Option (List Int)
  | [] => some []
  | .int i :: ds => (intsOf ds).map (i :: ·)
  | _ => none
/-- sum(d.values()) -/
def dSumV (f : DE) : DE := fun ρ Q E => f ρ (fun r ρ1 => match r.d with
  | .dct ds => ∃ is, intsOf (ds.map (·.2)) = some is ∧ Q (.fz (.int is.sum)) ρ1
  | _ => False) E
/-- i // j for a wide j -/
def fdivWD : D → D → (R → Prop) → Prop
  | .int i, .int j, k => (0 < j ∧ j < 2 ^ 1000) ∧ k (.fz (.int (i / j)))
  | _, _, _ => False
/-- an own object with flat parts -/
def D.flatO (c : Nat) : D → Bool
  | .obj c' xs => c' == c && xs.all D.flat
  | _ => false
/-- == of two dicts of own objects with an own __eq__ -/
def eqKs (con : Con) (ds2 : List (Ky × D)) (Q : R → Prop) : List (Ky × D) → Prop
  | [] => Q (.fz (.bl true))
  | (k, d) :: r => match lookD ds2 k with
    | none => Q (.fz (.bl false))
    | some e => (d = e → eqKs con ds2 Q r) ∧ con [.fz d, .fz e] (fun t _ => ∃ b, t.d = .bl b ∧ (if b = true then eqKs con ds2 Q r else Q (.fz (.bl false)))) fun _ _ => False
def dEqKO (c : Nat) (con : Con) (f g : DE) : DE := fun ρ Q E => f ρ (fun r ρ1 => g ρ1 (fun s ρ2 => match r.d, s.d with
  | .dct ds1, .dct ds2 => (ds1.all (fun p => p.2.flatO c) = true ∧ ds2.all (fun p => p.2.flatO c) = true) ∧ (if ds1.length = ds2.length then eqKs con ds2 (fun t => Q t ρ2) ds1 else Q (.fz (.bl false)) ρ2)
  | _, _ => False) E) E
/-- d | e -/
def mergeD (a b : List (Ky × D)) : List (Ky × D) := b.foldl (fun acc p => putD acc p.1 p.2) a
def orKD : D → D → (R → Prop) → Prop
  | .dct a, .dct b, k => a.length + b.length ≤ zaK ∧ k (.fr (.dct (mergeD a b)))
  | _, _, _ => False
/-- min(xs, key=f, default=None) -/
def minUp (d : D) (n : Int) : Option (D × Int) → D × Int
  | none => (d, n)
  | some p => if n < p.2 then (d, n) else p
def minKs (con : Con) (Q : R → Prop) : List D → Option (D × Int) → Prop
  | [], none => Q (.fz .non)
  | [], some p => Q (.fz p.1)
  | d :: r, b => con [.fz d] (fun t _ => ∃ n : Int, t.d = .int n ∧ minKs con Q r (some (minUp d n b))) fun _ _ => False
def dMinK (con : Con) (f : DE) : DE := fun ρ Q E => f ρ (fun r ρ1 => match r.d with
  | .lst xs => minKs con (fun t => Q t ρ1) xs none
  | _ => False) E
/-- statements that are never reached -/
def sDead : DS := fun _ _ _ => False
end DL

set_option Elab.async false
set_option linter.all false
set_option autoImplicit false
set_option maxRecDepth 100000
/-! DLX71: [.. for .. in d.items()], d.values(), d. -/
namespace DL
open PySem PySem.Spec PyProof.Rows L2
section
variable {X : Cx} {T : Tb} {B : Bs} {M : List Nat} {W : EK} {F H : Hp} {ρ : Env} {σ : L2.St}
/-- a way to walk over a dict -/
abbrev WkJ := Addr → Obj → List (Key × V) → It
structure PWk (X : Cx) (T : Tb) (B : Bs) (M : List Nat) (W : EK) (tg e : Expr) (f : DE) (J : WkJ) (xs : List (Ky × D) → List D) : Prop where
  pi : PI X tg e (fun σ H R => tLk X.H_0 (lE X.K T B M W f) σ H fun x H1 => ∃ d o kvs, x = .ref d ∧ H1 d = some (.frz o (.dK kvs)) ∧ R (J d o kvs) H1)
  ok : ∀ (F : Hp) (d : Addr) (o : Obj) (kvs : List (Key × V)) (ds : List (Ky × D)), RepK X.K T F kvs ds → ItOkP X.K T F (fun _ H => H d = some (.frz o (.dK kvs))) (J d o kvs) (xs ds)
theorem RepK.len {K : PySem.W.Frag} : ∀ {kvs : List (Key × V)} {ds : List (Ky × D)}, RepK K T F kvs ds → kvs.length = ds.length
  | _, _, .nil => rfl
  | _, _, .cons _ _ r => congrArg (· + 1) r.len
variable {e tg : Expr} {f : DE} {apos cpos : Pos}
variable {elt iter : Expr} {ifs : List Expr} {scope : Scope} {own : List (Str × Nat)} {pos : Pos} {t : Tgt} {tt : DT} {g : DE} {J : WkJ} {xs : List (Ky × D) → List D}
end
end DL

set_option Elab.async false
set_option linter.all false
set_option autoImplicit false
set_option maxRecDepth 100000
/-! DLX72: for .. in d.items(): of which nothing raises. -/
namespace DL
open PySem PySem.Spec PyProof.Rows L2
section
variable {X : Cx} {T : Tb} {B : Bs} {M : List Nat} {W : EK} {F H : Hp} {ρ : Env} {σ : L2.St}
def lGx (K : PySem.W.Frag) (T : Tb) (M : List Nat) (g : DG) : TG := fun v σ H Q => ∃ B, lG K T B M g v σ H Q
def lSx (K : PySem.W.Frag) (T : Tb) (M : List Nat) (W : EK) (f : DS) : TS := fun J σ H => ∃ B, lS K T B M W f J σ H
/-- a result of a part that ran over the locked dict -/
theorem RetV.unlock {d : Addr} {kvs : List (Key × V)} {od : Obj} {F2 H2 : Hp} {ρ2 : Env} {σ2 : L2.St} {v : V} {r : R} (S : SR X.K T B M F H ρ σ) (hF : F d = some (.dK kvs)) (S2 : SR X.K T (baseAt B F (upd H d (.frz od (.dK kvs))) ρ σ) M F2 H2 ρ2 σ2) (R2 : RetV X.K T (baseAt B F (upd H d (.frz od (.dK kvs))) ρ σ) F2 H2 ρ2 σ2 v r) : RetV X.K T B F2 (upd H2 d (.dK kvs)) ρ2 σ2 v r := by
  have hF2 : F2 d = some (.dK kvs) := S2.f0 _ _ hF
  refine (R2.move (Same.refl _) fun a ha => ?_).1
  obtain ⟨z1, z2, z3⟩ := R2.feet a ha
  have ne : a ≠ d := fun z => by have := z1.1; rw [z, hF2] at this; cases this
  have z2 : upd H d (.frz od (.dK kvs)) a = none := z2
  rw [upd_ne ne] at z2
  refine ⟨z1.1, upd_ne ne, S.gone z2, fun i hi => z3 i ?_⟩
  rw [S2.footEq (fun i a ha => upd_ne fun z => S2.notfoot hF2 i (by rw [← z]; exact ha)) i] at hi
  exact hi
variable {tg iter : Expr} {f : DE} {J : WkJ} {xs : List (Ky × D) → List D} {pos : Pos}
end
end DL

set_option Elab.async false
set_option linter.all false
set_option autoImplicit false
set_option maxRecDepth 100000
/-! DLX73: {k: e for ..}. -/
namespace DL
open PySem PySem.Spec PyProof.Rows L2
section
variable {X : Cx} {T : Tb} {B : Bs} {M : List Nat} {W : EK} {F H : Hp} {ρ : Env} {σ : L2.St}
theorem ky_of {K : PySem.W.Frag} {d : D} {k : Ky} {v : V} (h : kyOf d = some k) (r : Rep K T F v d) : v = kV (kyV k) ∧ okKy k := by
  cases d with
  | int i => cases h; exact ⟨r.int_inv, trivial⟩
  | str x => cases h; exact ⟨r.str_inv.1, r.str_inv.2⟩
  | _ => cases h
theorem kyV_iff {a b : Ky} : kyV a = kyV b ↔ a = b := ⟨kyV_inj, fun h => by rw [h]⟩
theorem RepK.any {K : PySem.W.Frag} {k : Ky} : ∀ {kvs : List (Key × V)} {ds : List (Ky × D)}, RepK K T F kvs ds → (kvs.any fun p => decide (p.1 = kyV k)) = ds.any fun p => decide (p.1 = k)
  | _, _, .nil => rfl
  | _, _, .cons (k := k') z a r => by
    rw [List.any_cons, List.any_cons, RepK.any r]
    congr 1
    exact decide_eq_decide.mpr kyV_iff
theorem RepK.app {K : PySem.W.Frag} {k : Ky} {v : V} {d : D} (hk : okKy k) (hv : Rep K T F v d) : ∀ {kvs : List (Key × V)} {ds : List (Ky × D)}, RepK K T F kvs ds → RepK K T F (kvs ++ [(kyV k, v)]) (ds ++ [(k, d)])
  | _, _, .nil => .cons hk hv .nil
  | _, _, .cons z a r => .cons z a (RepK.app hk hv r)
theorem RepK.repl {K : PySem.W.Frag} {k : Ky} {v : V} {d : D} (hv : Rep K T F v d) : ∀ {kvs : List (Key × V)} {ds : List (Ky × D)}, RepK K T F kvs ds → RepK K T F (kvs.map fun p => if p.1 = kyV k then (p.1, v) else p) (ds.map fun p => if p.1 = k then (p.1, d) else p)
  | _, _, .nil => .nil
  | _, _, .cons (k := k') z a r => by
    rw [List.map_cons, List.map_cons]
    by_cases h : k' = k
    · rw [if_pos (kyV_iff.mpr h), if_pos h]
      exact .cons z hv (RepK.repl hv r)
    · rw [if_neg (mt kyV_iff.mp h), if_neg h]
      exact .cons z a (RepK.repl hv r)
theorem RepK.put {K : PySem.W.Frag} {k : Ky} {v : V} {d : D} {kvs : List (Key × V)} {ds : List (Ky × D)} (r : RepK K T F kvs ds) (hk : okKy k) (hv : Rep K T F v d) : RepK K T F (putK kvs (kyV k) v) (putD ds k d) := by
  unfold putK putD
  rw [r.any]
  split
  · exact r.repl hv
  · exact r.app hk hv
variable {e tg : Expr} {f : DE} {kx elt iter : Expr} {ifs : List Expr} {scope : Scope} {own : List (Str × Nat)} {pos : Pos} {t : Tgt} {tt : DT} {gk g : DE} {J : WkJ} {xs : List (Ky × D) → List D}
end
end DL

set_option Elab.async false
set_option linter.all false
set_option autoImplicit false
set_option maxRecDepth 100000
/-! DLX74: d.get(k, x), d[k] = v of one's own dict, k in d. -/
namespace DL
open PySem PySem.Spec PyProof.Rows L2
section
variable {X : Cx} {T : Tb} {B : Bs} {M : List Nat} {W : EK} {F H : Hp} {ρ : Env} {σ : L2.St}
theorem RepK.getD {K : PySem.W.Frag} {k : Ky} {v0 : V} {d0 : D} (r0 : Rep K T F v0 d0) : ∀ {kvs : List (Key × V)} {ds : List (Ky × D)}, RepK K T F kvs ds → Rep K T F ((valV kvs (kyV k)).getD v0) ((lookD ds k).getD d0)
  | _, _, .nil => r0
  | _, _, .cons (k := k') (v := v) (d := d) (r := r) (s := s) z a rk => by
    unfold valV lookD
    rw [List.find?_cons, List.find?_cons]
    by_cases h : k' = k
    · have h' : kyV k' = kyV k := kyV_iff.mpr h
      rw [decide_eq_true h', decide_eq_true h]
      exact a
    · rw [decide_eq_false (mt kyV_iff.mp h), decide_eq_false h]
      exact RepK.getD r0 rk
variable {o e e2 : Expr} {f g h : DE} {apos cpos pos : Pos}
theorem ownK_inv {s : Slot} (h : ownK s = true) : ∃ ds, s = .own (.dct ds) := by
  cases s with
  | own d => cases d <;> first | exact ⟨_, rfl⟩ | cases h
  | _ => cases h
theorem repO_dct {K : PySem.W.Frag} {ob : HO} {ds : List (Ky × D)} (r : RepO K T F ob (.dct ds)) : ∃ kvs, ob = .dK kvs ∧ RepK K T F kvs ds := by
  cases r with
  | dct rk => exact ⟨_, rfl, rk⟩
theorem pds_putK {i : Nat} {x : Str} {px ppos : Pos} {b : Expr} (hu : X.A.units + 64 < cLine) (hN : X.N[i]? = some x) (hv : Vis X.env.scope x) (he : PD X T B M W e f) (hk : PD X T B M W b g) (hd : (x == ("__debug__" : Str)) = false := by decide) (hcd : (x == ("__classdict__" : Str)) = false := by decide)
    (hs : swapsWith e (some (.Subscript (.Name x px) b ppos)) pos.line X.env = pure false := by rfl) : PDS X T B M W (.Assign [.Subscript (.Name x px) b ppos] e pos) (sPutK i g f) :=
  ps_imp (ps_dput (by omega) (pe_var hN hv hd hcd) hk he hs) fun J σ H ⟨F, ρ, Jd, S, h, k1, k2, k3, k4⟩ => by
    refine zaL S h fun F1 H1 ρ1 v1 r1 e1 S1 R1 q => ?_
    obtain ⟨h0, q⟩ := q
    obtain ⟨ds0, hs0⟩ := ownK_inv h0
    obtain ⟨p, ob, ep, hF, hH, ro⟩ := S1.ownAt hs0
    refine ⟨.ref p, ep, zaL S1 q fun F2 H2 ρ2 v2 r2 e2 S2 R2 q2 => ?_⟩
    cases hs : ρ2.at i with
    | own d =>
      cases d with
      | dct ds =>
        rw [hs] at q2
        obtain ⟨ky, hky, hl, q2⟩ := q2
        obtain ⟨rfl, okk⟩ := ky_of hky R2
        obtain ⟨p', ob', ep', hF', hH', ro'⟩ := S2.ownAt hs
        rw [ep] at ep'
        cases ep'
        obtain ⟨kvs, rfl, rk⟩ := repO_dct ro'
        refine ⟨p, _, rfl, DPut.k (k := kyV ky) hH' (by rw [rk.len, ← maxTx_eq]; exact hl), ?_⟩
        exact k1 F2 _ _ _ (e1.trans e2) (S2.store hs ep (.dct (rk.put okk (R1.mono e2)))) q2
      | _ => rw [hs] at q2; exact q2.elim
    | _ => rw [hs] at q2; exact q2.elim
/-! ### k in d -/
def rInK : R2 := fun x y H Q => ∃ a r, y = .ref a ∧ DGet H a x r ∧ Q (.bl r.isSome) H
theorem RepKT.any {K : PySem.W.Frag} {k : List Ky} : ∀ {kvs : List (List Key × V)} {ds : List (List Ky × D)}, RepKT K T F kvs ds → (kvs.any fun p => decide (p.1 = k.map kyV)) = ds.any fun p => decide (p.1 = k)
  | _, _, .nil => rfl
  | _, _, .cons (k := k') z a r => by
    rw [List.any_cons, List.any_cons, RepKT.any r]
    congr 1
    exact decide_eq_decide.mpr kysV_iff
theorem RepKT.has {K : PySem.W.Frag} {k : List Ky} : ∀ {kvs : List (List Key × V)} {ds : List (List Ky × D)}, RepKT K T F kvs ds → (valV kvs (k.map kyV)).isSome = ds.any fun p => decide (p.1 = k)
  | _, _, .nil => rfl
  | _, _, .cons (k := k') (r := r) z a rk => by
    have ih := RepKT.has (k := k) rk
    unfold valV at ih ⊢
    rw [List.find?_cons, List.any_cons]
    by_cases h : k' = k
    · rw [decide_eq_true (kysV_iff.mpr h), decide_eq_true h]; rfl
    · rw [decide_eq_false (mt kysV_iff.mp h), decide_eq_false h, Bool.false_or]
      exact ih
end
end DL

set_option Elab.async false
set_option linter.all false
set_option autoImplicit false
set_option maxRecDepth 100000
/-! DLX75: {k: e} with a computed key; dict(d), dict(pairs). -/
namespace DL
open PySem PySem.Spec PyProof.Rows L2
section
variable {X : Cx} {T : Tb} {B : Bs} {M : List Nat} {W : EK} {F H : Hp} {ρ : Env} {σ : L2.St}
variable {kx e : Expr} {f fk : DE} {pos : Pos}
theorem pd_dsp1 (hk : ∀ B, PD X T B M noE kx fk) (he : ∀ B, PD X T B M noE e f) : PD X T B M W (.Dict [some kx] [e] pos) (dDsp1 fk f) := by
  refine pe_imp (pe_disp (pps_cons (pe_ex hk) (pe_ex he) pps_nil) rfl rfl (fun z => nomatch z) (by show 1 ≤ 15; decide)) fun σ H Q ⟨F, ρ, Qd, S, q, kk⟩ => fun p hp => ?_
  have S1 := S.lay (o := .dK []) hp
  have hno : ¬ OwnOf (upd H p (.dK [])) ρ σ p := fun ⟨i, z1⟩ => S.lay_new hp i z1
  refine ⟨baseAt B F (upd H p (.dK [])) ρ σ, zaL S1.base q fun F1 H1 ρ1 v1 r1 e1 S2 R1 q1 => ?_⟩
  refine ⟨baseAt B F (upd H p (.dK [])) ρ σ, zaL S2 q1 fun F2 H2 ρ2 v2 r2 e2 S3 R2 q2 => ?_⟩
  obtain ⟨ky, hky, q2⟩ := q2
  obtain ⟨l1, l2, l3⟩ := S1.loose S3 upd_same (S.sub.free hp) hno
  obtain ⟨rfl, okk⟩ := ky_of hky R1
  refine ⟨l1, [(kyV ky, v2)], rfl, by show 1 ≤ 15; decide, ?_⟩
  have hm : mergeK [] [(kyV ky, v2)] = [(kyV ky, v2)] := rfl
  rw [hm]
  have S4 := S1.trans S3
  have S5 := S4.storeLoose (o' := .dK [(kyV ky, v2)]) l1 l2 l3 (S.gone hp)
  have hno' : ∀ i, p ∉ foot (upd H2 p (.dK [(kyV ky, v2)])) (σ[i]?) (ρ2.at i) := fun i z => by
    rw [S4.footEq (fun i a ha => upd_ne fun z => l3 ⟨i, by rw [← z]; exact ha⟩) i] at z
    exact l3 ⟨i, z⟩
  exact kk F2 _ ρ2 (.ref p) (.fr (.dct [(ky, r2.d)])) (e1.trans e2) S5 ⟨p, _, rfl, l2, upd_same, .dct (.cons okk R2 .nil), S.gone hp, hno'⟩ q2
end
end DL

set_option Elab.async false
set_option linter.all false
set_option autoImplicit false
set_option maxRecDepth 100000
/-! DLX76: dict(d), dict([(k, v), ..]). -/
namespace DL
open PySem PySem.Spec PyProof.Rows L2
section
variable {X : Cx} {T : Tb} {B : Bs} {M : List Nat} {W : EK} {F H : Hp} {ρ : Env} {σ : L2.St}
def rDictD : List V → Hp → VK → Prop := fun xs H Q => ∃ (a : Addr) (kvs : List (Key × V)), xs = [.ref a] ∧ Rd H a (.dK kvs) ∧ ∀ p, H p = none → Q (.ref p) (upd H p (.dK kvs))
def rDictP (K : PySem.W.Frag) : List V → Hp → VK → Prop := fun xs H Q => ∃ (a : Addr) (ps : List Addr) (kvs : List (Key × V)), xs = [.ref a] ∧ SqL K H a (ps.map V.ref) ∧ Paired (fun p kv => SqT K H p [kV kv.1, kv.2]) ps kvs ∧
    ∀ p, H p = none → Q (.ref p) (upd H p (.dK (mergeK [] kvs)))
end
end DL

set_option Elab.async false
set_option linter.all false
set_option autoImplicit false
set_option maxRecDepth 100000
/-! DLX80: sorted(list of ints). -/
namespace DL
open PySem PySem.Spec PyProof.Rows L2
section
variable {X : Cx} {T : Tb}
def rSrtI (X : Cx) : List V → Hp → VK → Prop := fun vs H Q => ∃ (a : Addr) (xs : List Int), vs = [V.ref a] ∧ SqL X.K H a (xs.map V.int) ∧ xs.length ≤ sizeLine ∧ ∀ (ys : List Int) (p : Addr), ys.Perm xs → ys.Pairwise (· ≤ ·) → H p = none → Q (.ref p) (upd H p (.lst (ys.map V.int)))
end
end DL

set_option Elab.async false
set_option linter.all false
set_option autoImplicit false
set_option maxRecDepth 100000
/-! DLX83: k not in d; == and != of dicts whose values are flat. -/
namespace DL
open PySem PySem.Spec PyProof.Rows L2
section
variable {X : Cx} {T : Tb} {F H : Hp}
def rNinK : R2 := fun x y H Q => ∃ a r, y = .ref a ∧ DGet H a x r ∧ Q (.bl (!r.isSome)) H
theorem op_ninK (hu : X.A.units + 64 < cLine) : OpR X (compareOp .NotIn) rNinK := by
  intro pins s σ H x y v u Q I rx ry h
  obtain ⟨a, r, rfl, hd, q⟩ := h
  obtain rfl : u = Value.ref a := ry
  exact d_notIn (by omega) I hd rx fun s3 I3 => ⟨.bl (!r.isSome), H, I3, rfl, q⟩
theorem ok_ninK : OpOk X.K T ninKv rNinK := by
  intro F H x y dx dy k Q s rx ry ho kk
  cases dy with
  | dct ds =>
    obtain ⟨ky, hky, q⟩ := ho
    obtain ⟨p, kvs, rfl, hp, rk⟩ := ry.dct_inv
    obtain ⟨rfl, okk⟩ := ky_of hky rx
    refine ⟨p, valV kvs (kyV ky), rfl, .inl ⟨kvs, kyV ky, s.rd hp, rfl, rfl⟩, ?_⟩
    rw [← valV_any, rk.any]
    exact kk _ _ _ (.fz (.bl _)) q
  | dcT ds =>
    obtain ⟨xs, ks, rfl, hks, q⟩ := ho
    obtain ⟨p, kvs, rfl, hp, rk⟩ := ry.dcT_inv
    obtain ⟨b, us, rfl, hb, ru⟩ := rx.tup_inv
    obtain ⟨rfl, _⟩ := kysV_of ru hks
    refine ⟨p, valV kvs (ks.map kyV), rfl, .inr ⟨kvs, ks.map kyV, b, s.rd hp, rfl, s _ _ hb, rfl⟩, ?_⟩
    rw [rk.has]
    exact kk _ _ _ (.fz (.bl _)) q
  | _ => exact ho.elim
/-! ### == of dicts -/
def hitB (ls : List (Key × V)) (ks : List (Key × V)) : Bool := ks.all fun p => match valV ls p.1 with
  | some v => eqV p.2 v
  | none => false
def rEqKg (b : Bool) : R2 := fun x y H Q => ∃ p q ks ls, x = .ref p ∧ y = .ref q ∧ Rd H p (.dK ks) ∧ Rd H q (.dK ls) ∧ (∀ z ∈ ks, flatV z.2 = true) ∧ (∀ z ∈ ls, flatV z.2 = true) ∧ Q (.bl (b == ((ks.length == ls.length) && hitB ls ks))) H
end
end DL

set_option Elab.async false
set_option linter.all false
set_option autoImplicit false
set_option maxRecDepth 100000
/-! DLX85: a def that calls itself: its contract by the number of calls within one another. -/
namespace DL
open PySem PySem.Spec PyProof.Rows L2
theorem def_never {P : Program} {w : World} {K : PySem.W.Frag} {mg : Str → Option Value} {base : Heap} {T : Tb} {x qual : Str} {st : Stmt} {f : Addr} {fd : FuncData} {ps : List Str} {M : List Nat} {k : Nat} {con : Con} (F : Fun K x qual st f fd)
    (h : ∀ args Q E, con args Q E → False) : Def P w K mg base T k f fd ps M con :=
  ⟨⟨fun _ _ _ _ ⟨_, _, _, _, hl, _⟩ => hl, fun _ _ _ _ _ _ _ _ _ _ _ _ _ ⟨_, _, _, _, _, _, _, _, _, _, c, _⟩ => (h _ _ _ c).elim⟩, F.kp⟩
end DL

set_option linter.all false
set_option autoImplicit false
set_option maxRecDepth 100000
/-! DLQ: lists of own lists and dicts (parts). -/
namespace DL
/-- a result as a part of what keeps it -/
def R.kid : R → Option D
  | .fz d => some d
  | .fr (.tup _) => none
  | .fr d => some (.prt d)
  | .ft _ => none
def Slot.lstT : Slot → Option (List D)
  | .own (.lst xs) => some xs
  | .ownT (.lst xs) => some xs
  | _ => none
/-- x.append(e): a new thing becomes a part of x's own list -/
def sAppP (i : Nat) (f : DE) : DS := fun D ρ E => (∃ xs, (ρ.at i).lstT = some xs) ∧ f ρ (fun r ρ1 => ∃ xs d, (ρ1.at i).lstT = some xs ∧ r.kid = some d ∧ xs.length < zaK ∧ D.nx (ρ1.set i (.ownT (.lst (xs ++ [d]))))) E
/-- return x: x's own list leaves with its parts -/
def sRetT (i : Nat) (M : List Nat) : DS := fun D ρ _ => (M.all fun k => (ρ.at k).isOwn) = true ∧ ∃ xs, (ρ.at i).lstT = some xs ∧ D.rt (.ft (.lst xs)) (ρ.set i .no)
/-- x + y, new lists with parts -/
def dCatT (f g : DE) : DE := fun ρ Q E => dVals [f, g] ρ (fun rs ρ1 => match rs with
  | [.ft (.lst a), .ft (.lst b)] => a.length + b.length ≤ zaK ∧ Q (.ft (.lst (a ++ b))) ρ1
  | _ => False) E
/-- an item taken out of a list that goes -/
def outR : D → R
  | .prt d => .fr d
  | d => .fz d
/-- min(xs, key=f, default=None) of a new list with parts -/
def minKT (con : Con) (Q : R → Prop) : List D → Option (D × Int) → Prop
  | [], none => Q (.fz .non)
  | [], some p => Q (outR p.1)
  | d :: r, b => con [.fz d.unm] (fun t _ => ∃ n : Int, t.d = .int n ∧ minKT con Q r (some (minUp d n b))) fun _ _ => False
def dMinKT (con : Con) (f : DE) : DE := fun ρ Q E => f ρ (fun r ρ1 => match r with
  | .ft (.lst xs) => minKT con (fun t => Q t ρ1) xs none
  | _ => False) E
/-- == (!=) of dicts of flat values, or None -/
def eqKN (b : Bool) (x y : D) (k : R → Prop) : Prop := match x, y with
  | .dct ks, .dct ls => eqKg b (.dct ks) (.dct ls) k
  | .dct _, .non => k (.fz (.bl (!b)))
  | .non, .dct _ => k (.fz (.bl (!b)))
  | .non, .non => k (.fz (.bl b))
  | _, _ => False
/-- list(d) -/
def listKF : List D → (R → Prop) → Prop
  | [.dct ds], k => k (.fr (.lst (ds.map fun p => kyD p.1)))
  | _, _ => False
/-- list(text) -/
def listSF : List D → (R → Prop) → Prop
  | [.str x], k => k (.fr (.lst (x.map fun c => .str [c])))
  | _, _ => False
end DL

set_option Elab.async false
set_option linter.all false
set_option autoImplicit false
set_option maxRecDepth 100000
/-! DLX91: lists with parts: append, return, concatenation. -/
namespace DL
open PySem PySem.Spec PyProof.Rows L2
section
variable {X : Cx} {T : Tb} {B : Bs} {M : List Nat} {W : EK} {F H : Hp} {ρ : Env} {σ : L2.St}
variable {a b e : Expr} {f g : DE} {pos : Pos} {i : Nat} {xs : List D}
theorem SR.lstAt (S : SR X.K T B M F H ρ σ) (hi : (ρ.at i).lstT = some xs) : ∃ p vs, σ[i]? = some (some (.ref p)) ∧ F p = none ∧ H p = some (.lst vs) ∧ KidL X.K T F H vs xs ∧ (p :: zaI vs xs).Nodup ∧ foot H (σ[i]?) (ρ.at i) = p :: zaI vs xs ∧ i < ρ.length := by
  have hl : i < ρ.length := Env.at_lt fun z => by rw [z] at hi; cases hi
  have hs := S.slot i
  cases hd : ρ.at i with
  | no => rw [hd] at hi; cases hi
  | fz d => rw [hd] at hi; cases hi
  | own d =>
    rw [hd] at hi hs
    cases d with
    | lst ys =>
      cases hi
      obtain ⟨p, o, e, f, h, ro, nt⟩ := hs
      obtain ⟨vs, rfl, r⟩ := repO_lst ro
      obtain ⟨k1, k2⟩ := RepL.kid (H := H) r
      refine ⟨p, vs, e, f, h, k1, by rw [k2]; simp, ?_, hl⟩
      rw [e, foot_own, k2]
    | _ => cases hi
  | ownT d =>
    rw [hd] at hi hs
    cases d with
    | lst ys =>
      cases hi
      obtain ⟨p, o, e, f, h, ro, nd, nt⟩ := hs
      cases ro with
      | lst k =>
        refine ⟨p, _, e, f, h, k, nd, ?_, hl⟩
        rw [e, foot_ownT h]
        rfl
    | _ => cases hi
/-- a result as a part -/
theorem RetV.kid {v : V} {r : R} {d : D} (h : RetV X.K T B F H ρ σ v r) (hk : r.kid = some d) : KidR X.K T F H v d ∧ (kidA v d).Nodup ∧ ∀ a ∈ kidA v d, B.H0 a = none ∧ ∀ j, a ∉ foot H (σ[j]?) (ρ.at j) := by
  cases r with
  | fz d' =>
    cases hk
    have h : Rep X.K T F v d := h
    exact ⟨.fz h, by rw [kidA_fz h]; exact .nil, fun a ha => by rw [kidA_fz h] at ha; simp at ha⟩
  | fr d' =>
    have nt : ∀ xs, d' ≠ .tup xs := fun xs z => by subst z; cases hk
    have hk : some (D.prt d') = some d := by cases d' <;> first | exact hk | cases hk
    cases hk
    obtain ⟨p, o, rfl, hF, hH, ro, hn, hno⟩ := h
    exact ⟨.own hF hH ro (repO_nt ro nt), by show [p].Nodup; simp, fun a ha => by rw [List.mem_singleton.mp ha]; exact ⟨hn, hno⟩⟩
  | ft d' => cases hk
theorem SR.appT {v : V} {d : D} {p : Addr} {vs : List V} (S : SR X.K T B M F H ρ σ) (hl : i < ρ.length) (ep : σ[i]? = some (some (.ref p))) (hF : F p = none) (hH : H p = some (.lst vs)) (k : KidL X.K T F H vs xs) (nd : (p :: zaI vs xs).Nodup) (ft : foot H (σ[i]?) (ρ.at i) = p :: zaI vs xs)
    (kd : KidR X.K T F H v d) (nv : (kidA v d).Nodup) (hn : ∀ a ∈ kidA v d, B.H0 a = none ∧ ∀ j, a ∉ foot H (σ[j]?) (ρ.at j)) : SR X.K T B M F (upd H p (.lst (vs ++ [v]))) (ρ.set i (.ownT (.lst (xs ++ [d])))) σ := by
  have nd' := List.nodup_cons.mp nd
  have dj : ∀ a ∈ kidA v d, a ∉ p :: zaI vs xs := fun a ha z => (hn a ha).2 i (by rw [ft]; exact z)
  have e1 : zaI (vs ++ [v]) (xs ++ [d]) = zaI vs xs ++ kidA v d := by
    rw [kidsA_app k.length, kidsA_cons]
    show zaI vs xs ++ (kidA v d ++ []) = _
    rw [List.append_nil]
  have k2 : KidL X.K T F H (vs ++ [v]) (xs ++ [d]) := k.append (.cons kd .nil)
  have np : p ∉ zaI (vs ++ [v]) (xs ++ [d]) := fun z => by
    rw [e1] at z
    rcases List.mem_append.mp z with z | z
    · exact nd'.1 z
    · exact dj p z List.mem_cons_self
  have k3 : KidL X.K T F (upd H p (.lst (vs ++ [v]))) (vs ++ [v]) (xs ++ [d]) := k2.mono (Same.refl _) fun a ha => ⟨(k2.priv a ha).1, upd_ne fun z => np (by rw [← z]; exact ha)⟩
  have nd2 : (p :: zaI (vs ++ [v]) (xs ++ [d])).Nodup := List.nodup_cons.mpr ⟨np, by
    rw [e1]
    exact List.nodup_append.mpr ⟨nd'.2, nv, fun a ha b hb z => dj b hb (by rw [← z]; exact List.mem_cons_of_mem _ ha)⟩⟩
  have ef : foot (upd H p (.lst (vs ++ [v]))) (σ[i]?) (.ownT (.lst (xs ++ [d]))) = p :: zaI (vs ++ [v]) (xs ++ [d]) := by
    rw [ep, foot_ownT upd_same]
    rfl
  refine S.change hl (fun b hb o e => ?_) (fun b hb => ?_) ⟨p, _, ep, hF, upd_same, .lst k3, nd2, rfl⟩ fun a ha => ?_
  · rw [ft] at hb
    rw [upd_ne fun z => hb (by rw [z]; exact List.mem_cons_self)]
    exact e
  · rw [ft] at hb
    rcases List.mem_cons.mp hb with rfl | hb
    · exact ⟨_, upd_same⟩
    · obtain ⟨_, o, e, _⟩ := k.priv b hb
      exact ⟨o, by rw [upd_ne fun z => nd'.1 (by rw [← z]; exact hb)]; exact e⟩
  · rw [ef] at ha
    rcases List.mem_cons.mp ha with rfl | ha
    · exact .inl (by rw [ft]; exact List.mem_cons_self)
    · rw [e1] at ha
      rcases List.mem_append.mp ha with q | q
      · exact .inl (by rw [ft]; exact List.mem_cons_of_mem _ q)
      · exact .inr (hn a q)
theorem pds_appP {x : Str} {px apos cpos : Pos} (hN : X.N[i]? = some x) (hv : Vis X.env.scope x) (he : PD X T B M W e f) (hd : (x == ("__debug__" : Str)) = false := by decide) (hcd : (x == ("__classdict__" : Str)) = false := by decide)
    (hbase : attributeBase (.Name x px) "append" X.env (eval (.Name x px) X.env) = eval (.Name x px) X.env := by rfl)
    (hfew : ((backTo cpos (starEach [e] X.env)).all (fun x => !x.1) && (backToKw cpos (keywordEach [] X.env)).all (fun x => x.1.isSome)
      && decide (([e] : List Expr).length + ([] : List Keyword).length + (if ([] : List Keyword).isEmpty then 0 else 1) < 30)) = true := by rfl)
    (hline : (apos.endLine == cpos.line) = true := by rfl) (hse : starEach [e] X.env = (false, eval e X.env) :: starEach [] X.env := by rfl) (hplain : (backTo cpos (starEach [] X.env)).any (·.1) = false := by rfl)
    (hs : swapsWith (.Call (.Attribute (.Name x px) "append" apos) [e] [] cpos) none pos.line X.env = pure false := by rfl) : PDS X T B M W (.Expr (.Call (.Attribute (.Name x px) "append" apos) [e] [] cpos) pos) (sAppP i f) :=
  ps_imp (ps_expr (pe_bm PySem.F.plainAttrs_list PySem.F.slot_list_append PySem.F.type_list_append mt_append (pe_var hN hv hd hcd) (pa_cons he pa_nil hse) hbase hfew hline hse hplain) hs) fun J σ H ⟨F, ρ, Jd, S, ⟨⟨xs0, hx0⟩, h⟩, k1, k2, k3, k4⟩ => by
    obtain ⟨p, vs0, ep, _, hH0, _⟩ := S.lstAt hx0
    refine ⟨.ref p, ep, .inl ⟨rfl, _, .inl (.inl hH0)⟩, ?_⟩
    refine ⟨F, ρ, _, S, h, fun F1 H1 ρ1 v1 r1 e1 S1 R1 q => ?_⟩
    obtain ⟨xs, d, hx, hk, hm, q⟩ := q
    obtain ⟨p', vs, ep', hF, hH, k, nd, ft, hl⟩ := S1.lstAt hx
    rw [ep] at ep'
    cases ep'
    obtain ⟨kd, nv, hn⟩ := R1.kid hk
    refine ⟨p, vs, v1, rfl, rfl, hH, by rw [k.length, ← maxTx_eq]; exact hm, ?_⟩
    exact k1 F1 _ _ _ e1 (S1.appT hl ep hF hH k nd ft kd nv hn) q
/-! ### x + y -/
theorem ft_lst {v : V} (h : RetV X.K T B F H ρ σ v (.ft (.lst xs))) : ∃ p vs, v = .ref p ∧ F p = none ∧ H p = some (.lst vs) ∧ KidL X.K T F H vs xs ∧ (p :: zaI vs xs).Nodup ∧ (∀ a ∈ p :: zaI vs xs, B.H0 a = none ∧ ∀ i, a ∉ foot H (σ[i]?) (ρ.at i)) ∧ rfoot H v (.ft (.lst xs)) = p :: zaI vs xs := by
  obtain ⟨p, o, rfl, hF, hH, ro, nd, hn⟩ := h
  cases ro with
  | lst k =>
    refine ⟨p, _, rfl, hF, hH, k, nd, hn, ?_⟩
    unfold rfoot
    rw [show R.slot (.ft (.lst xs)) = .ownT (.lst xs) from rfl, foot_ownT hH]
    rfl
end
end DL

set_option Elab.async false
set_option linter.all false
set_option autoImplicit false
set_option maxRecDepth 100000
/-! DLX95: dicts whose keys are tuples: {k: e}, d[k] = v of one's own dict (reads: DLX37, DLX74, DLX83). -/
namespace DL
open PySem PySem.Spec PyProof.Rows L2
section
variable {X : Cx} {T : Tb} {B : Bs} {M : List Nat} {W : EK} {F H : Hp} {ρ : Env} {σ : L2.St}
variable {kx e : Expr} {f fk g : DE} {pos : Pos}
/-- {k: e}, the key a tuple; the new dict stands empty while key and value are made -/
def tDisp1T (tk tv : TE) : TE := fun σ H Q => ∀ p, H p = none → tk σ (upd H p (.dT [])) fun x H1 => tv σ H1 fun y H2 => H2 p = some (.dT []) ∧ ∃ (k : List Key) (b : Addr), x = .ref b ∧ H2 b = some (.tup (k.map kV)) ∧ Q (.ref p) (upd H2 p (.dT [(k, y)]))
theorem RepKT.len {K : PySem.W.Frag} : ∀ {kvs : List (List Key × V)} {ds : List (List Ky × D)}, RepKT K T F kvs ds → kvs.length = ds.length
  | _, _, .nil => rfl
  | _, _, .cons _ _ r => congrArg (· + 1) r.len
theorem RepKT.app {K : PySem.W.Frag} {k : List Ky} {v : V} {d : D} (hk : ∀ x ∈ k, okKy x) (hv : Rep K T F v d) : ∀ {kvs : List (List Key × V)} {ds : List (List Ky × D)}, RepKT K T F kvs ds → RepKT K T F (kvs ++ [(k.map kyV, v)]) (ds ++ [(k, d)])
  | _, _, .nil => .cons hk hv .nil
  | _, _, .cons z a r => .cons z a (RepKT.app hk hv r)
theorem RepKT.repl {K : PySem.W.Frag} {k : List Ky} {v : V} {d : D} (hv : Rep K T F v d) : ∀ {kvs : List (List Key × V)} {ds : List (List Ky × D)}, RepKT K T F kvs ds → RepKT K T F (kvs.map fun p => if p.1 = k.map kyV then (p.1, v) else p) (ds.map fun p => if p.1 = k then (p.1, d) else p)
  | _, _, .nil => .nil
  | _, _, .cons (k := k') z a r => by
    rw [List.map_cons, List.map_cons]
    by_cases h : k' = k
    · rw [if_pos (kysV_iff.mpr h), if_pos h]
      exact .cons z hv (RepKT.repl hv r)
    · rw [if_neg (mt kysV_iff.mp h), if_neg h]
      exact .cons z a (RepKT.repl hv r)
theorem RepKT.put {K : PySem.W.Frag} {k : List Ky} {v : V} {d : D} {kvs : List (List Key × V)} {ds : List (List Ky × D)} (r : RepKT K T F kvs ds) (hk : ∀ x ∈ k, okKy x) (hv : Rep K T F v d) : RepKT K T F (putK kvs (k.map kyV) v) (putT ds k d) := by
  unfold putK putT
  rw [r.any]
  split
  · exact r.repl hv
  · exact r.app hk hv
end
end DL

set_option linter.all false
set_option autoImplicit false
set_option maxRecDepth 100000
/-! DLR: tuples joined, cut, repeated; lists and dicts of own lists, changed in their place. -/
namespace DL
/-- x + y of tuples (one of them may come back as it is) -/
def catTD : D → D → (R → Prop) → Prop
  | .tup a, .tup b, k => a.length + b.length ≤ zaK ∧ ∀ r : R, r.d = .tup (a ++ b) → k r
  | _, _, _ => False
/-- x * n of a tuple -/
def repTD : D → D → (R → Prop) → Prop
  | .tup a, .int n, k => (a ≠ [] ∧ 1 ≤ n ∧ n ≤ 1000 ∧ a.length ≤ 1000) ∧ ∀ r : R, r.d = .tup (List.replicate n.toNat a).flatten → k r
  | _, _, _ => False
/-- x[lo:hi] of a tuple -/
def dSlT (f : DE) (lo hi : Option DE) : DE := fun ρ Q E => f ρ (fun r ρ1 => dPart lo ρ1 (fun l ρ2 => dPart hi ρ2 (fun h ρ3 => match r.d with
  | .tup xs => ∀ t : R, t.d = .tup (cut xs l h) → Q t ρ3
  | _ => False) E) E) E
end DL
namespace DL
/-- x[n].append(e): one of x's own lists -/
def sAppAt (i : Nat) (g f : DE) : DS := fun D ρ _ => match ρ.at i with
  | .ownT (.lst xs) => g (ρ.map Slot.calm) (fun ri _ => ri.d.flat = true ∧ ∃ n j ys, ri.d = .int n ∧ ixN xs.length n = some j ∧ xs[j]? = some (.prt (.lst ys)) ∧
    f (ρ.map Slot.calm) (fun r _ => r.d.flat = true ∧ ys.length < zaK ∧ D.nx (ρ.set i (.ownT (.lst (xs.set j (.prt (.lst (ys ++ [r.d]))))))) ) noE) noE
  | _ => False
/-- the first entry with a key, changed -/
def updD : List (Ky × D) → Ky → D → List (Ky × D)
  | [], _, _ => []
  | (k', d') :: r, k, d => if k' = k then (k', d) :: r else (k', d') :: updD r k d
/-- d[k].append(e): one of d's own lists -/
def sAppAtK (i : Nat) (g f : DE) : DS := fun D ρ _ => match ρ.at i with
  | .ownT (.dct ds) => g (ρ.map Slot.calm) (fun ri _ => ri.d.flat = true ∧ ∃ ky ys, kyOf ri.d = some ky ∧ lookD ds ky = some (.prt (.lst ys)) ∧
    f (ρ.map Slot.calm) (fun r _ => r.d.flat = true ∧ ys.length < zaK ∧ D.nx (ρ.set i (.ownT (.dct (updD ds ky (.prt (.lst (ys ++ [r.d]))))))) ) noE) noE
  | _ => False
/-- d[k].pop(0) of one of d's own lists -/
def dPopAtK (i : Nat) (g : DE) : DE := fun ρ Q _ => match ρ.at i with
  | .ownT (.dct ds) => g (ρ.map Slot.calm) (fun ri _ => ri.d.flat = true ∧ ∃ ky y ys, kyOf ri.d = some ky ∧ lookD ds ky = some (.prt (.lst (y :: ys))) ∧
    Q (.fz y) (ρ.set i (.ownT (.dct (updD ds ky (.prt (.lst ys))))))) noE
  | _ => False
def Slot.dctT : Slot → Option (List (Ky × D))
  | .own (.dct ds) => some ds
  | .ownT (.dct ds) => some ds
  | _ => none
/-- e not in d.setdefault(k, []): flat things in d's own lists -/
def tNinSet (i : Nat) (f g : DE) : DT := fun ρ Q _ => (∃ ds, (ρ.at i).dctT = some ds) ∧ f (ρ.map Slot.calm) (fun r _ => r.d.flat = true ∧ r.d.flat = true ∧ g (ρ.map Slot.calm) (fun rk _ => rk.d.flat = true ∧ ∃ ky ds, (ρ.at i).dctT = some ds ∧ kyOf rk.d = some ky ∧ ds.length < zaK ∧ (match lookD ds ky with
  | none => Q true (ρ.set i (.ownT (.dct (ds ++ [(ky, .prt (.lst []))]))))
  | some (.prt (.lst ys)) => ys.all D.flat = true ∧ Q (!(ys.any fun y => D.eqv y r.d)) ρ
  | _ => False)) noE) noE
end DL
namespace DL
def lcLP (vs : List Nat) (g : DG) (t : DT) (e : DE) (Q : List D → Env → Prop) : List D → List D → Env → Prop
  | [], acc, ρ => Q acc ρ
  | x :: xs, acc, ρ => g x ρ fun ρ1 => t ρ1 (fun b ρ2 => if b = true then e ρ2 (fun r ρ3 => ∃ d, r.kid = some d ∧ acc.length < zaK ∧ lcLP vs g t e Q xs (acc ++ [d]) (wipeE vs ρ3)) noE
    else lcLP vs g t e Q xs acc (wipeE vs ρ2)) noE
/-- [e for ..], the items' new things its parts -/
def dLcP (vs : List Nat) (it : DI) (g : DG) (t : DT) (e : DE) : DE := fun ρ Q E => it ρ (fun xs ρ1 => (∀ i ∈ vs, ∀ d, ρ1.at i ≠ .own d) ∧
  lcLP vs g t e (fun acc ρ2 => Q (.ft (.lst acc)) (backE vs ρ1 ρ2)) xs [] (wipeE vs ρ1)) E
end DL
namespace DL
/-- a new dict: its entries, once its parts are settled -/
def R.dctN : R → Option (List (Ky × D))
  | .fr (.dct ds) => some ds
  | .ft (.dct ds) => some (ds.map fun p => (p.1, p.2.unm))
  | _ => none
/-- [e for .. in .. for .. in f().items()], the inner dict a new one -/
def lc2L (vs vs1 : List Nat) (g : DG) (t : DT) (f : DE) (xf : List (Ky × D) → List D) (g1 : DG) (t1 : DT) (e : DE) (Q : List D → Env → Prop) : List D → List D → Env → Prop
  | [], acc, ρ => Q acc ρ
  | x :: xs, acc, ρ => g x ρ fun ρ1 => t ρ1 (fun b ρ2 => if b = true then f ρ2 (fun r ρ3 => ∃ ds, r.dctN = some ds ∧
      lcL vs1 g1 t1 e (fun acc' ρ4 => lc2L vs vs1 g t f xf g1 t1 e Q xs acc' (wipeE vs ρ4)) (xf ds) acc (wipeE vs1 ρ3)) noE
    else lc2L vs vs1 g t f xf g1 t1 e Q xs acc (wipeE vs ρ2)) noE
def dLc2 (vs vs1 : List Nat) (it : DI) (g : DG) (t : DT) (f : DE) (xf : List (Ky × D) → List D) (g1 : DG) (t1 : DT) (e : DE) : DE := fun ρ Q E => it ρ (fun xs ρ1 => (∀ i ∈ vs, ∀ d, ρ1.at i ≠ .own d) ∧
  lc2L vs vs1 g t f xf g1 t1 e (fun acc ρ2 => Q (.fr (.lst acc)) (backE vs ρ1 ρ2)) xs [] (wipeE vs ρ1)) E
end DL
namespace DL
/-- x[k] op= e, x the name's own dict -/
def sAugK (i : Nat) (op : D → D → (R → Prop) → Prop) (g f : DE) : DS := fun D ρ E => ownK (ρ.at i) = true ∧ g ρ (fun s ρ1 => match ρ1.at i with
  | .own (.dct ds) => ∃ ky d, kyOf s.d = some ky ∧ lookD ds ky = some d ∧ ds.length < zaK ∧ f ρ1 (fun r ρ2 => ρ2.at i = .own (.dct ds) ∧ op d r.d fun t => D.nx (ρ2.set i (.own (.dct (putD ds ky t.d))))) E
  | _ => False) E
/-- sorted(d, reverse=True), the keys texts -/
def dSrtRev (f : DE) : DE := fun ρ Q E => f ρ (fun r ρ1 => match r.d with
  | .dct ds => (ds.all (fun p => p.1.isT) = true ∧ ds.length ≤ zaK) ∧ Q (.fr (.lst ((srtT (ds.map fun p => kyT p.1)).reverse.map D.str))) ρ1
  | _ => False) E
end DL
namespace DL
/-- return of an own dict, its lists its parts -/
def sRetTK (i : Nat) (M : List Nat) : DS := fun D ρ _ => (M.all fun k => (ρ.at k).isOwn) = true ∧ ∃ ds, (ρ.at i).dctT = some ds ∧ D.rt (.ft (.dct ds)) (ρ.set i .no)
end DL
namespace DL
/-- sorted(d), the keys ints -/
def sortedKIF : List D → (R → Prop) → Prop
  | [.dct ds], k => ∃ ns : List Int, ds.map (·.1) = ns.map Ky.int ∧ ns.length < 64 ∧ k (.fr (.lst ((srtI ns).map D.int)))
  | _, _ => False
end DL

set_option Elab.async false
set_option linter.all false
set_option autoImplicit false
set_option maxRecDepth 100000
/-! DLX97: x[n].append(e), d[k].append(e), d[k].pop(0), e not in d.setdefault(k, []): parts changed in their place. -/
namespace DL
open PySem PySem.Spec PyProof.Rows L2
section
variable {X : Cx} {T : Tb} {B : Bs} {M : List Nat} {W : EK} {F H : Hp} {ρ : Env} {σ : L2.St}
variable {a b e : Expr} {f g : DE} {pos : Pos} {i j : Nat} {xs : List D}
/-- a part of an own list is changed -/
theorem SR.setKidL {p q : Addr} {vs : List V} {d d' : D} {o' : HO} (S : SR X.K T B M F H ρ σ) (hi : i < ρ.length) (hp : σ[i]? = some (some (.ref p))) (hF : F p = none) (hH : H p = some (.lst vs)) (k : KidL X.K T F H vs xs) (nd : (p :: zaI vs xs).Nodup) (hf : foot H (σ[i]?) (ρ.at i) = p :: zaI vs xs)
    (hj : xs[j]? = some (.prt d)) (hv : vs[j]? = some (.ref q)) (ro : RepO X.K T F o' d') (nt : tupB o' = false := by rfl) : SR X.K T B M F (upd H q o') (ρ.set i (.ownT (.lst (xs.set j (.prt d'))))) σ := by
  have nd' := List.nodup_cons.mp nd
  obtain ⟨k1, k2⟩ := k.setAt (o' := o') nd'.2 hj hv ro nt
  obtain ⟨q', o, e1, _, e3, _, hm⟩ := k.at_ hj
  rw [hv] at e1
  cases e1
  have hpq : p ≠ q := fun z => nd'.1 (by rw [z]; exact hm)
  have hH' : upd H q o' p = some (.lst vs) := by rw [upd_ne hpq]; exact hH
  have ef : foot (upd H q o') (σ[i]?) (.ownT (.lst (xs.set j (.prt d')))) = p :: zaI vs xs := by
    rw [hp, foot_ownT hH', footO, k2]
  refine S.change hi (fun b hb o e => ?_) (fun b hb => ?_) ?_ fun a ha => ?_
  · rw [hf] at hb
    rw [upd_ne fun z => hb (by rw [z]; exact List.mem_cons_of_mem _ hm)]
    exact e
  · by_cases hbq : b = q
    · subst hbq; exact ⟨_, upd_same⟩
    · rw [upd_ne hbq]
      obtain ⟨_, o, e, _⟩ := S.priv hb
      exact ⟨o, e⟩
  · exact ⟨p, _, hp, hF, hH', .lst k1, by rw [footO, k2]; exact nd, rfl⟩
  · rw [ef] at ha
    exact .inl (by rw [hf]; exact ha)
theorem flat_int {d : D} {n : Int} {v : V} {K : PySem.W.Frag} (h : d = .int n) (r : Rep K T F v d) : v = .int n := by rw [h] at r; exact r.int_inv
variable {x : Str} {px spos apos cpos : Pos}
theorem pds_appAt {ix : Expr} (hN : X.N[i]? = some x) (hv : Vis X.env.scope x) (hi : PD X T B M noE ix g) (he : PD X T B M noE e f) (hpl : PlainIx ix := by exact fun _ _ => rfl) (hd : (x == ("__debug__" : Str)) = false := by decide) (hcd : (x == ("__classdict__" : Str)) = false := by decide)
    (hbase : attributeBase (.Subscript (.Name x px) ix spos) "append" X.env (eval (.Subscript (.Name x px) ix spos) X.env) = eval (.Subscript (.Name x px) ix spos) X.env := by rfl)
    (hfew : ((backTo cpos (starEach [e] X.env)).all (fun x => !x.1) && (backToKw cpos (keywordEach [] X.env)).all (fun x => x.1.isSome)
      && decide (([e] : List Expr).length + ([] : List Keyword).length + (if ([] : List Keyword).isEmpty then 0 else 1) < 30)) = true := by rfl)
    (hline : (apos.endLine == cpos.line) = true := by rfl) (hse : starEach [e] X.env = (false, eval e X.env) :: starEach [] X.env := by rfl) (hplain : (backTo cpos (starEach [] X.env)).any (·.1) = false := by rfl)
    (hs : swapsWith (.Call (.Attribute (.Subscript (.Name x px) ix spos) "append" apos) [e] [] cpos) none pos.line X.env = pure false := by rfl) : PDS X T B M W (.Expr (.Call (.Attribute (.Subscript (.Name x px) ix spos) "append" apos) [e] [] cpos) pos) (sAppAt i g f) :=
  ps_imp (ps_expr (pe_bm PySem.F.plainAttrs_list PySem.F.slot_list_append PySem.F.type_list_append mt_append (pe_ix ix_seq (pe_var hN hv hd hcd) hi hpl) (pa_cons he pa_nil hse) hbase hfew hline hse hplain) hs) fun J σ H ⟨F, ρ, Jd, S, h, k1, k2, k3, k4⟩ => by
    unfold sAppAt at h
    cases hsl : ρ.at i with
    | ownT d =>
      cases d with
      | lst xs =>
        rw [hsl] at h
        obtain ⟨p, vs, hp, hF, hH, k, nd, hf, hl⟩ := S.lstAt (i := i) (xs := xs) (by rw [hsl]; rfl)
        refine ⟨.ref p, hp, ?_⟩
        refine look_arg (Qd := fun ri => ∃ n j ys, ri.d = .int n ∧ ixN xs.length n = some j ∧ xs[j]? = some (.prt (.lst ys)) ∧ f (ρ.map Slot.calm) (fun r _ => r.d.flat = true ∧ ys.length < zaK ∧ Jd.nx (ρ.set i (.ownT (.lst (xs.set j (.prt (.lst (ys ++ [r.d])))))))) noE) S h fun H2 v2 r2 S2 st2 R2 q2 => ?_
        obtain ⟨n, j, ys, hn, hix, hx, h⟩ := q2
        obtain ⟨q, o, hvq, qF, qH, qr, qm⟩ := k.at_ hx
        obtain ⟨ws, rfl, rw_⟩ := repO_lst qr
        have stay2 : ∀ a ∈ p :: zaI vs xs, H2 a = H a := fun a ha => st2 i a (by rw [hf]; exact ha)
        have hp2 := (stay2 p List.mem_cons_self).trans hH
        have hf2 : foot H2 (σ[i]?) (ρ.at i) = p :: zaI vs xs := by rw [foot_eq (H := H) fun a ha => st2 i a ha]; exact hf
        refine .inl ⟨p, vs, n, .ref q, rfl, flat_int hn (R2 F), .of hp2, atI_of (by rw [k.length]; exact hix) hvq, ?_⟩
        refine ⟨.inl ⟨rfl, ws, .of ((stay2 q (List.mem_cons_of_mem _ qm)).trans qH)⟩, ?_⟩
        refine look_arg (Qd := fun r => ys.length < zaK ∧ Jd.nx (ρ.set i (.ownT (.lst (xs.set j (.prt (.lst (ys ++ [r.d])))))))) S2 h fun H3 v r S3 st R q3 => ?_
        have stay : ∀ a ∈ p :: zaI vs xs, H3 a = H a := fun a ha => (st i a (by rw [hf2]; exact ha)).trans (stay2 a ha)
        have kk : KidL X.K T F H3 vs xs := k.mono (Same.refl _) fun a ha => ⟨(k.priv a ha).1, stay a (List.mem_cons_of_mem _ ha)⟩
        have hp3 := (stay p List.mem_cons_self).trans hH
        have hf3 : foot H3 (σ[i]?) (ρ.at i) = p :: zaI vs xs := by rw [foot_eq (H := H2) fun a ha => st i a ha]; exact hf2
        refine ⟨q, ws, v, rfl, rfl, (stay q (List.mem_cons_of_mem _ qm)).trans qH, by rw [rw_.length, ← maxTx_eq]; exact q3.1, ?_⟩
        exact k1 F _ _ σ (Same.refl _) (S3.setKidL hl hp hF hp3 kk nd hf3 hx hvq (.lst (rw_.append (.cons (R F) .nil)))) q3.2
      | _ => rw [hsl] at h; exact h.elim
    | no => rw [hsl] at h; exact h.elim
    | fz d => rw [hsl] at h; exact h.elim
    | own d => rw [hsl] at h; exact h.elim
end
end DL

set_option Elab.async false
set_option linter.all false
set_option autoImplicit false
set_option maxRecDepth 100000
/-! DLX100: comprehensions whose items are the new list's parts. -/
namespace DL
open PySem PySem.Spec PyProof.Rows L2
section
variable {X : Cx} {T : Tb} {B : Bs} {M : List Nat} {W : EK} {σ : L2.St}
/-- a list under way: its parts and itself are held by nobody else -/
structure Way (X : Cx) (T : Tb) (B : Bs) (F H : Hp) (ρ : Env) (σ : L2.St) (D' : Addr) (acc : List V) (as : List D) : Prop where
  at_ : H D' = some (.lst acc)
  no : F D' = none
  k : KidL X.K T F H acc as
  nd : (D' :: zaI acc as).Nodup
  lo : ∀ a ∈ D' :: zaI acc as, ¬ OwnOf H ρ σ a ∧ B.H0 a = none
theorem Way.held {F H : Hp} {ρ : Env} {D' : Addr} {acc : List V} {as : List D} (w : Way X T B F H ρ σ D' acc as) {a : Addr} (h : a ∈ D' :: zaI acc as) : F a = none ∧ ∃ o, H a = some o ∧ ∀ ps, o ≠ HO.tbl ps := by
  rcases List.mem_cons.mp h with rfl | h
  · exact ⟨w.no, _, w.at_, fun _ z => nomatch z⟩
  · obtain ⟨f, o, e, n, _⟩ := w.k.priv a h
    exact ⟨f, o, e, n⟩
theorem Way.nt {F H : Hp} {ρ : Env} {D' : Addr} {acc : List V} {as : List D} (w : Way X T B F H ρ σ D' acc as) {a : Addr} (h : a ∈ D' :: zaI acc as) {o : HO} (e : H a = some o) : tupB o = false := by
  rcases List.mem_cons.mp h with rfl | h
  · rw [w.at_] at e; cases e; rfl
  · exact w.k.notup a h o e
/-- where all of it stays as it is -/
theorem Way.stay {F H F' H' : Hp} {ρ ρ' : Env} {σ' : L2.St} {D' : Addr} {acc : List V} {as : List D} (w : Way X T B F H ρ σ D' acc as) (e : Same F F') (h : ∀ a ∈ D' :: zaI acc as, ∀ o, H a = some o → (∀ ps, o ≠ HO.tbl ps) → H' a = some o ∧ F' a = none ∧ ¬ OwnOf H' ρ' σ' a) : Way X T B F' H' ρ' σ' D' acc as where
  at_ := (h D' List.mem_cons_self _ w.at_ (fun _ z => nomatch z)).1
  no := (h D' List.mem_cons_self _ w.at_ (fun _ z => nomatch z)).2.1
  k := w.k.mono e fun a ha => by
    obtain ⟨_, o, eo, en⟩ := w.held (List.mem_cons_of_mem _ ha)
    have := h a (List.mem_cons_of_mem _ ha) o eo en
    exact ⟨this.2.1, this.1.trans eo.symm⟩
  nd := w.nd
  lo := fun a ha => by
    obtain ⟨_, o, eo, en⟩ := w.held ha
    exact ⟨(h a ha o eo en).2.2, (w.lo a ha).2⟩
theorem lcP_of {it : DI} {t : Tgt} {tt : DT} {g : DE} {vs : List Nat} {TT' : TT} {TE' : TE} (h1 : ∀ i ∈ t.is, i ∈ vs) (h2 : ∀ i ∈ t.is, i ∉ M) (hM : ∀ i ∈ M, i ∉ vs) {H : Hp} {Q : VK}
    (h : lE X.K T B M W (dLcP vs it t.g tt g) σ H Q) (hT : TT' = lTx X.K T M noE tt) (hE : TE' = lEx X.K T M noE g) :
    tLc (lI X.K T B M W it) (t.h X.K) TT' TE' vs σ H Q := by
  obtain ⟨F, ρ, Qd, S, h, k⟩ := h
  refine ⟨F, ρ, _, S, h, fun F1 H1 ρ1 xs J e1 S1 io q D' hD => ?_⟩
  obtain ⟨hv, q⟩ := q
  refine ⟨fun i m H' => m = xs.length - i ∧ i ≤ xs.length ∧ ∃ F' ρ' acc as, Same F1 F' ∧ SR X.K T B M F' H' ρ' (wipe σ vs) ∧ Way X T B F' H' ρ' (wipe σ vs) D' acc as ∧
    lcLP vs t.g tt g (fun acc ρ2 => Qd (.ft (.lst acc)) (backE vs ρ1 ρ2)) (xs.drop i) as ρ', ⟨xs.length, by simp, Nat.zero_le _, F1, _, [], [], Same.refl _, (S1.lay hD).wipe hM, ⟨upd_same, S1.sub.free hD, .nil, by simp [zaI], fun a ha => ?_⟩, q⟩, ?_⟩
  · rw [List.mem_singleton.mp (show a ∈ [D'] from ha)]
    refine ⟨?_, S1.gone hD⟩
    rintro ⟨i, e2⟩
    have S0 := S1.wipe hM
    rw [S0.footEq (fun i a ha => upd_ne ((S0.priv ha).ne hD)) i] at e2
    exact (S0.priv e2).ne hD rfl
  rintro i m H' ⟨rfl, hi, F', ρ', acc, as, e2, S2, w, q2⟩
  by_cases hlt : i < xs.length
  · obtain ⟨go, yl⟩ := (io i F' H' e2 S2.sub.toSmW).1 hlt
    refine .inr ⟨go, fun H3 => ∃ F3 ρ3 acc as, Same F1 F3 ∧ SR X.K T B M F3 H3 ρ3 (wipe σ vs) ∧ Way X T B F3 H3 ρ3 (wipe σ vs) D' acc as ∧
      lcLP vs t.g tt g (fun acc ρ2 => Qd (.ft (.lst acc)) (backE vs ρ1 ρ2)) (xs.drop (i + 1)) as ρ3, fun H3 hN => ⟨xs.length - (i + 1), by omega, rfl, hlt, hN⟩, fun x H'' hy => ?_⟩
    obtain ⟨r, hx, n⟩ := yl x H'' hy
    have S2b := S2.base
    obtain ⟨S3b, RVb⟩ := S2b.new n
    obtain ⟨F3, e3, S3b, R3⟩ := S3b.fix RVb
    have S3 := S2.trans S3b
    have w3 : Way X T B F3 H'' ρ' (wipe σ vs) D' acc as := w.stay e3 fun a ha o eo en => S2.loose S3b eo (w.held ha).1 (w.lo a ha).1 en (w.nt ha eo)
    rw [drop_at hx] at q2
    have q2 : t.g r.d ρ' (fun ρ1' => tt ρ1' (fun b ρ2 => if b = true then g ρ2 (fun r' ρ3 => ∃ d, r'.kid = some d ∧ as.length < zaK ∧ lcLP vs t.g tt g (fun acc ρ2 => Qd (.ft (.lst acc)) (backE vs ρ1 ρ2)) (xs.drop (i + 1)) (as ++ [d]) (wipeE vs ρ3)) noE
      else lcLP vs t.g tt g (fun acc ρ2 => Qd (.ft (.lst acc)) (backE vs ρ1 ρ2)) (xs.drop (i + 1)) as (wipeE vs ρ2)) noE) := q2
    refine Tgt.h_mono (Tgt.of (X := X) (vs := vs) S3.base R3 q2 h1 h2) ?_
    rintro σ2 H2 ⟨hw, rfl, ρ4, S4, q4⟩
    have hw : wipe σ2 vs = wipe σ vs := hw.trans wipe_wipe
    refine ⟨hw, ?_⟩
    rw [hT]
    refine ⟨baseAt B F3 H2 ρ' (wipe σ vs), F3, ρ4, _, S4, q4, fun F5 H5 ρ5 b e5 S5 q5 => ?_⟩
    cases b with
    | false =>
      have S6 := (S3.trans S5).wipe hM
      rw [hw] at S6
      refine ⟨F5, _, acc, as, e2.trans (e3.trans e5), S6, w3.stay e5 fun a ha o eo en => ?_, q5⟩
      obtain ⟨l1, l2, l3⟩ := S3.loose S5 eo (w3.held ha).1 (w3.lo a ha).1 en (w3.nt ha eo)
      exact ⟨l1, l2, not_own_wipe hw l3⟩
    | true =>
      have q5 : g ρ5 (fun r' ρ3 => ∃ d, r'.kid = some d ∧ as.length < zaK ∧ lcLP vs t.g tt g (fun acc ρ2 => Qd (.ft (.lst acc)) (backE vs ρ1 ρ2)) (xs.drop (i + 1)) (as ++ [d]) (wipeE vs ρ3)) noE := q5
      show TE' σ2 H5 _
      rw [hE]
      refine ⟨baseAt B F3 H2 ρ' (wipe σ vs), F5, ρ5, _, S5, q5, fun F6 H6 ρ6 v6 r6 e6 S6 R6 q6 => ?_⟩
      obtain ⟨d, hk, hmx, q6⟩ := q6
      obtain ⟨kd, nv, hn⟩ := R6.kid hk
      have S7 := (S3.trans S6).wipe hM
      rw [hw] at S7
      have w6 : Way X T B F6 H6 (wipeE vs ρ6) (wipe σ vs) D' acc as := w3.stay (e5.trans e6) fun a ha o eo en => by
        obtain ⟨l1, l2, l3⟩ := S3.loose S6 eo (w3.held ha).1 (w3.lo a ha).1 en (w3.nt ha eo)
        exact ⟨l1, l2, not_own_wipe hw l3⟩
      have dj : ∀ a ∈ kidA v6 d, a ∉ D' :: zaI acc as := fun a ha hm => by
        obtain ⟨_, o, eo, _⟩ := w3.held hm
        have : H2 a = none := (hn a ha).1
        rw [this] at eo
        cases eo
      have nd' := List.nodup_cons.mp w6.nd
      have ek : zaI (acc ++ [v6]) (as ++ [d]) = zaI acc as ++ kidA v6 d := by
        rw [kidsA_app w6.k.length, kidsA_cons]
        show zaI acc as ++ (kidA v6 d ++ []) = _
        rw [List.append_nil]
      have k2 : KidL X.K T F6 H6 (acc ++ [v6]) (as ++ [d]) := w6.k.append (.cons kd .nil)
      have np : D' ∉ zaI (acc ++ [v6]) (as ++ [d]) := fun z => by
        rw [ek] at z
        rcases List.mem_append.mp z with z | z
        · exact nd'.1 z
        · exact dj D' z List.mem_cons_self
      have fo : ∀ j, foot (upd H6 D' (.lst (acc ++ [v6]))) ((wipe σ vs)[j]?) ((wipeE vs ρ6).at j) = foot H6 ((wipe σ vs)[j]?) ((wipeE vs ρ6).at j) := S7.footEq fun j a ha => upd_ne fun z => (w6.lo D' List.mem_cons_self).1 ⟨j, by rw [← z]; exact ha⟩
      refine ⟨acc, w6.at_, by rw [w6.k.length, ← maxTx_eq]; exact hmx, F6, _, _, _, e2.trans (e3.trans (e5.trans e6)), S7.storeLoose w6.at_ w6.no (w6.lo D' List.mem_cons_self).1 (w6.lo D' List.mem_cons_self).2, ⟨upd_same, w6.no, k2.mono (Same.refl _) fun a ha => ⟨(k2.priv a ha).1, upd_ne fun z => np (by rw [← z]; exact ha)⟩, ?_, fun a ha => ?_⟩, q6⟩
      · refine List.nodup_cons.mpr ⟨np, ?_⟩
        rw [ek]
        exact List.nodup_append.mpr ⟨nd'.2, nv, fun a ha b hb z => dj b hb (by rw [← z]; exact List.mem_cons_of_mem _ ha)⟩
      · have hno : ¬ OwnOf H6 (wipeE vs ρ6) (wipe σ vs) a ∧ B.H0 a = none := by
          rcases List.mem_cons.mp ha with rfl | ha
          · exact w6.lo _ List.mem_cons_self
          · rw [ek] at ha
            rcases List.mem_append.mp ha with ha | ha
            · exact w6.lo a (List.mem_cons_of_mem _ ha)
            · refine ⟨not_own_wipe hw fun ⟨j, z⟩ => (hn a ha).2 j z, S3.gone (hn a ha).1⟩
        exact ⟨fun ⟨j, z⟩ => hno.1 ⟨j, by rw [← fo j]; exact z⟩, hno.2⟩
  · have e : i = xs.length := by omega
    subst e
    rw [List.drop_length] at q2
    refine .inl ⟨(io _ F' H' e2 S2.sub.toSmW).2 (Nat.le_refl _), ?_⟩
    refine k F' H' _ (.ref D') (.ft (.lst as)) (e1.trans e2) (S1.unwipe hv e2 S2) ⟨D', _, rfl, w.no, w.at_, .lst w.k, w.nd, fun a ha => ⟨(w.lo a ha).2, fun j hj => ?_⟩⟩ q2
    obtain ⟨z1, z2⟩ := backE_foot hv hj
    exact (w.lo a ha).1 ⟨j, by rw [wipe_out' z2]; exact z1⟩
variable {elt tg iter : Expr} {ifs : List Expr} {scope : Scope} {own : List (Str × Nat)} {pos : Pos} {it : DI} {t : Tgt} {tt : DT} {g : DE}
theorem pd_lcP (hc : X.calm = true) (hN : X.N.Nodup) (hi : PDI X T B M W tg iter it) (ok : BlkOk X.N X.env.scope scope own) (hv : (t.is.all fun i => (own.map (·.2)).contains i && !M.contains i) = true) (hM : (M.all fun i => !(own.map (·.2)).contains i) = true)
    (hg : ∀ (s : Shared) (H : Hp) (C : Addr) (cl : List (Str × Addr)) (fp : List Addr), PG (X.blk s H scope (compEnvC scope cl C X.env) fp) tg (t.h X.K)) (ht : ∀ (s : Shared) (H : Hp) (C : Addr) (cl : List (Str × Addr)) (fp : List Addr) B, PDTs (X.blk s H scope (compEnvC scope cl C X.env) fp) T B M noE ifs tt)
    (he : ∀ (s : Shared) (H : Hp) (C : Addr) (cl : List (Str × Addr)) (fp : List Addr) B, PD (X.blk s H scope (compEnvC scope cl C X.env) fp) T B M noE elt g) (hs : ∀ x, foldedSetIterable iter X.env x = pure x := by intro _; rfl) :
    PD X T B M W (.ListComp elt [⟨tg, iter, ifs, 0⟩] scope pos) (dLcP (own.map (·.2)) it t.g tt g) := by
  have a1 : ∀ i ∈ t.is, i ∈ own.map (·.2) ∧ i ∉ M := fun i h => by
    have := List.all_eq_true.mp hv i h
    rw [Bool.and_eq_true] at this
    exact ⟨by simpa using this.1, by simpa using this.2⟩
  have a2 : ∀ i ∈ M, i ∉ own.map (·.2) := fun i h => by
    have := List.all_eq_true.mp hM i h
    simpa using this
  refine pe_imp (pe_lc (te := lEx X.K T M noE g) (tt := lTx X.K T M noE tt) hc hN hi ok hg (fun s H C cl fp => pts_ex (ht s H C cl fp)) (fun s H C cl fp => pe_ex (he s H C cl fp)) hs) fun σ H Q z => ?_
  exact lcP_of (fun i h => (a1 i h).1) (fun i h => (a1 i h).2) a2 z rfl rfl
end
end DL

set_option linter.all false
set_option autoImplicit false
set_option maxRecDepth 100000
/-! DLV: texts cut at a sign, read as numbers; every second item; an own list moved into another; what is never reached. -/
namespace DL
/-- the pieces between the signs s -/
def splT (s : Nat) : Tx → Tx → List Tx
  | acc, [] => [acc]
  | acc, c :: r => if c = s then acc :: splT s [] r else splT s (acc ++ [c]) r
def splitM (a : Tx) : List D → (R → Prop) → Prop
  | [.str [s]], k => a.length + 2 ≤ zaK ∧ s < 256 ∧ k (.fr (.lst ((splT s [] a).map .str)))
  | _, _ => False
/-- what stands ahead of the first s, and behind it -/
def parT (s : Nat) : Tx → Tx → Option (Tx × Tx)
  | _, [] => none
  | acc, c :: r => if c = s then some (acc, r) else parT s (acc ++ [c]) r
def partL (s : Nat) (a : Tx) : List Tx := match parT s [] a with
  | some (p, r) => [p, [s], r]
  | none => [a, [], []]
def partM (a : Tx) : List D → (R → Prop) → Prop
  | [.str [s]], k => a.length ≤ zaK ∧ s < 256 ∧ k (.fr (.tup ((partL s a).map .str)))
  | _, _ => False
def digV (x : Tx) : Nat := x.foldl (fun a c => a * 10 + (c - 48)) 0
/-- int(x) of a text of digits -/
def intTF : List D → (R → Prop) → Prop
  | [.str x], k => (x ≠ [] ∧ (∀ c ∈ x, 48 ≤ c ∧ c ≤ 57) ∧ x.length ≤ 640) ∧ k (.fz (.int (digV x : Int)))
  | _, _ => False
def evT {α : Type} : List α → List α
  | [] => []
  | [a] => [a]
  | a :: _ :: r => a :: evT r
/-- x[k::2] of a short list -/
def dStp (k : Nat) (f : DE) : DE := fun ρ Q E => f ρ (fun r ρ1 => match r.d with
  | .lst xs => xs.length ≤ 8 ∧ Q (.fr (.lst (evT (xs.drop k)))) ρ1
  | _ => False) E
/-- a name's own list leaves the name -/
def dTake (i : Nat) : DE := fun ρ Q _ => match ρ.at i with
  | .own d => Q (.fr d) (ρ.set i .no)
  | _ => False
def dNo : DE := fun _ _ _ => False
def sNo : DS := fun _ _ _ => False
/-- try: body / except c as the name at i: raise c2(n) from it -/
def sTryF (i c c2 : Nat) (n : Int) (fb : DS) : DS := fun D ρ E => fb D ρ (fun x ρ1 => if x.cls = c then i < ρ1.length ∧ E ⟨c2, .int n⟩ (ρ1.set i .no) else E x ρ1)
/-- every s becomes z -/
def repS (s : Nat) (z : Tx) : Tx → Tx
  | [] => []
  | c :: r => if c = s then z ++ repS s z r else c :: repS s z r
/-- x.replace(s, z), x a name -/
def dRep (i : Nat) (y z : Tx) : DE := fun ρ Q _ => match ρ.at i, y with
  | .fz (.str a), [s] => (a.length + (a.length + 1) * z.length ≤ zaK ∧ s < 256 ∧ ∀ c ∈ z, c < 256) ∧ Q (.fz (.str (repS s z a))) ρ
  | _, _ => False
/-- x.update(d): dicts with tuples as keys -/
def mergeT (a b : List (List Ky × D)) : List (List Ky × D) := b.foldl (fun acc p => putT acc p.1 p.2) a
def sUpdT (i : Nat) (f : DE) : DS := fun D ρ E => ownKT (ρ.at i) = true ∧ f ρ (fun r ρ1 => match ρ1.at i, r.d with
  | .own (.dcT as), .dcT bs => (as ≠ [] ∨ bs.length ≤ 1) ∧ as.length + bs.length ≤ zaK ∧ D.nx (ρ1.set i (.own (.dcT (mergeT as bs))))
  | _, _ => False) E
/-- {} as a dict with tuples as keys; d[k] of one's own -/
def dDct0T : DE := fun ρ Q _ => Q (.fr (.dcT [])) ρ
def dIxKT (i : Nat) (g : DE) : DE := fun ρ Q E => ownKT (ρ.at i) = true ∧ g ρ (fun s ρ1 => match ρ1.at i with
  | .own (.dcT ds) => ∃ xs ks, s.d = .tup xs ∧ kysOf xs = some ks ∧ ∃ d, lookT ds ks = some d ∧ Q (.fz d) ρ1
  | _ => False) E
/-- x * n of a tuple, n may be 0 -/
def repZD : D → D → (R → Prop) → Prop
  | .tup a, .int n, k => (a ≠ [] ∧ 0 ≤ n ∧ n ≤ 1000 ∧ a.length ≤ 1000) ∧ ∀ r : R, r.d = .tup (List.replicate n.toNat a).flatten → k r
  | _, _, _ => False
/-- d != {}, the keys tuples -/
def neEmp : D → D → (R → Prop) → Prop
  | .dcT a, .dct [], k => k (.fz (.bl (!a.isEmpty)))
  | _, _, _ => False
/-- d.items(), d itself, walked over: dicts with tuples as keys -/
def iWkT (f : DE) (xs : List (List Ky × D) → List D) : DI := fun ρ Q E => f ρ (fun r ρ1 => match r.d with
  | .dcT ds => Q (xs ds) ρ1
  | _ => False) E
def itmT (ds : List (List Ky × D)) : List D := ds.map fun p => .tup [.tup (p.1.map kyD), p.2]
def keyT (ds : List (List Ky × D)) : List D := ds.map fun p => .tup (p.1.map kyD)
/-- sorted(d) of a dict whose keys are tuples of ints: some order of them -/
def dSrtKT (f : DE) : DE := fun ρ Q E => f ρ (fun r ρ1 => match r.d with
  | .dcT ds => ∃ ns : List (List Int), ds.map (·.1) = ns.map (List.map Ky.int) ∧ (∀ n ∈ ns, n ≠ []) ∧ ∀ L : List (List Int), L.Perm ns → Q (.fr (.lst (L.map fun n => .tup (n.map .int)))) ρ1
  | _ => False) E
end DL

set_option linter.all false
set_option autoImplicit false
set_option maxRecDepth 100000
namespace DL
/-- x.pop() of one's own list -/
def dPopN (i : Nat) : DE := fun ρ Q _ => match ρ.at i with
  | .own (.lst xs) => ∃ ys y, xs = ys ++ [y] ∧ Q (.fz y) (ρ.set i (.own (.lst ys)))
  | _ => False
/-- x.f[k] = e, the part x.f a dict with tuples as keys, k a name -/
def sPutFT (i c j kx : Nat) (f : DE) : DS := fun D ρ E => f ρ (fun r ρ1 => match ρ1.at i, ρ1.at kx with
  | .ownT (.obj c' fs), .fz (.tup xs) => c' = c ∧ ∃ ds ks, fs[j]? = some (.prt (.dcT ds)) ∧ kysOf xs = some ks ∧ ds.length < zaK ∧ D.nx (ρ1.set i (.ownT (.obj c (putL fs j (.prt (.dcT (putT ds ks r.d)))))))
  | _, _ => False) E
/-- x.f, x a name that keeps its own object with parts, the field no part -/
def dFldP (i c j : Nat) : DE := fun ρ Q _ => match ρ.at i with
  | .ownT (.obj c' fs) => c' = c ∧ ∃ d, fs[j]? = some d ∧ d.isPrt = false ∧ Q (.fz d) ρ
  | .own (.obj c' fs) => c' = c ∧ ∃ d, fs[j]? = some d ∧ Q (.fz d) ρ
  | .fz (.obj c' fs) => c' = c ∧ ∃ d, fs[j]? = some d ∧ Q (.fz d) ρ
  | _ => False
/-- x.f[k], x.f a dict with tuples as keys, its object's part or settled, k a name -/
def dIxFT (i c j kx : Nat) : DE := fun ρ Q _ => match ρ.at i, ρ.at kx with
  | .ownT (.obj c' fs), .fz (.tup xs) => c' = c ∧ ∃ ds ks d, fs[j]? = some (.prt (.dcT ds)) ∧ kysOf xs = some ks ∧ lookT ds ks = some d ∧ Q (.fz d) ρ
  | .fz (.obj c' fs), .fz (.tup xs) => c' = c ∧ ∃ ds ks d, fs[j]? = some (.dcT ds) ∧ kysOf xs = some ks ∧ lookT ds ks = some d ∧ Q (.fz d) ρ
  | _, _ => False
/-- sorted(x.f, key=lambda k: (sum(k), k)), x.f a part, its keys tuples of ints -/
def dSrtFS (i c j : Nat) : DE := fun ρ Q _ => match ρ.at i with
  | .ownT (.obj c' fs) => c' = c ∧ ∃ ds, ∃ ns : List (List Int), fs[j]? = some (.prt (.dcT ds)) ∧ ds.map (·.1) = ns.map (List.map Ky.int) ∧
      ∀ L : List (List Int), L.Perm ns → L.Pairwise (fun a b => a.sum ≤ b.sum) → Q (.fr (.lst (L.map fun n => .tup (n.map .int)))) ρ
  | _ => False
/-- sorted(list of lists of ints) -/
def sortedLLF : List D → (R → Prop) → Prop
  | [.lst xs], k => ∃ ns : List (List Int), xs = ns.map (fun n => .lst (n.map .int)) ∧ xs.length ≤ zaK ∧
      ∀ L : List (List Int), L.Perm ns → L.Pairwise (fun a b => a ≤ b) → k (.fr (.lst (L.map fun n => .lst (n.map .int))))
  | _, _ => False
/-- [e for g in it for g1 in it1 ..], both walks over lists -/
def lc2LI (vs vs1 : List Nat) (g : DG) (t : DT) (it1 : DI) (g1 : DG) (t1 : DT) (e : DE) (Q : List D → Env → Prop) : List D → List D → Env → Prop
  | [], acc, ρ => Q acc ρ
  | x :: xs, acc, ρ => g x ρ fun ρ1 => t ρ1 (fun b ρ2 => if b = true then it1 ρ2 (fun ys ρ3 =>
      lcL vs1 g1 t1 e (fun acc' ρ4 => lc2LI vs vs1 g t it1 g1 t1 e Q xs acc' (wipeE vs ρ4)) ys acc (wipeE vs1 ρ3)) noE
    else lc2LI vs vs1 g t it1 g1 t1 e Q xs acc (wipeE vs ρ2)) noE
def dLc2I (vs vs1 : List Nat) (it : DI) (g : DG) (t : DT) (it1 : DI) (g1 : DG) (t1 : DT) (e : DE) : DE := fun ρ Q E => it ρ (fun xs ρ1 => (∀ i ∈ vs, ∀ d, ρ1.at i ≠ .own d) ∧
  lc2LI vs vs1 g t it1 g1 t1 e (fun acc ρ2 => Q (.fr (.lst acc)) (backE vs ρ1 ρ2)) xs [] (wipeE vs ρ1)) E
/-- {k: e for x in ..}, the keys tuples -/
def dcLT (vs : List Nat) (g : DG) (t : DT) (ek e : DE) (Q : List (List Ky × D) → Env → Prop) : List D → List (List Ky × D) → Env → Prop
  | [], acc, ρ => Q acc ρ
  | x :: xs, acc, ρ => g x ρ fun ρ1 => t ρ1 (fun b ρ2 => if b = true then ek ρ2 (fun rk ρ3 => e ρ3 (fun r ρ4 => ∃ ys k, rk.d = .tup ys ∧ kysOf ys = some k ∧ acc.length < zaK ∧ dcLT vs g t ek e Q xs (putT acc k r.d) (wipeE vs ρ4)) noE) noE
    else dcLT vs g t ek e Q xs acc (wipeE vs ρ2)) noE
def dDcT (vs : List Nat) (it : DI) (g : DG) (t : DT) (ek e : DE) : DE := fun ρ Q E => it ρ (fun xs ρ1 => (∀ i ∈ vs, ∀ d, ρ1.at i ≠ .own d) ∧
  dcLT vs g t ek e (fun acc ρ2 => Q (.fr (.dcT acc)) (backE vs ρ1 ρ2)) xs [] (wipeE vs ρ1)) E
/-- x.get(k, e) of one's own dict with tuples as keys -/
def dGetNT (i : Nat) (g h : DE) : DE := fun ρ Q E => ownKT (ρ.at i) = true ∧ g ρ (fun s ρ1 => h ρ1 (fun t ρ2 => match ρ2.at i with
  | .own (.dcT ds) => ∃ xs k, s.d = .tup xs ∧ kysOf xs = some k ∧ Q (.fz ((lookT ds k).getD t.d)) ρ2
  | _ => False) E) E
/-- list(d), the keys of d tuples -/
def dLstKT (f : DE) : DE := fun ρ Q E => f ρ (fun r ρ1 => match r.d with
  | .dcT ds => Q (.fr (.lst (ds.map fun p => .tup (p.1.map kyD)))) ρ1
  | _ => False) E
/-- x.update(pairs) of one's own dict -/
def sUpdP (i : Nat) (f : DE) : DS := fun J ρ E => ownK (ρ.at i) = true ∧ f ρ (fun r ρ1 => match ρ1.at i, r.d with
  | .own (.dct a), .lst xs => ∃ ps : List (Ky × D), xs.map prD = ps.map some ∧ a.length + ps.length ≤ zaK ∧ J.nx (ρ1.set i (.own (.dct (ps.foldl (fun acc p => putD acc p.1 p.2) a))))
  | _, _ => False) E
end DL

set_option linter.all false
set_option autoImplicit false
set_option maxRecDepth 100000
/-! DGDT: generators, what their parts do (data alone). -/
namespace DL
/-- the items at the places π -/
def pick {α : Type} : List Nat → List α → List α
  | [], _ => []
  | i :: π, xs => match xs[i]? with
    | some a => a :: pick π xs
    | none => pick π xs
/-- the first of the least of x :: ts, texts -/
def minTx (x : Tx) (ts : List Tx) : Tx := ts.foldl (fun a y => if y < a then y else a) x
/-- min of a list of texts -/
def minSF : List D → (R → Prop) → Prop
  | [.lst xs], k => ∃ (x : Tx) (ts : List Tx), xs = (x :: ts).map D.str ∧ k (.fz (.str (minTx x ts)))
  | _, _ => False
/-- a call by keywords alone: their values go in the order π -/
def dKw (con : Con) (n : Nat) (π : List Nat) (fs : List DE) : DE := fun ρ Q E => dArgs fs ρ (fun ds ρ1 => ds.length = n ∧ con ((pick π ds).map .fz) (fun r _ => Q r ρ1) (fun x _ => E x ρ1)) E
/-- x.m(k = e, ..) -/
def dKwM (c : Nat) (con : Con) (n : Nat) (π : List Nat) (f : DE) (fs : List DE) : DE := fun ρ Q E => f ρ (fun r ρ1 => r.d.isObj c = true ∧ dArgs fs ρ1 (fun ds ρ2 => ds.length = n ∧ con (.fz r.d :: (pick π ds).map .fz) (fun r _ => Q r ρ2) (fun x _ => E x ρ2)) E) E
/-- C.m(k = e, ..) of a classmethod -/
def dKwC (c : Nat) (con : Con) (n : Nat) (π : List Nat) (fs : List DE) : DE := fun ρ Q E => dArgs fs ρ (fun ds ρ1 => ds.length = n ∧ con (.fz (.cls c) :: (pick π ds).map .fz) (fun r _ => Q r ρ1) (fun x _ => E x ρ1)) E
/-- C(k = e, ..) -/
def dKwI (c : Nat) (con : Con) (n : Nat) (π : List Nat) (fs : List DE) : DE := fun ρ Q E => dArgs fs ρ (fun ds ρ1 => ds.length = n ∧ mkC c con (pick π ds) ρ1 Q E) E
/-- a generator def by its arguments: what it hands out; what it handed out and then raised -/
abbrev GCon := List Slot → (List D → List Slot → Prop) → (List D → Exc → List Slot → Prop) → Prop
abbrev EKG := List D → Exc → Env → Prop
structure GD where
  nx : List D → Env → Prop
  rt : List D → R → Env → Prop
  bk : List D → Env → Prop := fun _ _ => False
  ct : List D → Env → Prop := fun _ _ => False
def GD.at (J : GD) (ds : List D) : DEnds := ⟨J.nx ds, J.rt ds, J.bk ds, J.ct ds⟩
abbrev DGn := GD → List D → Env → EKG → Prop
def gPlain (f : DS) : DGn := fun J ds ρ Ex => f (J.at ds) ρ (Ex ds)
def gNil : DGn := fun J ds ρ _ => J.nx ds ρ
def gThen (f g : DGn) : DGn := fun J ds ρ Ex => f { J with nx := fun ds' ρ' => g J ds' ρ' Ex } ds ρ Ex
def gYield (f : DE) : DGn := fun J ds ρ Ex => ds.length < zaK ∧ f ρ (fun r ρ1 => (∃ d, r = .fz d) ∧ J.nx (ds ++ [r.d]) ρ1) (Ex ds)
/-- yield of a new list that is given for good -/
def gYieldR (f : DE) : DGn := fun J ds ρ Ex => ds.length < zaK ∧ f ρ (fun r ρ1 => (∃ xs, r = .fr (.lst xs)) ∧ J.nx (ds ++ [r.d]) ρ1) (Ex ds)
def gIf (c : DT) (f g : DGn) : DGn := fun J ds ρ Ex => c ρ (fun b ρ1 => if b = true then f J ds ρ1 Ex else g J ds ρ1 Ex) (Ex ds)
def forG (G : DG) (u : DGn) (J : GD) (Ex : EKG) : List D → List D → Env → Prop
  | [], ds, ρ => J.nx ds ρ
  | x :: xs, ds, ρ => G x ρ fun ρ1 => u { nx := fun ds' ρ' => forG G u J Ex xs ds' ρ', ct := fun ds' ρ' => forG G u J Ex xs ds' ρ', bk := J.nx, rt := J.rt } ds ρ1 Ex
def gFor (it : DI) (G : DG) (u : DGn) : DGn := fun J ds ρ Ex => it ρ (fun xs ρ1 => forG G u J Ex xs ds ρ1) (Ex ds)
/-- the body of a generator def, by its arguments -/
def runG (n : Nat) (body : DGn) (args : List Slot) (Q : List D → List Slot → Prop) (E : List D → Exc → List Slot → Prop) : Prop :=
  body { nx := fun ds ρ => Q ds (outsE args.length ρ), rt := fun ds r ρ => r = .fz .non ∧ Q ds (outsE args.length ρ) } [] (startE n args) fun ds x ρ => E ds x (outsE args.length ρ)
/-- for x in g(..): y.append(x) -/
def sForGen (con : GCon) (as : List DA) (i j : Nat) : DS := fun D ρ E => ρ.at j = .own (.lst []) ∧ dAVs as (ρ.set j .no) (fun bs ρ1 => bs.all (AV.ok ρ1) = true ∧
  con (bs.map (avSlot ρ1)) (fun ds outs => D.nx (((backA bs outs ρ1).set i .no).set j (.own (.lst ds)))) (fun ds x outs => E x (((backA bs outs ρ1).set i .no).set j (.own (.lst ds))))) noE
/-- the items of a name that holds a settled list or text -/
def iLSn (i : Nat) : DI := fun ρ Q _ => match ρ.at i with
  | .fz (.lst xs) => Q xs ρ
  | .fz (.str x) => Q (x.map fun c => .str [c]) ρ
  | _ => False
/-- for x in l, l a name that keeps its own list of settled things (it is out of sight in the body, of which nothing raises) -/
def sForLO (j : Nat) (G : DG) (u : DS) : DS := fun J ρ _ => match ρ.at j with
  | .own (.lst xs) => forL G u { J with nx := fun ρ' => J.nx (ρ'.set j (.own (.lst xs))) } noE xs (ρ.set j .no)
  | _ => False
/-- for x in l: x.append(None), l one's own list of its own lists -/
def sForPA (i j : Nat) : DS := fun J ρ _ => match ρ.at j with
  | .ownT (.lst ds) => i < ρ.length ∧ ∃ xss : List (List D), ds = xss.map (fun xs => .prt (.lst xs)) ∧ (∀ xs ∈ xss, xs.length < zaK) ∧ J.nx ((ρ.set i .no).set j (.ownT (.lst (xss.map fun xs => .prt (.lst (xs ++ [.non]))))))
  | _ => False
/-- l.clear(), l one's own list of its own lists -/
def sClrT (i : Nat) : DS := fun D ρ _ => match ρ.at i with
  | .ownT (.lst _) => D.nx (ρ.set i (.own (.lst [])))
  | _ => False
/-- for x in g(..): y.append(list(x)); x.append(None); the generator raises nothing -/
def sForGenL (con : GCon) (as : List DA) (i j : Nat) : DS := fun D ρ _ => ρ.at j = .own (.lst []) ∧ dAVs as (ρ.set j .no) (fun bs ρ1 => bs.all (AV.ok ρ1) = true ∧
  con (bs.map (avSlot ρ1)) (fun ds outs => D.nx (((backA bs outs ρ1).set i .no).set j (.own (.lst ds)))) (fun _ _ _ => False)) noE
/-- [x for x in g(..)]: the generator raises nothing -/
def dLcGen (con : GCon) (as : List DA) : DE := fun ρ Q E => dAVs as ρ (fun bs ρ1 => bs.all (AV.ok ρ1) = true ∧ con (bs.map (avSlot ρ1)) (fun ds outs => Q (.fr (.lst ds)) (backA bs outs ρ1)) (fun _ _ _ => False)) E
/-- [x for x in g(k = e, ..)] -/
def dLcGenQ (con : GCon) (n : Nat) (π : List Nat) (fs : List DE) : DE := fun ρ Q E => dArgs fs ρ (fun ds ρ1 => ds.length = n ∧ con ((pick π ds).map .fz) (fun es _ => Q (.fr (.lst es)) ρ1) (fun _ _ _ => False)) E
/-- what is never reached -/
def gDead : DGn := fun _ _ _ _ => False
/-- list(g(..)) -/
def dListGen (con : GCon) (as : List DA) : DE := fun ρ Q E => dAVs as ρ (fun bs ρ1 => bs.all (AV.ok ρ1) = true ∧ con (bs.map (avSlot ρ1)) (fun ds outs => Q (.fr (.lst ds)) (backA bs outs ρ1)) (fun _ x outs => E x (backA bs outs ρ1))) E
/-- x(e, ..), x a name that holds a def; some of them take any number of arguments -/
def dCallFV (i : Nat) (tbl tblV : List (Nat × Con)) (as : List DA) (fs : List DE) : DE := fun ρ Q E => match ρ.at i with
  | .fz (.cls n) => (match tbl.lookup n with
    | some con => dCall con as ρ Q E
    | none => (match tblV.lookup n with
      | some con => dCallV con fs ρ Q E
      | none => False))
  | _ => False
end DL

set_option linter.all false
namespace DL
/-! sessions: x.p and len(x) of a name's own object, which its getter (its __len__) is lent and which raise nothing; try .. finally -/
def dPropM (i c : Nat) (con : Con) : DE := fun ρ Q _ => (ρ.at i).isObj c = true ∧ dCall con [.m i] ρ Q noE
def dLenM (i c : Nat) (con : Con) : DE := fun ρ Q _ => (ρ.at i).isObj c = true ∧ dCall con [.m i] ρ (fun r ρ1 => ∃ n : Nat, r.d = .int n ∧ n < 2 ^ 62 ∧ Q (.fz (.int n)) ρ1) noE
def sTryFin (fb ff : DS) : DS := fun D ρ E => fb { nx := fun ρ1 => ff { nx := D.nx, rt := fun _ _ => False } ρ1 noE, rt := fun _ _ => False } ρ fun x ρ1 => ff { nx := fun ρ2 => E x ρ2, rt := fun _ _ => False } ρ1 noE
/-- x.f[k] = e, x.f a part that is a dict with texts or ints as keys, k a name -/
def sPutFK (i c j kx : Nat) (f : DE) : DS := fun D ρ E => f ρ (fun r ρ1 => match ρ1.at i, ρ1.at kx with
  | .ownT (.obj c' fs), .fz dk => c' = c ∧ ∃ ds k, fs[j]? = some (.prt (.dct ds)) ∧ kyOf dk = some k ∧ ds.length < zaK ∧ D.nx (ρ1.set i (.ownT (.obj c (putL fs j (.prt (.dct (putD ds k r.d)))))))
  | _, _ => False) E
/-- x.f[k] likewise -/
def dIxFK (i c j kx : Nat) : DE := fun ρ Q _ => match ρ.at i, ρ.at kx with
  | .ownT (.obj c' fs), .fz dk => c' = c ∧ ∃ ds k d, fs[j]? = some (.prt (.dct ds)) ∧ kyOf dk = some k ∧ lookD ds k = some d ∧ Q (.fz d) ρ
  | _, _ => False
/-- list(x.f), x.f a part that is a list of settled things -/
def dLstF (i c j : Nat) : DE := fun ρ Q _ => match ρ.at i with
  | .ownT (.obj c' fs) => c' = c ∧ ∃ xs, fs[j]? = some (.prt (.lst xs)) ∧ Q (.fr (.lst xs)) ρ
  | _ => False
/-- C(e, ..), C held by a name, the new object with parts of its own -/
def dMakeVT (i c : Nat) (con : Con) (fs : List DE) : DE := fun ρ Q E => (match ρ.at i with | .fz (.cls c') => c' = c | _ => False) ∧ dArgs fs ρ (fun ds ρ1 => ds.length = fs.length ∧ mkCT c con ds ρ1 Q E) E
/-- x.f.append(e), e a new tuple (list) of flat things -/
def sAppFL (i c j : Nat) (f : DE) : DS := fun D ρ _ => match ρ.at i with
  | .ownT (.obj c' fs) => c' = c ∧ ∃ xs, fs[j]? = some (.prt (.lst xs)) ∧ f (ρ.map Slot.calm) (fun r _ => ∃ d, r = .fr d ∧ d.flat1 = true ∧ xs.length < zaK ∧ D.nx (ρ.set i (.ownT (.obj c (putL fs j (.prt (.lst (xs ++ [d])))))))) noE
  | _ => False
end DL

set_option Elab.async false
set_option linter.all false
set_option autoImplicit false
set_option maxRecDepth 100000
/-! DGDV: data definitions: min of rows of texts, {k: e for ..} whose values are parts. -/
namespace DL
/-- the first difference decides, else the shorter is the less -/
def rowLt : List Tx → List Tx → Bool
  | [], [] => false
  | [], _ :: _ => true
  | _ :: _, [] => false
  | x :: xs, y :: ys => if x = y then rowLt xs ys else decide (x < y)
/-- the first of the least rows -/
def minRow (x : List Tx) (ts : List (List Tx)) : List Tx := ts.foldl (fun a y => if rowLt y a = true then y else a) x
def rowD (r : List Tx) : D := .lst (r.map .str)
/-- min of a list of lists of texts -/
def minRF : List D → (R → Prop) → Prop
  | [.lst xs], k => ∃ (x : List Tx) (ts : List (List Tx)), xs = (x :: ts).map rowD ∧ k (.fz (rowD (minRow x ts)))
  | _, _ => False
def dcLP (vs : List Nat) (g : DG) (t : DT) (ek e : DE) (Q : List (Ky × D) → Env → Prop) : List D → List (Ky × D) → Env → Prop
  | [], acc, ρ => Q acc ρ
  | x :: xs, acc, ρ => g x ρ fun ρ1 => t ρ1 (fun b ρ2 => if b = true then ek ρ2 (fun rk ρ3 => e ρ3 (fun r ρ4 => ∃ k d, kyOf rk.d = some k ∧ r.kid = some d ∧ (acc.any fun p => decide (p.1 = k)) = false ∧ acc.length < zaK ∧ dcLP vs g t ek e Q xs (acc ++ [(k, d)]) (wipeE vs ρ4)) noE) noE
    else dcLP vs g t ek e Q xs acc (wipeE vs ρ2)) noE
/-- {k: e for x in ..}, the keys all different, the values' new things its parts -/
def dDcP (vs : List Nat) (it : DI) (g : DG) (t : DT) (ek e : DE) : DE := fun ρ Q E => it ρ (fun xs ρ1 => (∀ i ∈ vs, ∀ d, ρ1.at i ≠ .own d) ∧
  dcLP vs g t ek e (fun acc ρ2 => Q (.ft (.dct acc)) (backE vs ρ1 ρ2)) xs [] (wipeE vs ρ1)) E
/-- sum of a list of bools -/
def sumBF : List D → (R → Prop) → Prop
  | [.lst xs], k => ∃ bs : List Bool, xs = bs.map D.bl ∧ k (.fz (.int ((bs.count true : Nat) : Int)))
  | _, _ => False
/-- == and != of dicts whose values are data -/
def eqKd (b : Bool) (x y : D) (k : R → Prop) : Prop := match x, y with
  | .dct as, .dct bs => (as.all (fun p => p.2.eqOk 50) = true ∧ bs.all (fun p => p.2.eqOk 50) = true) ∧ k (.fz (.bl (b == eqKB as bs)))
  | _, _ => False
/-- the session's queues and log stand as before -/
def keptB (i c : Nat) (q l : D) (k : Env → Prop) : Env → Prop := fun ρ1 => ∃ q1 l1 rest1, ρ1.at i = .ownT (.obj c (q1 :: l1 :: rest1)) ∧ k (ρ1.set i (.ownT (.obj c (q :: l :: rest1))))
/-- with Kept(self): suite; what it raises is StepFailed or LimitExceeded -/
def sKept (i c : Nat) (fb : DS) : DS := fun J ρ E => ∃ q l rest, ρ.at i = .ownT (.obj c (q :: l :: rest)) ∧ (∀ d, q ≠ .prt d) ∧ (∀ d, l ≠ .prt d) ∧
  fb { nx := keptB i c q l J.nx, rt := fun _ _ => False } ρ (fun x ρ1 => (x.cls = 7 ∨ x.cls = 10) ∧ keptB i c q l (E x) ρ1)
end DL

set_option Elab.async false
set_option linter.all false
set_option autoImplicit false
set_option maxRecDepth 100000
/-! DGDW: data definitions: handles of objects that phantom slots own; one of two readings; lists whose items become parts. -/
namespace DL
/-- one of two readings -/
def dAlt (f g : DE) : DE := fun ρ Q E => f ρ Q E ∨ g ρ Q E
def tAlt (f g : DT) : DT := fun ρ Q E => f ρ Q E ∨ g ρ Q E
/-- x.m(..), x holds the handle of slot k's object -/
def dMethH (j k a c : Nat) (con : Con) (as : List DA) : DE := fun ρ Q E => ρ.at j = .fz (.adr a) ∧ (ρ.at k).isObj c = true ∧ dCall con (.m k :: as) ρ Q E
def kidsR : List R → Option (List D)
  | [] => some []
  | r :: rs => (r.kid).bind fun d => (kidsR rs).map (d :: ·)
/-- [e, f, ..], what is new becomes the list's part -/
def dLstP (fs : List DE) : DE := fun ρ Q E => dVals fs ρ (fun rs ρ1 => ∃ ds, kidsR rs = some ds ∧ ds.length ≤ zaK ∧ Q (.ft (.lst ds)) ρ1) E
def R.isNew : R → Bool
  | .fr (.tup _) => false
  | .ft (.tup _) => false
  | .fr _ => true
  | .ft _ => true
  | .fz _ => false
/-- x = [(e, f), (g, h)], four new objects: phantom slots own them, x holds their handles; the rest of the block -/
def sHand (nm p0 p1 p2 p3 : Nat) (fs gs : List DE) (g : Nat → Nat → Nat → Nat → DS) : DS := fun J ρ E => dVals fs ρ (fun rs ρ1 => dVals gs ρ1 (fun ss ρ2 => (rs.length = 2 ∧ ss.length = 2 ∧ (rs ++ ss).all R.isNew = true) ∧
  ∀ a0 a1 a2 a3 : Nat, putR [(p0, true), (p1, true), (p2, true), (p3, true)] (rs ++ ss) (ρ2.set nm (.fz (.lst [.tup [.adr a0, .adr a1], .tup [.adr a2, .adr a3]]))) fun ρ3 => g a0 a1 a2 a3 J ρ3 E) E) E
/-- x + e, x the name's own list, whose parts the result takes over -/
def dCatG (i : Nat) (g : DE) : DE := fun ρ Q E => (ρ.at i).known = true ∧ g ρ (fun r ρ1 => ∃ xs ys, (ρ1.at i).lstT = some xs ∧ r = .ft (.lst ys) ∧ xs.length + ys.length ≤ zaK ∧ Q (.ft (.lst (xs ++ ys))) (ρ1.set i .no)) E
/-- the first signs of a row's texts -/
def headsT (r : List Tx) : List Tx := r.map fun t => t.take 1
/-- sorted(e, key=lambda x: [y[0] for y in x]), e a list of lists of texts -/
def dSrtH (f : DE) : DE := fun ρ Q E => f ρ (fun r ρ1 => ∃ rows : List (List Tx), r.d = .lst (rows.map rowD) ∧ (∀ row ∈ rows, ∀ t ∈ row, t ≠ []) ∧ rows.length ≤ zaK ∧ (∀ row ∈ rows, row.length ≤ zaK) ∧
  ∀ L : List (List Tx), L.Perm rows → L.Pairwise (fun a b => rowLt (headsT b) (headsT a) = false) → Q (.fr (.lst (L.map rowD))) ρ1) E
end DL

set_option Elab.async false
set_option linter.all false
set_option autoImplicit false
set_option maxRecDepth 100000
set_option maxHeartbeats 1000000
/-! DLX111: sorted(d) of a dict whose keys are tuples of ints. -/
namespace DL
open PySem PySem.Spec PyProof.Rows L2
section
variable {X : Cx} {T : Tb}
def rSrtKT : List V → Hp → VK → Prop := fun vs H Q => ∃ (a : Addr) (kvs : List (List Key × V)) (ns : List (List Int)), vs = [.ref a] ∧ Rd H a (.dT kvs) ∧ kvs.map (·.1) = ns.map (List.map Sum.inl) ∧ (∀ n ∈ ns, n ≠ []) ∧
    ∀ (L : List (Addr × List Int)) p, (L.map (·.2)).Perm ns → (∀ q ∈ L, H q.1 = some (.tup (q.2.map V.int))) → H p = none → Q (.ref p) (upd H p (.lst (L.map fun q => V.ref q.1)))
theorem RepKT.keys {K : PySem.W.Frag} {F : Hp} : ∀ {kvs : List (List Key × V)} {ds : List (List Ky × D)} {ns : List (List Int)}, RepKT K T F kvs ds → ds.map (·.1) = ns.map (List.map Ky.int) → kvs.map (·.1) = ns.map (List.map Sum.inl)
  | _, _, [], .nil, _ => rfl
  | _, _, n :: ns, .cons (k := k) z r rk, e => by
    rw [List.map_cons, List.map_cons] at e
    injection e with e1 e2
    have e1 : k = n.map Ky.int := e1
    rw [List.map_cons, List.map_cons, RepKT.keys rk e2]
    show k.map kyV :: _ = _
    rw [e1, List.map_map]
    rfl
end
end DL

set_option Elab.async false
set_option linter.all false
set_option autoImplicit false
set_option maxRecDepth 100000
set_option maxHeartbeats 1000000
/-! DLX112: walks over the pairs and the keys of a dict whose keys are tuples. -/
namespace DL
open PySem PySem.Spec PySem.Calls PyProof.Rows L2
section
variable {X : Cx} {pins : List (Addr × Obj)} {σ : L2.St} {H : Hp} {s : Shared} {d : Addr} {o : Obj}
end
/-- the pairs of the locked dict at d, each a new tuple over the key's own -/
def ItiT (d : Addr) (o : Obj) (kvs : List (List Key × V)) : It :=
  ⟨fun i H => H d = some (.frz o (.dT kvs)) ∧ i < kvs.length, fun i H x H' => ∃ t k v q, kvs[i]? = some (k, v) ∧ x = .ref t ∧ H t = none ∧ H q = some (.tup (k.map kV)) ∧ H' = upd H t (.tup [.ref q, v]), fun i H => H d = some (.frz o (.dT kvs)) ∧ kvs.length ≤ i⟩
section
variable {P : Program} {w : World} {K : PySem.W.Frag} {d : Addr} {o : Obj} {es : Array DictEntry} {ep : Nat}
end
section
variable {X : Cx} {e : Expr} {td : TE} {apos cpos : Pos}
def iItemsT (td : TE) : TI := fun σ H R => td σ H fun x H1 => ∃ d o kvs, x = .ref d ∧ H1 d = some (.frz o (.dT kvs)) ∧ R (ItiT d o kvs) H1
end
end DL

set_option Elab.async false
set_option linter.all false
set_option autoImplicit false
set_option maxRecDepth 100000
set_option maxHeartbeats 1000000
/-! DLX113: for .., [..] over the pairs and keys of a dict whose keys are tuples; sorted of it. -/
namespace DL
open PySem PySem.Spec PyProof.Rows L2
section
variable {X : Cx} {T : Tb} {B : Bs} {M : List Nat} {W : EK} {F H : Hp} {ρ : Env} {σ : L2.St}
/-! ### sorted -/
variable {e : Expr} {f : DE} {p pos : Pos}
/-! ### walks -/
abbrev WkT := Addr → Obj → List (List Key × V) → It
structure PWkT (X : Cx) (T : Tb) (B : Bs) (M : List Nat) (W : EK) (tg e : Expr) (f : DE) (J : WkT) (xs : List (List Ky × D) → List D) : Prop where
  pi : PI X tg e (fun σ H R => tLk X.H_0 (lE X.K T B M W f) σ H fun x H1 => ∃ d o kvs, x = .ref d ∧ H1 d = some (.frz o (.dT kvs)) ∧ R (J d o kvs) H1)
  ok : ∀ (F : Hp) (d : Addr) (o : Obj) (kvs : List (List Key × V)) (ds : List (List Ky × D)), RepKT X.K T F kvs ds → ItOkP X.K T F (fun _ H => H d = some (.frz o (.dT kvs))) (J d o kvs) (xs ds)
variable {tg iter : Expr} {apos cpos : Pos}
variable {J : WkT} {xs : List (List Ky × D) → List D}
end
end DL

set_option Elab.async false
set_option linter.all false
set_option autoImplicit false
set_option maxRecDepth 100000
set_option maxHeartbeats 1000000
/-! DLX118: the key of a sort: lambda x: (sum(x), x), called at a tuple of ints. -/
namespace DL
open PySem PySem.Spec PyProof.Rows L2 NdefX
theorem ldX {M : Model} {A : Around} {E : Value → Shared → Prop} {s : Shared} {q : Str} {scope : Scope} {L f : Addr} {c : Value} {cl : List (Str × Addr)} {m : Str → Option Value} {x : Str} {pos : Pos} {v : Value} {Q : Value → Shared → Prop} (hn : s.heap.Ns L m) (hv : m x = some v) (h : Q v s)
    (hk : scope.kind = .function) (hl : scope.names.lookup x = some .local) (hd : (x == ("__debug__" : Str)) = false) : wpAny M A (eval (.Name x pos) (PySem.W.envX q scope L f c cl)) Q E s :=
  wpAny_Name (wpAny_loadName_local hk hl hn hv h) hd
/-- (sum(x), x) -/
abbrev keyB (x : Str) (x1 : Nat) (p1 p2 p3 p4 p5 : Pos) : Expr := .Tuple [.Call (.Name "sum" p1) [.Name x p2] [] p3, .Name x p4] x1 p5
section
variable {P : Program} {w : World} {K : PySem.W.Frag} {mg : Str → Option Value} {base : Heap} {A : Around} {outer : List PySem.Env} {s : Shared} {H : Hp} {f c' p : Addr} {q x : Str} {params : Arguments} {scope : Scope} {pm ctv : Value} {x1 : Nat} {p1 p2 p3 p4 p5 : Pos} {us : List Value} {ns : List Int}
end
end DL

set_option Elab.async false
set_option linter.all false
set_option autoImplicit false
set_option maxRecDepth 100000
set_option maxHeartbeats 1000000
/-! DLX119: sorted(d, key=lambda x: (sum(x), x)) of a dict whose keys are tuples of ints. -/
namespace DL
open PySem PySem.Spec PyProof.Rows L2 NdefX
section
variable {X : Cx} {T : Tb}
def keyD (b : Addr × List Int) : PyData := .tuple [.int b.2.sum, .tuple (b.2.map PyData.int)]
end
end DL

set_option Elab.async false
set_option linter.all false
set_option autoImplicit false
set_option maxRecDepth 100000
set_option maxHeartbeats 1000000
/-! DLX120: sorted(x.f, key=lambda k: (sum(k), k)), x.f a part that is a dict whose keys are tuples of ints. -/
namespace DL
open PySem PySem.Spec PyProof.Rows L2 NdefX
theorem clo_nil {cells : List (Str × Addr)} {x : Str} {scope : Scope} (S : NScope [x] [x] [] scope) : cloFrom cells scope.names [] = [] := by
  refine List.eq_nil_iff_forall_not_mem.mpr fun z hz => ?_
  rcases cloFrom_mem (n := z.1) (c := z.2) hz with h | ⟨h, _⟩
  · cases h
  · exact absurd (S.free _ h rfl) (by simp)
section
variable {X : Cx} {T : Tb} {B : Bs} {M : List Nat} {W : EK} {F H : Hp} {ρ : Env} {σ : L2.St}
variable {c k : Nat} {ci : CI} {fn x y : Str} {i j : Nat} {cd P : Addr} {params : Arguments} {scope : Scope} {x1 : Nat} {px pos' pos p lpos kp p1 p2 p3 p4 p5 : Pos}
end
end DL

set_option Elab.async false
set_option linter.all false
set_option autoImplicit false
set_option maxRecDepth 100000
/-! DLX126: min of a list of texts. -/
namespace DL
open PySem PySem.Spec PyProof.Rows L2
def rMinS (X : Cx) : List V → Hp → VK → Prop := fun xs H Q => ∃ (a : Addr) (x : Tx) (ts : List Tx), xs = [.ref a] ∧ SqL X.K H a ((x :: ts).map fun t => V.str (tx t)) ∧ Q (.str (tx (minTx x ts))) H
section
variable {X : Cx} {T : Tb}
end
end DL

set_option Elab.async false
set_option linter.all false
set_option autoImplicit false
set_option maxRecDepth 100000
/-! DLX142: min of a list of lists of texts. -/
namespace DL
open PySem PySem.Spec PyProof.Rows L2
def rowS (r : List Tx) : List Str := r.map tx
def rMinR (X : Cx) : List V → Hp → VK → Prop := fun xs H Q => ∃ (a : Addr) (bs : List (Addr × List Tx)) (b : Addr × List Tx), xs = [.ref a] ∧ SqL X.K H a ((b :: bs).map fun p => V.ref p.1) ∧ (∀ p ∈ b :: bs, SqL X.K H p.1 (p.2.map fun t => V.str (tx t))) ∧
  ∀ q ∈ b :: bs, q.2 = minRow b.2 (bs.map (·.2)) → Q (.ref q.1) H
theorem rowS_lt : ∀ a b : List Tx, PySem.W.listLt (rowS a) (rowS b) = rowLt a b
  | [], [] => rfl
  | [], _ :: _ => rfl
  | _ :: _, [] => rfl
  | x :: xs, y :: ys => by
    show (if tx x = tx y then PySem.W.listLt (rowS xs) (rowS ys) else decide ((tx x).cps.toList < (tx y).cps.toList)) = (if x = y then rowLt xs ys else decide (x < y))
    rw [tx_list, tx_list, rowS_lt xs ys]
    by_cases h : x = y
    · rw [if_pos h, if_pos (congrArg tx h)]
    · rw [if_neg h, if_neg (mt tx_inj h)]
theorem refs_are : ∀ {bs : List (Addr × List Tx)} {its : List Value}, Vals (bs.map fun p => V.ref p.1) its → its = bs.map fun p => Value.ref p.1
  | [], _, r => by cases r; rfl
  | b :: bs, _, r => by
    cases r with
    | cons a c => rw [List.map_cons, ← refs_are c]; exact congrArg (· :: _) a
section
variable {X : Cx} {T : Tb}
theorem repL_rowsT {K : PySem.W.Frag} {F : Hp} : ∀ {vs : List V} {ns : List (List Tx)}, RepL K T F vs (ns.map rowD) → ∃ bs : List (Addr × List Tx), vs = (bs.map fun b => V.ref b.1) ∧ bs.map (·.2) = ns ∧ ∀ b ∈ bs, F b.1 = some (.lst (b.2.map fun t => V.str (tx t))) ∧ Rep K T F (.ref b.1) (rowD b.2)
  | _, [], .nil => ⟨[], rfl, rfl, fun b hb => nomatch hb⟩
  | _, n :: ns, .cons r rs => by
    obtain ⟨bs, rfl, h2, h3⟩ := repL_rowsT rs
    have r : Rep K T F _ (.lst (n.map .str)) := r
    obtain ⟨l, us, rfl, hp, rb⟩ := r.lst_inv
    obtain ⟨e, z⟩ := repL_strs rb
    have e : us = n.map fun t => V.str (tx t) := by rw [e, List.map_map]; rfl
    subst e
    refine ⟨(l, n) :: bs, rfl, by rw [List.map_cons, h2], fun b hb => ?_⟩
    rcases List.mem_cons.mp hb with rfl | hb
    · exact ⟨hp, r⟩
    · exact h3 b hb
end
end DL

set_option Elab.async false
set_option linter.all false
set_option autoImplicit false
set_option maxRecDepth 100000
/-! DLX148: one of two readings; methods by handles; lists whose new items become parts. -/
namespace DL
open PySem PySem.Spec PyProof.Rows L2
section
variable {X : Cx} {T : Tb} {B : Bs} {M : List Nat} {W : EK} {F H : Hp} {ρ : Env} {σ : L2.St} {e : Expr} {es : List Expr} {f g : DE}
variable {as : List DA} {x m : Str} {px pos apos : Pos} {k fa : Nat} {fd : FuncData} {ps : List Str} {con : Con} {pl : Sem Bool} {c i j n a : Nat} {ci : CI} {Mc : List Nat}
/-! ### values read at bases with the same pins -/
def lEp (K : PySem.W.Frag) (T : Tb) (P : Nat → V) (M : List Nat) (W : EK) (Wx : WX) (f : DE) : TE := fun σ H Q => ∃ B1, B1.P = P ∧ (∀ cls d σ H, lW K T B1 M W cls d σ H → Wx cls d σ H) ∧ lE K T B1 M W f σ H Q
theorem pe_p {Wx : WX} {P : Nat → V} (tk : Takes X Wx) (h : ∀ B1, B1.P = P → Takes X (lW X.K T B1 M W) → PD X T B1 M W e f) : PE X e (lEp X.K T P M W Wx f) :=
  ⟨fun pins s σ H Q I ⟨B1, hp, hw, q⟩ => (h B1 hp (Takes.imp tk hw)).run pins s σ H Q I q⟩
def tValsP (K : PySem.W.Frag) (T : Tb) (P : Nat → V) (M : List Nat) (W : EK) (Wx : WX) : List DE → TA
  | [] => tNil
  | f :: fs => tCons (lEp K T P M W Wx f) (tValsP K T P M W Wx fs)
abbrev PVP (X : Cx) (T : Tb) (B : Bs) (M : List Nat) (W : EK) (es : List Expr) (fs : List DE) : Prop := PA X es (tValsP X.K T B.P M W (lW X.K T B M W) fs)
theorem pvp_nil : PVP X T B M W [] [] := pa_nil
theorem pvp_cons {fs : List DE} (tk : Takes X (lW X.K T B M W)) (h : ∀ B1, B1.P = B.P → Takes X (lW X.K T B1 M W) → PD X T B1 M W e f) (hr : PVP X T B M W es fs) (hs : starEach (e :: es) X.env = (false, eval e X.env) :: starEach es X.env := by rfl) : PVP X T B M W (e :: es) (f :: fs) :=
  pa_cons (pe_p tk h) hr hs
theorem vals_runP {P : Nat → V} {Wx : WX} : ∀ {fs : List DE} {B : Bs} {F H : Hp} {ρ : Env} {Qd : List R → Env → Prop} {Q : List V → Hp → Prop}, B.P = P → (∀ B1, (∀ F1 H1 ρ1 σ1, SR X.K T B1 M F1 H1 ρ1 σ1 → SR X.K T B M F1 H1 ρ1 σ1) → ∀ cls d σ H, lW X.K T B1 M W cls d σ H → Wx cls d σ H) → SR X.K T B M F H ρ σ → dVals fs ρ Qd W →
    (∀ F' H' ρ' vs rs, Same F F' → SR X.K T B M F' H' ρ' σ → SR X.K T (baseAt B F H ρ σ) M F' H' ρ' σ → rs.length = fs.length → RetsV X.K T B F' H' ρ' σ vs (rs.map R.tz) → (∀ z ∈ vs.zip (rs.map R.tz), ∀ a ∈ rfoot H' z.1 z.2, H a = none) → Qd rs ρ' → Q vs H') → tValsP X.K T P M W Wx fs σ H Q
  | [], B, F, H, ρ, Qd, Q, _, _, S, h, k => k F H ρ [] [] (Same.refl _) S S.base rfl trivial (fun z hz => nomatch hz) h
  | f :: fs, B, F, H, ρ, Qd, Q, hP, hW, S, h, k => by
    have h : f ρ (fun r ρ1 => dVals fs ρ1 (fun rs ρ2 => Qd (r :: rs) ρ2) W) W := h
    refine ⟨baseAt B F H ρ σ, hP, hW _ fun _ _ _ _ z => S.trans z, F, ρ, _, S.base, h, fun F1 H1 ρ1 v r e1 S1 R1 h1 => ?_⟩
    obtain ⟨Fz, ez, S1, R1, fz0, ntz⟩ := retv_tz S1 R1
    have S1' := S.trans S1
    have R1' := retv_out S R1
    refine vals_runP hP hW S1' h1 fun F2 H2 ρ2 vs rs e2 S2' S2 hl R2 hn q => ?_
    obtain ⟨R3, fe⟩ := RetV.on S1' S2 R1' ntz
    refine k F2 H2 ρ2 (v :: vs) (r :: rs) (e1.trans (ez.trans e2)) S2' (S1.trans S2) (by simp [hl]) ⟨R3, fun a ha z hz hf => ?_, R2⟩ (fun z hz a ha => ?_) q
    · rw [fe] at ha
      exact ((R1.feet a ha).1.ne (hn z hz a hf)) rfl
    · rw [List.map_cons, List.zip_cons_cons] at hz
      rcases List.mem_cons.mp hz with rfl | hz
      · have ha : a ∈ rfoot H2 v r.tz := ha
        rw [fe] at ha
        exact (R1.feet a ha).2.1
      · exact S1.gone (hn z hz a ha)
/-! ### results that wait -/
variable {K : PySem.W.Frag}
theorem RetsV.len {B : Bs} : ∀ {vs : List V} {rs : List R}, RetsV K T B F H ρ σ vs rs → vs.length = rs.length
  | [], [], _ => rfl
  | _ :: _, _ :: _, h => congrArg (· + 1) (RetsV.len h.2.2)
  | [], _ :: _, h => h.elim
  | _ :: _, [], h => h.elim
theorem RetsV.all {B : Bs} : ∀ {vs : List V} {rs : List R}, RetsV K T B F H ρ σ vs rs → ∀ z ∈ vs.zip rs, RetV K T B F H ρ σ z.1 z.2
  | [], [], _, z, hz => nomatch hz
  | v :: vs, r :: rs, h, z, hz => by
    rw [List.zip_cons_cons] at hz
    rcases List.mem_cons.mp hz with rfl | hz
    · exact h.1
    · exact RetsV.all h.2.2 z hz
  | [], _ :: _, h, _, _ => h.elim
  | _ :: _, [], h, _, _ => h.elim
theorem RetsV.app {B : Bs} {us : List V} {ss : List R} (h2 : RetsV K T B F H ρ σ us ss) : ∀ {vs : List V} {rs : List R}, RetsV K T B F H ρ σ vs rs → (∀ z ∈ vs.zip rs, ∀ a ∈ rfoot H z.1 z.2, ∀ y ∈ us.zip ss, a ∉ rfoot H y.1 y.2) → RetsV K T B F H ρ σ (vs ++ us) (rs ++ ss)
  | [], [], _, _ => h2
  | v :: vs, r :: rs, h, d => by
    refine ⟨h.1, fun a ha z hz => ?_, RetsV.app h2 h.2.2 fun z hz => d z (by rw [List.zip_cons_cons]; exact List.mem_cons_of_mem _ hz)⟩
    have hz : z ∈ (vs ++ us).zip (rs ++ ss) := hz
    rw [List.zip_append (RetsV.len h.2.2)] at hz
    rcases List.mem_append.mp hz with hz | hz
    · exact h.2.1 a ha z hz
    · exact d (v, r) (by rw [List.zip_cons_cons]; exact List.mem_cons_self) a ha z hz
  | [], _ :: _, h, _ => h.elim
  | _ :: _, [], h, _ => h.elim
theorem kid_tz {r : R} {d : D} (h : r.kid = some d) : r.tz = r := by
  cases r with
  | fz d => rfl
  | fr d => cases d <;> first | rfl | cases h
  | ft d => cases h
theorem kid_foot {v : V} {r : R} {d : D} (R0 : RetV X.K T B F H ρ σ v r) (h : r.kid = some d) : ∀ a ∈ kidA v d, a ∈ rfoot H v r := by
  cases r with
  | fz d' => cases h; intro a ha; rw [kidA_fz (show Rep X.K T F v d from R0)] at ha; simp at ha
  | fr d' =>
    have h : some (D.prt d') = some d := by cases d' <;> first | exact h | cases h
    cases h
    obtain ⟨p, o, rfl, _⟩ := R0
    intro a ha
    exact ha
  | ft d' => cases h
theorem kids_rets : ∀ {vs : List V} {rs : List R} {ds : List D}, RetsV X.K T B F H ρ σ vs (rs.map R.tz) → kidsR rs = some ds → KidL X.K T F H vs ds ∧ (zaI vs ds).Nodup ∧ (∀ a ∈ zaI vs ds, B.H0 a = none ∧ ∀ j, a ∉ foot H (σ[j]?) (ρ.at j)) ∧ ∀ a ∈ zaI vs ds, ∃ z ∈ vs.zip (rs.map R.tz), a ∈ rfoot H z.1 z.2
  | [], [], ds, _, h => by
    cases h
    exact ⟨.nil, by simp [zaI], fun a ha => (by simp [zaI] at ha), fun a ha => (by simp [zaI] at ha)⟩
  | v :: vs, r :: rs, ds, ⟨h1, h2, h3⟩, h => by
    cases hk : r.kid with
    | none => rw [show kidsR (r :: rs) = (r.kid).bind fun d => (kidsR rs).map (d :: ·) from rfl, hk] at h; cases h
    | some d =>
      cases hr : kidsR rs with
      | none => rw [show kidsR (r :: rs) = (r.kid).bind fun d => (kidsR rs).map (d :: ·) from rfl, hk, hr] at h; cases h
      | some ds' =>
        rw [show kidsR (r :: rs) = (r.kid).bind fun d => (kidsR rs).map (d :: ·) from rfl, hk, hr] at h
        cases h
        obtain ⟨k1, k2, k3, k4⟩ := kids_rets h3 hr
        have h1' : RetV X.K T B F H ρ σ v r := by
          have := h1
          rw [kid_tz hk] at this
          exact this
        obtain ⟨q1, q2, q3⟩ := RetV.kid h1' hk
        have q4 : ∀ a ∈ kidA v d, a ∈ rfoot H v r.tz := by rw [kid_tz hk]; exact kid_foot h1' hk
        refine ⟨.cons q1 k1, ?_, fun a ha => ?_, fun a ha => ?_⟩
        · show (kidA v d ++ zaI vs ds').Nodup
          refine List.nodup_append.mpr ⟨q2, k2, fun a ha b hb z => ?_⟩
          subst z
          obtain ⟨y, hy, hay⟩ := k4 a hb
          exact h2 a (q4 a ha) y hy hay
        · rcases List.mem_append.mp (show a ∈ kidA v d ++ zaI vs ds' from ha) with ha | ha
          · exact q3 a ha
          · exact k3 a ha
        · rcases List.mem_append.mp (show a ∈ kidA v d ++ zaI vs ds' from ha) with ha | ha
          · exact ⟨(v, r.tz), by rw [List.map_cons, List.zip_cons_cons]; exact List.mem_cons_self, q4 a ha⟩
          · obtain ⟨y, hy, hay⟩ := k4 a ha
            exact ⟨y, by rw [List.map_cons, List.zip_cons_cons]; exact List.mem_cons_of_mem _ hy, hay⟩
  | [], _ :: _, _, h, _ => h.elim
  | _ :: _, [], _, h, _ => h.elim
/-- [e, f, ..], the new ones its parts -/
theorem pd_lstP {fs : List DE} (h : PVP X T B M W es fs) : PD X T B M W (.List es pos) (dLstP fs) :=
  pe_imp (pe_lst h) fun σ H Q ⟨F, ρ, Qd, S, h, k⟩ => by
    refine vals_runP (B := B) rfl (fun B1 hb cls d σ' H' ⟨F', ρ', x, S', ex, q⟩ => ⟨F', ρ', x, hb _ _ _ _ S', ex, q⟩) S h fun F' H' ρ' vs rs e S' _ hl R0 _ q => ?_
    obtain ⟨ds, hd, hm, q⟩ := q
    obtain ⟨k1, k2, k3, _⟩ := kids_rets R0 hd
    refine ⟨by rw [k1.length, ← maxTx_eq]; exact hm, fun p hp => ?_⟩
    have np : p ∉ zaI vs ds := fun z => (k1.priv p z).ne hp rfl
    have fe : ∀ i, foot (upd H' p (.lst vs)) (σ[i]?) (ρ'.at i) = foot H' (σ[i]?) (ρ'.at i) := S'.footEq fun i a ha => upd_ne ((S'.priv ha).ne hp)
    refine k F' _ ρ' (.ref p) (.ft (.lst ds)) e (S'.lay hp) ⟨p, _, rfl, S'.sub.free hp, upd_same, .lst (k1.mono (Same.refl _) fun a ha => ⟨(k1.priv a ha).1, upd_ne fun y => np (by rw [← y]; exact ha)⟩), List.nodup_cons.mpr ⟨np, k2⟩, fun a ha => ?_⟩ q
    rcases List.mem_cons.mp ha with rfl | ha
    · exact ⟨S'.fresh hp, fun i => S'.lay_new hp i⟩
    · exact ⟨(k3 a ha).1, fun i y => (k3 a ha).2 i (fe i ▸ y)⟩
end
end DL

set_option Elab.async false
set_option linter.all false
set_option autoImplicit false
set_option maxRecDepth 100000
set_option maxHeartbeats 1000000
/-! DLX151: sorted(xs, key=f) whose keys are new lists. -/
namespace PySem.W
open PySem PySem.Calls PyProof.Rows
section
variable {prog : Program} {w : World} {A : Around} {E : Value → Shared → Prop} {s : Shared}
/-- what f(x) leaves: all as it was, a key whose lists lie elsewhere than at c -/
def KeyAway (G : Shared → Prop) (c : Addr) (k : PyData) (s₁ : Shared) (v : Value) (s₂ : Shared) : Prop := G s₂ ∧ (∀ b o, s₁.heap.get? b = some o → s₂.heap.get? b = some o) ∧ ∃ as, Reads s₂.heap v k as ∧ c ∉ as
def ReadL (c : Addr) (h : Heap) (v : Value) (k : PyData) : Prop := alike k k = true ∧ ∃ as, Reads h v k as ∧ c ∉ as
/-- the list of keys under way at c, while the sorted list at a is empty -/
structure KeysSt (g0 : Heap) (a c : Addr) (n : Nat) (h : Heap) (kA : Array Value) (ks : List PyData) : Prop where
  old : KeepsBut a g0 h
  at_ : ∃ e, h.get? c = some (seqObj "list" kA e)
  src : h.get? a = some (seqObj "list" #[] n)
  rd : EachIs (ReadL c h) kA.toList ks
theorem KeysSt.push {g0 h g : Heap} {a c : Addr} {n : Nat} {kA : Array Value} {ks : List PyData} {v : Value} {k : PyData} {as : List Addr} (S : KeysSt g0 a c n h kA ks) (keep : ∀ b o, h.get? b = some o → g.get? b = some o) (r : Reads g v k as) (hn : c ∉ as) (al : alike k k = true) (fresh : g0.get? c = none) (ne : c ≠ a) :
    KeysSt g0 a c n (g.update c (Obj.mapSeq (·.push v))) (kA.push v) (ks ++ [k]) := by
  obtain ⟨e, he⟩ := S.at_
  have hc := keep _ _ he
  have sb := Heap.SameBut.update g c (Obj.mapSeq (·.push v))
  have up : ∀ (u : Value) (d : PyData), ReadL c g u d → ReadL c (g.update c (Obj.mapSeq (·.push v))) u d := fun u d ⟨q, bs, q1, q2⟩ =>
    ⟨q, bs, Reads.keepBut (a := c) (fun b o hb z => (sb.2 b hb).trans z) (fun o z => by rw [hc] at z; cases z; rfl) d u bs q q1 q2, q2⟩
  refine ⟨(S.old.trans_all keep).same sb (.inr fresh), ⟨_, get?_update_seq hc (·.push v)⟩, (sb.2 a ne.symm).trans (keep _ _ S.src), ?_⟩
  rw [Array.toList_push]
  exact each_snoc (R := ReadL c _) (up v k ⟨al, as, r, hn⟩) (S.rd.mono fun u d ⟨q, bs, q1, q2⟩ => up u d ⟨q, bs, PyProof.Rows.Reads.keeps keep q1, q2⟩)
theorem keysL_run {G : Shared → Prop} (hG : ∀ s1 h tk, G s1 → G { s1 with heap := h, toks := tk }) (gs : G s) {β : Type} {a c : Addr} {n : Nat} {f : Value} {g0 : Heap} {vs : List Value} {bs : List β} {R : Value → β → Prop} {key : β → PyData} {P : PySem.Fin → Shared → Prop} (fresh : g0.get? c = none) (ne : c ≠ a) (start : KeysSt g0 a c n s.heap #[] []) (hR : EachIs R vs bs)
    (hz : vs.length ≤ sizeLine) (hal : AllAlike (bs.map key)) (hs : Sortable (bs.map key)) (hu : ∀ d, d ∈ bs.map key → A.units + d.depth < cLine)
    (turn : ∀ (v : Value) (x : β), R v x → x ∈ bs → ∀ s1 : Shared, G s1 → KeepsBut a g0 s1.heap → (∃ kA e, s1.heap.get? c = some (seqObj "list" kA e)) → wpAny (model prog w) A (call f [v]) (KeyAway G c (key x) s1) (fun _ _ => False) s1)
    (fin : ∀ s1 out e, G s1 → KeepsBut a g0 s1.heap → s1.heap.get? a = some (seqObj "list" (List.toArray out) e) → KeyedOut false (bs.map key) vs out → P (.done (.ret .none)) s1) :
    wpAny (model prog w) A (ksk_rest a f false vs.toArray n (.ref c)) P E s := by
  have hlen := hR.length
  unfold ksk_rest
  refine wpAny_bind (wpAny_rule ?_)
  first
    | rw [List.forIn_toArray]
    | (rw [← Array.forIn_toList]; simp only [List.toList_toArray])
    | rw [← Array.forIn_toList]
  refine wpAny_bind (ksk_fold (fun i s' => G s' ∧ ∃ kA, KeysSt g0 a c n s'.heap kA ((bs.map key).take i)) vs 0 s ⟨gs, #[], start⟩ ?turns ?ends)
  case turns =>
    rintro j v s' hv ⟨g', kA, S⟩
    rw [Nat.zero_add] at S ⊢
    have hj : j < bs.length := by rw [← hlen]; exact (List.getElem?_eq_some_iff.mp hv).1
    have hx : bs[j]? = some bs[j] := List.getElem?_eq_getElem hj
    have hm : bs[j] ∈ bs := List.getElem_mem hj
    have hRx : R v bs[j] := hR.zip (v, bs[j]) (List.mem_of_getElem? (i := j) (by rw [List.getElem?_zip_eq_some]; exact ⟨hv, hx⟩))
    have hsz : kA.size ≤ vs.length := by
      have q := S.rd.length
      rw [Array.length_toList, List.length_take, List.length_map] at q
      omega
    obtain ⟨e, he⟩ := S.at_
    refine wpAny_bind (wpAny_attempt (wpAny_mono (turn v _ hRx hm s' g' S.old ⟨_, _, he⟩) (fun u s'' q => ?_) fun _ _ z => z.elim))
    obtain ⟨g2, keep, as, rd, away⟩ := q
    try dsimp only
    refine wpAny_bind (listUpdate_at (keep _ _ he) rfl ?_ (by omega) (by rw [Array.size_push]; omega))
    refine wpAny_pure ⟨rfl, hG _ _ _ g2, kA.push u, ?_⟩
    have et : (bs.map key).take (j + 1) = (bs.map key).take j ++ [key bs[j]] := by
      rw [List.take_add_one, List.getElem?_map, hx]
      rfl
    rw [et]
    exact S.push keep rd away (hal _ (List.mem_map_of_mem hm) _ (List.mem_map_of_mem hm)) fresh ne
  case ends =>
    rintro s' ⟨g', kA, S⟩
    have hall : EachIs (fun v k => ∃ as, Reads s'.heap v k as) kA.toList (bs.map key) := by
      have q := S.rd
      rw [List.take_of_length_le (by rw [List.length_map]; omega)] at q
      exact q.mono fun v k ⟨_, as, q1, _⟩ => ⟨as, q1⟩
    have hsz : kA.size = vs.length := by
      have q := hall.length
      rw [Array.length_toList, List.length_map] at q
      omega
    obtain ⟨e, he⟩ := S.at_
    try dsimp only
    refine wpAny_bind (listItems_at he rfl ?_)
    exact keyH_end (s := s') (κ := dataKind s'.heap (bs.map key)) (h₁ := g0) S.old fresh he S.src ne (SortsAt.data (s := s') hall hal hs hu) hsz hz fun h3 tk3 e3 k3 n3 => fin _ _ e3 (hG _ _ _ g') k3 n3 ⟨s'.heap, kA.toList, hal, rfl, hall⟩
/-- sorted(xs, key=f) -/
theorem sorted_lists {G : Shared → Prop} (hG : ∀ s1 h tk, G s1 → G { s1 with heap := h, toks := tk }) (gs : G s) {β : Type} {l : Addr} {f : Value} {kw : List (Str × Value)} {vs : List Value} {bs : List β} {R : Value → β → Prop} {Q : Value → Shared → Prop} (key : β → PyData) (hl : s.heap.IsList l vs.toArray) (hR : EachIs R vs bs) (hal : AllAlike (bs.map key)) (hs : Sortable (bs.map key)) (hz : bs.length ≤ sizeLine)
    (hu : ∀ x, x ∈ bs → A.units + 2 + (key x).depth < cLine) (ha1 : argsOk "sorted" ⟨[.ref l], kw⟩) (ha2 : ∀ x, argsOk "list.sort" ⟨[.ref x], kw⟩) (ht : ∀ x, Builtin.«list.sort» ⟨[.ref x], kw⟩ = ksk_tree x f false)
    (turn : ∀ (v : Value) (x : β), R v x → x ∈ bs → ∀ (c : Addr) (s1 : Shared), s.heap.get? c = none → G s1 → (∀ b o, s.heap.get? b = some o → s1.heap.get? b = some o) → (∃ kA e, s1.heap.get? c = some (seqObj "list" kA e)) → wpAny (model prog w) A.in1.in1 (call f [v]) (KeyAway G c (key x) s1) (fun _ _ => False) s1)
    (fin : ∀ out e s1, G s1 → (∀ b o, s.heap.get? b = some o → s1.heap.get? b = some o) → s.heap.get? (s.heap.objs.size + 1) = none → s1.heap.get? (s.heap.objs.size + 1) = some (seqObj "list" (List.toArray out) e) → EachIs R out (bs.mergeSort (dataLe false key)) → Q (.ref (s.heap.objs.size + 1)) s1) :
    wpAny (model prog w) A (call (.builtin "sorted") [.ref l] kw) Q E s := by
  have hz' : vs.length ≤ sizeLine := by rw [hR.length]; exact hz
  have low : ∀ {c : Addr}, (copyHeap s.heap vs).get? c = none → s.heap.get? c = none := fun {c} q => by
    cases z : s.heap.get? c with
    | none => rfl
    | some o => rw [copyHeap_old z] at q; cases q
  have up : ∀ {g : Heap}, KeepsBut (s.heap.objs.size + 1) (copyHeap s.heap vs) g → ∀ b o, s.heap.get? b = some o → g.get? b = some o := fun {g} q b o z => q b o (Nat.ne_of_lt (Nat.lt_succ_of_lt (Heap.lt_size z))) (copyHeap_old z)
  refine sorted_of_sort hl hz' ha1 ha2 fun E' => ?_
  rw [ht]
  have ho := copyHeap_at s.heap vs
  have la := Heap.lt_size ho
  generalize hg : copyHeap s.heap vs = g0 at *
  generalize ha : s.heap.objs.size + 1 = a at *
  obtain ⟨e1, ho1⟩ : ∃ e1, (g0.update a (Obj.mapSeq fun _ => (#[] : Array Value))).get? a = some (seqObj "list" #[] e1) := ⟨_, get?_update_seq ho fun _ => #[]⟩
  have hc : ((g0.update a (Obj.mapSeq fun _ => (#[] : Array Value))).push (seqObj "tuple" vs.toArray 0)).objs.size = g0.objs.size + 1 := by rw [size_push', Heap.size_update]
  unfold ksk_tree
  refine wpAny_bind (listItems_at ho rfl ?_)
  refine wpAny_bind (listUpdate_at ho rfl ?_ (by rw [List.size_toArray]; exact hz') (Nat.zero_le _))
  refine wpAny_bind (seqEpoch_at ho1 rfl ?_)
  refine wpAny_bind (wpAny_newTuple ?_ (by show vs.length ≤ _; exact hz'))
  refine wpAny_bind (wpAny_newList ?_ (Nat.zero_le _))
  refine wpAny_holding ?_
  have fresh : g0.get? ((g0.update a (Obj.mapSeq fun _ => (#[] : Array Value))).push (seqObj "tuple" vs.toArray 0)).objs.size = none := Heap.get?_none_of_le (by rw [hc]; exact Nat.le_succ _)
  refine keysL_run hG (hG s _ s.toks gs) (s := { s with heap := ((g0.update a (Obj.mapSeq fun _ => (#[] : Array Value))).push (seqObj "tuple" vs.toArray 0)).push (seqObj "list" #[] 0) }) (bs := bs) (R := R) (key := key) fresh (by rw [hc]; exact Nat.ne_of_gt (Nat.lt_succ_of_lt la))
    ⟨fun b o hb q => ?_, ⟨0, Heap.get?_push_size _ rfl⟩, Heap.get?_push_of_some _ (Heap.get?_push_of_some _ ho1), .nil⟩ hR hz' hal hs (bound_map (A := A.in1.in1) hu) (fun v x q1 q2 s1 g1 q3 q4 => turn v x q1 q2 _ s1 (low fresh) g1 (up q3) q4) fun s1 out e g1 q1 q2 q3 => ⟨rfl, ?_⟩
  · exact Heap.get?_push_of_some _ (Heap.get?_push_of_some _ (((Heap.SameBut.update g0 a (Obj.mapSeq fun _ => (#[] : Array Value))).2 b hb).trans q))
  · exact fin out e s1 g1 (up q1) (by rw [← ha]; exact Heap.get?_none_of_le (Nat.le_succ _)) q2 (keyedOut_each key q3 hR)
end
end PySem.W

set_option Elab.async false
set_option linter.all false
set_option autoImplicit false
set_option maxRecDepth 100000
set_option maxHeartbeats 1000000
/-! DLX152: the key of a sort: lambda x: [y[0] for y in x], called at a list of texts. -/
namespace DL
open PySem PySem.Spec PyProof.Rows L2 NdefX
/-- [y[0] for y in x] -/
abbrev keyHd (x y : Str) (kd : Nat) (p1 p2 p3 p4 p5 p6 : Pos) (sc : Scope) : Expr := .ListComp (.Subscript (.Name y p1) (.Constant (.int 0) kd p2) p3) [⟨.Name y p4, .Name x p5, [], 0⟩] sc p6
/-- texts, whatever their tokens -/
def TxAre (us : List Value) (ts : List Tx) : Prop := PySem.W.EachIs (fun (v : Value) (t : Tx) => ∃ k, v = .str (tx t) k) us ts
theorem at_head {c : Nat} {t : Tx} : (seqIndex? 0 (tx (c :: t)).length).bind ((tx (c :: t)).cps[·]?) = some c := by
  have hl : (tx (c :: t)).length = t.length + 1 := by rw [tx_len]; rfl
  rw [hl]
  unfold seqIndex?
  simp [tx]
section
variable {P : Program} {w : World} {A : Around} {s : Shared} {f c' l : Addr} {q x y : Str} {params : Arguments} {scope sc : Scope} {pm ctv : Value} {kd : Nat} {p1 p2 p3 p4 p5 p6 : Pos} {us : List Value} {ts : List Tx}
theorem key_turnL (lim : s.heap.NoLimit) (hd : A.handled = none) (hroom : A.depth < recursionLimit) (S : NScope [x] [x] [] scope) (hx : (x == ("__debug__" : Str)) = false) (hy : (y == ("__debug__" : Str)) = false)
    (hclos : ∀ L f : Addr, closureFor sc (PySem.W.envX q scope L f (.ref c') []) = pure []) (hcell : ∀ z ∈ sc.names, z.2 ≠ .cell) (hkind : sc.kind = .function) (hnames : ∀ z ∈ sc.names, z.2 = .local → sc.names.lookup z.1 = some .local) (hyl : sc.names.lookup y = some .local)
    (hb : ∀ v, bindArgs (PySem.W.kla_fn "<lambda>" q params (keyHd x y kd p1 p2 p3 p4 p5 p6 sc) scope [] pm (.ref c') ctv) ⟨[v], []⟩ = pure [(x, v)])
    (ho : s.heap.get? f = some (PySem.W.kla_obj "<lambda>" q params (keyHd x y kd p1 p2 p3 p4 p5 p6 sc) scope [] pm c' ctv)) (hcd : s.heap.CodeRec (.ref c') q)
    (hl : s.heap.IsList l us.toArray) (hu : TxAre us ts) (hne : ∀ t ∈ ts, t ≠ []) (hz : us.length ≤ sizeLine) :
    codeAny (model P w) A (.call (.ref f) ⟨[.ref l], []⟩) (fun r s' => match r with | .ok (.ret v) => ∃ g tk D vs, s' = { s with heap := g, toks := tk } ∧ v = .ref D ∧ (∀ b o, s.heap.get? b = some o → g.get? b = some o) ∧ s.heap.get? D = none ∧ g.PlainList D (List.toArray vs) ∧ TxAre vs (ts.map fun t => t.take 1) | _ => False) s := by
  refine PySem.W.kla_callFunE hroom ho rfl S.co S.gen rfl hcd ?_
  rw [hb]
  refine wpAny_pure (wpAny_newFunctionEnv S.nocell (fun y hy => by rw [List.mem_singleton.mp hy]; exact S.par x List.mem_cons_self) (fun h₁ hns hsb => ⟨lim.fresh _ hsb, ?_⟩) S.kind)
  have kp : ∀ b o, s.heap.get? b = some o → h₁.get? b = some o := fun b o e => hsb.extBut b o (Nat.ne_of_lt (Heap.lt_size e)) (Heap.get?_push_of_some _ e)
  show codeAny _ _ (.expr (keyHd x y kd p1 p2 p3 p4 p5 p6 sc) (PySem.W.envX q scope s.heap.objs.size f (.ref c') [])) _ _
  refine PySem.W.kla_codeExpr ?_
  have hl1 : h₁.IsList l us.toArray := hl.at fun o e => kp l o e
  have hll : l < s.heap.objs.size := by obtain ⟨o, ho, _⟩ := hl; exact Heap.lt_size ho
  have hlk : ([(x, Value.ref l)].reverse).lookup x = some (.ref l) := by simp [List.lookup]
  have hdA : (A.deeper (PySem.W.envX q scope s.heap.objs.size f (.ref c') [])).handled = none := hd
  have hs1 : s.heap.objs.size ≤ h₁.objs.size := by
    obtain ⟨o, _, _, ho1, _⟩ := hns
    exact Nat.le_of_lt (Heap.lt_size ho1)
  refine ListComp_goes (hclos _ _) hcell hkind hnames (ldX hns hlk ?_ S.kind (S.par x List.mem_cons_self) hx) (fun x => rfl)
  have hll1 : l < h₁.objs.size := Nat.lt_of_lt_of_le hll hs1
  refine wpAny_pyIter_list hl1 ?_
  refine ⟨_, _, _, _, _, _, rfl, Goes.list hdA h₁.objs.size l (Nat.ne_of_lt hll1) us.toArray, by rw [List.size_toArray]; exact hz, ⟨⟨_, Heap.get?_push_size _ rfl, rfl, rfl⟩, hl1.at fun o e => Heap.get?_push_of_some _ e⟩, fun b hb => ?_, fun D C s₃ hB => ?_⟩
  · show b < (h₁.push _).objs.size
    rw [Heap.size_push]
    simp only [List.mem_cons, List.not_mem_nil, or_false] at hb
    rcases hb with rfl | rfl
    · exact Nat.lt_succ_self _
    · exact Nat.lt_succ_of_lt hll1
  obtain ⟨⟨h₃, tk₃, rfl⟩, old, nD, nC, hDC, hnm⟩ := hB
  have nC1 : h₁.objs.size + 1 ≤ C := by have : (h₁.push _).objs.size ≤ C := nC; rw [Heap.size_push] at this; exact this
  have nD1 : h₁.objs.size + 1 ≤ D := by have : (h₁.push _).objs.size ≤ D := nD; rw [Heap.size_push] at this; exact this
  have kinds : (compEnvC sc [] C (PySem.W.envX q scope s.heap.objs.size f (.ref c') [])).kindOf y = some .local := lookup_relabel_local hyl
  have hp : ((compEnvC sc [] C (PySem.W.envX q scope s.heap.objs.size f (.ref c') [])).scope.kind == .class || ((compEnvC sc [] C (PySem.W.envX q scope s.heap.objs.size f (.ref c') [])).scope.kind == .module && (compEnvC sc [] C (PySem.W.envX q scope s.heap.objs.size f (.ref c') [])).locals != (compEnvC sc [] C (PySem.W.envX q scope s.heap.objs.size f (.ref c') [])).globals)) = false := by
    show (sc.kind == .class || (sc.kind == .module && _)) = false
    rw [hkind]; rfl
  have hck : (compEnvC sc [] C (PySem.W.envX q scope s.heap.objs.size f (.ref c') [])).scope.kind = .function := hkind
  have old0 : ∀ b o, s.heap.get? b = some o → h₃.get? b = some o := fun b o e => old b o (Heap.get?_push_of_some _ (kp b o e))
  have offD : ∀ {b : Addr}, b < s.heap.objs.size → b ≠ D ∧ b ≠ C ∧ b ≠ h₁.objs.size := fun {b} hb => ⟨by have : (b : Nat) < s.heap.objs.size := hb; intro z; rw [z] at this; exact absurd (Nat.lt_of_lt_of_le this hs1) (Nat.not_lt.mpr (Nat.le_trans (Nat.le_succ _) nD1)), by have : (b : Nat) < s.heap.objs.size := hb; intro z; rw [z] at this; exact absurd (Nat.lt_of_lt_of_le this hs1) (Nat.not_lt.mpr (Nat.le_trans (Nat.le_succ _) nC1)), Nat.ne_of_lt (Nat.lt_of_lt_of_le hb hs1)⟩
  refine ⟨fun i vs s₁ => ∃ h' tk m, s₁ = { s with heap := h', toks := tk } ∧ h'.Ns C m ∧ TxAre vs ((ts.map fun t => t.take 1).take i) ∧ ∀ b o, s.heap.get? b = some o → h'.get? b = some o, ⟨h₃, tk₃, _, rfl, hnm, by rw [List.take_zero]; exact .nil, old0⟩, ?_, ?_, ?_⟩
  · rintro i vs s₁ h' tk ⟨h₄, tk₄, m, rfl, n₄, e₄, k₄⟩ hk' _
    have off : ∀ b : Addr, b ≠ D → b ≠ h₁.objs.size → b ∉ D :: [h₁.objs.size] := fun b h1 h2 z => by
      simp only [List.mem_cons, List.not_mem_nil, or_false] at z
      exact z.elim h1 h2
    refine ⟨h', tk, m, rfl, n₄.at' fun o e => hk' _ o (off C (Ne.symm hDC) (fun z => absurd nC1 (by rw [z]; exact Nat.not_succ_le_self _))) e, e₄, fun b o e => hk' b o ?_ (k₄ b o e)⟩
    exact off b (offD (Heap.lt_size e)).1 (offD (Heap.lt_size e)).2.2
  · rintro i v vs s₁ hi hv st ⟨h₄, tk₄, m, rfl, n₄, e₄, k₄⟩ hpl
    have hi' : i < us.length := by rw [List.size_toArray] at hi; exact hi
    have hvi : us[i]? = some v := by simpa using hv
    have htl : us.length = ts.length := hu.length
    have hti : ts[i]? = some ts[i] := List.getElem?_eq_getElem (by omega)
    obtain ⟨k, ev⟩ := hu.zip (v, ts[i]) (List.mem_of_getElem? (i := i) (by rw [List.getElem?_zip_eq_some]; exact ⟨hvi, hti⟩))
    have ev : v = .str (tx ts[i]) k := ev
    have hn := hne _ (List.getElem_mem (by omega : i < ts.length))
    generalize ht : ts[i] = t at *
    cases t with
    | nil => exact absurd rfl hn
    | cons c t =>
    refine wpAny_assign_Name (wpAny_storeName_local kinds n₄ (fun h₅ n₅ s₅ => ?_) hp)
    refine wpAny_tests_nil ?_
    show wpAny _ _ _ _ _ _
    have up₅ : ∀ b o, b ≠ C → h₄.get? b = some o → h₅.get? b = some o := fun b o hb e => s₅.extBut _ _ hb e
    refine wpAny_Subscript_Constant_late ?_ (fun o r => rfl)
    rw [eval_Name _ _ _ hy]
    refine wpAny_bind (wpAny_standAt (wpAny_loadName_local hck kinds n₅ (v := v) (by simp) ?_))
    refine wpAny_Constant_int ?_
    rw [ev]
    refine ⟨"str", _, F.slot_str_getitem.lookup, typeIs_str _ _ _, getItem_str (by decide) at_head ?_⟩
    refine ⟨⟨h₅, _, _, rfl, n₅, ?_, fun b o e => up₅ b o (offD (Heap.lt_size e)).2.1 (k₄ b o e)⟩, ?_, hpl.at fun o e => up₅ _ o hDC e⟩
    · have et : (ts.map fun t => t.take 1).take (i + 1) = (ts.map fun t => t.take 1).take i ++ [[c]] := by
        rw [List.take_add_one, List.getElem?_map, hti]
        rfl
      rw [et]
      exact PySem.W.each_snoc (R := fun (v : Value) (t : Tx) => ∃ k, v = .str (tx t) k) ⟨_, rfl⟩ e₄
    · obtain ⟨z1, z2⟩ := st
      exact ⟨z1.at fun o e => up₅ _ o (fun z => absurd nC1 (by rw [← z]; exact Nat.not_succ_le_self _)) e, z2.at fun o e => up₅ _ o (offD hll).2.1 e⟩
  · rintro vs s₁ ⟨h₄, tk₄, m, rfl, n₄, e₄, k₄⟩ hpl
    refine ⟨m, n₄, fun h' hs' => ⟨h', tk₄, D, vs, rfl, rfl, fun b o e => hs'.extBut b o (offD (Heap.lt_size e)).2.1 (k₄ b o e), Heap.get?_none_of_le (Nat.le_trans hs1 (Nat.le_trans (Nat.le_succ _) nD1)), hpl.extBut hs'.extBut hDC, ?_⟩⟩
    have : us.toArray.size = (ts.map fun t => t.take 1).length := by rw [List.size_toArray, List.length_map]; exact hu.length
    rw [this, List.take_length] at e₄
    exact e₄
end
end DL

set_option Elab.async false
set_option linter.all false
set_option autoImplicit false
set_option maxRecDepth 100000
set_option maxHeartbeats 1000000
/-! DLX153: sorted(e, key=lambda x: [y[0] for y in x]); x + e, the parts of the name's own list go over. -/
namespace DL
open PySem PySem.Spec PyProof.Rows L2 NdefX
theorem each_refsG {β : Type} : ∀ (bs : List (Addr × β)), PySem.W.EachIs (fun (v : Value) (b : Addr × β) => v = .ref b.1) (bs.map fun b => Value.ref b.1) bs
  | [] => .nil
  | _ :: bs => .cons rfl (each_refsG bs)
theorem refs_eachG {β : Type} : ∀ {out : List Value} {L : List (Addr × β)}, PySem.W.EachIs (fun (v : Value) (b : Addr × β) => v = .ref b.1) out L → Vals (L.map fun q => V.ref q.1) out
  | _, _, .nil => .nil
  | _, _, .cons e r => .cons e (refs_eachG r)
theorem txs_are : ∀ {ts : List Tx} {us : List Value}, Vals (ts.map fun t => V.str (tx t)) us → TxAre us ts
  | [], _, .nil => .nil
  | t :: ts, _, .cons r q => by
    obtain ⟨k, rfl⟩ := r
    exact .cons ⟨k, rfl⟩ (txs_are q)
theorem reads_txs {h : Heap} : ∀ {us : List Value} {ts : List Tx}, TxAre us ts → ReadsAll h us ((ts.map tx).map PyData.str) []
  | _, _, .nil => .nil
  | _, _, .cons (b := t) e r => by
    obtain ⟨k, rfl⟩ := e
    exact ReadsAll.cons (as := []) (bs := []) (.str (tx t) k) (reads_txs r)
def keyHD (b : Addr × List Tx) : PyData := .list ((rowS (headsT b.2)).map PyData.str)
theorem keyHD_eq (b : Addr × List Tx) : keyHD b = PySem.W.Datum.toD (rowS (headsT b.2)) := rfl
theorem keyHD_le {a b : Addr × List Tx} (h : PySem.W.dataLe false keyHD a b = true) : rowLt (headsT b.2) (headsT a.2) = false := by
  have h : (!PySem.W.dataLt (keyHD b) (keyHD a)) = true := h
  rw [keyHD_eq, keyHD_eq, PySem.W.DatumOrd.lt_eq] at h
  have h : (!PySem.W.listLt (rowS (headsT b.2)) (rowS (headsT a.2))) = true := h
  rw [rowS_lt] at h
  simpa using h
section
variable {X : Cx} {T : Tb} {pins : List (Addr × Obj)} {s : Shared} {σ : L2.St} {H : Hp} {Q : VK} {f c' a : Addr} {q x y : Str} {params : Arguments} {scope sc : Scope} {pm ctv : Value} {kd : Nat} {p1 p2 p3 p4 p5 p6 : Pos} {bs : List (Addr × List Tx)}
theorem call_srtH (hu : X.A.units + 64 < cLine) (hc : X.calm = true) (hroom : X.A.in1.in1.depth < recursionLimit) (I : Inv X pins σ H s)
    (S : NScope [x] [x] [] scope) (hx : (x == ("__debug__" : Str)) = false) (hy : (y == ("__debug__" : Str)) = false)
    (hclos : ∀ L f : Addr, closureFor sc (PySem.W.envX q scope L f (.ref c') []) = pure []) (hcell : ∀ z ∈ sc.names, z.2 ≠ .cell) (hkind : sc.kind = .function) (hnames : ∀ z ∈ sc.names, z.2 = .local → sc.names.lookup z.1 = some .local) (hyl : sc.names.lookup y = some .local)
    (hb : ∀ v, bindArgs (PySem.W.kla_fn "<lambda>" q params (keyHd x y kd p1 p2 p3 p4 p5 p6 sc) scope [] pm (.ref c') ctv) ⟨[v], []⟩ = pure [(x, v)])
    (hof : s.heap.get? f = some (PySem.W.kla_obj "<lambda>" q params (keyHd x y kd p1 p2 p3 p4 p5 p6 sc) scope [] pm c' ctv)) (hcd : s.heap.CodeRec (.ref c') q)
    (hs : SqL X.K H a (bs.map fun b => V.ref b.1)) (hrow : ∀ b ∈ bs, SqL X.K H b.1 (b.2.map fun t => V.str (tx t))) (hne : ∀ b ∈ bs, ∀ t ∈ b.2, t ≠ []) (hz : bs.length ≤ sizeLine) (hz2 : ∀ b ∈ bs, b.2.length ≤ sizeLine)
    (k : ∀ (L : List (Addr × List Tx)) p, L.Perm bs → L.Pairwise (fun u v => rowLt (headsT v.2) (headsT u.2) = false) → H p = none → Q (.ref p) (upd H p (.lst (L.map fun q => V.ref q.1)))) :
    wpAny (model X.prog X.w) X.A (call (.builtin "sorted") [.ref a] [(Str.ofString "key", .ref f)]) (EP X pins σ Q) X.xe s := by
  obtain ⟨its, rv, hl, _⟩ := I.list hs
  have e0 := refs_are rv
  subst e0
  have lim : s.heap.NoLimit := I.nolimit
  refine PySem.W.sorted_lists (G := fun s1 => ∃ h tk, s1 = { s with heap := h, toks := tk }) (fun s1 h tk ⟨_, _, e⟩ => ⟨h, tk, by rw [e]⟩) ⟨_, _, rfl⟩ (R := fun (v : Value) (b : Addr × List Tx) => v = .ref b.1) (bs := bs) keyHD hl.isList (each_refsG bs) ?_ ?_ hz ?_ (PyProof.Rows.ksk_s1 _ _) (fun x => PyProof.Rows.ksk_l1 _ _) (fun x => PyProof.Rows.ksk_t1 _ _) ?_ ?_
  · exact PySem.W.AllAlike.of fun b b' => by rw [keyHD_eq, keyHD_eq]; exact PySem.W.DatumOrd.alike _ _
  · exact PySem.W.Sortable.others fun b => ⟨(fun z => nomatch z), fun xs z => nomatch z⟩
  · intro y _
    have d1 : (keyHD y).depth ≤ 1 := by
      have dz : ∀ l : List Str, PyData.depthAll (l.map PyData.str) = 0 := by
        intro l
        induction l with
        | nil => rfl
        | cons x l ih => rw [List.map_cons]; unfold PyData.depthAll; rw [ih]; rfl
      unfold keyHD PyData.depth
      rw [dz]
      decide
    omega
  · intro v b hv hm c s1 hc0 ⟨h, tk, e1⟩ keep ⟨kA, en, hck⟩
    subst hv
    subst e1
    obtain ⟨its2, rv2, hl2, hlen2⟩ := I.list (hrow b hm)
    have hlb : h.IsList b.1 its2.toArray := hl2.isList.at fun o e => keep _ _ e
    refine wpAny_call (codeAny_mono (key_turnL (s := { s with heap := h, toks := tk }) (lim.keeps keep) (I.ok.hd hc) hroom S hx hy hclos hcell hkind hnames hyl hb (keep _ _ hof) (hcd.keeps keep) hlb (txs_are rv2) (hne b hm) (by rw [← rv2.length, List.length_map]; exact hz2 b hm)) fun r s' z => ?_)
    match r, z with
    | .ok (.ret u), ⟨g, tk2, D, vs, e2, e3, k2, n2, pl, ta⟩ =>
      subst e3
      subst e2
      refine ⟨⟨g, tk2, rfl⟩, k2, [D], ?_, fun z => ?_⟩
      · obtain ⟨n, ho⟩ := pl
        exact Reads.list ho rfl rfl (reads_txs ta)
      · rw [List.mem_singleton] at z
        subst z
        have n2 : h.get? c = none := n2
        have hck : h.get? c = _ := hck
        rw [n2] at hck
        cases hck
  · rintro out e s1 ⟨h, tk, rfl⟩ keep fresh hD ho2
    have g2 := List.mergeSort_perm bs (PySem.W.dataLe false keyHD)
    have g3 : (bs.mergeSort (PySem.W.dataLe false keyHD)).Pairwise (fun u v => rowLt (headsT v.2) (headsT u.2) = false) :=
      (List.pairwise_mergeSort (PySem.W.sortLe_total _ _ _).trans (fun a b => by rw [Bool.or_eq_true]; exact (PySem.W.sortLe_total _ _ _).total a b) bs).imp fun h => keyHD_le h
    generalize bs.mergeSort (PySem.W.dataLe false keyHD) = L at g2 g3 ho2
    have n1 : (L.map fun q => V.ref q.1).length ≤ sizeLine := by rw [List.length_map, g2.length_eq]; exact hz
    refine ⟨.ref _, upd H (s.heap.objs.size + 1) (.lst (L.map fun q => V.ref q.1)), ?_, rfl, k L _ g2 g3 (I.hok.fresh (Nat.le_succ _))⟩
    exact I.laid (t' := tk) (fun b u z => keep b u z) (Nat.le_succ _) ⟨n1, out, e, refs_eachG ho2, hD⟩
variable {B : Bs} {M : List Nat} {W : EK} {F : Hp} {ρ : Env} {k i : Nat} {cd P : Addr} {e b : Expr} {fe g : DE} {px pos p lpos kp : Pos}
theorem rows_back {K : PySem.W.Frag} {F : Hp} : ∀ {L : List (Addr × List Tx)}, (∀ b ∈ L, Rep K T F (.ref b.1) (rowD b.2)) → RepL K T F (L.map fun q => V.ref q.1) ((L.map (·.2)).map rowD)
  | [], _ => .nil
  | b :: L, h => .cons (h b List.mem_cons_self) (rows_back fun x hx => h x (List.mem_cons_of_mem _ hx))
theorem pd_srtH (hu : X.A.units + 64 < cLine) (hr : RoomG k X.A) (hc : X.calm = true) (ML : MkL X T cd P) (hg : Gl X "sorted") (hm : X.mg "sorted" = none) (S : NScope [x] [x] [] scope) (hdef : defaultsOf params X.env = ([], []))
    (hclos : ∀ (q : Str) (L f : Addr) (c' : Addr), closureFor sc (PySem.W.envX q scope L f (.ref c') []) = pure []) (hcell : (sc.names.all fun z => z.2 != .cell) = true) (hkind : sc.kind = .function) (hnames : (sc.names.all fun z => sc.names.lookup z.1 == some z.2) = true) (hyl : sc.names.lookup y = some .local)
    (hbind : ∀ (q : Str) (pm cv ctv v : Value), bindArgs (PySem.W.kla_fn "<lambda>" q params (keyHd x y kd p1 p2 p3 p4 p5 p6 sc) scope [] pm cv ctv) ⟨[v], []⟩ = pure [(x, v)]) (he : PD X T B M W e fe)
    (hx0 : (x == ("__debug__" : Str)) = false := by decide) (hy0 : (y == ("__debug__" : Str)) = false := by decide)
    (hse : backTo pos (starEach [e] X.env) = (false, eval e X.env) :: backTo pos (starEach [] X.env) := by rfl)
    (hplain : (backTo pos (starEach [e] X.env)).any (·.1) = false := by rfl)
    (hall : (backToKw pos (keywordEach [⟨some "key", .Lambda params (keyHd x y kd p1 p2 p3 p4 p5 p6 sc) scope lpos, kp⟩] X.env)).all (·.1.isSome) = true := by rfl)
    (hkw : (backToKw pos (keywordEach [⟨some "key", .Lambda params (keyHd x y kd p1 p2 p3 p4 p5 p6 sc) scope lpos, kp⟩] X.env)).any (·.1.isNone) = false := by rfl)
    (hks : (backToKw pos (keywordEach [⟨some "key", .Lambda params (keyHd x y kd p1 p2 p3 p4 p5 p6 sc) scope lpos, kp⟩] X.env)).filterMap (·.1) = [Str.ofString "key"] := by rfl) :
    PD X T B M W (.Call (.Name "sorted" p) [e] [⟨some "key", .Lambda params (keyHd x y kd p1 p2 p3 p4 p5 p6 sc) scope lpos, kp⟩] pos) (dSrtH fe) := by
  refine ⟨fun pins s σ H Q I ⟨F, ρ, Qd, S0, h, k⟩ => ?_⟩
  have h : fe ρ (fun r ρ1 => ∃ rows : List (List Tx), r.d = .lst (rows.map rowD) ∧ (∀ row ∈ rows, ∀ t ∈ row, t ≠ []) ∧ rows.length ≤ zaK ∧ (∀ row ∈ rows, row.length ≤ zaK) ∧
    ∀ L : List (List Tx), L.Perm rows → L.Pairwise (fun a b => rowLt (headsT b) (headsT a) = false) → Qd (.fr (.lst (L.map rowD))) ρ1) W := h
  refine wpAny_Call_Name_kw (ld_blt I hg hm rfl ?_)
  refine callWith_kw ?_ hse hplain hall hkw
  rw [hse]
  refine Calls.spliced_cons (thn (he.run pins s σ H (fun v H1 => ∃ F1 ρ1 r, Same F F1 ∧ SR X.K T B M F1 H1 ρ1 σ ∧ Rep X.K T F1 v r.d ∧ ∃ rows : List (List Tx), r.d = .lst (rows.map rowD) ∧ (∀ row ∈ rows, ∀ t ∈ row, t ≠ []) ∧ rows.length ≤ zaK ∧ (∀ row ∈ rows, row.length ≤ zaK) ∧
    ∀ L : List (List Tx), L.Perm rows → L.Pairwise (fun a b => rowLt (headsT b) (headsT a) = false) → Qd (.fr (.lst (L.map rowD))) ρ1) I (zaL S0 h fun F1 H1 ρ1 v r e1 S1 R1 q => ⟨F1, ρ1, r, e1, S1, R1, q⟩)) ?_)
  rintro u s1 ⟨v, H1, I1, r1, F1, ρ1, r, e1, S1, R1, rows, hd, hne, hz, hz2, q⟩
  rw [hd] at R1
  obtain ⟨l, us, rfl, hp, ra⟩ := R1.lst_inv
  obtain ⟨bs, rfl, e2, h3⟩ := repL_rowsT ra
  obtain rfl : u = Value.ref l := r1
  refine Calls.spliced_nil ?_
  rw [hks]
  show wpAny _ _ (evalAll [(do let v ← eval (.Lambda params (keyHd x y kd p1 p2 p3 p4 p5 p6 sc) scope lpos) X.env; standAt pos; pure v)]) _ _ _
  refine wpAny_evalAll_cons (wpAny_bind (lam_new I1 ML.tab ML.code ML.mem ML.one S1.tabs.1 hdef (fun n hn e => absurd (S.free n hn e) (by simp)) fun f d pm ctv H2 s2 I2 g1 hof nf out hco => wpAny_bind (wpAny_standAt (wpAny_pure (wpAny_evalAll_nil ?_)))))
  rw [clo_nil S] at hof
  have S2 := S1.lam g1
  have inR : ∀ b ∈ bs, b.2 ∈ rows := fun b hb => by rw [← e2]; exact List.mem_map_of_mem hb
  refine call_srtH hu hc hr.rm.in1.in1.depth I2 S hx0 hy0 (hclos _ · · _) (fun z hz => by have := List.all_eq_true.mp hcell z hz; simpa using this) hkind (fun z hz hl => by have := List.all_eq_true.mp hnames z hz; rw [hl] at this; simpa using this) hyl (hbind _ _ _ _) hof (codeO_at I2.hok hco) (.of (S2.sub _ _ hp)) (fun b hb => .of (S2.sub _ _ (h3 b hb).1)) (fun b hb t ht => hne _ (inR b hb) t ht) (by rw [← maxTx_eq]; have := congrArg List.length e2; rw [List.length_map] at this; omega) (fun b hb => by rw [← maxTx_eq]; exact hz2 _ (inR b hb)) fun L r hL hs np => ?_
  refine lE_end k e1 S2 (.fr np (.lst (rows_back fun b hb => (h3 b (hL.mem_iff.mp hb)).2))) (q _ (e2 ▸ hL.map _) (List.pairwise_map.mpr hs))
/-- x + e: x's parts go over -/
theorem pd_catG (hB : ∀ k p, B.O1 k p → k ∈ M) (hi : i ∉ M) (hN : X.N[i]? = some x) (hv : Vis X.env.scope x) (hb : PD X T B M W b g) (hd : (x == ("__debug__" : Str)) = false := by decide) (hcd : (x == ("__classdict__" : Str)) = false := by decide) :
    PD X T B M W (.BinOp (.Name x px) .Add b pos) (dCatG i g) :=
  pe_imp (pe_op op_cat (pe_var hN hv hd hcd) hb) fun σ H Q ⟨F, ρ, Qd, S, ⟨h0, h⟩, k⟩ => by
    obtain ⟨v, ev⟩ := S.known h0
    refine ⟨v, ev, F, ρ, _, S, h, fun F1 H1 ρ1 w r e1 S1 R1 ⟨xs, ys, hx, hr, hl, q⟩ => ?_⟩
    subst hr
    obtain ⟨p, vs, ep, hF, hH, k1, nd1, ft1, hlt⟩ := S1.lstAt hx
    rw [ev] at ep
    cases ep
    obtain ⟨p2, ws, rfl, hF2, hH2, k2, nd2, hn2, ft2⟩ := ft_lst R1
    have nd1' := List.nodup_cons.mp nd1
    have nd2' := List.nodup_cons.mp nd2
    refine ⟨p, p2, vs, ws, rfl, rfl, hH, hH2, by rw [k1.length, k2.length, ← maxTx_eq]; exact hl, fun z hz => ?_⟩
    have e1' : zaI (vs ++ ws) (xs ++ ys) = zaI vs xs ++ zaI ws ys := kidsA_app k1.length
    have kk : KidL X.K T F1 H1 (vs ++ ws) (xs ++ ys) := k1.append k2
    have nz : z ∉ zaI (vs ++ ws) (xs ++ ys) := fun q => (kk.priv z q).ne hz rfl
    obtain ⟨S2, fr⟩ := S1.forget i
    rw [ft1] at fr
    have sub : ∀ j a, a ∈ foot H1 (σ[j]?) (Env.at (ρ1.set i .no) j) → a ∈ foot H1 (σ[j]?) (ρ1.at j) := fun j a ha => by
      by_cases hj : i = j
      · subst hj; rw [Env.at_set_same hlt, foot_no] at ha; simp at ha
      · rw [Env.at_set_ne hj] at ha; exact ha
    have fe : ∀ j, foot (upd H1 z (.lst (vs ++ ws))) (σ[j]?) (Env.at (ρ1.set i .no) j) = foot H1 (σ[j]?) (Env.at (ρ1.set i .no) j) := S2.footEq fun j a ha => upd_ne ((S2.priv ha).ne hz)
    refine k F1 _ _ (.ref z) (.ft (.lst (xs ++ ys))) e1 (S2.lay hz) ⟨z, _, rfl, S2.sub.free hz, upd_same, .lst (kk.mono (Same.refl _) fun a ha => ⟨(kk.priv a ha).1, upd_ne fun y => nz (by rw [← y]; exact ha)⟩), ?_, fun a ha => ?_⟩ q
    · refine List.nodup_cons.mpr ⟨nz, ?_⟩
      show (zaI (vs ++ ws) (xs ++ ys)).Nodup
      rw [e1']
      exact List.nodup_append.mpr ⟨nd1'.2, nd2'.2, fun a ha b hb y => (hn2 b (List.mem_cons_of_mem _ hb)).2 i (by rw [ft1, ← y]; exact List.mem_cons_of_mem _ ha)⟩
    · rcases List.mem_cons.mp ha with rfl | ha
      · exact ⟨S2.fresh hz, fun j => S2.lay_new hz j⟩
      · have ha : a ∈ zaI (vs ++ ws) (xs ++ ys) := ha
        rw [e1'] at ha
        rcases List.mem_append.mp ha with q | q
        · refine ⟨?_, fun j y => fr a (List.mem_cons_of_mem _ q) j (fe j ▸ y)⟩
          rcases S1.newF i a (by rw [ft1]; exact List.mem_cons_of_mem _ q) with z | z
          · exact z
          · exact absurd (hB i a z) hi
        · exact ⟨(hn2 a (List.mem_cons_of_mem _ q)).1, fun j y => (hn2 a (List.mem_cons_of_mem _ q)).2 j (sub j a (fe j ▸ y))⟩
end
end DL

set_option Elab.async false
set_option linter.all false
set_option autoImplicit false
set_option maxRecDepth 100000
/-! DLX154: a comprehension whose items are parts, stored by its name before the loop's variables are let go. -/
namespace DL
open PySem PySem.Spec PyProof.Rows L2
section
variable {X : Cx} {T : Tb} {B : Bs} {M : List Nat} {W : EK}
variable {elt tg iter : Expr} {ifs : List Expr} {scope : Scope} {own : List (Str × Nat)} {pos : Pos} {it : DI} {t : Tgt} {tt : DT} {g : DE}
theorem pds_setLcPO {i : Nat} {y : Str} {py spos : Pos} (hc : X.calm = true) (hN : X.N.Nodup) (hy : X.N[i]? = some y) (hyl : X.env.scope.names.lookup y = some .local) (hiM : i ∉ M)
    (hsw : swapsWith (.ListComp elt [⟨tg, iter, ifs, 0⟩] scope pos) (some (.Name y py)) spos.line X.env = pure true) (hi : PDI X T B M W tg iter it) (ok : BlkOk X.N X.env.scope scope own) (hv : (t.is.all fun i => (own.map (·.2)).contains i && !M.contains i) = true) (hM : (M.all fun i => !(own.map (·.2)).contains i) = true)
    (hg : ∀ (s : Shared) (H : Hp) (C : Addr) (cl : List (Str × Addr)) (fp : List Addr), PG (X.blk s H scope (compEnvC scope cl C X.env) fp) tg (t.h X.K)) (ht : ∀ (s : Shared) (H : Hp) (C : Addr) (cl : List (Str × Addr)) (fp : List Addr) B, PDTs (X.blk s H scope (compEnvC scope cl C X.env) fp) T B M noE ifs tt)
    (he : ∀ (s : Shared) (H : Hp) (C : Addr) (cl : List (Str × Addr)) (fp : List Addr) B, PD (X.blk s H scope (compEnvC scope cl C X.env) fp) T B M noE elt g) (hs : ∀ x, foldedSetIterable iter X.env x = pure x := by intro _; rfl) :
    PDS X T B M W (.Assign [.Name y py] (.ListComp elt [⟨tg, iter, ifs, 0⟩] scope pos) spos) (sAsgO i (dLcP (own.map (·.2)) it t.g tt g)) := by
  have a1 : ∀ i ∈ t.is, i ∈ own.map (·.2) ∧ i ∉ M := fun i h => by
    have := List.all_eq_true.mp hv i h
    rw [Bool.and_eq_true] at this
    exact ⟨by simpa using this.1, by simpa using this.2⟩
  have a2 : ∀ i ∈ M, i ∉ own.map (·.2) := fun i h => by
    have := List.all_eq_true.mp hM i h
    simpa using this
  exact ps_imp (ps_setLc (te := lEx X.K T M noE g) (tt := lTx X.K T M noE tt) hc hN hy hyl hsw hi ok hg (fun s H C cl fp => pts_ex (ht s H C cl fp)) (fun s H C cl fp => pe_ex (he s H C cl fp)) hs) fun J σ H ⟨F, ρ, Jd, S, h, k, _⟩ => by
    refine lcP_of (Q := fun x H1 => J.nx (σ.set i (some x)) H1) (fun i h => (a1 i h).1) (fun i h => (a1 i h).2) a2 ?_ rfl rfl
    refine ⟨F, ρ, _, S, h, fun F1 H1 ρ1 v r e1 S1 R1 q => ?_⟩
    exact S1.putN (fz := fun _ => False) hiM R1 (by cases r <;> (rename_i d; cases d) <;> exact q) (fun _ _ z => z.elim) fun s S2 q2 => k F1 H1 _ _ e1 S2 q2
end
end DL

set_option linter.all false
set_option autoImplicit false
set_option maxRecDepth 100000
/-! DLS: short words for proofs over data. -/
namespace DL
theorem bA_nil {outs : List Slot} {ρ : Env} : backA [] outs ρ = ρ := rfl
theorem bA_e {as : List AV} {ρ : Env} : backA as [] ρ = ρ := by
  cases as with
  | nil => rfl
  | cons a as => cases a <;> rfl
theorem bA_v {d : D} {as : List AV} {outs : List Slot} {ρ : Env} : backA (.v d :: as) outs ρ = backA as outs.tail ρ := by
  cases outs with
  | nil => rw [List.tail_nil, bA_e, bA_e]
  | cons s ss => rfl
theorem bA_m {i : Nat} {as : List AV} {s : Slot} {ss : List Slot} {ρ : Env} : backA (.m i :: as) (s :: ss) ρ = backA as ss (ρ.set i s) := rfl
theorem at_0 {s : Slot} {ρ : List Slot} : Env.at (s :: ρ) 0 = s := rfl
theorem at_s {s : Slot} {ρ : List Slot} {i : Nat} : Env.at (s :: ρ) (i + 1) = Env.at ρ i := rfl
theorem at_nil {i : Nat} : Env.at [] i = .no := rfl
theorem set_0 {s t : Slot} {ρ : List Slot} : (s :: ρ).set 0 t = t :: ρ := rfl
theorem set_s {s t : Slot} {ρ : List Slot} {i : Nat} : (s :: ρ).set (i + 1) t = s :: ρ.set i t := rfl
theorem outs_0 {ρ : Env} : outsE 0 ρ = [] := by cases ρ <;> rfl
theorem outs_s {n : Nat} {s : Slot} {ρ : Env} : outsE (n + 1) (s :: ρ) = s :: outsE n ρ := rfl
theorem fzd {d : D} : (R.fz d).d = d := rfl
theorem frd {d : D} : (R.fr d).d = d := rfl
theorem ftd {d : D} : (R.ft d).d = d.calm := rfl
theorem eqv_int {a b : Int} : D.eqv (.int a) (.int b) = (a == b) := by rw [D.eqv]
theorem eqv_str {a b : Tx} : D.eqv (.str a) (.str b) = (a == b) := by rw [D.eqv]
theorem eqv_bl {a b : Bool} : D.eqv (.bl a) (.bl b) = (a == b) := by rw [D.eqv]
theorem neD_str {a b : Tx} {k : R → Prop} : neD (.str a) (.str b) k = (eqC (.str a) (.str b) ∧ k (.fz (.bl (!(a == b))))) := by rw [← eqv_str]; rfl
theorem neD_int {a b : Int} {k : R → Prop} : neD (.int a) (.int b) k = (eqC (.int a) (.int b) ∧ k (.fz (.bl (!(a == b))))) := by rw [← eqv_int]; rfl
def dVarM (s : Slot) (i : Nat) (ρ : Env) (Q : R → Env → Prop) : Prop := match s with
  | .fz d => Q (.fz d) ρ
  | .own d => Q (.fz d) (ρ.set i (.fz d))
  | .ownT d => Q (.fz d.calm) (ρ.set i (.fz d.calm))
  | .no => False
theorem dVar_M {i : Nat} {ρ : Env} {Q : R → Env → Prop} {E : EK} : zaG i ρ Q E = dVarM (ρ.at i) i ρ Q := rfl
theorem dVarM_ownT {d : D} {i : Nat} {ρ : Env} {Q : R → Env → Prop} : dVarM (.ownT d) i ρ Q = Q (.fz d.calm) (ρ.set i (.fz d.calm)) := rfl
theorem dVarM_fz {d : D} {i : Nat} {ρ : Env} {Q : R → Env → Prop} : dVarM (.fz d) i ρ Q = Q (.fz d) ρ := rfl
theorem dVarM_own {d : D} {i : Nat} {ρ : Env} {Q : R → Env → Prop} : dVarM (.own d) i ρ Q = Q (.fz d) (ρ.set i (.fz d)) := rfl
def retOM (s : Slot) (i : Nat) (M : List Nat) (D : DEnds) (ρ : Env) : Prop := match s with
  | .own d => (M.all fun k => (ρ.at k).isOwn) = true ∧ D.rt (.fr d) (ρ.set i .no)
  | .fz d => D.rt (.fz d) ρ
  | _ => False
theorem sRetO_M {i : Nat} {M : List Nat} {D : DEnds} {ρ : Env} {E : EK} : sRetO i M D ρ E = retOM (ρ.at i) i M D ρ := rfl
theorem retOM_own {d : D} {i : Nat} {M : List Nat} {J : DEnds} {ρ : Env} : retOM (.own d) i M J ρ = ((M.all fun k => (ρ.at k).isOwn) = true ∧ J.rt (.fr d) (ρ.set i .no)) := rfl
theorem retOM_fz {d : D} {i : Nat} {M : List Nat} {J : DEnds} {ρ : Env} : retOM (.fz d) i M J ρ = J.rt (.fz d) ρ := rfl
def dIxM (s : Slot) (x : D) (k : R → Prop) : Prop := match s with
  | .own d => ixD d x k
  | .fz d => ixD d x k
  | _ => False
theorem dIxN_M {i : Nat} {g : DE} {ρ : Env} {Q : R → Env → Prop} {E : EK} : dIxN i g ρ Q E = ((ρ.at i).known = true ∧ g ρ (fun s ρ1 => dIxM (ρ1.at i) s.d fun t => Q t ρ1) E) := by
  unfold dIxN dIxM
  rfl
def dOpM (op : D → D → (R → Prop) → Prop) (s : Slot) (x : D) (k : R → Prop) : Prop := match s with
  | .own d => op d x fun t => t.d.flat = true ∧ k t
  | .fz d => op d x k
  | _ => False
theorem dOpN_M {op : D → D → (R → Prop) → Prop} {i : Nat} {g : DE} {ρ : Env} {Q : R → Env → Prop} {E : EK} : dOpN op i g ρ Q E = ((ρ.at i).known = true ∧ g ρ (fun s ρ1 => dOpM op (ρ1.at i) s.d fun t => Q t ρ1) E) := by
  unfold dOpN dOpM
  rfl
theorem dOpM_fz {op : D → D → (R → Prop) → Prop} {d x : D} {k : R → Prop} : dOpM op (.fz d) x k = op d x k := rfl
theorem dOpM_own {op : D → D → (R → Prop) → Prop} {d x : D} {k : R → Prop} : dOpM op (.own d) x k = op d x fun t => t.d.flat = true ∧ k t := rfl
def dFnM (op : List D → (R → Prop) → Prop) (s : Slot) (k : R → Prop) : Prop := match s with
  | .own d => op [d] fun t => t.d.flat = true ∧ k t
  | .fz d => op [d] k
  | _ => False
theorem dFnN_M {op : List D → (R → Prop) → Prop} {i : Nat} {ρ : Env} {Q : R → Env → Prop} {E : EK} : dFnN op i ρ Q E = dFnM op (ρ.at i) fun t => Q t ρ := by
  unfold dFnN dFnM
  cases ρ.at i <;> rfl
theorem dFnM_fz {op : List D → (R → Prop) → Prop} {d : D} {k : R → Prop} : dFnM op (.fz d) k = op [d] k := rfl
theorem dFnM_own {op : List D → (R → Prop) → Prop} {d : D} {k : R → Prop} : dFnM op (.own d) k = op [d] fun t => t.d.flat = true ∧ k t := rfl
theorem dIxM_fz {d x : D} {k : R → Prop} : dIxM (.fz d) x k = ixD d x k := rfl
theorem dIxM_own {d x : D} {k : R → Prop} : dIxM (.own d) x k = ixD d x k := rfl
/-! operations at what is known -/
section
variable {i j : Int} {a b : Tx} {xs ys : List D} {k : R → Prop} {x y : Bool} {lo hi : Option Int}
theorem addD_int : addD (.int i) (.int j) k = k (.fz (.int (i + j))) := rfl
theorem addD_str : addD (.str a) (.str b) k = (a.length + b.length ≤ zaK ∧ k (.fz (.str (a ++ b)))) := rfl
theorem addD_lst : addD (.lst xs) (.lst ys) k = (xs.length + ys.length ≤ zaK ∧ k (.fr (.lst (xs ++ ys)))) := rfl
theorem iaddD_int : iaddD (.int i) (.int j) k = k (.fz (.int (i + j))) := rfl
theorem iaddD_str : iaddD (.str a) (.str b) k = (a.length + b.length ≤ zaK ∧ k (.fz (.str (a ++ b)))) := rfl
theorem subD_int : subD (.int i) (.int j) k = k (.fz (.int (i - j))) := rfl
theorem mulD_int : mulD (.int i) (.int j) k = (((-(2 ^ 64) < i ∧ i < 2 ^ 64) ∨ (-(2 ^ 64) < j ∧ j < 2 ^ 64)) ∧ k (.fz (.int (i * j)))) := rfl
theorem mulD_str : mulD (.str a) (.int j) k = ((-(2 ^ 62) ≤ j ∧ j < 2 ^ 62 ∧ a.length * j.toNat ≤ zaK) ∧ k (.fz (.str (List.replicate j.toNat a).flatten))) := rfl
theorem mulD_lst : mulD (.lst xs) (.int j) k = ((-(2 ^ 62) ≤ j ∧ j < 2 ^ 62 ∧ xs.length * j.toNat ≤ zaK) ∧ k (.fr (.lst (List.replicate j.toNat xs).flatten))) := rfl
theorem fdivD_int : fdivD (.int i) (.int j) k = ((0 < j ∧ j < 1180591620717411303424) ∧ k (.fz (.int (i / j)))) := rfl
theorem modD_int : modD (.int i) (.int j) k = (0 < j ∧ k (.fz (.int (i % j)))) := rfl
theorem powD_int : powD (.int i) (.int j) k = ((0 ≤ j ∧ j ≤ 1000000 ∧ i.natAbs < 2 ^ 64) ∧ k (.fz (.int (i ^ j.toNat)))) := rfl
theorem negD_int : negD (.int i) k = k (.fz (.int (-i))) := rfl
theorem ltD_int : ltD (.int i) (.int j) k = k (.fz (.bl (decide (i < j)))) := rfl
theorem leD_int : leD (.int i) (.int j) k = k (.fz (.bl (decide (i ≤ j)))) := rfl
theorem gtD_int : gtD (.int i) (.int j) k = k (.fz (.bl (decide (j < i)))) := rfl
theorem geD_int : geD (.int i) (.int j) k = k (.fz (.bl (decide (j ≤ i)))) := rfl
theorem ixD_lst : ixD (.lst xs) (.int i) k = (∃ j d, ixN xs.length i = some j ∧ xs[j]? = some d ∧ k (.fz d)) := rfl
theorem ixD_tup : ixD (.tup xs) (.int i) k = (∃ j d, ixN xs.length i = some j ∧ xs[j]? = some d ∧ k (.fz d)) := rfl
theorem ixD_str : ixD (.str a) (.int i) k = (∃ j c, ixN a.length i = some j ∧ a[j]? = some c ∧ k (.fz (.str [c]))) := rfl
theorem slD_lst : slD (.lst xs) lo hi k = k (.fr (.lst (cut xs lo hi))) := rfl
theorem slD_frl : slD (.frl xs) lo hi k = k (.fr (.lst (cut xs lo hi))) := rfl
theorem slD_str : slD (.str a) lo hi k = k (.fz (.str (cut a lo hi))) := rfl
theorem orKD_dct {a b : List (Ky × D)} {k : R → Prop} : orKD (.dct a) (.dct b) k = (a.length + b.length ≤ zaK ∧ k (.fr (.dct (mergeD a b)))) := rfl
theorem fdivWD_int : fdivWD (.int i) (.int j) k = ((0 < j ∧ j < 2 ^ 1000) ∧ k (.fz (.int (i / j)))) := rfl
theorem mulWD_int : mulWD (.int i) (.int j) k = ((i.natAbs < 2 ^ 3000 ∧ j.natAbs < 2 ^ 3000) ∧ k (.fz (.int (i * j)))) := rfl
theorem imulD_int : imulD (.int i) (.int j) k = (((-(2 ^ 64) < i ∧ i < 2 ^ 64) ∨ (-(2 ^ 64) < j ∧ j < 2 ^ 64)) ∧ k (.fz (.int (i * j)))) := rfl
theorem isBD_bl : isBD (.bl x) (.bl y) k = k (.fz (.bl (x == y))) := rfl
theorem notBD_bl : notBD (.bl x) (.bl y) k = k (.fz (.bl (!(x == y)))) := rfl
theorem revD_lst : revD (.lst xs) k = k (.fr (.lst xs.reverse)) := rfl
theorem minPF_2 : minPF [.tup [.int i, .int j]] k = k (.fz (.int (if j < i then j else i))) := rfl
theorem revT_str : revT (.str a) k = k (.fz (.str a.reverse)) := rfl
end
theorem calm_nil {ρ : Env} : calmE [] ρ = ρ := rfl
theorem calm_cons {i : Nat} {is : List Nat} {ρ : Env} : calmE (i :: is) ρ = calmE is (match ρ.at i with
  | .own d => ρ.set i (.fz d)
  | .ownT d => ρ.set i (.fz d.calm)
  | _ => ρ) := rfl
theorem at_hs {s : Slot} {ρ : Env} {i : Nat} : Env.at (hideE (s :: ρ)) (i + 1) = Env.at (hideE ρ) i := rfl
theorem hide_nil : hideE [] = [] := rfl
theorem hide_fz {d : D} {ρ : Env} : hideE (.fz d :: ρ) = .fz d :: hideE ρ := rfl
theorem hide_own {d : D} {ρ : Env} : hideE (.own d :: ρ) = .no :: hideE ρ := rfl
theorem hide_ownT {d : D} {ρ : Env} : hideE (.ownT d :: ρ) = .no :: hideE ρ := rfl
theorem hide_no {ρ : Env} : hideE (.no :: ρ) = .no :: hideE ρ := rfl

local macro_rules | `(tactic| walk_at "dl") => `(tactic| simp -implicitDefEqProofs only [runD, startE, outsE, outs_0, outs_s, List.length_cons, List.length_nil, List.cons_append, List.nil_append, List.replicate, Nat.sub_zero, Nat.add_one_sub_one, Nat.reduceSub, Nat.reduceAdd, dC, dVar_M, dVarM_fz, dVarM_own, dIxN_M, dIxM_fz, dIxM_own, dOpN_M, dOpM_fz, dOpM_own, dFnN_M, dFnM_fz, dFnM_own, dOp, dUn, dArgs, dLst, dTup, dFn, dIsi, dMs, dPart, dSl, dIfE, Slot.known, tVal, tTru, tAnd, tOr, tNot, dAnd, dOr, dNot, dChain, iLst, iTup, iStr, iRng1, iRng2, iEnum, iZip, gN, gNs, gT, gL, Tgt.g, tYes, wipeE, backE, dAVs, dCall, avSlot, AV.ok, Slot.isOwn, bA_nil, bA_v, bA_m, D.isRef, List.all_cons, List.all_nil, List.map_cons, List.map_nil, Bool.and_true, Bool.true_and, List.tail_cons, List.tail_nil, List.head?_cons, sTryFin, dPropM, dLenM, dMakeVT, sAppFL, sPutFK, dIxFK, dLstF, sNx, sSeq, sRet, sRetN, sExp, sAsg, sAsgO, sIf, sAug, sFor, sWh, sBrk, sCnt, sRaise, sApp, sAppP, dLstP, dCatG, dSrtH, sRetT, dCatT, dMinKT, eqKN, listKF, listSF, sExt, sUpdT, mergeT, dDct0T, dIxKT, repZD, neEmp, iWkT, itmT, keyT, dSrtKT, Slot.ownL, sPut, sPut2, putAt, sPar, sParL, sFld, dFld, dMake, mkC, dMakeV, dCm, dObj, D.isObj, dCallV, dCallS, dEqO, dIsO, dDct0, isBD_bl, notBD_bl, revD_lst, sPar3, sTrys, catchD, DEnds.unname, repF, D.eqTo, at_0, at_s, at_nil, set_0, set_s, fzd, frd, ftd, Slot.noT, dVarM_ownT, hide_ownT, dMakeT, mkCT, D.calm, D.unm, dEqN, dProp, strF, sFldT, sAppF, sFldAugT, kidOf, putL, dMethM, Slot.isObj, if_true, if_false, Bool.not_true, Bool.not_false, true_and, and_true, Bool.false_eq_true, ↓reduceIte, lenF, lenD, allF, anyF, sumF, absF, intF, tupleF, swM, ewM, eqv_int, eqv_str, eqv_bl, D.isTy, Int.cast_ofNat_Int, addD_int, addD_str, addD_lst, fdivWD_int, orKD_dct, dMinK, dSumV, iaddD_int, iaddD_str, subD_int, mulD_int, mulD_str, mulD_lst, fdivD_int, modD_int, powD_int, negD_int, eqD, neD_str, neD_int, ltD_int, leD_int, gtD_int, geD_int, isD, isnD, D.isNon, inDv, ninDv, ixD_lst, ixD_tup, ixD_str, slD_lst, slD_frl, slD_str, dLc, dLook, Slot.calm, tLook, iRngD, iRngB', dNeT, revT_str, dDisp, iZipS, iZipK, minPF_2, sParF, dLenO, dRepO, dVals, putR, sParR, dFmt, dFmtR, fstL, dFst, mulWD_int, imulD_int, countM, lstRg, dLrg1, dLrg2, sRetO_M, retOM_own, retOM_fz, dLookL, dNeN, dLenSet, dSrtSet, sortedF, dTold, dToldB, dToldO, calm_nil, calm_cons, hide_nil, hide_fz, hide_own, hide_no, at_hs, dIsiO, gTG, gGs, gA, gAll, sAsgs, sClr, sAsgN, dFldN, iWk, itmX, valX, keyX, sForN, dDc, dDcP, eqKd, dDsp1, dGet, dGetN, sPutK, inKv, kyOf, ownK, dictF, dLitm, dIxK, eqKv, sortedIF, ltSD, dDspT, sPutT, ownKT, dTupK, giveE, R.raw, sAsgK, unpK, unpK1, ninKv, eqKg, catTD, repTD, dSlT, sAppAt, updD, sAppAtK, dPopAtK, tNinSet, Slot.dctT, dLcP, R.dctN, lc2L, dLc2, sAugK, dSrtRev, sRetTK, sortedKIF, splitM, partM, intTF, dStp, dTake, sTryF, dRep, dPopN, sPutFT, dFldP, dIxFT, dSrtFS, sortedLLF, dLc2I, dDcT, dGetNT, dLstKT, sUpdP, runG, gThen, gPlain, gNil, gYield, gYieldR, gIf, gFor, GD.at, sForGen, dLcGen, dLcGenQ, gDead, dListGen, dCallFV, dKw, dKwM, dKwC, dKwI, pick, List.getElem?_cons_zero, List.getElem?_cons_succ])

/-! ### equality of a thing with itself -/
mutual
theorem eqv_refl : ∀ (n : Nat) (d : D), d.eqOk n = true → D.eqv d d = true
  | n, .non, _ => by rw [D.eqv]
  | n, .bl b, _ => by rw [D.eqv]; simp
  | n, .int b, _ => by rw [D.eqv]; simp
  | n, .str b, _ => by rw [D.eqv]; simp
  | 0, .lst xs, h => by cases h
  | n + 1, .lst xs, h => by rw [D.eqv]; exact eqvL_refl n xs h
  | 0, .tup xs, h => by cases h
  | n + 1, .tup xs, h => by rw [D.eqv]; exact eqvL_refl n xs h
  | n, .dct _, h => by cases n <;> cases h
  | n, .obj _ _, h => by cases n <;> cases h
  | n, .frl _, h => by cases n <;> cases h
  | n, .cls _, h => by cases n <;> cases h
  | n, .prt _, h => by cases n <;> cases h
theorem eqvL_refl : ∀ (n : Nat) (xs : List D), D.eqOkL n xs = true → D.eqvL xs xs = true
  | n, [], _ => by rw [D.eqvL]
  | n, x :: xs, h => by
    unfold D.eqOkL at h
    rw [Bool.and_eq_true] at h
    rw [D.eqvL, eqv_refl n x h.1, eqvL_refl n xs h.2]
    rfl
end
theorem ne_same {d : D} {k : R → Prop} (h : d.eqOk 60 = true) (hk : k (.fz (.bl false))) : neD d d k := ⟨.inr ⟨h, h⟩, by rw [eqv_refl 60 d h]; exact hk⟩
/-! ### loops -/
theorem forL_inv {g : DG} {body : DS} {J : DEnds} {E : EK} (I : List D → Env → Prop) (hn : ∀ ρ, I [] ρ → J.nx ρ)
    (hs : ∀ x xs ρ, I (x :: xs) ρ → ∀ k : Env → Prop, (∀ ρ', I xs ρ' → k ρ') → g x ρ fun ρ1 => body { nx := k, ct := k, bk := J.nx, rt := J.rt } ρ1 E) : ∀ xs ρ, I xs ρ → forL g body J E xs ρ
  | [], ρ, h => hn ρ h
  | x :: xs, ρ, h => hs x xs ρ h (forL g body J E xs) fun ρ' h' => forL_inv I hn hs xs ρ' h'
theorem lcL_inv {vs : List Nat} {g : DG} {t : DT} {e : DE} {Q : List D → Env → Prop} (I : List D → List D → Env → Prop) (hn : ∀ acc ρ, I [] acc ρ → Q acc ρ)
    (hs : ∀ x xs acc ρ, I (x :: xs) acc ρ → ∀ (k1 : R → Env → Prop) (k2 : Env → Prop), (∀ r ρ', (acc.length < zaK ∧ I xs (acc ++ [r.d]) (wipeE vs ρ')) → k1 r ρ') → (∀ ρ', I xs acc (wipeE vs ρ') → k2 ρ') →
      g x ρ fun ρ1 => t ρ1 (fun b ρ2 => if b = true then e ρ2 k1 noE else k2 ρ2) noE) : ∀ xs acc ρ, I xs acc ρ → lcL vs g t e Q xs acc ρ
  | [], acc, ρ, h => hn acc ρ h
  | x :: xs, acc, ρ, h => hs x xs acc ρ h _ _ (fun r ρ' h' => ⟨h'.1, lcL_inv I hn hs xs _ _ h'.2⟩) fun ρ' h' => lcL_inv I hn hs xs _ _ h'
/-- nothing but data: items kept by p, mapped by f -/
theorem lcL_pure {vs : List Nat} {g : DG} {t : DT} {e : DE} {Q : List D → Env → Prop} (ρ : Env) (p : D → Bool) (f : D → D) (xs : List D)
    (hs : ∀ x ∈ xs, ∀ (k1 : R → Env → Prop) (k2 : Env → Prop), (p x = true → ∀ r ρ', r.d = f x → wipeE vs ρ' = ρ → k1 r ρ') → (p x = false → ∀ ρ', wipeE vs ρ' = ρ → k2 ρ') →
      g x ρ fun ρ1 => t ρ1 (fun b ρ2 => if b = true then e ρ2 k1 noE else k2 ρ2) noE) : ∀ acc, acc.length + xs.length ≤ zaK → Q (acc ++ (xs.filter p).map f) ρ → lcL vs g t e Q xs acc ρ := by
  induction xs with
  | nil => intro acc _ h; simpa [lcL] using h
  | cons x xs ih =>
    intro acc hl h
    have ih := ih fun y hy => hs y (List.mem_cons_of_mem _ hy)
    simp only [List.length_cons] at hl
    refine hs x List.mem_cons_self _ _ (fun hp r ρ' hr hw => ⟨by omega, ?_⟩) fun hp ρ' hw => ?_
    · rw [hw, hr]
      refine ih _ (by simp; omega) ?_
      simpa [List.filter_cons, hp] using h
    · rw [hw]
      refine ih _ (by omega) ?_
      simpa [List.filter_cons, hp] using h
end DL

set_option linter.all false
set_option autoImplicit false
set_option maxRecDepth 100000
namespace DL
local macro_rules | `(tactic| walk_at "dl") => `(tactic| simp -implicitDefEqProofs only [runD, startE, outsE, outs_0, outs_s, List.length_cons, List.length_nil, List.cons_append, List.nil_append, List.replicate, Nat.sub_zero, Nat.add_one_sub_one, Nat.reduceSub, Nat.reduceAdd, dC, dVar_M, dVarM_fz, dVarM_own, dIxN_M, dIxM_fz, dIxM_own, dOpN_M, dOpM_fz, dOpM_own, dFnN_M, dFnM_fz, dFnM_own, dOp, dUn, dArgs, dLst, dTup, dFn, dIsi, dMs, dPart, dSl, dIfE, Slot.known, tVal, tTru, tAnd, tOr, tNot, dAnd, dOr, dNot, dChain, iLst, iTup, iStr, iRng1, iRng2, iEnum, iZip, gN, gNs, gT, gL, Tgt.g, tYes, wipeE, backE, dAVs, dCall, avSlot, AV.ok, Slot.isOwn, bA_nil, bA_v, bA_m, D.isRef, List.all_cons, List.all_nil, List.map_cons, List.map_nil, Bool.and_true, Bool.true_and, List.tail_cons, List.tail_nil, List.head?_cons, sTryFin, dPropM, dLenM, dMakeVT, sAppFL, sPutFK, dIxFK, dLstF, sNx, sSeq, sRet, sRetN, sExp, sAsg, sAsgO, sIf, sAug, sFor, sWh, sBrk, sCnt, sRaise, sApp, sAppP, dLstP, dCatG, dSrtH, sRetT, dCatT, dMinKT, eqKN, listKF, listSF, sExt, sUpdT, mergeT, dDct0T, dIxKT, repZD, neEmp, iWkT, itmT, keyT, dSrtKT, Slot.ownL, sPut, sPut2, putAt, sPar, sParL, sFld, dFld, dMake, mkC, dMakeV, dCm, dObj, D.isObj, dCallV, dCallS, dEqO, dIsO, dDct0, isBD_bl, notBD_bl, revD_lst, sPar3, sTrys, catchD, DEnds.unname, repF, D.eqTo, at_0, at_s, at_nil, set_0, set_s, fzd, frd, ftd, Slot.noT, dVarM_ownT, hide_ownT, dMakeT, mkCT, D.calm, D.unm, dEqN, dProp, strF, sFldT, sAppF, sFldAugT, kidOf, putL, dMethM, Slot.isObj, if_true, if_false, Bool.not_true, Bool.not_false, true_and, and_true, Bool.false_eq_true, ↓reduceIte, lenF, lenD, allF, anyF, sumF, absF, intF, tupleF, swM, ewM, eqv_int, eqv_str, eqv_bl, D.isTy, Int.cast_ofNat_Int, addD_int, addD_str, addD_lst, fdivWD_int, orKD_dct, dMinK, dSumV, iaddD_int, iaddD_str, subD_int, mulD_int, mulD_str, mulD_lst, fdivD_int, modD_int, powD_int, negD_int, eqD, neD_str, neD_int, ltD_int, leD_int, gtD_int, geD_int, isD, isnD, D.isNon, inDv, ninDv, ixD_lst, ixD_tup, ixD_str, slD_lst, slD_frl, slD_str, dLc, dLook, Slot.calm, tLook, iRngD, iRngB', dNeT, revT_str, dDisp, iZipS, iZipK, minPF_2, sParF, dLenO, dRepO, dVals, putR, sParR, dFmt, dFmtR, fstL, dFst, mulWD_int, imulD_int, countM, lstRg, dLrg1, dLrg2, sRetO_M, retOM_own, retOM_fz, dLookL, dNeN, dLenSet, dSrtSet, sortedF, dTold, dToldB, dToldO, calm_nil, calm_cons, hide_nil, hide_fz, hide_own, hide_no, at_hs, dIsiO, gTG, gGs, gA, gAll, sAsgs, sClr, sAsgN, dFldN, iWk, itmX, valX, keyX, sForN, dDc, dDcP, eqKd, dDsp1, dGet, dGetN, sPutK, inKv, kyOf, ownK, dictF, dLitm, dIxK, eqKv, sortedIF, ltSD, dDspT, sPutT, ownKT, dTupK, giveE, R.raw, sAsgK, unpK, unpK1, ninKv, eqKg, catTD, repTD, dSlT, sAppAt, updD, sAppAtK, dPopAtK, tNinSet, Slot.dctT, dLcP, R.dctN, lc2L, dLc2, sAugK, dSrtRev, sRetTK, sortedKIF, splitM, partM, intTF, dStp, dTake, sTryF, dRep, dPopN, sPutFT, dFldP, dIxFT, dSrtFS, sortedLLF, dLc2I, dDcT, dGetNT, dLstKT, sUpdP, runG, gThen, gPlain, gNil, gYield, gYieldR, gIf, gFor, GD.at, sForGen, dLcGen, dLcGenQ, gDead, dListGen, dCallFV, dKw, dKwM, dKwC, dKwI, pick, List.getElem?_cons_zero, List.getElem?_cons_succ])
def D.plain (d : D) : Prop := d.isTy .str ≠ none
def isItem (c : Nat) : Bool := decide (97 ≤ c ∧ c ≤ 104)
theorem mem_items {c : Nat} : decide (c ∈ ([97, 98, 99, 100, 101, 102, 103, 104] : List Nat)) = isItem c := by
  unfold isItem
  rw [decide_eq_decide]
  simp only [List.mem_cons, List.not_mem_nil, or_false]
  omega
theorem mem_signs {c : Nat} : decide (c ∈ ([43, 45] : List Nat)) = (c == 43 || c == 45) := by
  rw [Bool.eq_iff_iff]
  simp
theorem in_sign {c : Nat} {t : Tx} {k : Bool → Prop} : inD (.str [c]) (.str t) k = k (decide (c ∈ t)) := rfl
def isStep : D → Bool
  | .str [a, b] => (a == 43 || a == 45) && isItem b
  | _ => false
/-- is_step: 0 value -/
def b_is_step : DS := sRet (dAnd (dIsi .str (zaG 0)) (dAnd (dOp eqD (dFn lenF [zaG 0]) (dC (.int 2))) (dAnd (dOp inDv (dOp ixD (zaG 0) (dC (.int 0))) (dC (.str [43, 45]))) (dOp inDv (dOp ixD (zaG 0) (dC (.int 1))) (dC (.str [97, 98, 99, 100, 101, 102, 103, 104]))))))
def C_is_step : Con := fun args Q _ => ∃ d, args = [.fz d] ∧ d.plain ∧ ∀ outs, Q (.fz (.bl (isStep d))) outs
theorem p_is_step : ∀ args Q E, args.length = 1 → C_is_step args Q E → runD 1 b_is_step args Q E := by
  intro args Q E _ h
  obtain ⟨d, rfl, hp, hq⟩ := h
  unfold b_is_step
  cases d with
  | str x =>
    match x, hq with
    | [], hq => walk_at "dl"; exact ⟨true, rfl, (if_pos rfl).mpr ⟨.inl rfl, hq _⟩⟩
    | [_], hq => walk_at "dl"; exact ⟨true, rfl, (if_pos rfl).mpr ⟨.inl rfl, hq _⟩⟩
    | [a, b], hq =>
      have hq2 : ∀ outs, Q (.fz (.bl ((a == 43 || a == 45) && isItem b))) outs := hq
      walk_at "dl"
      refine ⟨true, rfl, (if_pos rfl).mpr ⟨.inl rfl, ?_⟩⟩
      refine (if_pos rfl).mpr ⟨0, a, rfl, rfl, ?_⟩
      rw [in_sign, mem_signs]
      cases hs : (a == 43 || a == 45) with
      | false => rw [hs] at hq2; exact hq2 _
      | true =>
        rw [hs] at hq2
        refine (if_pos rfl).mpr ⟨1, b, rfl, rfl, ?_⟩
        rw [in_sign, mem_items]
        exact hq2 _
    | _ :: _ :: _ :: l, hq =>
      have : ((((l.length + 1 + 1 + 1 : Nat) : Int)) == 2) = false := by
        rw [beq_eq_false_iff_ne]; omega
      walk_at "dl"
      refine ⟨true, rfl, (if_pos rfl).mpr ⟨.inl rfl, ?_⟩⟩
      rw [this]
      exact hq _
  | obj c x => exact absurd rfl hp
  | cls c => exact absurd rfl hp
  | adr c => exact absurd rfl hp
  | _ => walk_at "dl"; exact ⟨false, rfl, hq _⟩
/-! first_invalid, check_sequence -/
/-- the place of the first that is no step -/
def badAt : List D → Nat → Option Nat
  | [], _ => none
  | d :: ds, i => if isStep d = true then badAt ds (i + 1) else some i
def firstInv : D → D
  | .lst xs => if xs.length ≤ 400 then (match badAt xs 0 with | none => .non | some i => .tup [.int i]) else .tup [.non]
  | _ => .tup [.non]
def D.plainL : D → Prop
  | .lst xs => ∀ d ∈ xs, d.plain
  | .frl _ => False
  | d => d.plain
/-- first_invalid: 0 value, 1 position, 2 step -/
def b_first_invalid : DS := sSeq (sIf (tOr (tNot (tVal (dIsi .list (zaG 0)))) (tVal (dOp gtD (dFn lenF [zaG 0]) (dC (.int 400))))) (sRet (dTup [dC .non])) (sNx)) (sSeq (sFor (iEnum (zaG 0)) (gT [1, 2]) (sIf (tNot (tVal (dCall C_is_step [.v (zaG 2)]))) (sRet (dTup [zaG 1])) (sNx))) (sRet (dC .non)))
def C_first_invalid : Con := fun args Q _ => ∃ d, args = [.fz d] ∧ d.plainL ∧ ∀ r outs, r.d = firstInv d → Q r outs
def enumFrom (n : Nat) : List D → List D
  | [] => []
  | x :: xs => .tup [.int (n : Int), x] :: enumFrom (n + 1) xs
theorem enumD_from (xs : List D) : enumD xs = enumFrom 0 xs := by
  unfold enumD
  have : ∀ (n : Nat) (xs : List D), (List.range' n xs.length).zipWith (fun (i : Nat) x => D.tup [.int (i : Int), x]) xs = enumFrom n xs := by
    intro n xs
    induction xs generalizing n with
    | nil => rfl
    | cons x xs ih => rw [List.length_cons, List.range'_succ, List.zipWith_cons_cons, ih]; rfl
  rw [List.range_eq_range', this]
theorem p_first_invalid : ∀ args Q E, args.length = 1 → C_first_invalid args Q E → runD 3 b_first_invalid args Q E := by
  intro args Q E _ h
  obtain ⟨d, rfl, hp, hq⟩ := h
  unfold b_first_invalid
  cases d with
  | lst xs =>
    walk_at "dl"
    refine ⟨true, rfl, ?_⟩
    walk_at "dl"
    by_cases hl : xs.length ≤ 400
    · have : decide ((400 : Int) < xs.length) = false := decide_eq_false (by omega)
      rw [this]
      walk_at "dl"
      rw [enumD_from]
      have q1 : badAt xs 0 = none → ∀ r outs, r.d = .non → Q r outs := fun h r outs e => hq r outs (by rw [e]; simp [firstInv, hl, h])
      have q2 : ∀ i : Nat, badAt xs 0 = some i → ∀ r outs, r.d = .tup [.int i] → Q r outs := fun i h r outs e => hq r outs (by rw [e]; simp [firstInv, hl, h])
      refine forL_inv (I := fun es ρ => ∃ ys n s1 s2, es = enumFrom n ys ∧ (∀ d ∈ ys, d.plain) ∧ badAt ys n = badAt xs 0 ∧ ρ = [.fz (.lst xs), s1, s2]) (fun ρ h => ?_) (fun x es ρ h k hk => ?_) _ _ ⟨xs, 0, .no, .no, rfl, hp, rfl, rfl⟩
      · obtain ⟨ys, n, s1, s2, h1, h2, h3, rfl⟩ := h
        cases ys with
        | nil => exact q1 h3.symm _ _ rfl
        | cons y ys => cases h1
      · obtain ⟨ys, n, s1, s2, h1, h2, h3, rfl⟩ := h
        cases ys with
        | nil => cases h1
        | cons y ys =>
          cases h1
          walk_at "dl"
          refine ⟨y, rfl, h2 y List.mem_cons_self, fun outs => ?_⟩
          walk_at "dl"
          cases hs : isStep y with
          | true => exact hk _ ⟨ys, n + 1, _, _, rfl, fun d hd => h2 d (List.mem_cons_of_mem _ hd), by rw [← h3]; simp [badAt, hs], rfl⟩
          | false => exact ⟨by decide, q2 n (by rw [← h3]; simp [badAt, hs]) _ _ rfl⟩
    · have : decide ((400 : Int) < xs.length) = true := decide_eq_true (by omega)
      rw [this]
      exact ⟨by decide, hq _ _ (by simp [firstInv, hl, R.d])⟩
  | obj c x => exact absurd rfl hp
  | cls c => exact absurd rfl hp
  | adr c => exact absurd rfl hp
  | frl x => exact hp.elim
  | _ => walk_at "dl"; exact ⟨false, rfl, ⟨by decide, hq _ _ rfl⟩⟩
def C_check_sequence : Con := fun args Q E => ∃ d, args = [.fz d] ∧ d.plainL ∧ (firstInv d = .non → ∀ r outs, r.d = .non → Q r outs) ∧ ∀ v, firstInv d = .tup [v] → ∀ outs, E ⟨1, v⟩ outs
abbrev St2 := Nat × Nat
def stepD (s : St2) : D := .str [s.1, s.2]
def seqD (ss : List St2) : D := .lst (ss.map stepD)
def okSt (s : St2) : Bool := (s.1 == 43 || s.1 == 45) && isItem s.2
def okSeq (ss : List St2) : Prop := ss.length ≤ 400 ∧ ∀ s ∈ ss, okSt s = true
theorem firstInv_seq {ss : List St2} (h : okSeq ss) : firstInv (seqD ss) = .non := by
  have : ∀ (ss : List St2) n, (∀ s ∈ ss, okSt s = true) → badAt (ss.map stepD) n = none := by
    intro ss
    induction ss with
    | nil => intros; rfl
    | cons s ss ih =>
      intro n h
      have e : isStep (stepD s) = true := h s List.mem_cons_self
      rw [List.map_cons, badAt, if_pos e]
      exact ih _ fun x hx => h x (List.mem_cons_of_mem _ hx)
  show (if (ss.map stepD).length ≤ 400 then (match badAt (ss.map stepD) 0 with | none => D.non | some i => .tup [.int i]) else .tup [.non]) = .non
  rw [List.length_map, if_pos h.1, this ss 0 h.2]
theorem plainL_seq (ss : List St2) : (seqD ss).plainL := fun d hd => by
  obtain ⟨s, _, rfl⟩ := List.mem_map.mp hd
  exact fun h => nomatch h
/-- the items of the steps of one sign -/
def zaC (sg : Nat) (ss : List St2) : Tx := (ss.filter fun s => s.1 == sg).map (·.2)
def C_chosen : Con := fun args Q _ => ∃ ss sg, args = [.fz (seqD ss), .fz (.str [sg])] ∧ ss.length ≤ 1000000 ∧ ∀ outs, Q (.fz (.str (zaC sg ss))) outs
theorem joinT_nil : ∀ xs : List Tx, joinT [] xs = xs.flatten
  | [] => rfl
  | [p] => by simp [joinT]
  | p :: q :: r => by rw [joinT, joinT_nil (q :: r)]; simp
theorem flat_one : ∀ xs : List Nat, (xs.map fun c => [c]).flatten = xs
  | [] => rfl
  | x :: xs => by rw [List.map_cons, List.flatten_cons, flat_one xs]; rfl
theorem sum_one : ∀ xs : List Nat, ((xs.map fun c => [c]).map (·.length)).sum = xs.length
  | [] => rfl
  | x :: xs => by
    rw [List.map_cons, List.map_cons, List.sum_cons, sum_one xs]
    simp only [List.length_cons, List.length_nil]
    omega
theorem join_one {xs : List Nat} {k : R → Prop} (hl : xs.length ≤ zaK) (h : k (.fz (.str xs))) : joinM [] [.lst (xs.map fun c => .str [c])] k := by
  refine ⟨xs.map fun c => [c], by rw [List.map_map]; rfl, ?_, ?_⟩
  · rw [sum_one, List.length_map]
    show xs.length + xs.length * 0 ≤ 16777216
    have : xs.length ≤ 16777216 := hl
    omega
  · rw [joinT_nil, flat_one]; exact h
end DL

set_option linter.all false
set_option autoImplicit false
set_option maxRecDepth 100000
namespace DL
local macro_rules | `(tactic| walk_at "dl") => `(tactic| simp -implicitDefEqProofs only [runD, startE, outsE, outs_0, outs_s, List.length_cons, List.length_nil, List.cons_append, List.nil_append, List.replicate, Nat.sub_zero, Nat.add_one_sub_one, Nat.reduceSub, Nat.reduceAdd, dC, dVar_M, dVarM_fz, dVarM_own, dIxN_M, dIxM_fz, dIxM_own, dOpN_M, dOpM_fz, dOpM_own, dFnN_M, dFnM_fz, dFnM_own, dOp, dUn, dArgs, dLst, dTup, dFn, dIsi, dMs, dPart, dSl, dIfE, Slot.known, tVal, tTru, tAnd, tOr, tNot, dAnd, dOr, dNot, dChain, iLst, iTup, iStr, iRng1, iRng2, iEnum, iZip, gN, gNs, gT, gL, Tgt.g, tYes, wipeE, backE, dAVs, dCall, avSlot, AV.ok, Slot.isOwn, bA_nil, bA_v, bA_m, D.isRef, List.all_cons, List.all_nil, List.map_cons, List.map_nil, Bool.and_true, Bool.true_and, List.tail_cons, List.tail_nil, List.head?_cons, sTryFin, dPropM, dLenM, dMakeVT, sAppFL, sPutFK, dIxFK, dLstF, sNx, sSeq, sRet, sRetN, sExp, sAsg, sAsgO, sIf, sAug, sFor, sWh, sBrk, sCnt, sRaise, sApp, sAppP, dLstP, dCatG, dSrtH, sRetT, dCatT, dMinKT, eqKN, listKF, listSF, sExt, sUpdT, mergeT, dDct0T, dIxKT, repZD, neEmp, iWkT, itmT, keyT, dSrtKT, Slot.ownL, sPut, sPut2, putAt, sPar, sParL, sFld, dFld, dMake, mkC, dMakeV, dCm, dObj, D.isObj, dCallV, dCallS, dEqO, dIsO, dDct0, isBD_bl, notBD_bl, revD_lst, sPar3, sTrys, catchD, DEnds.unname, repF, D.eqTo, at_0, at_s, at_nil, set_0, set_s, fzd, frd, ftd, Slot.noT, dVarM_ownT, hide_ownT, dMakeT, mkCT, D.calm, D.unm, dEqN, dProp, strF, sFldT, sAppF, sFldAugT, kidOf, putL, dMethM, Slot.isObj, if_true, if_false, Bool.not_true, Bool.not_false, true_and, and_true, Bool.false_eq_true, ↓reduceIte, lenF, lenD, allF, anyF, sumF, absF, intF, tupleF, swM, ewM, eqv_int, eqv_str, eqv_bl, D.isTy, Int.cast_ofNat_Int, addD_int, addD_str, addD_lst, fdivWD_int, orKD_dct, dMinK, dSumV, iaddD_int, iaddD_str, subD_int, mulD_int, mulD_str, mulD_lst, fdivD_int, modD_int, powD_int, negD_int, eqD, neD_str, neD_int, ltD_int, leD_int, gtD_int, geD_int, isD, isnD, D.isNon, inDv, ninDv, ixD_lst, ixD_tup, ixD_str, slD_lst, slD_frl, slD_str, dLc, dLook, Slot.calm, tLook, iRngD, iRngB', dNeT, revT_str, dDisp, iZipS, iZipK, minPF_2, sParF, dLenO, dRepO, dVals, putR, sParR, dFmt, dFmtR, fstL, dFst, mulWD_int, imulD_int, countM, lstRg, dLrg1, dLrg2, sRetO_M, retOM_own, retOM_fz, dLookL, dNeN, dLenSet, dSrtSet, sortedF, dTold, dToldB, dToldO, calm_nil, calm_cons, hide_nil, hide_fz, hide_own, hide_no, at_hs, dIsiO, gTG, gGs, gA, gAll, sAsgs, sClr, sAsgN, dFldN, iWk, itmX, valX, keyX, sForN, dDc, dDcP, eqKd, dDsp1, dGet, dGetN, sPutK, inKv, kyOf, ownK, dictF, dLitm, dIxK, eqKv, sortedIF, ltSD, dDspT, sPutT, ownKT, dTupK, giveE, R.raw, sAsgK, unpK, unpK1, ninKv, eqKg, catTD, repTD, dSlT, sAppAt, updD, sAppAtK, dPopAtK, tNinSet, Slot.dctT, dLcP, R.dctN, lc2L, dLc2, sAugK, dSrtRev, sRetTK, sortedKIF, splitM, partM, intTF, dStp, dTake, sTryF, dRep, dPopN, sPutFT, dFldP, dIxFT, dSrtFS, sortedLLF, dLc2I, dDcT, dGetNT, dLstKT, sUpdP, runG, gThen, gPlain, gNil, gYield, gYieldR, gIf, gFor, GD.at, sForGen, dLcGen, dLcGenQ, gDead, dListGen, dCallFV, dKw, dKwM, dKwC, dKwI, pick, List.getElem?_cons_zero, List.getElem?_cons_succ])
def isWord : D → Nat → Bool
  | .str x, n => decide (x.length ≤ n) && x.all isItem
  | _, _ => false
/-- is_word: 0 value, 1 most, 2 item -/
def b_is_word : DS := sRet (dAnd (dIsi .str (zaG 0)) (dAnd (dOp leD (dFn lenF [zaG 0]) (zaG 1)) (dFn allF [dLc [2] (iStr (zaG 0)) (Tgt.g (.one 2)) (tYes) (dOp inDv (zaG 2) (dC (.str [97, 98, 99, 100, 101, 102, 103, 104])))])))
def C_is_word : Con := fun args Q _ => ∃ (d : D) (n : Nat), args = [.fz d, .fz (.int n)] ∧ d.plain ∧ n ≤ 1000000 ∧ ∀ outs, Q (.fz (.bl (isWord d n))) outs
theorem map_filter_true {α β : Type} (f : α → β) (xs : List α) : (xs.filter fun _ => true).map f = xs.map f := by rw [List.filter_eq_self.mpr (fun _ _ => rfl)]
theorem p_is_word : ∀ args Q E, args.length = 2 → C_is_word args Q E → runD 3 b_is_word args Q E := by
  intro args Q E _ h
  obtain ⟨d, n, rfl, hp, hn, hq⟩ := h
  unfold b_is_word
  cases d with
  | str x =>
    walk_at "dl"
    refine ⟨true, rfl, (if_pos rfl).mpr ?_⟩
    have hq2 : ∀ outs, Q (.fz (.bl (decide (x.length ≤ n) && x.all isItem))) outs := hq
    have e : decide ((x.length : Int) ≤ (n : Int)) = decide (x.length ≤ n) := by rw [decide_eq_decide]; omega
    rw [e]
    by_cases hl : x.length ≤ n
    · rw [decide_eq_true hl] at hq2 ⊢
      refine (if_pos rfl).mpr ⟨fun i hi d => ?_, ?_⟩
      · simp only [List.mem_cons, List.not_mem_nil, or_false] at hi
        subst hi
        exact fun h => nomatch h
      · refine lcL_pure (p := fun _ => true) (f := fun x => match x with | .str [c] => D.bl (isItem c) | _ => .non) _ _ (fun y hy k1 k2 h1 h2 => ?_) [] ?_ ?_
        · obtain ⟨c, _, rfl⟩ := List.mem_map.mp hy
          walk_at "dl"
          rw [in_sign, mem_items]
          exact h1 rfl _ _ rfl rfl
        · rw [List.length_map]; show 0 + x.length ≤ 16777216; omega
        · rw [List.nil_append, map_filter_true, List.map_map]
          refine ⟨x.map isItem, by rw [List.map_map]; rfl, ?_⟩
          walk_at "dl"
          have : ((x.map isItem).all id) = x.all isItem := by rw [List.all_map]; rfl
          rw [this]
          exact hq2 _
    · rw [decide_eq_false hl] at hq2 ⊢
      exact hq2 _
  | obj c x => exact absurd rfl hp
  | cls c => exact absurd rfl hp
  | adr c => exact absurd rfl hp
  | _ => walk_at "dl"; exact ⟨false, rfl, hq _⟩
def isInt : D → Bool
  | .int _ => true
  | _ => false
def C_is_integer : Con := fun args Q _ => ∃ d, args = [.fz d] ∧ d.plain ∧ ∀ outs, Q (.fz (.bl (isInt d))) outs
def inRange : D → Int → Int → Bool
  | .int i, a, b => decide (a ≤ i) && decide (i ≤ b)
  | _, _, _ => false
def C_in_range : Con := fun args Q _ => ∃ d a b, args = [.fz d, .fz (.int a), .fz (.int b)] ∧ d.plain ∧ ∀ outs, Q (.fz (.bl (inRange d a b))) outs
def suit (t p : Tx) (n : Nat) : Bool := decide (t.length ≤ n) || (p.take (t.drop n).length == t.drop n)
theorem cut_from {x : Tx} {n : Nat} : cut x (some (n : Int)) none = x.drop n := by
  have this : ¬ ((n : Int) < 0) := by omega
  have e : sIx x.length 0 (some (n : Int)) = min n x.length := by
    show (if (n : Int) < 0 then ((n : Int) + (x.length : Int)).toNat else min (n : Int).toNat x.length) = _
    rw [if_neg this, Int.toNat_natCast]
  show (x.drop (sIx x.length 0 (some (n : Int)))).take (x.length - sIx x.length 0 (some (n : Int))) = _
  rw [e]
  by_cases h : n ≤ x.length
  · rw [Nat.min_eq_left h, ← List.length_drop, List.take_length]
  · rw [Nat.min_eq_right (by omega), List.drop_eq_nil_of_le (Nat.le_refl _), List.drop_eq_nil_of_le (by omega)]
    simp
def C_is_suitable : Con := fun args Q _ => ∃ (t p : Tx) (n : Nat), args = [.fz (.str t), .fz (.str p), .fz (.int n)] ∧ ∀ outs, Q (.fz (.bl (suit t p n))) outs
def validE (t p c : D) : Bool := isWord t 2000 && isWord p 2000 && (match t, p, c with
  | .str x, .str y, .int i => decide (0 ≤ i) && decide (i ≤ x.length) && suit x y i.toNat
  | _, _, _ => false)
theorem isWord_str {d : D} {n : Nat} (h : isWord d n = true) : ∃ x, d = .str x ∧ x.length ≤ n ∧ x.all isItem = true := by
  cases d with
  | str x =>
    have h : (decide (x.length ≤ n) && x.all isItem) = true := h
    rw [Bool.and_eq_true, decide_eq_true_eq] at h
    exact ⟨x, rfl, h.1, h.2⟩
  | _ => cases h
def C_Effect_is_valid : Con := fun args Q _ => ∃ t p c, args = [.fz t, .fz p, .fz c] ∧ t.plain ∧ p.plain ∧ c.plain ∧ ∀ outs, Q (.fz (.bl (validE t p c))) outs
def badPart (t p c : D) : Option Tx := if isWord t 2000 = false then some [116, 97, 107, 101, 115] else if isWord p 2000 = false then some [112, 117, 116, 115] else if validE t p c = false then some [99, 111, 114, 101] else none
def C_Effect___init__ : Con := fun args Q E => ∃ t p c, args = [.own (.obj 0 []), .fz t, .fz p, .fz c] ∧ t.plain ∧ p.plain ∧ c.plain ∧
  (badPart t p c = none → ∀ r o1 o2 o3, r.d = .non → Q r [.own (.obj 0 [t, p, c]), o1, o2, o3]) ∧ ∀ x, badPart t p c = some x → ∀ outs, E ⟨3, .str x⟩ outs
/-- the least suitable number from n on, in f tries -/
def leastS (t p : Tx) : Nat → Nat → Nat
  | 0, n => n
  | f + 1, n => if suit t p n = true then n else leastS t p f (n + 1)
def leastOf (t p : Tx) (n : Nat) : Nat := leastS t p (t.length - n) n
def C_least_suitable : Con := fun args Q _ => ∃ (t p : Tx) (n : Nat), args = [.fz (.str t), .fz (.str p), .fz (.int n)] ∧ ∀ outs, Q (.fz (.int (leastOf t p n))) outs
/-- the depths at the takes -/
def depthsL : List St2 → Int → List Int
  | [], _ => []
  | s :: ss, d => if s.1 == 45 then (d + 1) :: depthsL ss (d + 1) else depthsL ss (d - 1)
def C_depths : Con := fun args Q _ => ∃ ss, args = [.fz (seqD ss)] ∧ ss.length ≤ 1000000 ∧ ∀ r outs, r.d = .lst ((depthsL ss 0).map D.int) → Q r outs
end DL

set_option linter.all false
set_option autoImplicit false
set_option maxRecDepth 100000
namespace DL
local macro_rules | `(tactic| walk_at "dl") => `(tactic| simp -implicitDefEqProofs only [runD, startE, outsE, outs_0, outs_s, List.length_cons, List.length_nil, List.cons_append, List.nil_append, List.replicate, Nat.sub_zero, Nat.add_one_sub_one, Nat.reduceSub, Nat.reduceAdd, dC, dVar_M, dVarM_fz, dVarM_own, dIxN_M, dIxM_fz, dIxM_own, dOpN_M, dOpM_fz, dOpM_own, dFnN_M, dFnM_fz, dFnM_own, dOp, dUn, dArgs, dLst, dTup, dFn, dIsi, dMs, dPart, dSl, dIfE, Slot.known, tVal, tTru, tAnd, tOr, tNot, dAnd, dOr, dNot, dChain, iLst, iTup, iStr, iRng1, iRng2, iEnum, iZip, gN, gNs, gT, gL, Tgt.g, tYes, wipeE, backE, dAVs, dCall, avSlot, AV.ok, Slot.isOwn, bA_nil, bA_v, bA_m, D.isRef, List.all_cons, List.all_nil, List.map_cons, List.map_nil, Bool.and_true, Bool.true_and, List.tail_cons, List.tail_nil, List.head?_cons, sTryFin, dPropM, dLenM, dMakeVT, sAppFL, sPutFK, dIxFK, dLstF, sNx, sSeq, sRet, sRetN, sExp, sAsg, sAsgO, sIf, sAug, sFor, sWh, sBrk, sCnt, sRaise, sApp, sAppP, dLstP, dCatG, dSrtH, sRetT, dCatT, dMinKT, eqKN, listKF, listSF, sExt, sUpdT, mergeT, dDct0T, dIxKT, repZD, neEmp, iWkT, itmT, keyT, dSrtKT, Slot.ownL, sPut, sPut2, putAt, sPar, sParL, sFld, dFld, dMake, mkC, dMakeV, dCm, dObj, D.isObj, dCallV, dCallS, dEqO, dIsO, dDct0, isBD_bl, notBD_bl, revD_lst, sPar3, sTrys, catchD, DEnds.unname, repF, D.eqTo, at_0, at_s, at_nil, set_0, set_s, fzd, frd, ftd, Slot.noT, dVarM_ownT, hide_ownT, dMakeT, mkCT, D.calm, D.unm, dEqN, dProp, strF, sFldT, sAppF, sFldAugT, kidOf, putL, dMethM, Slot.isObj, if_true, if_false, Bool.not_true, Bool.not_false, true_and, and_true, Bool.false_eq_true, ↓reduceIte, lenF, lenD, allF, anyF, sumF, absF, intF, tupleF, swM, ewM, eqv_int, eqv_str, eqv_bl, D.isTy, Int.cast_ofNat_Int, addD_int, addD_str, addD_lst, fdivWD_int, orKD_dct, dMinK, dSumV, iaddD_int, iaddD_str, subD_int, mulD_int, mulD_str, mulD_lst, fdivD_int, modD_int, powD_int, negD_int, eqD, neD_str, neD_int, ltD_int, leD_int, gtD_int, geD_int, isD, isnD, D.isNon, inDv, ninDv, ixD_lst, ixD_tup, ixD_str, slD_lst, slD_frl, slD_str, dLc, dLook, Slot.calm, tLook, iRngD, iRngB', dNeT, revT_str, dDisp, iZipS, iZipK, minPF_2, sParF, dLenO, dRepO, dVals, putR, sParR, dFmt, dFmtR, fstL, dFst, mulWD_int, imulD_int, countM, lstRg, dLrg1, dLrg2, sRetO_M, retOM_own, retOM_fz, dLookL, dNeN, dLenSet, dSrtSet, sortedF, dTold, dToldB, dToldO, calm_nil, calm_cons, hide_nil, hide_fz, hide_own, hide_no, at_hs, dIsiO, gTG, gGs, gA, gAll, sAsgs, sClr, sAsgN, dFldN, iWk, itmX, valX, keyX, sForN, dDc, dDcP, eqKd, dDsp1, dGet, dGetN, sPutK, inKv, kyOf, ownK, dictF, dLitm, dIxK, eqKv, sortedIF, ltSD, dDspT, sPutT, ownKT, dTupK, giveE, R.raw, sAsgK, unpK, unpK1, ninKv, eqKg, catTD, repTD, dSlT, sAppAt, updD, sAppAtK, dPopAtK, tNinSet, Slot.dctT, dLcP, R.dctN, lc2L, dLc2, sAugK, dSrtRev, sRetTK, sortedKIF, splitM, partM, intTF, dStp, dTake, sTryF, dRep, dPopN, sPutFT, dFldP, dIxFT, dSrtFS, sortedLLF, dLc2I, dDcT, dGetNT, dLstKT, sUpdP, runG, gThen, gPlain, gNil, gYield, gYieldR, gIf, gFor, GD.at, sForGen, dLcGen, dLcGenQ, gDead, dListGen, dCallFV, dKw, dKwM, dKwC, dKwI, pick, List.getElem?_cons_zero, List.getElem?_cons_succ])
/-! need, effect -/
def maxL (ds : List Int) : Int := ds.foldr max 0
def needL (ss : List St2) : Int := maxL (depthsL ss 0)
/-- the core of a sequence's effect -/
def coreOf (ss : List St2) : Nat := leastOf (zaC 45 ss) (zaC 43 ss) (needL ss).toNat
def effD (ss : List St2) : D := .obj 0 [.str (zaC 45 ss), .str (zaC 43 ss), .int (coreOf ss)]
def C_Effect_of : Con := fun args Q E => ∃ d, args = [.fz (.cls 0), .fz d] ∧ d.plainL ∧ (firstInv d = .non → ∃ ss, d = seqD ss ∧ okSeq ss ∧ ∀ r outs, r.d = effD ss → Q r outs) ∧ ∀ v, firstInv d = .tup [v] → ∀ outs, E ⟨1, v⟩ outs
def C_effect_of : Con := fun args Q E => ∃ d, args = [.fz d] ∧ d.plainL ∧ (firstInv d = .non → ∃ ss, d = seqD ss ∧ okSeq ss ∧ ∀ r outs, r.d = effD ss → Q r outs) ∧ ∀ v, firstInv d = .tup [v] → ∀ outs, E ⟨1, v⟩ outs
/-- what holds of functions that check their sequence first -/
def seqCon (d : D) (f : List St2 → D) (Q : R → List Slot → Prop) (E : Exc → List Slot → Prop) : Prop := d.plainL ∧ (firstInv d = .non → ∃ ss, d = seqD ss ∧ okSeq ss ∧ ∀ r outs, r.d = f ss → Q r outs) ∧ ∀ v, firstInv d = .tup [v] → ∀ outs, E ⟨1, v⟩ outs
def C_takes_of : Con := fun args Q E => ∃ d, args = [.fz d] ∧ seqCon d (fun ss => .str (zaC 45 ss)) Q E
def C_puts_of : Con := fun args Q E => ∃ d, args = [.fz d] ∧ seqCon d (fun ss => .str (zaC 43 ss)) Q E
def C_need_of : Con := fun args Q E => ∃ d, args = [.fz d] ∧ seqCon d (fun ss => .int (needL ss)) Q E
end DL

set_option linter.all false
set_option autoImplicit false
set_option maxRecDepth 100000
namespace DL
local macro_rules | `(tactic| walk_at "dl") => `(tactic| simp -implicitDefEqProofs only [runD, startE, outsE, outs_0, outs_s, List.length_cons, List.length_nil, List.cons_append, List.nil_append, List.replicate, Nat.sub_zero, Nat.add_one_sub_one, Nat.reduceSub, Nat.reduceAdd, dC, dVar_M, dVarM_fz, dVarM_own, dIxN_M, dIxM_fz, dIxM_own, dOpN_M, dOpM_fz, dOpM_own, dFnN_M, dFnM_fz, dFnM_own, dOp, dUn, dArgs, dLst, dTup, dFn, dIsi, dMs, dPart, dSl, dIfE, Slot.known, tVal, tTru, tAnd, tOr, tNot, dAnd, dOr, dNot, dChain, iLst, iTup, iStr, iRng1, iRng2, iEnum, iZip, gN, gNs, gT, gL, Tgt.g, tYes, wipeE, backE, dAVs, dCall, avSlot, AV.ok, Slot.isOwn, bA_nil, bA_v, bA_m, D.isRef, List.all_cons, List.all_nil, List.map_cons, List.map_nil, Bool.and_true, Bool.true_and, List.tail_cons, List.tail_nil, List.head?_cons, sTryFin, dPropM, dLenM, dMakeVT, sAppFL, sPutFK, dIxFK, dLstF, sNx, sSeq, sRet, sRetN, sExp, sAsg, sAsgO, sIf, sAug, sFor, sWh, sBrk, sCnt, sRaise, sApp, sAppP, dLstP, dCatG, dSrtH, sRetT, dCatT, dMinKT, eqKN, listKF, listSF, sExt, sUpdT, mergeT, dDct0T, dIxKT, repZD, neEmp, iWkT, itmT, keyT, dSrtKT, Slot.ownL, sPut, sPut2, putAt, sPar, sParL, sFld, dFld, dMake, mkC, dMakeV, dCm, dObj, D.isObj, dCallV, dCallS, dEqO, dIsO, dDct0, isBD_bl, notBD_bl, revD_lst, sPar3, sTrys, catchD, DEnds.unname, repF, D.eqTo, at_0, at_s, at_nil, set_0, set_s, fzd, frd, ftd, Slot.noT, dVarM_ownT, hide_ownT, dMakeT, mkCT, D.calm, D.unm, dEqN, dProp, strF, sFldT, sAppF, sFldAugT, kidOf, putL, dMethM, Slot.isObj, if_true, if_false, Bool.not_true, Bool.not_false, true_and, and_true, Bool.false_eq_true, ↓reduceIte, lenF, lenD, allF, anyF, sumF, absF, intF, tupleF, swM, ewM, eqv_int, eqv_str, eqv_bl, D.isTy, Int.cast_ofNat_Int, addD_int, addD_str, addD_lst, fdivWD_int, orKD_dct, dMinK, dSumV, iaddD_int, iaddD_str, subD_int, mulD_int, mulD_str, mulD_lst, fdivD_int, modD_int, powD_int, negD_int, eqD, neD_str, neD_int, ltD_int, leD_int, gtD_int, geD_int, isD, isnD, D.isNon, inDv, ninDv, ixD_lst, ixD_tup, ixD_str, slD_lst, slD_frl, slD_str, dLc, dLook, Slot.calm, tLook, iRngD, iRngB', dNeT, revT_str, dDisp, iZipS, iZipK, minPF_2, sParF, dLenO, dRepO, dVals, putR, sParR, dFmt, dFmtR, fstL, dFst, mulWD_int, imulD_int, countM, lstRg, dLrg1, dLrg2, sRetO_M, retOM_own, retOM_fz, dLookL, dNeN, dLenSet, dSrtSet, sortedF, dTold, dToldB, dToldO, calm_nil, calm_cons, hide_nil, hide_fz, hide_own, hide_no, at_hs, dIsiO, gTG, gGs, gA, gAll, sAsgs, sClr, sAsgN, dFldN, iWk, itmX, valX, keyX, sForN, dDc, dDcP, eqKd, dDsp1, dGet, dGetN, sPutK, inKv, kyOf, ownK, dictF, dLitm, dIxK, eqKv, sortedIF, ltSD, dDspT, sPutT, ownKT, dTupK, giveE, R.raw, sAsgK, unpK, unpK1, ninKv, eqKg, catTD, repTD, dSlT, sAppAt, updD, sAppAtK, dPopAtK, tNinSet, Slot.dctT, dLcP, R.dctN, lc2L, dLc2, sAugK, dSrtRev, sRetTK, sortedKIF, splitM, partM, intTF, dStp, dTake, sTryF, dRep, dPopN, sPutFT, dFldP, dIxFT, dSrtFS, sortedLLF, dLc2I, dDcT, dGetNT, dLstKT, sUpdP, runG, gThen, gPlain, gNil, gYield, gYieldR, gIf, gFor, GD.at, sForGen, dLcGen, dLcGenQ, gDead, dListGen, dCallFV, dKw, dKwM, dKwC, dKwI, pick, List.getElem?_cons_zero, List.getElem?_cons_succ])
/-! the law's own helpers: the pool -/
def poolOk (s : Slot) : Prop := ∃ a b : Int, s = .own (.lst [.int a, .int b]) ∧ 0 ≤ b ∧ b < 2147483648
/-- _law_hand: 0 _law_script, 1 _law_k, 2 _law_cell, 3 _law_seed -/
def b__law_hand : DS := sSeq (sAsg (gN 2) (dOp ixD (dOp addD (dSl (zaG 0) (some (zaG 1)) (some (dOp addD (zaG 1) (dC (.int 1))))) (dLst [dC (.int 0)])) (dC (.int 0)))) (sSeq (sAsg (gN 3) (dOp modD (dOp mulD (dOp addD (dOp addD (dOp modD (zaG 2) (dC (.int 2147483647))) (dOp mulD (dC (.int 7919)) (zaG 1))) (dC (.int 1))) (dC (.int 48271))) (dC (.int 2147483629)))) (sRet (dLst [dOp mulD (dFn intF [dOp geD (zaG 2) (dOp powD (dC (.int 10)) (dC (.int 18)))]) (zaG 2), zaG 3])))
def C__law_hand : Con := fun args Q _ => ∃ (ns : List Int) (k : Nat), args = [.fz (.frl (ns.map .int)), .fz (.int k)] ∧ ns.length ≤ 63 ∧ k ≤ 1000 ∧ ∀ a b : Int, 0 ≤ b → b < 2147483648 → ∀ outs, Q (.fr (.lst [.int a, .int b])) outs
theorem cut_map {α β : Type} (f : α → β) (xs : List α) (lo hi : Option Int) : cut (xs.map f) lo hi = (cut xs lo hi).map f := by
  unfold cut
  rw [List.length_map, List.map_take, List.map_drop]
theorem cut_len {α : Type} (xs : List α) (lo hi : Option Int) : (cut xs lo hi).length ≤ xs.length := by
  unfold cut
  rw [List.length_take, List.length_drop]
  omega
theorem p__law_hand : ∀ args Q E, args.length = 2 → C__law_hand args Q E → runD 4 b__law_hand args Q E := by
  intro args Q E _ h
  obtain ⟨ns, k, rfl, hl, hk, hq⟩ := h
  unfold b__law_hand
  walk_at "dl"
  refine ⟨by decide, ?_, ?_⟩
  · have := cut_len (ns.map D.int) (some (k : Int)) (some ((k : Int) + 1))
    rw [List.length_map] at this
    show _ ≤ 16777216
    omega
  · obtain ⟨c, hc⟩ : ∃ c : Int, (cut (ns.map D.int) (some (k : Int)) (some ((k : Int) + 1)) ++ [.int 0])[0]? = some (.int c) := by
      rw [cut_map]
      cases cut ns (some (k : Int)) (some ((k : Int) + 1)) with
      | nil => exact ⟨0, rfl⟩
      | cons c cs => exact ⟨c, rfl⟩
    refine ⟨0, .int c, ?_, hc, ?_⟩
    · unfold ixN
      rw [if_pos (by decide), List.length_append, if_pos (by show (0 : Int) < ((_ + 1 : Nat) : Int); omega)]
      rfl
    · walk_at "dl"
      refine ⟨by decide, .inl ⟨by decide, by decide⟩, .inr ⟨by decide, by decide⟩, by decide, ⟨by decide, by decide, by decide⟩, ?_, by decide, ?_⟩
      · left
        split <;> exact ⟨by decide, by decide⟩
      · refine hq _ _ (Int.emod_nonneg _ (by decide)) ?_ _
        have := Int.emod_lt_of_pos ((c % 2147483647 + 7919 * (k : Int) + 1) * 48271) (b := 2147483629) (by decide)
        omega
/-- _law_draw: 0 _law_pool, 1 _law_size, 2 _law_found -/
def b__law_draw : DS := sSeq (sIf (tVal (dOp gtD (dIxN 0 (dC (.int 0))) (dC (.int 0)))) (sSeq (sAsg (gN 2) (dOp modD (dIxN 0 (dC (.int 0))) (zaG 1))) (sSeq (sPut 0 (dC (.int 0)) (dOp fdivD (dIxN 0 (dC (.int 0))) (zaG 1))) (sRet (zaG 2)))) (sNx)) (sSeq (sPut 0 (dC (.int 1)) (dOp modD (dOp addD (dOp mulD (dIxN 0 (dC (.int 1))) (dC (.int 48271))) (dC (.int 11))) (dC (.int 2147483647)))) (sRet (dOp modD (dOp fdivD (dOp modD (dOp mulD (dIxN 0 (dC (.int 1))) (dIxN 0 (dC (.int 1)))) (dC (.int 2147483629))) (dC (.int 64))) (zaG 1))))
def C__law_draw : Con := fun args Q _ => ∃ (p : Slot) (s : Int), args = [p, .fz (.int s)] ∧ poolOk p ∧ 0 < s ∧ s < 1180591620717411303424 ∧ ∀ (r : Int) (p' o : Slot), 0 ≤ r → r < s → poolOk p' → Q (.fz (.int r)) [p', o]
theorem p__law_draw : ∀ args Q E, args.length = 2 → C__law_draw args Q E → runD 3 b__law_draw args Q E := by
  intro args Q E _ h
  obtain ⟨p, s, rfl, ⟨a, b, rfl, hb1, hb2⟩, hs1, hs2, hq⟩ := h
  unfold b__law_draw
  walk_at "dl"
  refine ⟨0, .int a, rfl, rfl, ?_⟩
  walk_at "dl"
  by_cases ha : (0 : Int) < a
  · rw [decide_eq_true ha]
    refine (if_pos rfl).mpr ⟨0, .int a, rfl, rfl, ?_⟩
    walk_at "dl"
    refine ⟨hs1, 0, .int a, rfl, rfl, ?_⟩
    walk_at "dl"
    refine ⟨⟨hs1, hs2⟩, 0, rfl, ?_⟩
    exact hq _ _ _ (Int.emod_nonneg _ (by omega)) (Int.emod_lt_of_pos _ hs1) ⟨a / s, b, rfl, hb1, hb2⟩
  · rw [decide_eq_false ha]
    walk_at "dl"
    refine ⟨1, .int b, rfl, rfl, ?_⟩
    walk_at "dl"
    refine ⟨.inr ⟨by decide, by decide⟩, by decide, 1, rfl, ?_⟩
    have h0 : 0 ≤ (b * 48271 + 11) % 2147483647 := Int.emod_nonneg _ (by decide)
    have h1 : (b * 48271 + 11) % 2147483647 < 2147483647 := Int.emod_lt_of_pos _ (by decide)
    refine ⟨1, .int ((b * 48271 + 11) % 2147483647), rfl, rfl, 1, .int ((b * 48271 + 11) % 2147483647), rfl, rfl, ?_⟩
    walk_at "dl"
    refine ⟨.inl ⟨by omega, by omega⟩, by decide, ⟨by decide, by decide⟩, hs1, ?_⟩
    exact hq _ _ _ (Int.emod_nonneg _ (by omega)) (Int.emod_lt_of_pos _ hs1) ⟨a, _, rfl, h0, by omega⟩
def okLs (ls : Tx) : Prop := ls ≠ [] ∧ ls.length ≤ 8 ∧ ls.all isItem = true
theorem ix_nat {n : Nat} {r : Int} (h0 : 0 ≤ r) (h1 : r < n) : ixN n r = some r.toNat := by
  unfold ixN
  rw [if_pos h0, if_pos h1]
end DL

set_option linter.all false
set_option autoImplicit false
set_option maxRecDepth 100000
namespace DL
local macro_rules | `(tactic| walk_at "dl") => `(tactic| simp -implicitDefEqProofs only [runD, startE, outsE, outs_0, outs_s, List.length_cons, List.length_nil, List.cons_append, List.nil_append, List.replicate, Nat.sub_zero, Nat.add_one_sub_one, Nat.reduceSub, Nat.reduceAdd, dC, dVar_M, dVarM_fz, dVarM_own, dIxN_M, dIxM_fz, dIxM_own, dOpN_M, dOpM_fz, dOpM_own, dFnN_M, dFnM_fz, dFnM_own, dOp, dUn, dArgs, dLst, dTup, dFn, dIsi, dMs, dPart, dSl, dIfE, Slot.known, tVal, tTru, tAnd, tOr, tNot, dAnd, dOr, dNot, dChain, iLst, iTup, iStr, iRng1, iRng2, iEnum, iZip, gN, gNs, gT, gL, Tgt.g, tYes, wipeE, backE, dAVs, dCall, avSlot, AV.ok, Slot.isOwn, bA_nil, bA_v, bA_m, D.isRef, List.all_cons, List.all_nil, List.map_cons, List.map_nil, Bool.and_true, Bool.true_and, List.tail_cons, List.tail_nil, List.head?_cons, sTryFin, dPropM, dLenM, dMakeVT, sAppFL, sPutFK, dIxFK, dLstF, sNx, sSeq, sRet, sRetN, sExp, sAsg, sAsgO, sIf, sAug, sFor, sWh, sBrk, sCnt, sRaise, sApp, sAppP, dLstP, dCatG, dSrtH, sRetT, dCatT, dMinKT, eqKN, listKF, listSF, sExt, sUpdT, mergeT, dDct0T, dIxKT, repZD, neEmp, iWkT, itmT, keyT, dSrtKT, Slot.ownL, sPut, sPut2, putAt, sPar, sParL, sFld, dFld, dMake, mkC, dMakeV, dCm, dObj, D.isObj, dCallV, dCallS, dEqO, dIsO, dDct0, isBD_bl, notBD_bl, revD_lst, sPar3, sTrys, catchD, DEnds.unname, repF, D.eqTo, at_0, at_s, at_nil, set_0, set_s, fzd, frd, ftd, Slot.noT, dVarM_ownT, hide_ownT, dMakeT, mkCT, D.calm, D.unm, dEqN, dProp, strF, sFldT, sAppF, sFldAugT, kidOf, putL, dMethM, Slot.isObj, if_true, if_false, Bool.not_true, Bool.not_false, true_and, and_true, Bool.false_eq_true, ↓reduceIte, lenF, lenD, allF, anyF, sumF, absF, intF, tupleF, swM, ewM, eqv_int, eqv_str, eqv_bl, D.isTy, Int.cast_ofNat_Int, addD_int, addD_str, addD_lst, fdivWD_int, orKD_dct, dMinK, dSumV, iaddD_int, iaddD_str, subD_int, mulD_int, mulD_str, mulD_lst, fdivD_int, modD_int, powD_int, negD_int, eqD, neD_str, neD_int, ltD_int, leD_int, gtD_int, geD_int, isD, isnD, D.isNon, inDv, ninDv, ixD_lst, ixD_tup, ixD_str, slD_lst, slD_frl, slD_str, dLc, dLook, Slot.calm, tLook, iRngD, iRngB', dNeT, revT_str, dDisp, iZipS, iZipK, minPF_2, sParF, dLenO, dRepO, dVals, putR, sParR, dFmt, dFmtR, fstL, dFst, mulWD_int, imulD_int, countM, lstRg, dLrg1, dLrg2, sRetO_M, retOM_own, retOM_fz, dLookL, dNeN, dLenSet, dSrtSet, sortedF, dTold, dToldB, dToldO, calm_nil, calm_cons, hide_nil, hide_fz, hide_own, hide_no, at_hs, dIsiO, gTG, gGs, gA, gAll, sAsgs, sClr, sAsgN, dFldN, iWk, itmX, valX, keyX, sForN, dDc, dDcP, eqKd, dDsp1, dGet, dGetN, sPutK, inKv, kyOf, ownK, dictF, dLitm, dIxK, eqKv, sortedIF, ltSD, dDspT, sPutT, ownKT, dTupK, giveE, R.raw, sAsgK, unpK, unpK1, ninKv, eqKg, catTD, repTD, dSlT, sAppAt, updD, sAppAtK, dPopAtK, tNinSet, Slot.dctT, dLcP, R.dctN, lc2L, dLc2, sAugK, dSrtRev, sRetTK, sortedKIF, splitM, partM, intTF, dStp, dTake, sTryF, dRep, dPopN, sPutFT, dFldP, dIxFT, dSrtFS, sortedLLF, dLc2I, dDcT, dGetNT, dLstKT, sUpdP, runG, gThen, gPlain, gNil, gYield, gYieldR, gIf, gFor, GD.at, sForGen, dLcGen, dLcGenQ, gDead, dListGen, dCallFV, dKw, dKwM, dKwC, dKwI, pick, List.getElem?_cons_zero, List.getElem?_cons_succ])
def C__law_letters : Con := fun args Q _ => ∃ p, args = [p] ∧ poolOk p ∧ ∀ ls p', okLs ls → poolOk p' → Q (.fz (.str ls)) [p']
theorem rng_len (lo : Int) (n : Nat) : (rng lo n).length = n := by unfold rng; rw [List.length_map, List.length_range]
theorem rng_succ (lo : Int) (n : Nat) : rng lo (n + 1) = .int lo :: rng (lo + 1) n := by
  unfold rng
  rw [List.range_succ_eq_map, List.map_cons, List.map_map]
  refine congr (congrArg List.cons ?_) ?_
  · show D.int (lo + ((0 : Nat) : Int)) = _
    rw [show lo + ((0 : Nat) : Int) = lo from by omega]
  · refine List.map_congr_left fun k _ => ?_
    show D.int (lo + ((k + 1 : Nat) : Int)) = D.int (lo + 1 + (k : Int))
    rw [show lo + ((k + 1 : Nat) : Int) = lo + 1 + (k : Int) from by omega]
/-- one letter drawn -/
theorem ls_at {ls : Tx} {r : Int} (h0 : 0 ≤ r) (h1 : r < ls.length) : ∃ c, ls[r.toNat]? = some c ∧ (ls.all isItem = true → isItem c = true) := by
  have hi : r.toNat < ls.length := by omega
  refine ⟨ls[r.toNat], List.getElem?_eq_getElem hi, fun h => ?_⟩
  exact List.all_eq_true.mp h _ (List.getElem_mem hi)
theorem ls_pos {ls : Tx} (h : okLs ls) : 0 < ls.length := by
  obtain ⟨h1, _⟩ := h
  cases ls with
  | nil => exact absurd rfl h1
  | cons a l => simp
/-- _law_word: 0 _law_pool, 1 _law_letters, 2 _law_most, 3 _law_turn -/
def b__law_word : DS := sRet (dMs joinM (dC (.str [])) [dLc [3] (iRng1 (dCall C__law_draw [.m 0, .v (dOp addD (zaG 2) (dC (.int 1)))])) (Tgt.g (.one 3)) (tYes) (dOp ixD (zaG 1) (dCall C__law_draw [.m 0, .v (dFn lenF [zaG 1])]))])
def C__law_word : Con := fun args Q _ => ∃ (p : Slot) (ls : Tx) (n : Nat), args = [p, .fz (.str ls), .fz (.int n)] ∧ poolOk p ∧ okLs ls ∧ n ≤ 10000 ∧ ∀ (t : Tx) p' o1 o2, t.length ≤ n → t.all isItem = true → (∀ c ∈ t, c ∈ ls) → poolOk p' → Q (.fz (.str t)) [p', o1, o2]
theorem p__law_word : ∀ args Q E, args.length = 3 → C__law_word args Q E → runD 4 b__law_word args Q E := by
  intro args Q E _ h
  obtain ⟨p, ls, n, rfl, ⟨a, b, rfl, h0, h1⟩, hls, hn, hq⟩ := h
  unfold b__law_word
  walk_at "dl"
  refine ⟨_, _, rfl, ⟨a, b, rfl, h0, h1⟩, by omega, by omega, fun r p' o hr0 hr1 hp' => ?_⟩
  walk_at "dl"
  refine ⟨⟨by omega, by omega⟩, fun i hi d => ?_, ?_⟩
  · simp only [List.mem_cons, List.not_mem_nil, or_false] at hi
    subst hi
    exact fun h => nomatch h
  · refine lcL_inv (I := fun xs acc ρ => ∃ p' t, ρ = [p', .fz (.str ls), .fz (.int n), .no] ∧ poolOk p' ∧ acc = t.map (fun c => D.str [c]) ∧ (t.all isItem = true ∧ ∀ c ∈ t, c ∈ ls) ∧ acc.length + xs.length = r.toNat) (fun acc ρ h => ?_) (fun x xs acc ρ h k1 k2 hk1 hk2 => ?_) _ _ _ ⟨p', [], rfl, hp', rfl, ⟨rfl, fun c hc => nomatch hc⟩, by rw [rng_len]; simp⟩
    · obtain ⟨p2, t, rfl, hp2, rfl, ht, hl⟩ := h
      walk_at "dl"
      simp only [List.length_map, List.length_nil] at hl
      refine join_one (k := fun t => Q t _) ?_ (hq _ _ _ _ ?_ ht.1 ht.2 hp2)
      · show t.length ≤ 16777216; omega
      · omega
    · obtain ⟨p2, t, rfl, ⟨a2, b2, rfl, h20, h21⟩, rfl, ht, hl⟩ := h
      walk_at "dl"
      have hpos := ls_pos hls
      refine ⟨_, _, rfl, ⟨a2, b2, rfl, h20, h21⟩, by omega, by have := hls.2.1; omega, fun r2 p3 o2 hr20 hr21 hp3 => ?_⟩
      walk_at "dl"
      obtain ⟨c, hc, hit⟩ := ls_at hr20 hr21
      refine ⟨_, c, ix_nat hr20 hr21, hc, hk1 _ _ ⟨?_, p3, t ++ [c], rfl, hp3, ?_, ?_, ?_⟩⟩
      · simp only [List.length_map, List.length_cons] at hl ⊢
        show _ < 16777216
        omega
      · rw [List.map_append]; rfl
      · refine ⟨by rw [List.all_append, ht.1]; simp [hit hls.2.2], fun x hx => ?_⟩
        rcases List.mem_append.mp hx with hx | hx
        · exact ht.2 x hx
        · rw [List.mem_singleton.mp hx]
          exact List.mem_of_getElem? hc
      · simp only [List.length_append, List.length_map, List.length_cons, List.length_nil] at hl ⊢
        omega
def C__law_steps : Con := fun args Q _ => ∃ (p : Slot) (ls : Tx) (n : Nat), args = [p, .fz (.str ls), .fz (.int n)] ∧ poolOk p ∧ okLs ls ∧ n ≤ 10000 ∧ ∀ (ss : List St2) r p' o1 o2, ss.length ≤ n → (∀ s ∈ ss, okSt s = true) → (∀ s ∈ ss, s.2 ∈ ls) → poolOk p' → r.d = seqD ss → Q r [p', o1, o2]
end DL

set_option linter.all false
set_option autoImplicit false
set_option maxRecDepth 100000
namespace DL
local macro_rules | `(tactic| walk_at "dl") => `(tactic| simp -implicitDefEqProofs only [runD, startE, outsE, outs_0, outs_s, List.length_cons, List.length_nil, List.cons_append, List.nil_append, List.replicate, Nat.sub_zero, Nat.add_one_sub_one, Nat.reduceSub, Nat.reduceAdd, dC, dVar_M, dVarM_fz, dVarM_own, dIxN_M, dIxM_fz, dIxM_own, dOpN_M, dOpM_fz, dOpM_own, dFnN_M, dFnM_fz, dFnM_own, dOp, dUn, dArgs, dLst, dTup, dFn, dIsi, dMs, dPart, dSl, dIfE, Slot.known, tVal, tTru, tAnd, tOr, tNot, dAnd, dOr, dNot, dChain, iLst, iTup, iStr, iRng1, iRng2, iEnum, iZip, gN, gNs, gT, gL, Tgt.g, tYes, wipeE, backE, dAVs, dCall, avSlot, AV.ok, Slot.isOwn, bA_nil, bA_v, bA_m, D.isRef, List.all_cons, List.all_nil, List.map_cons, List.map_nil, Bool.and_true, Bool.true_and, List.tail_cons, List.tail_nil, List.head?_cons, sTryFin, dPropM, dLenM, dMakeVT, sAppFL, sPutFK, dIxFK, dLstF, sNx, sSeq, sRet, sRetN, sExp, sAsg, sAsgO, sIf, sAug, sFor, sWh, sBrk, sCnt, sRaise, sApp, sAppP, dLstP, dCatG, dSrtH, sRetT, dCatT, dMinKT, eqKN, listKF, listSF, sExt, sUpdT, mergeT, dDct0T, dIxKT, repZD, neEmp, iWkT, itmT, keyT, dSrtKT, Slot.ownL, sPut, sPut2, putAt, sPar, sParL, sFld, dFld, dMake, mkC, dMakeV, dCm, dObj, D.isObj, dCallV, dCallS, dEqO, dIsO, dDct0, isBD_bl, notBD_bl, revD_lst, sPar3, sTrys, catchD, DEnds.unname, repF, D.eqTo, at_0, at_s, at_nil, set_0, set_s, fzd, frd, ftd, Slot.noT, dVarM_ownT, hide_ownT, dMakeT, mkCT, D.calm, D.unm, dEqN, dProp, strF, sFldT, sAppF, sFldAugT, kidOf, putL, dMethM, Slot.isObj, if_true, if_false, Bool.not_true, Bool.not_false, true_and, and_true, Bool.false_eq_true, ↓reduceIte, lenF, lenD, allF, anyF, sumF, absF, intF, tupleF, swM, ewM, eqv_int, eqv_str, eqv_bl, D.isTy, Int.cast_ofNat_Int, addD_int, addD_str, addD_lst, fdivWD_int, orKD_dct, dMinK, dSumV, iaddD_int, iaddD_str, subD_int, mulD_int, mulD_str, mulD_lst, fdivD_int, modD_int, powD_int, negD_int, eqD, neD_str, neD_int, ltD_int, leD_int, gtD_int, geD_int, isD, isnD, D.isNon, inDv, ninDv, ixD_lst, ixD_tup, ixD_str, slD_lst, slD_frl, slD_str, dLc, dLook, Slot.calm, tLook, iRngD, iRngB', dNeT, revT_str, dDisp, iZipS, iZipK, minPF_2, sParF, dLenO, dRepO, dVals, putR, sParR, dFmt, dFmtR, fstL, dFst, mulWD_int, imulD_int, countM, lstRg, dLrg1, dLrg2, sRetO_M, retOM_own, retOM_fz, dLookL, dNeN, dLenSet, dSrtSet, sortedF, dTold, dToldB, dToldO, calm_nil, calm_cons, hide_nil, hide_fz, hide_own, hide_no, at_hs, dIsiO, gTG, gGs, gA, gAll, sAsgs, sClr, sAsgN, dFldN, iWk, itmX, valX, keyX, sForN, dDc, dDcP, eqKd, dDsp1, dGet, dGetN, sPutK, inKv, kyOf, ownK, dictF, dLitm, dIxK, eqKv, sortedIF, ltSD, dDspT, sPutT, ownKT, dTupK, giveE, R.raw, sAsgK, unpK, unpK1, ninKv, eqKg, catTD, repTD, dSlT, sAppAt, updD, sAppAtK, dPopAtK, tNinSet, Slot.dctT, dLcP, R.dctN, lc2L, dLc2, sAugK, dSrtRev, sRetTK, sortedKIF, splitM, partM, intTF, dStp, dTake, sTryF, dRep, dPopN, sPutFT, dFldP, dIxFT, dSrtFS, sortedLLF, dLc2I, dDcT, dGetNT, dLstKT, sUpdP, runG, gThen, gPlain, gNil, gYield, gYieldR, gIf, gFor, GD.at, sForGen, dLcGen, dLcGenQ, gDead, dListGen, dCallFV, dKw, dKwM, dKwC, dKwI, pick, List.getElem?_cons_zero, List.getElem?_cons_succ])
/-- running -/
def exec : Tx → List St2 → Nat → Tx × Option Nat
  | q, [], _ => (q, none)
  | q, s :: ss, i => if s.1 == 43 then exec (q ++ [s.2]) ss (i + 1) else match q with
    | c :: q' => if c == s.2 then exec q' ss (i + 1) else (c :: q', some i)
    | [] => ([], some i)
theorem exec_cons {q : Tx} {s : St2} {ss : List St2} {i : Nat} : exec q (s :: ss) i = if s.1 == 43 then exec (q ++ [s.2]) ss (i + 1) else match q with
    | c :: q' => if c == s.2 then exec q' ss (i + 1) else (c :: q', some i)
    | [] => ([], some i) := rfl
theorem exec_on : ∀ (ss tt : List St2) (q : Tx) (i : Nat), (exec q ss i).2 = none → exec q (ss ++ tt) i = exec (exec q ss i).1 tt (i + ss.length)
  | [], tt, q, i, _ => rfl
  | s :: ss, tt, q, i, h => by
    have e : i + (s :: ss).length = i + 1 + ss.length := by rw [List.length_cons]; omega
    rw [exec_cons] at h
    rw [List.cons_append, e, exec_cons, exec_cons]
    split at h
    · rw [if_pos (by assumption), if_pos (by assumption)]
      exact exec_on ss tt _ _ h
    · rw [if_neg (by assumption), if_neg (by assumption)]
      split at h
      · split at h
        · rw [if_pos (by assumption), if_pos (by assumption)]
          exact exec_on ss tt _ _ h
        · cases h
      · cases h
theorem exec_put {x q : Tx} {ss : List St2} {c : Nat} (h : exec x ss 0 = (q, none)) : exec x (ss ++ [(43, c)]) 0 = (q ++ [c], none) := by
  rw [exec_on ss _ _ _ (by rw [h]), h]; rfl
theorem exec_take {x q : Tx} {ss : List St2} {c : Nat} (h : exec x ss 0 = (c :: q, none)) : exec x (ss ++ [(45, c)]) 0 = (q, none) := by
  rw [exec_on ss _ _ _ (by rw [h]), h]
  show (if c == c then (q, none) else (c :: q, some (0 + ss.length))) = _
  rw [if_pos (by simp)]
def C__law_near : Con := fun args Q _ => ∃ (p : Slot) (ls : Tx) (n : Nat), args = [p, .fz (.str ls), .fz (.int n)] ∧ poolOk p ∧ okLs ls ∧ n ≤ 1000 ∧
  ∀ (x y : Tx) (ss : List St2) r p' o1 o2, x.length ≤ n → x.all isItem = true → y.length ≤ n + ss.length → y.all isItem = true → exec x ss 0 = (y, none) → ss.length ≤ 2 * n → (∀ s ∈ ss, okSt s = true) → poolOk p' → r.d = .tup [.str x, seqD ss, .str y] → Q r [p', o1, o2]
def C__law_fit : Con := fun args Q _ => ∃ (t p : Tx) (n : Nat), args = [.fz (.str t), .fz (.str p), .fz (.int n)] ∧ ∀ outs, Q (.fz (.bl (suit t p n))) outs
theorem cut_to {x : Tx} {n : Nat} : cut x none (some (n : Int)) = x.take n := by
  have e : sIx x.length x.length (some (n : Int)) = min n x.length := by
    show (if (n : Int) < 0 then ((n : Int) + (x.length : Int)).toNat else min (n : Int).toNat x.length) = _
    rw [if_neg (by omega), Int.toNat_natCast]
  show (x.drop 0).take (sIx x.length x.length (some (n : Int)) - 0) = _
  rw [e, List.drop_zero, Nat.sub_zero]
  by_cases h : n ≤ x.length
  · rw [Nat.min_eq_left h]
  · rw [Nat.min_eq_right (by omega), List.take_length, List.take_of_length_le (by omega)]
end DL

set_option linter.all false
set_option autoImplicit false
set_option maxRecDepth 100000
namespace DL
local macro_rules | `(tactic| walk_at "dl") => `(tactic| simp -implicitDefEqProofs only [runD, startE, outsE, outs_0, outs_s, List.length_cons, List.length_nil, List.cons_append, List.nil_append, List.replicate, Nat.sub_zero, Nat.add_one_sub_one, Nat.reduceSub, Nat.reduceAdd, dC, dVar_M, dVarM_fz, dVarM_own, dIxN_M, dIxM_fz, dIxM_own, dOpN_M, dOpM_fz, dOpM_own, dFnN_M, dFnM_fz, dFnM_own, dOp, dUn, dArgs, dLst, dTup, dFn, dIsi, dMs, dPart, dSl, dIfE, Slot.known, tVal, tTru, tAnd, tOr, tNot, dAnd, dOr, dNot, dChain, iLst, iTup, iStr, iRng1, iRng2, iEnum, iZip, gN, gNs, gT, gL, Tgt.g, tYes, wipeE, backE, dAVs, dCall, avSlot, AV.ok, Slot.isOwn, bA_nil, bA_v, bA_m, D.isRef, List.all_cons, List.all_nil, List.map_cons, List.map_nil, Bool.and_true, Bool.true_and, List.tail_cons, List.tail_nil, List.head?_cons, sTryFin, dPropM, dLenM, dMakeVT, sAppFL, sPutFK, dIxFK, dLstF, sNx, sSeq, sRet, sRetN, sExp, sAsg, sAsgO, sIf, sAug, sFor, sWh, sBrk, sCnt, sRaise, sApp, sAppP, dLstP, dCatG, dSrtH, sRetT, dCatT, dMinKT, eqKN, listKF, listSF, sExt, sUpdT, mergeT, dDct0T, dIxKT, repZD, neEmp, iWkT, itmT, keyT, dSrtKT, Slot.ownL, sPut, sPut2, putAt, sPar, sParL, sFld, dFld, dMake, mkC, dMakeV, dCm, dObj, D.isObj, dCallV, dCallS, dEqO, dIsO, dDct0, isBD_bl, notBD_bl, revD_lst, sPar3, sTrys, catchD, DEnds.unname, repF, D.eqTo, at_0, at_s, at_nil, set_0, set_s, fzd, frd, ftd, Slot.noT, dVarM_ownT, hide_ownT, dMakeT, mkCT, D.calm, D.unm, dEqN, dProp, strF, sFldT, sAppF, sFldAugT, kidOf, putL, dMethM, Slot.isObj, if_true, if_false, Bool.not_true, Bool.not_false, true_and, and_true, Bool.false_eq_true, ↓reduceIte, lenF, lenD, allF, anyF, sumF, absF, intF, tupleF, swM, ewM, eqv_int, eqv_str, eqv_bl, D.isTy, Int.cast_ofNat_Int, addD_int, addD_str, addD_lst, fdivWD_int, orKD_dct, dMinK, dSumV, iaddD_int, iaddD_str, subD_int, mulD_int, mulD_str, mulD_lst, fdivD_int, modD_int, powD_int, negD_int, eqD, neD_str, neD_int, ltD_int, leD_int, gtD_int, geD_int, isD, isnD, D.isNon, inDv, ninDv, ixD_lst, ixD_tup, ixD_str, slD_lst, slD_frl, slD_str, dLc, dLook, Slot.calm, tLook, iRngD, iRngB', dNeT, revT_str, dDisp, iZipS, iZipK, minPF_2, sParF, dLenO, dRepO, dVals, putR, sParR, dFmt, dFmtR, fstL, dFst, mulWD_int, imulD_int, countM, lstRg, dLrg1, dLrg2, sRetO_M, retOM_own, retOM_fz, dLookL, dNeN, dLenSet, dSrtSet, sortedF, dTold, dToldB, dToldO, calm_nil, calm_cons, hide_nil, hide_fz, hide_own, hide_no, at_hs, dIsiO, gTG, gGs, gA, gAll, sAsgs, sClr, sAsgN, dFldN, iWk, itmX, valX, keyX, sForN, dDc, dDcP, eqKd, dDsp1, dGet, dGetN, sPutK, inKv, kyOf, ownK, dictF, dLitm, dIxK, eqKv, sortedIF, ltSD, dDspT, sPutT, ownKT, dTupK, giveE, R.raw, sAsgK, unpK, unpK1, ninKv, eqKg, catTD, repTD, dSlT, sAppAt, updD, sAppAtK, dPopAtK, tNinSet, Slot.dctT, dLcP, R.dctN, lc2L, dLc2, sAugK, dSrtRev, sRetTK, sortedKIF, splitM, partM, intTF, dStp, dTake, sTryF, dRep, dPopN, sPutFT, dFldP, dIxFT, dSrtFS, sortedLLF, dLc2I, dDcT, dGetNT, dLstKT, sUpdP, runG, gThen, gPlain, gNil, gYield, gYieldR, gIf, gFor, GD.at, sForGen, dLcGen, dLcGenQ, gDead, dListGen, dCallFV, dKw, dKwM, dKwC, dKwI, pick, List.getElem?_cons_zero, List.getElem?_cons_succ])
def stepV (s : St2) : Int := if (s.1 == 45) = true then 1 else -1
/-- the greatest depth so far, behind all steps -/
def coreLoop : List St2 → Int → Int → Int
  | [], _, c => c
  | s :: ss, d, c => coreLoop ss (d + stepV s) (max c (d + stepV s))
theorem min_if (c d : Int) : (if d < c then d else c) = min c d := by
  by_cases h : d < c
  · rw [if_pos h]; omega
  · rw [if_neg h]; omega
def C__law_parts : Con := fun args Q _ => ∃ ss, args = [.fz (seqD ss)] ∧ ss.length ≤ 1000000 ∧ ∀ r outs, r.d = .tup [.str (zaC 45 ss), .str (zaC 43 ss), .int (coreOf ss)] → Q r outs
theorem minF2 {i j : Int} {k : R → Prop} : minF [.int i, .int j] k = k (.fz (.int (min i j))) := by
  show k (.fz (.int (if j < i then j else i))) = _
  rw [min_if]
theorem own1 {n : Nat} {ρ : Env} (h : ∀ d, ρ.at n ≠ .own d) : ∀ i ∈ ([n] : List Nat), ∀ d, ρ.at i ≠ .own d := by
  intro i hi
  simp only [List.mem_cons, List.not_mem_nil, or_false] at hi
  subst hi
  exact h
def C__law_need : Con := fun args Q _ => ∃ ss, args = [.fz (seqD ss)] ∧ ∀ outs, Q (.fz (.int (needL ss))) outs
end DL

set_option linter.all false
set_option autoImplicit false
set_option maxRecDepth 100000
namespace DL
local macro_rules | `(tactic| walk_at "dl") => `(tactic| simp -implicitDefEqProofs only [runD, startE, outsE, outs_0, outs_s, List.length_cons, List.length_nil, List.cons_append, List.nil_append, List.replicate, Nat.sub_zero, Nat.add_one_sub_one, Nat.reduceSub, Nat.reduceAdd, dC, dVar_M, dVarM_fz, dVarM_own, dIxN_M, dIxM_fz, dIxM_own, dOpN_M, dOpM_fz, dOpM_own, dFnN_M, dFnM_fz, dFnM_own, dOp, dUn, dArgs, dLst, dTup, dFn, dIsi, dMs, dPart, dSl, dIfE, Slot.known, tVal, tTru, tAnd, tOr, tNot, dAnd, dOr, dNot, dChain, iLst, iTup, iStr, iRng1, iRng2, iEnum, iZip, gN, gNs, gT, gL, Tgt.g, tYes, wipeE, backE, dAVs, dCall, avSlot, AV.ok, Slot.isOwn, bA_nil, bA_v, bA_m, D.isRef, List.all_cons, List.all_nil, List.map_cons, List.map_nil, Bool.and_true, Bool.true_and, List.tail_cons, List.tail_nil, List.head?_cons, sTryFin, dPropM, dLenM, dMakeVT, sAppFL, sPutFK, dIxFK, dLstF, sNx, sSeq, sRet, sRetN, sExp, sAsg, sAsgO, sIf, sAug, sFor, sWh, sBrk, sCnt, sRaise, sApp, sAppP, dLstP, dCatG, dSrtH, sRetT, dCatT, dMinKT, eqKN, listKF, listSF, sExt, sUpdT, mergeT, dDct0T, dIxKT, repZD, neEmp, iWkT, itmT, keyT, dSrtKT, Slot.ownL, sPut, sPut2, putAt, sPar, sParL, sFld, dFld, dMake, mkC, dMakeV, dCm, dObj, D.isObj, dCallV, dCallS, dEqO, dIsO, dDct0, isBD_bl, notBD_bl, revD_lst, sPar3, sTrys, catchD, DEnds.unname, repF, D.eqTo, at_0, at_s, at_nil, set_0, set_s, fzd, frd, ftd, Slot.noT, dVarM_ownT, hide_ownT, dMakeT, mkCT, D.calm, D.unm, dEqN, dProp, strF, sFldT, sAppF, sFldAugT, kidOf, putL, dMethM, Slot.isObj, if_true, if_false, Bool.not_true, Bool.not_false, true_and, and_true, Bool.false_eq_true, ↓reduceIte, lenF, lenD, allF, anyF, sumF, absF, intF, tupleF, swM, ewM, eqv_int, eqv_str, eqv_bl, D.isTy, Int.cast_ofNat_Int, addD_int, addD_str, addD_lst, fdivWD_int, orKD_dct, dMinK, dSumV, iaddD_int, iaddD_str, subD_int, mulD_int, mulD_str, mulD_lst, fdivD_int, modD_int, powD_int, negD_int, eqD, neD_str, neD_int, ltD_int, leD_int, gtD_int, geD_int, isD, isnD, D.isNon, inDv, ninDv, ixD_lst, ixD_tup, ixD_str, slD_lst, slD_frl, slD_str, dLc, dLook, Slot.calm, tLook, iRngD, iRngB', dNeT, revT_str, dDisp, iZipS, iZipK, minPF_2, sParF, dLenO, dRepO, dVals, putR, sParR, dFmt, dFmtR, fstL, dFst, mulWD_int, imulD_int, countM, lstRg, dLrg1, dLrg2, sRetO_M, retOM_own, retOM_fz, dLookL, dNeN, dLenSet, dSrtSet, sortedF, dTold, dToldB, dToldO, calm_nil, calm_cons, hide_nil, hide_fz, hide_own, hide_no, at_hs, dIsiO, gTG, gGs, gA, gAll, sAsgs, sClr, sAsgN, dFldN, iWk, itmX, valX, keyX, sForN, dDc, dDcP, eqKd, dDsp1, dGet, dGetN, sPutK, inKv, kyOf, ownK, dictF, dLitm, dIxK, eqKv, sortedIF, ltSD, dDspT, sPutT, ownKT, dTupK, giveE, R.raw, sAsgK, unpK, unpK1, ninKv, eqKg, catTD, repTD, dSlT, sAppAt, updD, sAppAtK, dPopAtK, tNinSet, Slot.dctT, dLcP, R.dctN, lc2L, dLc2, sAugK, dSrtRev, sRetTK, sortedKIF, splitM, partM, intTF, dStp, dTake, sTryF, dRep, dPopN, sPutFT, dFldP, dIxFT, dSrtFS, sortedLLF, dLc2I, dDcT, dGetNT, dLstKT, sUpdP, runG, gThen, gPlain, gNil, gYield, gYieldR, gIf, gFor, GD.at, sForGen, dLcGen, dLcGenQ, gDead, dListGen, dCallFV, dKw, dKwM, dKwC, dKwI, pick, List.getElem?_cons_zero, List.getElem?_cons_succ])
/-! what sequences do to queues: plain lists -/
/-- an effect, as data -/
structure Eff where
  t : Tx
  p : Tx
  c : Nat
def Eff.D (e : Eff) : D := .obj 0 [.str e.t, .str e.p, .int e.c]
/-- what it accepts -/
def Eff.Acc (e : Eff) (q : Tx) : Prop := e.c ≤ q.length ∧ e.t <+: q ++ e.p
instance (e : Eff) (q : Tx) : Decidable (e.Acc q) := by unfold Eff.Acc; exact inferInstance
def Eff.app (e : Eff) (q : Tx) : Tx := (q ++ e.p).drop e.t.length
def Eff.acc (e : Eff) (q : Tx) : Bool := decide (e.Acc q)
structure Eff.Ok (e : Eff) : Prop where
  core : e.c ≤ e.t.length
  suit : suit e.t e.p e.c = true
def effOf (ss : List St2) : Eff := ⟨zaC 45 ss, zaC 43 ss, coreOf ss⟩
theorem depths_shift : ∀ (ss : List St2) (d n : Int), (∀ y ∈ depthsL ss d, y ≤ n) ↔ (∀ y ∈ depthsL ss 0, y ≤ n - d)
  | [], d, n => by simp [depthsL]
  | s :: ss, d, n => by
    rw [depthsL, depthsL]
    cases hs : (s.1 == 45) with
    | true =>
      simp only [if_true, List.mem_cons, forall_eq_or_imp]
      rw [depths_shift ss (d + 1) n, depths_shift ss (0 + 1) (n - d)]
      have e : n - (d + 1) = n - d - (0 + 1) := by omega
      rw [e]
      constructor <;> rintro ⟨h1, h2⟩ <;> exact ⟨by omega, h2⟩
    | false =>
      simp only [Bool.false_eq_true, if_false]
      rw [depths_shift ss (d - 1) n, depths_shift ss (0 - 1) (n - d)]
      have e : n - (d - 1) = n - d - (0 - 1) := by omega
      rw [e]
theorem items_take {c : Nat} {ss : List St2} : zaC 45 ((45, c) :: ss) = c :: zaC 45 ss ∧ zaC 43 ((45, c) :: ss) = zaC 43 ss := ⟨rfl, rfl⟩
theorem items_put {c : Nat} {ss : List St2} : zaC 45 ((43, c) :: ss) = zaC 45 ss ∧ zaC 43 ((43, c) :: ss) = c :: zaC 43 ss := ⟨rfl, rfl⟩
def signs (ss : List St2) : Prop := ∀ s ∈ ss, s.1 = 43 ∨ s.1 = 45
theorem exec_iff : ∀ (ss : List St2) (q : Tx) (i : Nat), signs ss → ((exec q ss i).2 = none ↔ (∀ y ∈ depthsL ss 0, y ≤ (q.length : Int)) ∧ zaC 45 ss <+: q ++ zaC 43 ss) ∧
    ((exec q ss i).2 = none → (exec q ss i).1 = (q ++ zaC 43 ss).drop (zaC 45 ss).length)
  | [], q, i, _ => ⟨⟨fun _ => ⟨by simp [depthsL], List.nil_prefix⟩, fun _ => rfl⟩, fun _ => by simp [exec, zaC]⟩
  | (a, c) :: ss, q, i, h => by
    have hss : signs ss := fun s hs => h s (List.mem_cons_of_mem _ hs)
    rcases h (a, c) List.mem_cons_self with ha | ha
    · have ha : a = 43 := ha
      subst ha
      obtain ⟨ih1, ih2⟩ := exec_iff ss (q ++ [c]) (i + 1) hss
      have ex : exec q ((43, c) :: ss) i = exec (q ++ [c]) ss (i + 1) := rfl
      have de : depthsL ((43, c) :: ss) 0 = depthsL ss (0 - 1) := rfl
      rw [ex, items_put.1, items_put.2, de, depths_shift ss (0 - 1)]
      have el : ((q ++ [c]).length : Int) = (q.length : Int) - (0 - 1) := by rw [List.length_append]; show ((q.length + 1 : Nat) : Int) = _; omega
      have ea : q ++ c :: zaC 43 ss = (q ++ [c]) ++ zaC 43 ss := by simp
      rw [el] at ih1
      rw [ea]
      exact ⟨ih1, ih2⟩
    · have ha : a = 45 := ha
      subst ha
      have de : depthsL ((45, c) :: ss) 0 = (0 + 1) :: depthsL ss (0 + 1) := rfl
      rw [items_take.1, items_take.2, de]
      cases q with
      | nil =>
        have ex : exec [] ((45, c) :: ss) i = ([], some i) := rfl
        rw [ex]
        refine ⟨⟨fun z => (nomatch z), fun z => ?_⟩, fun z => (nomatch z)⟩
        have := z.1 (0 + 1) List.mem_cons_self
        simp at this
      | cons b q =>
        have ex : exec (b :: q) ((45, c) :: ss) i = if b == c then exec q ss (i + 1) else (b :: q, some i) := rfl
        rw [ex]
        cases hb : (b == c) with
        | true =>
          have hbc : b = c := by simpa using hb
          subst hbc
          obtain ⟨ih1, ih2⟩ := exec_iff ss q (i + 1) hss
          simp only [if_true, List.mem_cons, forall_eq_or_imp, List.cons_append, List.length_cons, List.drop_succ_cons]
          rw [ih1, depths_shift ss (0 + 1), List.cons_prefix_cons]
          have el : ((q.length + 1 : Nat) : Int) - (0 + 1) = (q.length : Int) := by omega
          rw [el]
          refine ⟨⟨fun z => ⟨⟨by omega, z.1⟩, rfl, z.2⟩, fun z => ⟨z.1.2, z.2.2⟩⟩, fun z => ih2 (ih1.mpr z)⟩
        | false =>
          have hbc : b ≠ c := by simpa using hb
          refine ⟨⟨fun z => (nomatch z), fun z => ?_⟩, fun z => (nomatch z)⟩
          have := z.2
          rw [List.cons_append, List.cons_prefix_cons] at this
          exact absurd this.1.symm hbc
/-! composition -/
def comp (a b : Eff) : Eff := ⟨a.t ++ b.t, a.p ++ b.p, leastOf (a.t ++ b.t) (a.p ++ b.p) (max a.c (b.c + a.t.length - a.p.length))⟩
theorem items_append (sg : Nat) (ss tt : List St2) : zaC sg (ss ++ tt) = zaC sg ss ++ zaC sg tt := by
  unfold zaC
  rw [List.filter_append, List.map_append]
theorem signs_of {ss : List St2} (h : ∀ s ∈ ss, okSt s = true) : signs ss := fun s hs => by
  have := h s hs
  unfold okSt at this
  rw [Bool.and_eq_true, Bool.or_eq_true, beq_iff_eq, beq_iff_eq] at this
  exact this.1
def idE : Eff := ⟨[], [], 0⟩
end DL

set_option linter.all false
set_option autoImplicit false
set_option maxRecDepth 100000
namespace DL
local macro_rules | `(tactic| walk_at "dl") => `(tactic| simp -implicitDefEqProofs only [runD, startE, outsE, outs_0, outs_s, List.length_cons, List.length_nil, List.cons_append, List.nil_append, List.replicate, Nat.sub_zero, Nat.add_one_sub_one, Nat.reduceSub, Nat.reduceAdd, dC, dVar_M, dVarM_fz, dVarM_own, dIxN_M, dIxM_fz, dIxM_own, dOpN_M, dOpM_fz, dOpM_own, dFnN_M, dFnM_fz, dFnM_own, dOp, dUn, dArgs, dLst, dTup, dFn, dIsi, dMs, dPart, dSl, dIfE, Slot.known, tVal, tTru, tAnd, tOr, tNot, dAnd, dOr, dNot, dChain, iLst, iTup, iStr, iRng1, iRng2, iEnum, iZip, gN, gNs, gT, gL, Tgt.g, tYes, wipeE, backE, dAVs, dCall, avSlot, AV.ok, Slot.isOwn, bA_nil, bA_v, bA_m, D.isRef, List.all_cons, List.all_nil, List.map_cons, List.map_nil, Bool.and_true, Bool.true_and, List.tail_cons, List.tail_nil, List.head?_cons, sTryFin, dPropM, dLenM, dMakeVT, sAppFL, sPutFK, dIxFK, dLstF, sNx, sSeq, sRet, sRetN, sExp, sAsg, sAsgO, sIf, sAug, sFor, sWh, sBrk, sCnt, sRaise, sApp, sAppP, dLstP, dCatG, dSrtH, sRetT, dCatT, dMinKT, eqKN, listKF, listSF, sExt, sUpdT, mergeT, dDct0T, dIxKT, repZD, neEmp, iWkT, itmT, keyT, dSrtKT, Slot.ownL, sPut, sPut2, putAt, sPar, sParL, sFld, dFld, dMake, mkC, dMakeV, dCm, dObj, D.isObj, dCallV, dCallS, dEqO, dIsO, dDct0, isBD_bl, notBD_bl, revD_lst, sPar3, sTrys, catchD, DEnds.unname, repF, D.eqTo, at_0, at_s, at_nil, set_0, set_s, fzd, frd, ftd, Slot.noT, dVarM_ownT, hide_ownT, dMakeT, mkCT, D.calm, D.unm, dEqN, dProp, strF, sFldT, sAppF, sFldAugT, kidOf, putL, dMethM, Slot.isObj, if_true, if_false, Bool.not_true, Bool.not_false, true_and, and_true, Bool.false_eq_true, ↓reduceIte, lenF, lenD, allF, anyF, sumF, absF, intF, tupleF, swM, ewM, eqv_int, eqv_str, eqv_bl, D.isTy, Int.cast_ofNat_Int, addD_int, addD_str, addD_lst, fdivWD_int, orKD_dct, dMinK, dSumV, iaddD_int, iaddD_str, subD_int, mulD_int, mulD_str, mulD_lst, fdivD_int, modD_int, powD_int, negD_int, eqD, neD_str, neD_int, ltD_int, leD_int, gtD_int, geD_int, isD, isnD, D.isNon, inDv, ninDv, ixD_lst, ixD_tup, ixD_str, slD_lst, slD_frl, slD_str, dLc, dLook, Slot.calm, tLook, iRngD, iRngB', dNeT, revT_str, dDisp, iZipS, iZipK, minPF_2, sParF, dLenO, dRepO, dVals, putR, sParR, dFmt, dFmtR, fstL, dFst, mulWD_int, imulD_int, countM, lstRg, dLrg1, dLrg2, sRetO_M, retOM_own, retOM_fz, dLookL, dNeN, dLenSet, dSrtSet, sortedF, dTold, dToldB, dToldO, calm_nil, calm_cons, hide_nil, hide_fz, hide_own, hide_no, at_hs, dIsiO, gTG, gGs, gA, gAll, sAsgs, sClr, sAsgN, dFldN, iWk, itmX, valX, keyX, sForN, dDc, dDcP, eqKd, dDsp1, dGet, dGetN, sPutK, inKv, kyOf, ownK, dictF, dLitm, dIxK, eqKv, sortedIF, ltSD, dDspT, sPutT, ownKT, dTupK, giveE, R.raw, sAsgK, unpK, unpK1, ninKv, eqKg, catTD, repTD, dSlT, sAppAt, updD, sAppAtK, dPopAtK, tNinSet, Slot.dctT, dLcP, R.dctN, lc2L, dLc2, sAugK, dSrtRev, sRetTK, sortedKIF, splitM, partM, intTF, dStp, dTake, sTryF, dRep, dPopN, sPutFT, dFldP, dIxFT, dSrtFS, sortedLLF, dLc2I, dDcT, dGetNT, dLstKT, sUpdP, runG, gThen, gPlain, gNil, gYield, gYieldR, gIf, gFor, GD.at, sForGen, dLcGen, dLcGenQ, gDead, dListGen, dCallFV, dKw, dKwM, dKwC, dKwI, pick, List.getElem?_cons_zero, List.getElem?_cons_succ])
/-! queues: running, accepting -/
/-- is_queue: 0 value -/
def b_is_queue : DS := sRet (dCall C_is_word [.v (zaG 0), .v (dC (.int 2100))])
def C_is_queue : Con := fun args Q _ => ∃ d, args = [.fz d] ∧ d.plain ∧ ∀ outs, Q (.fz (.bl (isWord d 2100))) outs
theorem p_is_queue : ∀ args Q E, args.length = 1 → C_is_queue args Q E → runD 1 b_is_queue args Q E := by
  intro args Q E _ h
  obtain ⟨d, rfl, hp, hq⟩ := h
  unfold b_is_queue
  try walk_at "dl"
  exact ⟨d, 2100, rfl, hp, by decide, fun outs => hq _⟩
/-- check_queue: 0 queue -/
def b_check_queue : DS := sIf (tNot (tVal (dCall C_is_queue [.v (zaG 0)]))) (sRaise 0 (zaG 0)) (sNx)
def C_check_queue : Con := fun args Q E => ∃ d, args = [.fz d] ∧ d.plain ∧ (isWord d 2100 = true → ∀ r outs, r.d = .non → Q r outs) ∧ (isWord d 2100 = false → ∀ outs, E ⟨0, d⟩ outs)
theorem p_check_queue : ∀ args Q E, args.length = 1 → C_check_queue args Q E → runD 1 b_check_queue args Q E := by
  intro args Q E _ h
  obtain ⟨d, rfl, hp, h1, h2⟩ := h
  unfold b_check_queue
  try walk_at "dl"
  refine ⟨d, rfl, hp, fun outs => ?_⟩
  try walk_at "dl"
  cases hw : isWord d 2100 with
  | true => exact h1 hw _ _ rfl
  | false => exact h2 hw _
def posD : Option Nat → D
  | none => .non
  | some i => .int i
def execD (x : Tx × Option Nat) : D := .tup [.str x.1, posD x.2]
/-- execute: 0 queue, 1 steps, 2 position, 3 step -/
def b_execute : DS := sSeq (sFor (iEnum (zaG 1)) (gT [2, 3]) (sIf (tVal (dOp eqD (dOp ixD (zaG 3) (dC (.int 0))) (dC (.str [43])))) (sAug 0 iaddD (dOp ixD (zaG 3) (dC (.int 1)))) (sIf (tVal (dOp eqD (dSl (zaG 0) none (some (dC (.int 1)))) (dOp ixD (zaG 3) (dC (.int 1))))) (sAsg (gN 0) (dSl (zaG 0) (some (dC (.int 1))) none)) (sRet (dTup [zaG 0, zaG 2]))))) (sRet (dTup [zaG 0, dC .non]))
def C_execute : Con := fun args Q _ => ∃ (q : Tx) (ss : List St2), args = [.fz (.str q), .fz (seqD ss)] ∧ signs ss ∧ q.length + ss.length ≤ 1000000 ∧ ∀ r outs, r.d = execD (exec q ss 0) → Q r outs
theorem str1_eq {a b : Nat} : (([a] : Tx) == [b]) = (a == b) := by simp
theorem cut_one {q : Tx} : cut q none (some 1) = q.take 1 := cut_to (n := 1)
theorem cut_tail {q : Tx} : cut q (some 1) none = q.drop 1 := cut_from (n := 1)
theorem p_execute : ∀ args Q E, args.length = 2 → C_execute args Q E → runD 4 b_execute args Q E := by
  intro args Q E _ h
  obtain ⟨q, ss, rfl, hs, hl, hq⟩ := h
  unfold b_execute seqD
  try walk_at "dl"
  rw [enumD_from]
  refine forL_inv (I := fun es ρ => ∃ (ts : List St2) (n : Nat) (q' : Tx) (s2 s3 : Slot), es = enumFrom n (ts.map stepD) ∧ ρ = [.fz (.str q'), .fz (.lst (ss.map stepD)), s2, s3] ∧ exec q ss 0 = exec q' ts n ∧ signs ts ∧ q'.length + ts.length ≤ 1000000)
    (fun ρ h => ?_) (fun e es ρ h k hk => ?_) _ _ ⟨ss, 0, q, .no, .no, rfl, rfl, rfl, hs, hl⟩
  · obtain ⟨ts, n, q', s2, s3, h1, rfl, h2, _⟩ := h
    cases ts with
    | nil =>
      try walk_at "dl"
      exact ⟨by decide, hq _ _ (by rw [h2]; rfl)⟩
    | cons t ts => cases h1
  · obtain ⟨ts, n, q', s2, s3, h1, rfl, h2, h3, h4⟩ := h
    cases ts with
    | nil => cases h1
    | cons t ts =>
      cases h1
      obtain ⟨a, b⟩ := t
      have hts : signs ts := fun s hs => h3 s (List.mem_cons_of_mem _ hs)
      simp only [List.length_cons] at h4
      unfold stepD
      try walk_at "dl"
      refine ⟨0, a, rfl, rfl, .inl rfl, ?_⟩
      rw [str1_eq]
      rcases h3 (a, b) List.mem_cons_self with ha | ha
      · have ha : a = 43 := ha
        subst ha
        try walk_at "dl"
        refine (if_pos rfl).mpr ⟨1, b, rfl, rfl, ?_⟩
        refine ⟨?_, hk _ ⟨ts, n + 1, q' ++ [b], _, _, rfl, rfl, h2, hts, ?_⟩⟩
        · show q'.length + 1 ≤ 16777216; omega
        · rw [List.length_append]; show q'.length + 1 + _ ≤ _; omega
      · have ha : a = 45 := ha
        subst ha
        refine (if_neg (by decide)).mpr ?_
        try walk_at "dl"
        refine ⟨1, b, rfl, rfl, .inl rfl, ?_⟩
        rw [cut_one, cut_tail]
        cases q' with
        | nil =>
          refine (if_neg (by simp)).mpr ?_
          try walk_at "dl"
          refine ⟨by decide, hq _ _ ?_⟩
          rw [h2]
          rfl
        | cons c q' =>
          have e1 : ((c :: q').take 1 == [b]) = (c == b) := by show (([c] : Tx) == [b]) = _; exact str1_eq
          rw [e1]
          rw [exec_cons] at h2
          have h2 : exec q ss 0 = if c == b then exec q' ts (n + 1) else (c :: q', some n) := h2
          cases hb : (c == b) with
          | true =>
            rw [hb] at h2
            refine (if_pos rfl).mpr (hk _ ⟨ts, n + 1, q', _, _, rfl, rfl, h2, hts, ?_⟩)
            simp only [List.length_cons] at h4
            omega
          | false =>
            rw [hb] at h2
            refine (if_neg (by decide)).mpr ?_
            try walk_at "dl"
            refine ⟨by decide, hq _ _ ?_⟩
            rw [h2]
            rfl
/-- what holds of functions of a queue and a sequence -/
def runCon (dq ds : D) (Q : R → List Slot → Prop) (E : Exc → List Slot → Prop) (G : Tx → List St2 → Prop) : Prop := dq.plain ∧ ds.plainL ∧ (isWord dq 2100 = false → ∀ outs, E ⟨0, dq⟩ outs) ∧
  (isWord dq 2100 = true → (∀ v, firstInv ds = .tup [v] → ∀ outs, E ⟨1, v⟩ outs) ∧ (firstInv ds = .non → ∃ q ss, dq = .str q ∧ ds = seqD ss ∧ okSeq ss ∧ G q ss))
def C_run : Con := fun args Q E => ∃ dq ds, args = [.fz dq, .fz ds] ∧ runCon dq ds Q E fun q ss => (∀ i, (exec q ss 0).2 = some i → ∀ outs, E ⟨7, .int i⟩ outs) ∧ ((exec q ss 0).2 = none → ∀ r outs, r.d = .str (exec q ss 0).1 → Q r outs)
theorem word_len {q : Tx} {n : Nat} (h : isWord (.str q) n = true) : q.length ≤ n ∧ q.all isItem = true := by
  obtain ⟨x, e, h1, h2⟩ := isWord_str h
  cases e
  exact ⟨h1, h2⟩
theorem okSeq_signs {ss : List St2} (h : okSeq ss) : signs ss := signs_of h.2
def C_failure : Con := fun args Q E => ∃ dq ds, args = [.fz dq, .fz ds] ∧ runCon dq ds Q E fun q ss => ∀ r outs, r.d = posD (exec q ss 0).2 → Q r outs
def C_Effect_accepts : Con := fun args Q E => ∃ (e : Eff) (d : D), args = [.fz e.D, .fz d] ∧ d.plain ∧ (isWord d 2100 = false → ∀ outs, E ⟨0, d⟩ outs) ∧ (isWord d 2100 = true → ∃ q, d = .str q ∧ ∀ outs, Q (.fz (.bl (e.acc q))) outs)
def C_Effect_apply : Con := fun args Q E => ∃ (e : Eff) (d : D), args = [.fz e.D, .fz d] ∧ d.plain ∧ e.p.length ≤ 1000000 ∧ (isWord d 2100 = false → ∀ outs, E ⟨0, d⟩ outs) ∧
  (isWord d 2100 = true → ∃ q, d = .str q ∧ (e.acc q = true → ∀ outs, Q (.fz (.str (e.app q))) outs) ∧ (e.acc q = false → ∀ outs, E ⟨8, .str q⟩ outs))
end DL

set_option linter.all false
set_option autoImplicit false
set_option maxRecDepth 100000
namespace DL
local macro_rules | `(tactic| walk_at "dl") => `(tactic| simp -implicitDefEqProofs only [runD, startE, outsE, outs_0, outs_s, List.length_cons, List.length_nil, List.cons_append, List.nil_append, List.replicate, Nat.sub_zero, Nat.add_one_sub_one, Nat.reduceSub, Nat.reduceAdd, dC, dVar_M, dVarM_fz, dVarM_own, dIxN_M, dIxM_fz, dIxM_own, dOpN_M, dOpM_fz, dOpM_own, dFnN_M, dFnM_fz, dFnM_own, dOp, dUn, dArgs, dLst, dTup, dFn, dIsi, dMs, dPart, dSl, dIfE, Slot.known, tVal, tTru, tAnd, tOr, tNot, dAnd, dOr, dNot, dChain, iLst, iTup, iStr, iRng1, iRng2, iEnum, iZip, gN, gNs, gT, gL, Tgt.g, tYes, wipeE, backE, dAVs, dCall, avSlot, AV.ok, Slot.isOwn, bA_nil, bA_v, bA_m, D.isRef, List.all_cons, List.all_nil, List.map_cons, List.map_nil, Bool.and_true, Bool.true_and, List.tail_cons, List.tail_nil, List.head?_cons, sTryFin, dPropM, dLenM, dMakeVT, sAppFL, sPutFK, dIxFK, dLstF, sNx, sSeq, sRet, sRetN, sExp, sAsg, sAsgO, sIf, sAug, sFor, sWh, sBrk, sCnt, sRaise, sApp, sAppP, dLstP, dCatG, dSrtH, sRetT, dCatT, dMinKT, eqKN, listKF, listSF, sExt, sUpdT, mergeT, dDct0T, dIxKT, repZD, neEmp, iWkT, itmT, keyT, dSrtKT, Slot.ownL, sPut, sPut2, putAt, sPar, sParL, sFld, dFld, dMake, mkC, dMakeV, dCm, dObj, D.isObj, dCallV, dCallS, dEqO, dIsO, dDct0, isBD_bl, notBD_bl, revD_lst, sPar3, sTrys, catchD, DEnds.unname, repF, D.eqTo, at_0, at_s, at_nil, set_0, set_s, fzd, frd, ftd, Slot.noT, dVarM_ownT, hide_ownT, dMakeT, mkCT, D.calm, D.unm, dEqN, dProp, strF, sFldT, sAppF, sFldAugT, kidOf, putL, dMethM, Slot.isObj, if_true, if_false, Bool.not_true, Bool.not_false, true_and, and_true, Bool.false_eq_true, ↓reduceIte, lenF, lenD, allF, anyF, sumF, absF, intF, tupleF, swM, ewM, eqv_int, eqv_str, eqv_bl, D.isTy, Int.cast_ofNat_Int, addD_int, addD_str, addD_lst, fdivWD_int, orKD_dct, dMinK, dSumV, iaddD_int, iaddD_str, subD_int, mulD_int, mulD_str, mulD_lst, fdivD_int, modD_int, powD_int, negD_int, eqD, neD_str, neD_int, ltD_int, leD_int, gtD_int, geD_int, isD, isnD, D.isNon, inDv, ninDv, ixD_lst, ixD_tup, ixD_str, slD_lst, slD_frl, slD_str, dLc, dLook, Slot.calm, tLook, iRngD, iRngB', dNeT, revT_str, dDisp, iZipS, iZipK, minPF_2, sParF, dLenO, dRepO, dVals, putR, sParR, dFmt, dFmtR, fstL, dFst, mulWD_int, imulD_int, countM, lstRg, dLrg1, dLrg2, sRetO_M, retOM_own, retOM_fz, dLookL, dNeN, dLenSet, dSrtSet, sortedF, dTold, dToldB, dToldO, calm_nil, calm_cons, hide_nil, hide_fz, hide_own, hide_no, at_hs, dIsiO, gTG, gGs, gA, gAll, sAsgs, sClr, sAsgN, dFldN, iWk, itmX, valX, keyX, sForN, dDc, dDcP, eqKd, dDsp1, dGet, dGetN, sPutK, inKv, kyOf, ownK, dictF, dLitm, dIxK, eqKv, sortedIF, ltSD, dDspT, sPutT, ownKT, dTupK, giveE, R.raw, sAsgK, unpK, unpK1, ninKv, eqKg, catTD, repTD, dSlT, sAppAt, updD, sAppAtK, dPopAtK, tNinSet, Slot.dctT, dLcP, R.dctN, lc2L, dLc2, sAugK, dSrtRev, sRetTK, sortedKIF, splitM, partM, intTF, dStp, dTake, sTryF, dRep, dPopN, sPutFT, dFldP, dIxFT, dSrtFS, sortedLLF, dLc2I, dDcT, dGetNT, dLstKT, sUpdP, runG, gThen, gPlain, gNil, gYield, gYieldR, gIf, gFor, GD.at, sForGen, dLcGen, dLcGenQ, gDead, dListGen, dCallFV, dKw, dKwM, dKwC, dKwI, pick, List.getElem?_cons_zero, List.getElem?_cons_succ])
/-! numbers of patterns -/
def ch : Nat → Nat → Nat
  | _, 0 => 1
  | 0, _ + 1 => 0
  | n + 1, k + 1 => ch n k + ch n (k + 1)
theorem ch_z (n : Nat) : ch n 0 = 1 := by cases n <;> rfl
theorem ch_big : ∀ {n k : Nat}, n < k → ch n k = 0
  | 0, k + 1, _ => rfl
  | n + 1, k + 1, h => by
    show ch n k + ch n (k + 1) = 0
    rw [ch_big (by omega), ch_big (by omega)]
theorem ch_self : ∀ n : Nat, ch n n = 1
  | 0 => rfl
  | n + 1 => by
    show ch n n + ch n (n + 1) = 1
    rw [ch_self n, ch_big (by omega)]
/-- ch n k * (n - k) = ch n (k + 1) * (k + 1) -/
theorem ch_step : ∀ (n k : Nat), k ≤ n → ch n k * (n - k) = ch n (k + 1) * (k + 1)
  | 0, 0, _ => rfl
  | n + 1, 0, _ => by
    have ih := ch_step n 0 (Nat.zero_le _)
    rw [ch_z] at ih
    show ch (n + 1) 0 * (n + 1 - 0) = (ch n 0 + ch n (0 + 1)) * (0 + 1)
    rw [ch_z, ch_z]
    omega
  | n + 1, k + 1, h => by
    by_cases hk : k + 1 ≤ n
    · have i1 := ch_step n k (by omega)
      have i2 := ch_step n (k + 1) hk
      show (ch n k + ch n (k + 1)) * (n + 1 - (k + 1)) = (ch n (k + 1) + ch n (k + 1 + 1)) * (k + 1 + 1)
      have e : n + 1 - (k + 1) = n - k := by omega
      have e2 : n - k = n - (k + 1) + 1 := by omega
      rw [e, Nat.add_mul, Nat.add_mul, ← i2, i1]
      rw [e2, Nat.mul_add (ch n (k + 1)) (n - (k + 1)) 1, Nat.mul_one, Nat.mul_add (ch n (k + 1)) (k + 1) 1, Nat.mul_one]
      omega
    · have e : k = n := by omega
      subst e
      show (ch k k + ch k (k + 1)) * (k + 1 - (k + 1)) = (ch k (k + 1) + ch k (k + 1 + 1)) * (k + 1 + 1)
      rw [ch_big (Nat.lt_succ_self k), ch_big (by omega : k < k + 1 + 1), Nat.sub_self]
      omega
def binZ (n : Nat) (k : Int) : Nat := if k < 0 then 0 else ch n k.toNat
/-- patterns whose need is at most m -/
def pat (t p : Nat) (m : Int) : Int := if m < 0 ∨ (t : Int) - p > m then 0 else (binZ (t + p) t : Int) - binZ (t + p) (t - m - 1)
/-- the loop's numbers -/
def mulF (n : Nat) : Nat → Nat
  | 0 => 1
  | j + 1 => mulF n j * (n - j) / (j + 1)
/-- binomial: 0 size, 1 chosen, 2 result, 3 number -/
def b_binomial : DS := sSeq (sIf (tOr (tVal (dOp ltD (zaG 1) (dC (.int 0)))) (tVal (dOp gtD (zaG 1) (zaG 0)))) (sRet (dC (.int 0))) (sNx)) (sSeq (sAsg (gN 2) (dC (.int 1))) (sSeq (sFor (iRng1 (zaG 1)) (gN 3) (sAsg (gN 2) (dOp fdivD (dOp mulD (zaG 2) (dOp subD (zaG 0) (zaG 3))) (dOp addD (zaG 3) (dC (.int 1)))))) (sRet (zaG 2))))
def C_binomial : Con := fun args Q _ => ∃ (n : Nat) (k : Int), args = [.fz (.int n), .fz (.int k)] ∧ n ≤ 1000000 ∧ ∀ outs, Q (.fz (.int (binZ n k))) outs
theorem p_binomial : ∀ args Q E, args.length = 2 → C_binomial args Q E → runD 4 b_binomial args Q E := by
  intro args Q E _ h
  obtain ⟨n, k, rfl, hn, hq⟩ := h
  unfold b_binomial
  try walk_at "dl"
  by_cases h1 : k < 0
  · rw [decide_eq_true h1]
    have e : binZ n k = 0 := by unfold binZ; rw [if_pos h1]
    rw [e] at hq
    exact hq _
  · rw [decide_eq_false h1]
    obtain ⟨c, rfl⟩ := Int.eq_ofNat_of_zero_le (by omega : 0 ≤ k)
    have e : binZ n (c : Int) = ch n c := by unfold binZ; rw [if_neg h1, Int.toNat_natCast]
    rw [e] at hq
    try walk_at "dl"
    by_cases h2 : (n : Int) < (c : Int)
    · rw [decide_eq_true h2]
      rw [ch_big (by omega)] at hq
      exact hq _
    · rw [decide_eq_false h2]
      try walk_at "dl"
      refine ⟨⟨by omega, by omega⟩, ?_⟩
      rw [Int.toNat_natCast]
      refine forL_inv (I := fun es ρ => ∃ (j m : Nat) (s3 : Slot), es = rng (j : Int) m ∧ j + m = c ∧ ρ = [.fz (.int n), .fz (.int (c : Int)), .fz (.int (ch n j)), s3])
        (fun ρ h => ?_) (fun x es ρ h k hk => ?_) _ _ ⟨0, c, .no, rfl, by omega, by rw [ch_z]; rfl⟩
      · obtain ⟨j, m, s3, g1, g2, rfl⟩ := h
        cases m with
        | succ m => rw [rng_succ] at g1; cases g1
        | zero =>
          obtain rfl : j = c := by omega
          try walk_at "dl"
          exact hq _
      · obtain ⟨j, m, s3, g1, g2, rfl⟩ := h
        cases m with
        | zero => cases g1
        | succ m =>
          rw [rng_succ] at g1
          cases g1
          try walk_at "dl"
          refine ⟨.inr ⟨by omega, by omega⟩, ⟨by omega, by omega⟩, hk _ ⟨j + 1, m, .fz (.int (j : Int)), rfl, by omega, ?_⟩⟩
          have st := ch_step n j (by omega)
          have e1 : ((ch n j : Int) * ((n : Int) - (j : Int)) / ((j : Int) + 1)) = (ch n (j + 1) : Int) := by
            have : ((n : Int) - (j : Int)) = ((n - j : Nat) : Int) := by omega
            rw [this, ← Int.natCast_mul, st, Int.natCast_mul]
            have h2 : ((j + 1 : Nat) : Int) = (j : Int) + 1 := by omega
            rw [h2, Int.mul_ediv_cancel _ (by omega)]
          rw [e1]
def C_patterns : Con := fun args Q _ => ∃ (t p : Nat) (m : Int), args = [.fz (.int t), .fz (.int p), .fz (.int m)] ∧ t ≤ 100000 ∧ p ≤ 100000 ∧ ∀ outs, Q (.fz (.int (pat t p m))) outs
/-- the first number that is none -/
def badNum (a b c : D) : Option D := if inRange a 0 400 = false then some a else if inRange b 0 400 = false then some b else if inRange c 0 400 = false then some c else none
def C_count_patterns : Con := fun args Q E => ∃ a b c, args = [.fz a, .fz b, .fz c] ∧ a.plain ∧ b.plain ∧ c.plain ∧ (badNum a b c = none → ∃ t p m : Nat, a = .int t ∧ b = .int p ∧ c = .int m ∧ ∀ outs, Q (.fz (.int (pat t p m))) outs) ∧ (∀ d, badNum a b c = some d → ∀ outs, E ⟨5, d⟩ outs)
end DL

set_option linter.all false
set_option autoImplicit false
set_option maxRecDepth 100000
namespace DL
local macro_rules | `(tactic| walk_at "dl") => `(tactic| simp -implicitDefEqProofs only [runD, startE, outsE, outs_0, outs_s, List.length_cons, List.length_nil, List.cons_append, List.nil_append, List.replicate, Nat.sub_zero, Nat.add_one_sub_one, Nat.reduceSub, Nat.reduceAdd, dC, dVar_M, dVarM_fz, dVarM_own, dIxN_M, dIxM_fz, dIxM_own, dOpN_M, dOpM_fz, dOpM_own, dFnN_M, dFnM_fz, dFnM_own, dOp, dUn, dArgs, dLst, dTup, dFn, dIsi, dMs, dPart, dSl, dIfE, Slot.known, tVal, tTru, tAnd, tOr, tNot, dAnd, dOr, dNot, dChain, iLst, iTup, iStr, iRng1, iRng2, iEnum, iZip, gN, gNs, gT, gL, Tgt.g, tYes, wipeE, backE, dAVs, dCall, avSlot, AV.ok, Slot.isOwn, bA_nil, bA_v, bA_m, D.isRef, List.all_cons, List.all_nil, List.map_cons, List.map_nil, Bool.and_true, Bool.true_and, List.tail_cons, List.tail_nil, List.head?_cons, sTryFin, dPropM, dLenM, dMakeVT, sAppFL, sPutFK, dIxFK, dLstF, sNx, sSeq, sRet, sRetN, sExp, sAsg, sAsgO, sIf, sAug, sFor, sWh, sBrk, sCnt, sRaise, sApp, sAppP, dLstP, dCatG, dSrtH, sRetT, dCatT, dMinKT, eqKN, listKF, listSF, sExt, sUpdT, mergeT, dDct0T, dIxKT, repZD, neEmp, iWkT, itmT, keyT, dSrtKT, Slot.ownL, sPut, sPut2, putAt, sPar, sParL, sFld, dFld, dMake, mkC, dMakeV, dCm, dObj, D.isObj, dCallV, dCallS, dEqO, dIsO, dDct0, isBD_bl, notBD_bl, revD_lst, sPar3, sTrys, catchD, DEnds.unname, repF, D.eqTo, at_0, at_s, at_nil, set_0, set_s, fzd, frd, ftd, Slot.noT, dVarM_ownT, hide_ownT, dMakeT, mkCT, D.calm, D.unm, dEqN, dProp, strF, sFldT, sAppF, sFldAugT, kidOf, putL, dMethM, Slot.isObj, if_true, if_false, Bool.not_true, Bool.not_false, true_and, and_true, Bool.false_eq_true, ↓reduceIte, lenF, lenD, allF, anyF, sumF, absF, intF, tupleF, swM, ewM, eqv_int, eqv_str, eqv_bl, D.isTy, Int.cast_ofNat_Int, addD_int, addD_str, addD_lst, fdivWD_int, orKD_dct, dMinK, dSumV, iaddD_int, iaddD_str, subD_int, mulD_int, mulD_str, mulD_lst, fdivD_int, modD_int, powD_int, negD_int, eqD, neD_str, neD_int, ltD_int, leD_int, gtD_int, geD_int, isD, isnD, D.isNon, inDv, ninDv, ixD_lst, ixD_tup, ixD_str, slD_lst, slD_frl, slD_str, dLc, dLook, Slot.calm, tLook, iRngD, iRngB', dNeT, revT_str, dDisp, iZipS, iZipK, minPF_2, sParF, dLenO, dRepO, dVals, putR, sParR, dFmt, dFmtR, fstL, dFst, mulWD_int, imulD_int, countM, lstRg, dLrg1, dLrg2, sRetO_M, retOM_own, retOM_fz, dLookL, dNeN, dLenSet, dSrtSet, sortedF, dTold, dToldB, dToldO, calm_nil, calm_cons, hide_nil, hide_fz, hide_own, hide_no, at_hs, dIsiO, gTG, gGs, gA, gAll, sAsgs, sClr, sAsgN, dFldN, iWk, itmX, valX, keyX, sForN, dDc, dDcP, eqKd, dDsp1, dGet, dGetN, sPutK, inKv, kyOf, ownK, dictF, dLitm, dIxK, eqKv, sortedIF, ltSD, dDspT, sPutT, ownKT, dTupK, giveE, R.raw, sAsgK, unpK, unpK1, ninKv, eqKg, catTD, repTD, dSlT, sAppAt, updD, sAppAtK, dPopAtK, tNinSet, Slot.dctT, dLcP, R.dctN, lc2L, dLc2, sAugK, dSrtRev, sRetTK, sortedKIF, splitM, partM, intTF, dStp, dTake, sTryF, dRep, dPopN, sPutFT, dFldP, dIxFT, dSrtFS, sortedLLF, dLc2I, dDcT, dGetNT, dLstKT, sUpdP, runG, gThen, gPlain, gNil, gYield, gYieldR, gIf, gFor, GD.at, sForGen, dLcGen, dLcGenQ, gDead, dListGen, dCallFV, dKw, dKwM, dKwC, dKwI, pick, List.getElem?_cons_zero, List.getElem?_cons_succ])
/-! numbers of routes -/
def ewB (a b : Tx) : Bool := decide (b.length ≤ a.length) && (a.drop (a.length - b.length) == b)
def ovB (a b : Tx) (s : Nat) : Bool := ewB a (b.take s)
def ovL (a b : Tx) : List Nat := (List.range (min a.length b.length + 1)).filter (ovB a b)
def wdN (s g : Tx) (p : Nat) : Nat := if p < g.length then (if ovB s g (g.length - p) then 1 else 0) else 8 ^ (p - g.length)
def absI (u : Int) : Int := if u < 0 then -u else u
def cnt (s g : Tx) (n : Int) : Int :=
  if absI ((g.length : Int) - s.length) > n ∨ (n - ((g.length : Int) - s.length)) % 2 = 1 then 0
  else (wdN s g ((n + ((g.length : Int) - s.length)) / 2).toNat : Int) * pat (n - (n + ((g.length : Int) - s.length)) / 2).toNat ((n + ((g.length : Int) - s.length)) / 2).toNat s.length
theorem absI_le (u : Int) : u ≤ absI u ∧ -u ≤ absI u ∧ (absI u = u ∨ absI u = -u) := by
  unfold absI
  split <;> omega
def itemsT : Tx := [97, 98, 99, 100, 101, 102, 103, 104]
theorem ov_zero (s g : Tx) : ovB s g 0 = true := by
  unfold ovB ewB
  rw [List.take_zero, List.length_nil, Nat.sub_zero, List.drop_length]
  rfl
/-! numbers of patterns are positive -/
theorem ch_le : ∀ n k : Nat, ch n k ≤ 2 ^ n
  | n, 0 => by rw [ch_z]; exact Nat.one_le_two_pow
  | 0, k + 1 => Nat.zero_le _
  | n + 1, k + 1 => by
    show ch n k + ch n (k + 1) ≤ _
    have := ch_le n k
    have := ch_le n (k + 1)
    rw [Nat.pow_succ]
    omega
/-! the next length -/
def nxtL (total least : Int) : List Nat → Int
  | [] => least + (least - total) % 2
  | k :: r => if least ≤ total - 2 * (k : Int) then total - 2 * (k : Int) else nxtL total least r
def nxt (s g : Tx) (least : Int) : Int := nxtL ((s.length : Int) + g.length) least (ovL s g).reverse
theorem ov_mem {s g : Tx} {k : Nat} : k ∈ ovL s g ↔ k ≤ min s.length g.length ∧ ovB s g k = true := by
  unfold ovL
  rw [List.mem_filter, List.mem_range, Nat.lt_succ_iff]
theorem ov_sorted (s g : Tx) : (ovL s g).Pairwise (· < ·) := List.Pairwise.filter _ List.pairwise_lt_range
theorem ov_has0 (s g : Tx) : 0 ∈ ovL s g := ov_mem.mpr ⟨Nat.zero_le _, ov_zero s g⟩
theorem ov_last (s g : Tx) : ∃ ini k, ovL s g = ini ++ [k] ∧ k ≤ min s.length g.length ∧ ∀ j ∈ ovL s g, j ≤ k := by
  have hne : ovL s g ≠ [] := fun z => by have := ov_has0 s g; rw [z] at this; cases this
  refine ⟨(ovL s g).dropLast, (ovL s g).getLast hne, (List.dropLast_concat_getLast hne).symm, (ov_mem.mp (List.getLast_mem hne)).1, fun j hj => ?_⟩
  have hs := ov_sorted s g
  rw [← List.dropLast_concat_getLast hne] at hs hj
  rcases List.mem_append.mp hj with hj | hj
  · exact Nat.le_of_lt ((List.pairwise_append.mp hs).2.2 j hj _ (List.mem_singleton.mpr rfl))
  · exact Nat.le_of_eq (List.mem_singleton.mp hj)
def dst (s g : Tx) : Int := (s.length : Int) + g.length - 2 * (((ovL s g).getLastD 0 : Nat) : Int)
theorem dst_of {s g : Tx} {ini : List Nat} {k : Nat} (h : ovL s g = ini ++ [k]) : dst s g = (s.length : Int) + g.length - 2 * (k : Int) := by
  unfold dst
  rw [h, List.getLastD_concat]
end DL

set_option linter.all false
set_option autoImplicit false
set_option maxRecDepth 100000
namespace DL
local macro_rules | `(tactic| walk_at "dl") => `(tactic| simp -implicitDefEqProofs only [runD, startE, outsE, outs_0, outs_s, List.length_cons, List.length_nil, List.cons_append, List.nil_append, List.replicate, Nat.sub_zero, Nat.add_one_sub_one, Nat.reduceSub, Nat.reduceAdd, dC, dVar_M, dVarM_fz, dVarM_own, dIxN_M, dIxM_fz, dIxM_own, dOpN_M, dOpM_fz, dOpM_own, dFnN_M, dFnM_fz, dFnM_own, dOp, dUn, dArgs, dLst, dTup, dFn, dIsi, dMs, dPart, dSl, dIfE, Slot.known, tVal, tTru, tAnd, tOr, tNot, dAnd, dOr, dNot, dChain, iLst, iTup, iStr, iRng1, iRng2, iEnum, iZip, gN, gNs, gT, gL, Tgt.g, tYes, wipeE, backE, dAVs, dCall, avSlot, AV.ok, Slot.isOwn, bA_nil, bA_v, bA_m, D.isRef, List.all_cons, List.all_nil, List.map_cons, List.map_nil, Bool.and_true, Bool.true_and, List.tail_cons, List.tail_nil, List.head?_cons, sTryFin, dPropM, dLenM, dMakeVT, sAppFL, sPutFK, dIxFK, dLstF, sNx, sSeq, sRet, sRetN, sExp, sAsg, sAsgO, sIf, sAug, sFor, sWh, sBrk, sCnt, sRaise, sApp, sAppP, dLstP, dCatG, dSrtH, sRetT, dCatT, dMinKT, eqKN, listKF, listSF, sExt, sUpdT, mergeT, dDct0T, dIxKT, repZD, neEmp, iWkT, itmT, keyT, dSrtKT, Slot.ownL, sPut, sPut2, putAt, sPar, sParL, sFld, dFld, dMake, mkC, dMakeV, dCm, dObj, D.isObj, dCallV, dCallS, dEqO, dIsO, dDct0, isBD_bl, notBD_bl, revD_lst, sPar3, sTrys, catchD, DEnds.unname, repF, D.eqTo, at_0, at_s, at_nil, set_0, set_s, fzd, frd, ftd, Slot.noT, dVarM_ownT, hide_ownT, dMakeT, mkCT, D.calm, D.unm, dEqN, dProp, strF, sFldT, sAppF, sFldAugT, kidOf, putL, dMethM, Slot.isObj, if_true, if_false, Bool.not_true, Bool.not_false, true_and, and_true, Bool.false_eq_true, ↓reduceIte, lenF, lenD, allF, anyF, sumF, absF, intF, tupleF, swM, ewM, eqv_int, eqv_str, eqv_bl, D.isTy, Int.cast_ofNat_Int, addD_int, addD_str, addD_lst, fdivWD_int, orKD_dct, dMinK, dSumV, iaddD_int, iaddD_str, subD_int, mulD_int, mulD_str, mulD_lst, fdivD_int, modD_int, powD_int, negD_int, eqD, neD_str, neD_int, ltD_int, leD_int, gtD_int, geD_int, isD, isnD, D.isNon, inDv, ninDv, ixD_lst, ixD_tup, ixD_str, slD_lst, slD_frl, slD_str, dLc, dLook, Slot.calm, tLook, iRngD, iRngB', dNeT, revT_str, dDisp, iZipS, iZipK, minPF_2, sParF, dLenO, dRepO, dVals, putR, sParR, dFmt, dFmtR, fstL, dFst, mulWD_int, imulD_int, countM, lstRg, dLrg1, dLrg2, sRetO_M, retOM_own, retOM_fz, dLookL, dNeN, dLenSet, dSrtSet, sortedF, dTold, dToldB, dToldO, calm_nil, calm_cons, hide_nil, hide_fz, hide_own, hide_no, at_hs, dIsiO, gTG, gGs, gA, gAll, sAsgs, sClr, sAsgN, dFldN, iWk, itmX, valX, keyX, sForN, dDc, dDcP, eqKd, dDsp1, dGet, dGetN, sPutK, inKv, kyOf, ownK, dictF, dLitm, dIxK, eqKv, sortedIF, ltSD, dDspT, sPutT, ownKT, dTupK, giveE, R.raw, sAsgK, unpK, unpK1, ninKv, eqKg, catTD, repTD, dSlT, sAppAt, updD, sAppAtK, dPopAtK, tNinSet, Slot.dctT, dLcP, R.dctN, lc2L, dLc2, sAugK, dSrtRev, sRetTK, sortedKIF, splitM, partM, intTF, dStp, dTake, sTryF, dRep, dPopN, sPutFT, dFldP, dIxFT, dSrtFS, sortedLLF, dLc2I, dDcT, dGetNT, dLstKT, sUpdP, runG, gThen, gPlain, gNil, gYield, gYieldR, gIf, gFor, GD.at, sForGen, dLcGen, dLcGenQ, gDead, dListGen, dCallFV, dKw, dKwM, dKwC, dKwI, pick, List.getElem?_cons_zero, List.getElem?_cons_succ])
theorem word_mk {q : Tx} {n : Nat} (h1 : q.length ≤ n) (h2 : q.all isItem = true) : isWord (.str q) n = true := by
  show (decide (q.length ≤ n) && q.all isItem) = true
  rw [decide_eq_true h1, h2]; rfl
theorem max59 {i j : Int} {k : R → Prop} : maxF [.int i, .int j] k = k (.fz (.int (max i j))) := by
  show k (.fz (.int (if j > i then j else i))) = _
  congr 3
  by_cases h : j > i
  · rw [if_pos h]; omega
  · rw [if_neg h]; omega
/-- what is asked of two queues: the first that is none is told; K of valid ones -/
def QArgs (d e : D) (E : Exc → List Slot → Prop) (K : Tx → Tx → Prop) : Prop := d.plain ∧ e.plain ∧ (isWord d 2100 = false → ∀ o, E ⟨0, d⟩ o) ∧ (isWord d 2100 = true → isWord e 2100 = false → ∀ o, E ⟨0, e⟩ o) ∧
  ∀ s g : Tx, d = .str s → e = .str g → isWord (.str s) 2100 = true → isWord (.str g) 2100 = true → K s g
theorem QArgs.imp {d e : D} {E E' : Exc → List Slot → Prop} {K K' : Tx → Tx → Prop} (h : QArgs d e E K) (hE : ∀ x, (∀ o, E x o) → ∀ o, E' x o) (hK : ∀ s g : Tx, d = .str s → e = .str g → isWord (.str s) 2100 = true → isWord (.str g) 2100 = true → K s g → K' s g) : QArgs d e E' K' := by
  obtain ⟨h1, h2, h3, h4, h5⟩ := h
  exact ⟨h1, h2, fun z => hE _ (h3 z), fun z y => hE _ (h4 z y), fun s g e1 e2 w1 w2 => hK s g e1 e2 w1 w2 (h5 s g e1 e2 w1 w2)⟩
theorem QArgs.mk {s g : Tx} {E : Exc → List Slot → Prop} {K : Tx → Tx → Prop} (w1 : isWord (.str s) 2100 = true) (w2 : isWord (.str g) 2100 = true) (h : K s g) : QArgs (.str s) (.str g) E K := by
  refine ⟨(fun z => nomatch z), (fun z => nomatch z), (fun z => by rw [w1] at z; cases z), (fun _ z => by rw [w2] at z; cases z), fun s' g' e1 e2 _ _ => ?_⟩
  cases e1
  cases e2
  exact h
theorem word_str {d : D} {n : Nat} (h : isWord d n = true) : ∃ s, d = .str s := by
  cases d with
  | str s => exact ⟨s, rfl⟩
  | _ => cases h
/-- check_queues: 0 one, 1 other -/
def b_check_queues : DS := sSeq (sExp (dCall C_check_queue [.v (zaG 0)])) (sExp (dCall C_check_queue [.v (zaG 1)]))
def C_check_queues : Con := fun args Q E => ∃ d e, args = [.fz d, .fz e] ∧ QArgs d e E fun _ _ => ∀ r outs, r.d = .non → Q r outs
theorem p_check_queues : ∀ args Q E, args.length = 2 → C_check_queues args Q E → runD 2 b_check_queues args Q E := by
  intro args Q E _ h
  obtain ⟨d, e, rfl, h1, h2, h3, h4, h5⟩ := h
  unfold b_check_queues
  try walk_at "dl"
  refine ⟨_, rfl, h1, fun w1 r o hr => ?_, fun z o => h3 z _⟩
  try walk_at "dl"
  refine ⟨_, rfl, h2, fun w2 r o hr => ?_, fun z o => h4 w1 z _⟩
  obtain ⟨s, rfl⟩ := word_str w1
  obtain ⟨g, rfl⟩ := word_str w2
  exact h5 s g rfl rfl w1 w2 _ _ rfl
def ovD (s g : Tx) : D := .lst ((ovL s g).map fun (k : Nat) => D.int (k : Int))
def natOf : D → Nat
  | .int i => i.toNat
  | _ => 0
theorem rng_map (n : Nat) : rng 0 n = (List.range n).map fun (k : Nat) => D.int (k : Int) := by
  unfold rng
  refine List.map_congr_left fun k _ => ?_
  rw [show (0 : Int) + (k : Int) = (k : Int) from by omega]
/-- overlaps: 0 one, 1 other, 2 size -/
def b_overlaps : DS := sSeq (sExp (dCall C_check_queues [.v (zaG 0), .v (zaG 1)])) (sRet (dLc [2] (iRng1 (dOp addD (dFn minF [dFn lenF [zaG 0], dFn lenF [zaG 1]]) (dC (.int 1)))) (Tgt.g (.one 2)) (tVal (dMs ewM (zaG 0) [dSl (zaG 1) none (some (zaG 2))])) (zaG 2)))
def C_overlaps : Con := fun args Q E => ∃ d e, args = [.fz d, .fz e] ∧ QArgs d e E fun s g => ∀ r outs, r.d = ovD s g → Q r outs
theorem p_overlaps : ∀ args Q E, args.length = 2 → C_overlaps args Q E → runD 3 b_overlaps args Q E := by
  intro args Q E _ h
  obtain ⟨d, e, rfl, h⟩ := h
  unfold b_overlaps
  try walk_at "dl"
  refine ⟨d, e, rfl, h.imp (fun x z o => z _) fun s g e1 e2 h1 h2 hq r o hr => ?_⟩
  subst e1 e2
  have l1 := (word_len h1).1
  have l2 := (word_len h2).1
  try walk_at "dl"
  rw [minF2]
  try walk_at "dl"
  refine ⟨⟨by omega, by omega⟩, own1 (fun d z => nomatch z), ?_⟩
  rw [show (min (s.length : Int) (g.length : Int) + 1).toNat = min s.length g.length + 1 from by omega, rng_map]
  refine lcL_pure (p := fun d => ovB s g (natOf d)) (f := id) _ _ (fun y hy k1 k2 z1 z2 => ?_) [] (by rw [List.length_map, List.length_range]; show 0 + _ ≤ 16777216; omega) ?_
  · obtain ⟨k, hk, rfl⟩ := List.mem_map.mp hy
    have hk := List.mem_range.mp hk
    try walk_at "dl"
    rw [cut_to]
    have e : (decide ((g.take k).length ≤ s.length) && s.drop (s.length - (g.take k).length) == g.take k) = ovB s g (natOf (.int (k : Int))) := by
      show _ = ovB s g (k : Int).toNat
      rw [Int.toNat_natCast]; rfl
    rw [e]
    cases hb : ovB s g (natOf (.int (k : Int))) with
    | true => exact (if_pos rfl).mpr (z1 hb _ _ rfl rfl)
    | false => exact (if_neg (by decide)).mpr (z2 hb _ rfl)
  · rw [List.nil_append, List.map_id]
    have e : ((List.range (min s.length g.length + 1)).map fun (k : Nat) => D.int (k : Int)).filter (fun d => ovB s g (natOf d)) = (ovL s g).map fun (k : Nat) => D.int (k : Int) := by
      unfold ovL
      rw [List.filter_map]
      refine congrArg _ (List.filter_congr fun k _ => ?_)
      show ovB s g (k : Int).toNat = _
      rw [Int.toNat_natCast]
    rw [e]
    exact hq _ _ rfl
/-- distance: 0 start, 1 goal, 2 kept -/
def b_distance : DS := sSeq (sAsg (gN 2) (dOp ixD (dCall C_overlaps [.v (zaG 0), .v (zaG 1)]) (dUn negD (dC (.int 1))))) (sRet (dOp subD (dOp addD (dFn lenF [zaG 0]) (dFn lenF [zaG 1])) (dOp mulD (dC (.int 2)) (zaG 2))))
def C_distance : Con := fun args Q E => ∃ d e, args = [.fz d, .fz e] ∧ QArgs d e E fun s g => ∀ outs, Q (.fz (.int (dst s g))) outs
theorem p_distance : ∀ args Q E, args.length = 2 → C_distance args Q E → runD 3 b_distance args Q E := by
  intro args Q E _ h
  obtain ⟨d, e, rfl, h⟩ := h
  unfold b_distance
  try walk_at "dl"
  refine ⟨d, e, rfl, h.imp (fun x z o => z _) fun s g e1 e2 h1 h2 hq r o hr => ?_⟩
  subst e1 e2
  show ixD r.d _ _
  rw [hr]
  unfold ovD
  obtain ⟨ini, k, e, _, _⟩ := ov_last s g
  rw [e]
  try walk_at "dl"
  refine ⟨ini.length, .int (k : Int), ?_, ?_, ?_⟩
  · rw [List.map_append, List.length_append]
    unfold ixN
    rw [if_neg (by decide)]
    simp only [List.length_map, List.map_cons, List.map_nil, List.length_singleton]
    rw [if_pos (by omega)]
    congr 1
    omega
  · rw [List.map_append, List.getElem?_append_right (by rw [List.length_map]; exact Nat.le_refl _), List.length_map, Nat.sub_self]
    rfl
  · try walk_at "dl"
    refine ⟨.inl ⟨by decide, by decide⟩, ?_⟩
    rw [dst_of e] at hq
    exact hq _
def C_words_between : Con := fun args Q _ => ∃ (s g : Tx) (p : Nat), args = [.fz (.str s), .fz (.str g), .fz (.int ((s.length : Int) + p))] ∧ p ≤ 100000 ∧ ∀ outs, Q (.fz (.int (wdN s g p))) outs
def C_count_routes : Con := fun args Q E => ∃ d e t, args = [.fz d, .fz e, .fz t] ∧ t.plain ∧ QArgs d e E fun s g => (inRange t 0 400 = false → ∀ o, E ⟨5, t⟩ o) ∧ ∀ n : Nat, t = .int n → n ≤ 400 → ∀ outs, Q (.fz (.int (cnt s g n))) outs
def C_next_route_length : Con := fun args Q E => ∃ d e t, args = [.fz d, .fz e, .fz t] ∧ t.plain ∧ QArgs d e E fun s g => ((isInt t = false ∨ ∃ n : Int, t = .int n ∧ n < 0) → ∀ o, E ⟨5, t⟩ o) ∧ ∀ n : Int, t = .int n → 0 ≤ n → ∀ outs, Q (.fz (.int (nxt s g n))) outs
end DL

set_option linter.all false
set_option autoImplicit false
set_option maxRecDepth 100000
namespace DL
local macro_rules | `(tactic| walk_at "dl") => `(tactic| simp -implicitDefEqProofs only [runD, startE, outsE, outs_0, outs_s, List.length_cons, List.length_nil, List.cons_append, List.nil_append, List.replicate, Nat.sub_zero, Nat.add_one_sub_one, Nat.reduceSub, Nat.reduceAdd, dC, dVar_M, dVarM_fz, dVarM_own, dIxN_M, dIxM_fz, dIxM_own, dOpN_M, dOpM_fz, dOpM_own, dFnN_M, dFnM_fz, dFnM_own, dOp, dUn, dArgs, dLst, dTup, dFn, dIsi, dMs, dPart, dSl, dIfE, Slot.known, tVal, tTru, tAnd, tOr, tNot, dAnd, dOr, dNot, dChain, iLst, iTup, iStr, iRng1, iRng2, iEnum, iZip, gN, gNs, gT, gL, Tgt.g, tYes, wipeE, backE, dAVs, dCall, avSlot, AV.ok, Slot.isOwn, bA_nil, bA_v, bA_m, D.isRef, List.all_cons, List.all_nil, List.map_cons, List.map_nil, Bool.and_true, Bool.true_and, List.tail_cons, List.tail_nil, List.head?_cons, sTryFin, dPropM, dLenM, dMakeVT, sAppFL, sPutFK, dIxFK, dLstF, sNx, sSeq, sRet, sRetN, sExp, sAsg, sAsgO, sIf, sAug, sFor, sWh, sBrk, sCnt, sRaise, sApp, sAppP, dLstP, dCatG, dSrtH, sRetT, dCatT, dMinKT, eqKN, listKF, listSF, sExt, sUpdT, mergeT, dDct0T, dIxKT, repZD, neEmp, iWkT, itmT, keyT, dSrtKT, Slot.ownL, sPut, sPut2, putAt, sPar, sParL, sFld, dFld, dMake, mkC, dMakeV, dCm, dObj, D.isObj, dCallV, dCallS, dEqO, dIsO, dDct0, isBD_bl, notBD_bl, revD_lst, sPar3, sTrys, catchD, DEnds.unname, repF, D.eqTo, at_0, at_s, at_nil, set_0, set_s, fzd, frd, ftd, Slot.noT, dVarM_ownT, hide_ownT, dMakeT, mkCT, D.calm, D.unm, dEqN, dProp, strF, sFldT, sAppF, sFldAugT, kidOf, putL, dMethM, Slot.isObj, if_true, if_false, Bool.not_true, Bool.not_false, true_and, and_true, Bool.false_eq_true, ↓reduceIte, lenF, lenD, allF, anyF, sumF, absF, intF, tupleF, swM, ewM, eqv_int, eqv_str, eqv_bl, D.isTy, Int.cast_ofNat_Int, addD_int, addD_str, addD_lst, fdivWD_int, orKD_dct, dMinK, dSumV, iaddD_int, iaddD_str, subD_int, mulD_int, mulD_str, mulD_lst, fdivD_int, modD_int, powD_int, negD_int, eqD, neD_str, neD_int, ltD_int, leD_int, gtD_int, geD_int, isD, isnD, D.isNon, inDv, ninDv, ixD_lst, ixD_tup, ixD_str, slD_lst, slD_frl, slD_str, dLc, dLook, Slot.calm, tLook, iRngD, iRngB', dNeT, revT_str, dDisp, iZipS, iZipK, minPF_2, sParF, dLenO, dRepO, dVals, putR, sParR, dFmt, dFmtR, fstL, dFst, mulWD_int, imulD_int, countM, lstRg, dLrg1, dLrg2, sRetO_M, retOM_own, retOM_fz, dLookL, dNeN, dLenSet, dSrtSet, sortedF, dTold, dToldB, dToldO, calm_nil, calm_cons, hide_nil, hide_fz, hide_own, hide_no, at_hs, dIsiO, gTG, gGs, gA, gAll, sAsgs, sClr, sAsgN, dFldN, iWk, itmX, valX, keyX, sForN, dDc, dDcP, eqKd, dDsp1, dGet, dGetN, sPutK, inKv, kyOf, ownK, dictF, dLitm, dIxK, eqKv, sortedIF, ltSD, dDspT, sPutT, ownKT, dTupK, giveE, R.raw, sAsgK, unpK, unpK1, ninKv, eqKg, catTD, repTD, dSlT, sAppAt, updD, sAppAtK, dPopAtK, tNinSet, Slot.dctT, dLcP, R.dctN, lc2L, dLc2, sAugK, dSrtRev, sRetTK, sortedKIF, splitM, partM, intTF, dStp, dTake, sTryF, dRep, dPopN, sPutFT, dFldP, dIxFT, dSrtFS, sortedLLF, dLc2I, dDcT, dGetNT, dLstKT, sUpdP, runG, gThen, gPlain, gNil, gYield, gYieldR, gIf, gFor, GD.at, sForGen, dLcGen, dLcGenQ, gDead, dListGen, dCallFV, dKw, dKwM, dKwC, dKwI, pick, List.getElem?_cons_zero, List.getElem?_cons_succ])
/-! shortest routes -/
theorem last_atE {α : Type} {l : List α} {d : α} : ixN (l ++ [d]).length (-1) = some l.length ∧ (l ++ [d])[l.length]? = some d := by
  constructor
  · unfold ixN
    rw [if_neg (by decide), List.length_append]
    simp
    omega
  · simp
theorem cut_fromG {α : Type} {x : List α} {n : Nat} : cut x (some (n : Int)) none = x.drop n := by
  have e : sIx x.length 0 (some (n : Int)) = min n x.length := by
    unfold sIx
    dsimp only
    rw [if_neg (by omega), Int.toNat_natCast]
  have e2 : sIx x.length x.length none = x.length := rfl
  unfold cut
  rw [e, e2]
  by_cases h : n ≤ x.length
  · rw [Nat.min_eq_left h]
    exact List.take_of_length_le (by rw [List.length_drop]; omega)
  · rw [Nat.min_eq_right (by omega), List.drop_of_length_le (Nat.le_refl _), List.drop_of_length_le (by omega), List.take_nil]
theorem cut_1G {α : Type} {x : List α} : cut x (some 1) none = x.drop 1 := cut_fromG (n := 1)
def ovM (s g : Tx) : Nat := (ovL s g).getLastD 0
theorem ovM_le (s g : Tx) : ovM s g ≤ min s.length g.length := by
  obtain ⟨ini, k, e, h, _⟩ := ov_last s g
  unfold ovM
  rw [e, List.getLastD_eq_getLast?, List.getLast?_append]
  exact h
theorem dst_M (s g : Tx) : dst s g = (s.length : Int) + g.length - 2 * (ovM s g : Int) := rfl
def downs (s g : Tx) : List St2 := (s.take (s.length - ovM s g)).map fun c => (45, c)
def ups (s g : Tx) : List St2 := (g.drop (ovM s g)).map fun c => (43, c)
def routeL (s g : Tx) : List St2 := downs s g ++ ups s g
theorem downs_len (s g : Tx) : (downs s g).length = s.length - ovM s g := by
  unfold downs
  rw [List.length_map, List.length_take]
  omega
theorem ups_len (s g : Tx) : (ups s g).length = g.length - ovM s g := by
  unfold ups
  rw [List.length_map, List.length_drop]
theorem route_len (s g : Tx) : ((routeL s g).length : Int) = dst s g := by
  have := ovM_le s g
  unfold routeL
  rw [List.length_append, downs_len, ups_len, dst_M]
  omega
/-- shortest_route: 0 start, 1 goal, 2 kept, 3 item -/
def b_shortest_route : DS := sSeq (sIf (tVal (dOp gtD (dCall C_distance [.v (zaG 0), .v (zaG 1)]) (dC (.int 400)))) (sRaise 10 (dC (.int 400))) (sNx)) (sSeq (sAsg (gN 2) (dOp ixD (dCall C_overlaps [.v (zaG 0), .v (zaG 1)]) (dUn negD (dC (.int 1))))) (sRet (dOp addD (dLc [3] (iStr (dSl (zaG 0) none (some (dOp subD (dFn lenF [zaG 0]) (zaG 2))))) (Tgt.g (.one 3)) (tYes) (dOp addD (dC (.str [45])) (zaG 3))) (dLc [3] (iStr (dSl (zaG 1) (some (zaG 2)) none)) (Tgt.g (.one 3)) (tYes) (dOp addD (dC (.str [43])) (zaG 3))))))
def C_shortest_route : Con := fun args Q E => ∃ d e, args = [.fz d, .fz e] ∧ QArgs d e E fun s g => (400 < dst s g → ∀ o, E ⟨10, .int 400⟩ o) ∧ (dst s g ≤ 400 → ∀ r o, r.d = seqD (routeL s g) → Q r o)
theorem p_shortest_route : ∀ args Q E, args.length = 2 → C_shortest_route args Q E → runD 4 b_shortest_route args Q E := by
  intro args Q E _ h
  obtain ⟨d, e, rfl, h⟩ := h
  unfold b_shortest_route
  try walk_at "dl"
  refine ⟨d, e, rfl, h.imp (fun x z o => z _) fun s g e1 e2 h1 h2 ⟨q1, q2⟩ o => ?_⟩
  subst e1 e2
  have l1 := (word_len h1).1
  have l2 := (word_len h2).1
  have lk := ovM_le s g
  try walk_at "dl"
  by_cases c : 400 < dst s g
  · rw [decide_eq_true c]
    exact (if_pos rfl).mpr (q1 c _)
  · rw [decide_eq_false c]
    refine (if_neg (by decide)).mpr ⟨_, _, rfl, .mk h1 h2 fun r o hr => ?_⟩
    try walk_at "dl"
    simp only [hr]
    unfold ovD
    obtain ⟨ini, k, e, _, _⟩ := ov_last s g
    have ek : ovM s g = k := by unfold ovM; rw [e, List.getLastD_eq_getLast?, List.getLast?_append]; rfl
    rw [e]
    rw [List.map_append]
    refine ⟨_, .int (k : Int), last_atE.1, last_atE.2, ?_⟩
    try walk_at "dl"
    rw [show (s.length : Int) - (k : Int) = ((s.length - k : Nat) : Int) from by omega, cut_to]
    refine ⟨own1 (fun d z => nomatch z), ?_⟩
    refine lcL_pure (p := fun _ => true) (f := fun d => match d with | .str [c] => .str [45, c] | d => d) _ _ (fun y hy k1 k2 z1 z2 => ?_) [] (by rw [List.length_map, List.length_take]; show 0 + _ ≤ 16777216; omega) ?_
    · obtain ⟨c, _, rfl⟩ := List.mem_map.mp hy
      try walk_at "dl"
      exact ⟨by decide, z1 rfl _ _ rfl rfl⟩
    rw [List.nil_append, map_filter_true]
    try walk_at "dl"
    rw [cut_from]
    refine ⟨own1 (fun d z => nomatch z), ?_⟩
    refine lcL_pure (p := fun _ => true) (f := fun d => match d with | .str [c] => .str [43, c] | d => d) _ _ (fun y hy k1 k2 z1 z2 => ?_) [] (by rw [List.length_map, List.length_drop]; show 0 + _ ≤ 16777216; omega) ?_
    · obtain ⟨c, _, rfl⟩ := List.mem_map.mp hy
      try walk_at "dl"
      exact ⟨by decide, z1 rfl _ _ rfl rfl⟩
    rw [List.nil_append, map_filter_true]
    try walk_at "dl"
    refine ⟨by simp only [List.length_map, List.length_take, List.length_drop]; show _ ≤ 16777216; omega, q2 (by omega) _ _ ?_⟩
    rw [List.map_map, List.map_map]
    show D.lst _ = D.lst _
    unfold routeL downs ups
    rw [ek, List.map_append, List.map_map, List.map_map]
    rfl
/-! mixing two lists -/
def mixL : List St2 → List St2 → List (List St2)
  | [], b => [b]
  | x :: a, [] => [x :: a]
  | x :: a, y :: b => (mixL (x :: a) b).map (fun l => y :: l) ++ (mixL a (y :: b)).map fun l => x :: l
termination_by a b => a.length + b.length
theorem mixL_len : ∀ (n : Nat) (a b : List St2), a.length + b.length = n → (mixL a b).length = ch (a.length + b.length) a.length ∧ ∀ l ∈ mixL a b, l.length = a.length + b.length
  | n, [], b, _ => by
    rw [mixL]
    refine ⟨by rw [List.length_nil, ch_z]; rfl, fun l hl => ?_⟩
    rw [List.mem_singleton.mp hl]
    simp
  | n, x :: a, [], _ => by
    rw [mixL]
    refine ⟨by rw [List.length_nil, Nat.add_zero, ch_self]; rfl, fun l hl => ?_⟩
    rw [List.mem_singleton.mp hl]
    simp
  | 0, x :: a, y :: b, h => by simp at h
  | n + 1, x :: a, y :: b, h => by
    rw [mixL]
    simp only [List.length_cons] at h
    obtain ⟨h1, h2⟩ := mixL_len n (x :: a) b (by rw [List.length_cons]; omega)
    obtain ⟨h3, h4⟩ := mixL_len n a (y :: b) (by rw [List.length_cons]; omega)
    refine ⟨?_, fun l hl => ?_⟩
    · rw [List.length_append, List.length_map, List.length_map, h1, h3]
      simp only [List.length_cons]
      rw [show a.length + 1 + (b.length + 1) = (a.length + (b.length + 1)) + 1 from by omega, show a.length + 1 + b.length = a.length + (b.length + 1) from by omega]
      rw [Nat.add_comm]
      rfl
    · simp only [List.length_cons]
      rcases List.mem_append.mp hl with hl | hl
      · obtain ⟨m, hm, rfl⟩ := List.mem_map.mp hl
        rw [List.length_cons, h2 m hm, List.length_cons]
        omega
      · obtain ⟨m, hm, rfl⟩ := List.mem_map.mp hl
        rw [List.length_cons, h4 m hm, List.length_cons]
        omega
def mixD (a b : List St2) : D := .lst ((mixL a b).map seqD)
/-- the calls within one another -/
def dep (a b : List St2) : Nat := if a = [] ∨ b = [] then 1 else a.length + b.length
end DL

set_option linter.all false
set_option autoImplicit false
set_option maxRecDepth 100000
namespace DL
local macro_rules | `(tactic| walk_at "dl") => `(tactic| simp -implicitDefEqProofs only [runD, startE, outsE, outs_0, outs_s, List.length_cons, List.length_nil, List.cons_append, List.nil_append, List.replicate, Nat.sub_zero, Nat.add_one_sub_one, Nat.reduceSub, Nat.reduceAdd, dC, dVar_M, dVarM_fz, dVarM_own, dIxN_M, dIxM_fz, dIxM_own, dOpN_M, dOpM_fz, dOpM_own, dFnN_M, dFnM_fz, dFnM_own, dOp, dUn, dArgs, dLst, dTup, dFn, dIsi, dMs, dPart, dSl, dIfE, Slot.known, tVal, tTru, tAnd, tOr, tNot, dAnd, dOr, dNot, dChain, iLst, iTup, iStr, iRng1, iRng2, iEnum, iZip, gN, gNs, gT, gL, Tgt.g, tYes, wipeE, backE, dAVs, dCall, avSlot, AV.ok, Slot.isOwn, bA_nil, bA_v, bA_m, D.isRef, List.all_cons, List.all_nil, List.map_cons, List.map_nil, Bool.and_true, Bool.true_and, List.tail_cons, List.tail_nil, List.head?_cons, sTryFin, dPropM, dLenM, dMakeVT, sAppFL, sPutFK, dIxFK, dLstF, sNx, sSeq, sRet, sRetN, sExp, sAsg, sAsgO, sIf, sAug, sFor, sWh, sBrk, sCnt, sRaise, sApp, sAppP, dLstP, dCatG, dSrtH, sRetT, dCatT, dMinKT, eqKN, listKF, listSF, sExt, sUpdT, mergeT, dDct0T, dIxKT, repZD, neEmp, iWkT, itmT, keyT, dSrtKT, Slot.ownL, sPut, sPut2, putAt, sPar, sParL, sFld, dFld, dMake, mkC, dMakeV, dCm, dObj, D.isObj, dCallV, dCallS, dEqO, dIsO, dDct0, isBD_bl, notBD_bl, revD_lst, sPar3, sTrys, catchD, DEnds.unname, repF, D.eqTo, at_0, at_s, at_nil, set_0, set_s, fzd, frd, ftd, Slot.noT, dVarM_ownT, hide_ownT, dMakeT, mkCT, D.calm, D.unm, dEqN, dProp, strF, sFldT, sAppF, sFldAugT, kidOf, putL, dMethM, Slot.isObj, if_true, if_false, Bool.not_true, Bool.not_false, true_and, and_true, Bool.false_eq_true, ↓reduceIte, lenF, lenD, allF, anyF, sumF, absF, intF, tupleF, swM, ewM, eqv_int, eqv_str, eqv_bl, D.isTy, Int.cast_ofNat_Int, addD_int, addD_str, addD_lst, fdivWD_int, orKD_dct, dMinK, dSumV, iaddD_int, iaddD_str, subD_int, mulD_int, mulD_str, mulD_lst, fdivD_int, modD_int, powD_int, negD_int, eqD, neD_str, neD_int, ltD_int, leD_int, gtD_int, geD_int, isD, isnD, D.isNon, inDv, ninDv, ixD_lst, ixD_tup, ixD_str, slD_lst, slD_frl, slD_str, dLc, dLook, Slot.calm, tLook, iRngD, iRngB', dNeT, revT_str, dDisp, iZipS, iZipK, minPF_2, sParF, dLenO, dRepO, dVals, putR, sParR, dFmt, dFmtR, fstL, dFst, mulWD_int, imulD_int, countM, lstRg, dLrg1, dLrg2, sRetO_M, retOM_own, retOM_fz, dLookL, dNeN, dLenSet, dSrtSet, sortedF, dTold, dToldB, dToldO, calm_nil, calm_cons, hide_nil, hide_fz, hide_own, hide_no, at_hs, dIsiO, gTG, gGs, gA, gAll, sAsgs, sClr, sAsgN, dFldN, iWk, itmX, valX, keyX, sForN, dDc, dDcP, eqKd, dDsp1, dGet, dGetN, sPutK, inKv, kyOf, ownK, dictF, dLitm, dIxK, eqKv, sortedIF, ltSD, dDspT, sPutT, ownKT, dTupK, giveE, R.raw, sAsgK, unpK, unpK1, ninKv, eqKg, catTD, repTD, dSlT, sAppAt, updD, sAppAtK, dPopAtK, tNinSet, Slot.dctT, dLcP, R.dctN, lc2L, dLc2, sAugK, dSrtRev, sRetTK, sortedKIF, splitM, partM, intTF, dStp, dTake, sTryF, dRep, dPopN, sPutFT, dFldP, dIxFT, dSrtFS, sortedLLF, dLc2I, dDcT, dGetNT, dLstKT, sUpdP, runG, gThen, gPlain, gNil, gYield, gYieldR, gIf, gFor, GD.at, sForGen, dLcGen, dLcGenQ, gDead, dListGen, dCallFV, dKw, dKwM, dKwC, dKwI, pick, List.getElem?_cons_zero, List.getElem?_cons_succ])
/-! shortest routes: all mixes of the takes and the puts, in the order of their signs -/
def dnL (t : Tx) : List St2 := t.map fun c => (45, c)
def upL (p : Tx) : List St2 := p.map fun c => (43, c)
theorem only_put : ∀ {l : List St2}, signs l → zaC 45 l = [] → l = upL (zaC 43 l)
  | [], _, _ => rfl
  | (a, c) :: l, h, e => by
    have hl : signs l := fun s hs => h s (List.mem_cons_of_mem _ hs)
    rcases h (a, c) List.mem_cons_self with ha | ha
    · have ha : a = 43 := ha
      subst ha
      rw [items_put.1] at e
      rw [items_put.2]
      show _ = (43, c) :: upL (zaC 43 l)
      rw [← only_put hl e]
    · have ha : a = 45 := ha
      subst ha
      rw [items_take.1] at e
      cases e
theorem only_take : ∀ {l : List St2}, signs l → zaC 43 l = [] → l = dnL (zaC 45 l)
  | [], _, _ => rfl
  | (a, c) :: l, h, e => by
    have hl : signs l := fun s hs => h s (List.mem_cons_of_mem _ hs)
    rcases h (a, c) List.mem_cons_self with ha | ha
    · have ha : a = 43 := ha
      subst ha
      rw [items_put.2] at e
      cases e
    · have ha : a = 45 := ha
      subst ha
      rw [items_take.2] at e
      rw [items_take.1]
      show _ = (45, c) :: dnL (zaC 45 l)
      rw [← only_take hl e]
theorem items_up : ∀ p : Tx, zaC 43 (upL p) = p ∧ zaC 45 (upL p) = [] ∧ signs (upL p)
  | [] => ⟨rfl, rfl, fun s hs => nomatch hs⟩
  | c :: p => by
    obtain ⟨h1, h2, h3⟩ := items_up p
    refine ⟨?_, ?_, fun s hs => ?_⟩
    · show zaC 43 ((43, c) :: upL p) = _
      rw [items_put.2, h1]
    · show zaC 45 ((43, c) :: upL p) = _
      rw [items_put.1, h2]
    · rcases List.mem_cons.mp hs with rfl | hs
      · exact .inl rfl
      · exact h3 s hs
theorem items_dn : ∀ p : Tx, zaC 43 (dnL p) = [] ∧ zaC 45 (dnL p) = p ∧ signs (dnL p)
  | [] => ⟨rfl, rfl, fun s hs => nomatch hs⟩
  | c :: p => by
    obtain ⟨h1, h2, h3⟩ := items_dn p
    refine ⟨?_, ?_, fun s hs => ?_⟩
    · show zaC 43 ((45, c) :: dnL p) = _
      rw [items_take.2, h1]
    · show zaC 45 ((45, c) :: dnL p) = _
      rw [items_take.1, h2]
    · rcases List.mem_cons.mp hs with rfl | hs
      · exact .inr rfl
      · exact h3 s hs
theorem mixL_nil (b : List St2) : mixL [] b = [b] := by rw [mixL]
theorem mixL_cn (x : St2) (a : List St2) : mixL (x :: a) [] = [x :: a] := by rw [mixL]
theorem mixL_cc (x : St2) (a : List St2) (y : St2) (b : List St2) : mixL (x :: a) (y :: b) = (mixL (x :: a) b).map (fun l => y :: l) ++ (mixL a (y :: b)).map fun l => x :: l := by rw [mixL]
theorem mix_mem1 : ∀ (n : Nat) (t p : Tx), t.length + p.length = n → ∀ l ∈ mixL (dnL t) (upL p), signs l ∧ zaC 45 l = t ∧ zaC 43 l = p
  | n, [], p, _, l, h => by
    have h : l ∈ mixL [] (upL p) := h
    rw [mixL_nil] at h
    rw [List.mem_singleton.mp h]
    obtain ⟨h1, h2, h3⟩ := items_up p
    exact ⟨h3, h2, h1⟩
  | n, x :: t, [], _, l, h => by
    have h : l ∈ mixL ((45, x) :: dnL t) [] := h
    rw [mixL_cn] at h
    rw [List.mem_singleton.mp h]
    obtain ⟨h1, h2, h3⟩ := items_dn (x :: t)
    exact ⟨h3, h2, h1⟩
  | 0, x :: t, y :: p, h, _, _ => by simp at h
  | n + 1, x :: t, y :: p, hn, l, h => by
    simp only [List.length_cons] at hn
    have h : l ∈ mixL ((45, x) :: dnL t) ((43, y) :: upL p) := h
    rw [mixL_cc] at h
    rcases List.mem_append.mp h with h | h
    · obtain ⟨m, hm, rfl⟩ := List.mem_map.mp h
      obtain ⟨h1, h2, h3⟩ := mix_mem1 n (x :: t) p (by rw [List.length_cons]; omega) m hm
      refine ⟨fun s hs => ?_, by rw [items_put.1, h2], by rw [items_put.2, h3]⟩
      rcases List.mem_cons.mp hs with rfl | hs
      · exact .inl rfl
      · exact h1 s hs
    · obtain ⟨m, hm, rfl⟩ := List.mem_map.mp h
      obtain ⟨h1, h2, h3⟩ := mix_mem1 n t (y :: p) (by rw [List.length_cons]; omega) m hm
      refine ⟨fun s hs => ?_, by rw [items_take.1, h2], by rw [items_take.2, h3]⟩
      rcases List.mem_cons.mp hs with rfl | hs
      · exact .inr rfl
      · exact h1 s hs
theorem mix_mem2 : ∀ l : List St2, signs l → l ∈ mixL (dnL (zaC 45 l)) (upL (zaC 43 l))
  | [], _ => by show [] ∈ mixL [] []; rw [mixL_nil]; exact List.mem_cons_self
  | (a, c) :: l, h => by
    have hl : signs l := fun s hs => h s (List.mem_cons_of_mem _ hs)
    have ih := mix_mem2 l hl
    rcases h (a, c) List.mem_cons_self with ha | ha
    · have ha : a = 43 := ha
      subst ha
      rw [items_put.1, items_put.2]
      cases e : zaC 45 l with
      | nil =>
        show _ ∈ mixL [] ((43, c) :: upL (zaC 43 l))
        rw [mixL_nil, ← only_put hl e]
        exact List.mem_cons_self
      | cons x t =>
        show _ ∈ mixL ((45, x) :: dnL t) ((43, c) :: upL (zaC 43 l))
        rw [mixL_cc]
        refine List.mem_append.mpr (.inl (List.mem_map.mpr ⟨l, ?_, rfl⟩))
        rw [e] at ih
        exact ih
    · have ha : a = 45 := ha
      subst ha
      rw [items_take.1, items_take.2]
      cases e : zaC 43 l with
      | nil =>
        show _ ∈ mixL ((45, c) :: dnL (zaC 45 l)) []
        rw [mixL_cn, ← only_take hl e]
        exact List.mem_cons_self
      | cons x t =>
        show _ ∈ mixL ((45, c) :: dnL (zaC 45 l)) ((43, x) :: upL t)
        rw [mixL_cc]
        refine List.mem_append.mpr (.inr (List.mem_map.mpr ⟨l, ?_, rfl⟩))
        rw [e] at ih
        exact ih
/-- a sequence's signs -/
def sgR (l : List St2) : List Tx := l.map fun s => [s.1]
theorem sg_cons (x : St2) (a b : List St2) : rowLt (sgR (x :: a)) (sgR (x :: b)) = rowLt (sgR a) (sgR b) := by
  show (if ([x.1] : Tx) = [x.1] then rowLt (sgR a) (sgR b) else _) = _
  rw [if_pos rfl]
theorem mix_sorted : ∀ (n : Nat) (t p : Tx), t.length + p.length = n → (mixL (dnL t) (upL p)).Pairwise fun a b => rowLt (sgR a) (sgR b) = true
  | n, [], p, _ => by
    show (mixL [] (upL p)).Pairwise _
    rw [mixL_nil]
    exact List.pairwise_singleton _ _
  | n, x :: t, [], _ => by
    show (mixL ((45, x) :: dnL t) []).Pairwise _
    rw [mixL_cn]
    exact List.pairwise_singleton _ _
  | 0, x :: t, y :: p, h => by simp at h
  | n + 1, x :: t, y :: p, hn => by
    simp only [List.length_cons] at hn
    show (mixL ((45, x) :: dnL t) ((43, y) :: upL p)).Pairwise _
    rw [mixL_cc]
    refine List.pairwise_append.mpr ⟨List.pairwise_map.mpr ?_, List.pairwise_map.mpr ?_, fun a ha b hb => ?_⟩
    · exact (mix_sorted n (x :: t) p (by rw [List.length_cons]; omega)).imp fun h => by rw [sg_cons]; exact h
    · exact (mix_sorted n t (y :: p) (by rw [List.length_cons]; omega)).imp fun h => by rw [sg_cons]; exact h
    · obtain ⟨a, _, rfl⟩ := List.mem_map.mp ha
      obtain ⟨b, _, rfl⟩ := List.mem_map.mp hb
      show (if ([43] : Tx) = [45] then _ else decide (([43] : Tx) < [45])) = true
      rw [if_neg (by decide)]
      decide
theorem lt_irr56 : ∀ a : List Tx, rowLt a a = false
  | [] => rfl
  | x :: xs => by show (if x = x then rowLt xs xs else _) = false; rw [if_pos rfl]; exact lt_irr56 xs
theorem sorted_uniq {α : Type} {lt : α → α → Bool} (irr : ∀ a, lt a a = false) : ∀ (M L : List α), L.Perm M → M.Pairwise (fun a b => lt a b = true) → L.Pairwise (fun a b => lt b a = false) → L = M
  | [], L, p, _, _ => p.eq_nil
  | m :: M, [], p, _, _ => by have := p.symm.eq_nil; cases this
  | m :: M, l :: L, p, h1, h2 => by
    have e : l = m := by
      have hl : l ∈ m :: M := p.subset List.mem_cons_self
      rcases List.mem_cons.mp hl with e | hl
      · exact e
      · have hm : m ∈ l :: L := p.symm.subset List.mem_cons_self
        rcases List.mem_cons.mp hm with e | hm
        · exact e.symm
        · have a := (List.pairwise_cons.mp h1).1 l hl
          have b := (List.pairwise_cons.mp h2).1 m hm
          rw [a] at b
          cases b
    subst e
    rw [sorted_uniq irr M L (List.Perm.cons_inv p) (List.pairwise_cons.mp h1).2 (List.pairwise_cons.mp h2).2]
theorem sign_len : ∀ {l : List St2}, signs l → l.length = (zaC 45 l).length + (zaC 43 l).length
  | [], _ => rfl
  | (a, c) :: l, h => by
    have hl : signs l := fun s hs => h s (List.mem_cons_of_mem _ hs)
    have ih := sign_len hl
    rcases h (a, c) List.mem_cons_self with ha | ha
    · have ha : a = 43 := ha
      subst ha
      rw [items_put.1, items_put.2, List.length_cons, List.length_cons]; omega
    · have ha : a = 45 := ha
      subst ha
      rw [items_take.1, items_take.2, List.length_cons, List.length_cons]; omega
theorem depth_le : ∀ (l : List St2) (d : Int), ∀ y ∈ depthsL l d, y ≤ d + ((zaC 45 l).length : Int)
  | [], d, y, h => nomatch h
  | (a, c) :: l, d, y, h => by
    have h : y ∈ (if a == 45 then (d + 1) :: depthsL l (d + 1) else depthsL l (d - 1)) := h
    by_cases ha : a = 45
    · subst ha
      rw [if_pos (by rfl)] at h
      rw [items_take.1, List.length_cons]
      rcases List.mem_cons.mp h with rfl | h
      · omega
      · have := depth_le l _ y h; omega
    · rw [if_neg (by rw [beq_iff_eq]; exact ha)] at h
      have := depth_le l _ y h
      have e : zaC 45 ((a, c) :: l) = zaC 45 l := by
        unfold zaC
        rw [List.filter_cons_of_neg (by rw [beq_iff_eq]; exact ha)]
      rw [e]; omega
/-- where a sequence leads -/
theorem go_iff {s g : Tx} {ss : List St2} (h : signs ss) : exec s ss 0 = (g, none) ↔ (∀ y ∈ depthsL ss 0, y ≤ (s.length : Int)) ∧ s ++ zaC 43 ss = zaC 45 ss ++ g := by
  obtain ⟨h1, h2⟩ := exec_iff ss s 0 h
  constructor
  · intro e
    have e2 : (exec s ss 0).2 = none := by rw [e]
    obtain ⟨a, b⟩ := h1.mp e2
    refine ⟨a, ?_⟩
    have c := h2 e2
    rw [e] at c
    obtain ⟨r, hr⟩ := b
    rw [← hr, List.drop_left] at c
    have c : g = r := c
    rw [c, hr]
  · rintro ⟨a, b⟩
    have e2 := h1.mpr ⟨a, by rw [b]; exact List.prefix_append _ _⟩
    have c := h2 e2
    rw [b, List.drop_left] at c
    exact Prod.ext c e2
theorem ovM_mem (s g : Tx) : ovM s g ∈ ovL s g := by
  obtain ⟨ini, k, e, _, _⟩ := ov_last s g
  unfold ovM
  rw [e, List.getLastD_eq_getLast?, List.getLast?_append]
  exact List.mem_append.mpr (.inr List.mem_cons_self)
theorem ovM_max {s g : Tx} {k : Nat} (h : k ∈ ovL s g) : k ≤ ovM s g := by
  obtain ⟨ini, j, e, _, hm⟩ := ov_last s g
  unfold ovM
  rw [e, List.getLastD_eq_getLast?, List.getLast?_append]
  exact hm k h
theorem ovB_iff {s g : Tx} {k : Nat} (hg : k ≤ g.length) : ovB s g k = true ↔ k ≤ s.length ∧ s.drop (s.length - k) = g.take k := by
  unfold ovB ewB
  rw [List.length_take, Nat.min_eq_left hg, Bool.and_eq_true, decide_eq_true_eq, beq_iff_eq]
/-- no route is shorter -/
theorem dst_low {s g : Tx} {ss : List St2} (h : signs ss) (e : exec s ss 0 = (g, none)) : dst s g ≤ ss.length := by
  obtain ⟨_, e⟩ := (go_iff h).mp e
  have hl := sign_len h
  have hlen := congrArg List.length e
  rw [List.length_append, List.length_append] at hlen
  rw [dst_M]
  by_cases c : (zaC 45 ss).length ≤ s.length
  · have e2 := congrArg (List.drop (zaC 45 ss).length) e
    rw [List.drop_left, List.drop_append_of_le_length c] at e2
    have hk : s.length - (zaC 45 ss).length ∈ ovL s g := by
      refine ov_mem.mpr ⟨by omega, (ovB_iff (by omega)).mpr ⟨by omega, ?_⟩⟩
      rw [show s.length - (s.length - (zaC 45 ss).length) = (zaC 45 ss).length from by omega, ← e2, List.take_left' (by rw [List.length_drop])]
    have := ovM_max hk
    omega
  · omega
theorem downs_dn (s g : Tx) : downs s g = dnL (s.take (s.length - ovM s g)) := rfl
theorem ups_up (s g : Tx) : ups s g = upL (g.drop (ovM s g)) := rfl
/-- the shortest routes are the mixes -/
theorem short_iff {s g : Tx} {ss : List St2} (h : signs ss) (hl : (ss.length : Int) = dst s g) : exec s ss 0 = (g, none) ↔ ss ∈ mixL (downs s g) (ups s g) := by
  have hk := ovM_le s g
  have hlen := sign_len h
  rw [dst_M] at hl
  rw [downs_dn, ups_up]
  obtain ⟨hk1, hk2⟩ := (ovB_iff (by omega)).mp (ov_mem.mp (ovM_mem s g)).2
  constructor
  · intro e
    obtain ⟨_, e⟩ := (go_iff h).mp e
    have ln := congrArg List.length e
    rw [List.length_append, List.length_append] at ln
    have c : (zaC 45 ss).length = s.length - ovM s g := by omega
    have e1 : zaC 45 ss = s.take (s.length - ovM s g) := by
      have := congrArg (List.take (zaC 45 ss).length) e
      rw [List.take_left, List.take_append_of_le_length (by omega)] at this
      rw [← this, c]
    have e2 : zaC 43 ss = g.drop (ovM s g) := by
      have := congrArg (List.drop s.length) e
      rw [List.drop_left, List.drop_append, List.drop_of_length_le (by omega), List.nil_append, c] at this
      rw [this, show s.length - (s.length - ovM s g) = ovM s g from by omega]
    have := mix_mem2 ss h
    rw [e1, e2] at this
    exact this
  · intro e
    obtain ⟨_, e1, e2⟩ := mix_mem1 _ _ _ rfl ss e
    refine (go_iff h).mpr ⟨fun y hy => ?_, ?_⟩
    · have := depth_le ss 0 y hy
      rw [e1, List.length_take] at this
      omega
    · rw [e1, e2]
      have : s = s.take (s.length - ovM s g) ++ g.take (ovM s g) := by rw [← hk2, List.take_append_drop]
      generalize s.take (s.length - ovM s g) = u at this
      generalize ovM s g = k at this
      rw [this, List.append_assoc, List.take_append_drop]
theorem mix_signs {s g : Tx} {ss : List St2} (h : ss ∈ mixL (downs s g) (ups s g)) : signs ss ∧ (ss.length : Int) = dst s g := by
  have hk := ovM_le s g
  rw [downs_dn, ups_up] at h
  obtain ⟨h1, h2, h3⟩ := mix_mem1 _ _ _ rfl ss h
  refine ⟨h1, ?_⟩
  rw [sign_len h1, h2, h3, dst_M, List.length_take, List.length_drop]
  omega
theorem mix_goes {s g : Tx} {ss : List St2} (h : ss ∈ mixL (downs s g) (ups s g)) : exec s ss 0 = (g, none) := (short_iff (mix_signs h).1 (mix_signs h).2).mpr h
theorem route_mix (s g : Tx) : routeL s g ∈ mixL (downs s g) (ups s g) := by
  have := mix_mem2 (routeL s g) ?_
  · unfold routeL at this ⊢
    rw [items_append, items_append, downs_dn, ups_up, (items_dn _).1, (items_dn _).2.1, (items_up _).1, (items_up _).2.1, List.append_nil, List.nil_append] at this
    rw [downs_dn, ups_up]
    exact this
  · intro x hx
    unfold routeL at hx
    rw [downs_dn, ups_up] at hx
    rcases List.mem_append.mp hx with hx | hx
    · exact (items_dn _).2.2 x hx
    · exact (items_up _).2.2 x hx
theorem mix_ne (s g : Tx) : mixL (downs s g) (ups s g) ≠ [] := fun z => by have := route_mix s g; rw [z] at this; cases this
end DL

set_option linter.all false
set_option autoImplicit false
set_option maxRecDepth 100000
namespace DL
local macro_rules | `(tactic| walk_at "dl") => `(tactic| simp -implicitDefEqProofs only [runD, startE, outsE, outs_0, outs_s, List.length_cons, List.length_nil, List.cons_append, List.nil_append, List.replicate, Nat.sub_zero, Nat.add_one_sub_one, Nat.reduceSub, Nat.reduceAdd, dC, dVar_M, dVarM_fz, dVarM_own, dIxN_M, dIxM_fz, dIxM_own, dOpN_M, dOpM_fz, dOpM_own, dFnN_M, dFnM_fz, dFnM_own, dOp, dUn, dArgs, dLst, dTup, dFn, dIsi, dMs, dPart, dSl, dIfE, Slot.known, tVal, tTru, tAnd, tOr, tNot, dAnd, dOr, dNot, dChain, iLst, iTup, iStr, iRng1, iRng2, iEnum, iZip, gN, gNs, gT, gL, Tgt.g, tYes, wipeE, backE, dAVs, dCall, avSlot, AV.ok, Slot.isOwn, bA_nil, bA_v, bA_m, D.isRef, List.all_cons, List.all_nil, List.map_cons, List.map_nil, Bool.and_true, Bool.true_and, List.tail_cons, List.tail_nil, List.head?_cons, sTryFin, dPropM, dLenM, dMakeVT, sAppFL, sPutFK, dIxFK, dLstF, sNx, sSeq, sRet, sRetN, sExp, sAsg, sAsgO, sIf, sAug, sFor, sWh, sBrk, sCnt, sRaise, sApp, sAppP, dLstP, dCatG, dSrtH, sRetT, dCatT, dMinKT, eqKN, listKF, listSF, sExt, sUpdT, mergeT, dDct0T, dIxKT, repZD, neEmp, iWkT, itmT, keyT, dSrtKT, Slot.ownL, sPut, sPut2, putAt, sPar, sParL, sFld, dFld, dMake, mkC, dMakeV, dCm, dObj, D.isObj, dCallV, dCallS, dEqO, dIsO, dDct0, isBD_bl, notBD_bl, revD_lst, sPar3, sTrys, catchD, DEnds.unname, repF, D.eqTo, at_0, at_s, at_nil, set_0, set_s, fzd, frd, ftd, Slot.noT, dVarM_ownT, hide_ownT, dMakeT, mkCT, D.calm, D.unm, dEqN, dProp, strF, sFldT, sAppF, sFldAugT, kidOf, putL, dMethM, Slot.isObj, if_true, if_false, Bool.not_true, Bool.not_false, true_and, and_true, Bool.false_eq_true, ↓reduceIte, lenF, lenD, allF, anyF, sumF, absF, intF, tupleF, swM, ewM, eqv_int, eqv_str, eqv_bl, D.isTy, Int.cast_ofNat_Int, addD_int, addD_str, addD_lst, fdivWD_int, orKD_dct, dMinK, dSumV, iaddD_int, iaddD_str, subD_int, mulD_int, mulD_str, mulD_lst, fdivD_int, modD_int, powD_int, negD_int, eqD, neD_str, neD_int, ltD_int, leD_int, gtD_int, geD_int, isD, isnD, D.isNon, inDv, ninDv, ixD_lst, ixD_tup, ixD_str, slD_lst, slD_frl, slD_str, dLc, dLook, Slot.calm, tLook, iRngD, iRngB', dNeT, revT_str, dDisp, iZipS, iZipK, minPF_2, sParF, dLenO, dRepO, dVals, putR, sParR, dFmt, dFmtR, fstL, dFst, mulWD_int, imulD_int, countM, lstRg, dLrg1, dLrg2, sRetO_M, retOM_own, retOM_fz, dLookL, dNeN, dLenSet, dSrtSet, sortedF, dTold, dToldB, dToldO, calm_nil, calm_cons, hide_nil, hide_fz, hide_own, hide_no, at_hs, dIsiO, gTG, gGs, gA, gAll, sAsgs, sClr, sAsgN, dFldN, iWk, itmX, valX, keyX, sForN, dDc, dDcP, eqKd, dDsp1, dGet, dGetN, sPutK, inKv, kyOf, ownK, dictF, dLitm, dIxK, eqKv, sortedIF, ltSD, dDspT, sPutT, ownKT, dTupK, giveE, R.raw, sAsgK, unpK, unpK1, ninKv, eqKg, catTD, repTD, dSlT, sAppAt, updD, sAppAtK, dPopAtK, tNinSet, Slot.dctT, dLcP, R.dctN, lc2L, dLc2, sAugK, dSrtRev, sRetTK, sortedKIF, splitM, partM, intTF, dStp, dTake, sTryF, dRep, dPopN, sPutFT, dFldP, dIxFT, dSrtFS, sortedLLF, dLc2I, dDcT, dGetNT, dLstKT, sUpdP, runG, gThen, gPlain, gNil, gYield, gYieldR, gIf, gFor, GD.at, sForGen, dLcGen, dLcGenQ, gDead, dListGen, dCallFV, dKw, dKwM, dKwC, dKwI, pick, List.getElem?_cons_zero, List.getElem?_cons_succ])
/-! mixed, all_shortest_routes: lists whose items are the caller's; is_route, the law's run of a route -/
def prtsD (ls : List (List St2)) : D := .lst (ls.map fun l => .prt (seqD l))
theorem prts_calm (ls : List (List St2)) : (ls.map fun l => (seqD l).prt).map D.unm = ls.map seqD := by rw [List.map_map]; rfl
theorem lcLP_inv {vs : List Nat} {g : DG} {t : DT} {e : DE} {Q : List D → Env → Prop} (I : List D → List D → Env → Prop) (hn : ∀ acc ρ, I [] acc ρ → Q acc ρ)
    (hs : ∀ x xs acc ρ, I (x :: xs) acc ρ → ∀ (k1 : R → Env → Prop) (k2 : Env → Prop), (∀ r ρ' d, r.kid = some d → (acc.length < zaK ∧ I xs (acc ++ [d]) (wipeE vs ρ')) → k1 r ρ') → (∀ ρ', I xs acc (wipeE vs ρ') → k2 ρ') →
      g x ρ fun ρ1 => t ρ1 (fun b ρ2 => if b = true then e ρ2 k1 noE else k2 ρ2) noE) : ∀ xs acc ρ, I xs acc ρ → lcLP vs g t e Q xs acc ρ
  | [], acc, ρ, h => hn acc ρ h
  | x :: xs, acc, ρ, h => hs x xs acc ρ h _ _ (fun r ρ' d hd h' => ⟨d, hd, h'.1, lcLP_inv I hn hs xs _ _ h'.2⟩) fun ρ' h' => lcLP_inv I hn hs xs _ _ h'
theorem mix_item {x : St2} {ls : List (List St2)} {vs : List Nat} {g : DG} {e : DE} {Q : List D → Env → Prop} (ρ : Env) (hl : ls.length ≤ 1000)
    (hs : ∀ l ∈ ls, ∀ k1 : R → Env → Prop, (∀ r ρ', r.kid = some (.prt (seqD (x :: l))) → wipeE vs ρ' = ρ → k1 r ρ') → g (seqD l) ρ fun ρ1 => e ρ1 k1 noE) (h : Q ((ls.map fun l => x :: l).map fun l => .prt (seqD l)) ρ) : lcLP vs g tYes e Q (ls.map seqD) [] ρ := by
  refine lcLP_inv (I := fun es acc ρ' => ρ' = ρ ∧ ∃ n, es = (ls.drop n).map seqD ∧ n + es.length = ls.length ∧ acc = ((ls.take n).map fun l => x :: l).map fun l => D.prt (seqD l))
    (fun acc ρ' z => ?_) (fun y es acc ρ' z k1 k2 g1 g2 => ?_) _ _ _ ⟨rfl, 0, rfl, by rw [List.length_map]; omega, rfl⟩
  · obtain ⟨rfl, n, e1, e2, rfl⟩ := z
    obtain rfl : n = ls.length := by simpa using e2
    rw [List.take_length]
    exact h
  · obtain ⟨rfl, n, e1, e2, rfl⟩ := z
    simp only [List.length_cons] at e2
    have hn : n < ls.length := by omega
    rw [List.drop_eq_getElem_cons hn, List.map_cons] at e1
    injection e1 with e1 e3
    subst e1
    show g _ _ fun ρ1 => (if true = true then e ρ1 k1 noE else k2 ρ1)
    simp only [if_true]
    refine hs _ (List.getElem_mem hn) k1 fun r ρ2 hr hw => g1 r ρ2 _ hr ⟨?_, ?_, n + 1, e3, by omega, ?_⟩
    · rw [List.length_map, List.length_map, List.length_take]; show _ < 16777216; omega
    · exact hw
    · rw [List.take_succ_eq_append_getElem hn, List.map_append, List.map_append]; rfl
theorem seq_eqC (a : List St2) : eqC (seqD a) (.lst []) := by
  refine .inr ⟨?_, rfl⟩
  show D.eqOkL 59 (a.map stepD) = true
  induction a with
  | nil => rfl
  | cons x a ih => rw [List.map_cons]; unfold D.eqOkL; rw [ih]; rfl
theorem seq_eqv (a : List St2) : (seqD a).eqv (.lst []) = decide (a = []) := by
  cases a <;> rfl
/-- mixed: 0 takes, 1 puts, 2 first, 3 rest -/
def b_mixed (C_mixed : Con) : DS := sSeq (sIf (tOr (tVal (dOp eqD (zaG 0) (dLst []))) (tVal (dOp eqD (zaG 1) (dLst [])))) (sRet (dLstP [dOp addD (zaG 0) (zaG 1)])) (sNx)) (sSeq (sAsgO 2 (dLcP [3] (iLst (dCall C_mixed [.v (zaG 0), .v (dSl (zaG 1) (some (dC (.int 1))) none)])) (Tgt.g (.one 3)) (tYes) (dOp addD (dLst [dOp ixD (zaG 1) (dC (.int 0))]) (zaG 3)))) (sRet (dCatG 2 (dLcP [3] (iLst (dCall C_mixed [.v (dSl (zaG 0) (some (dC (.int 1))) none), .v (zaG 1)])) (Tgt.g (.one 3)) (tYes) (dOp addD (dLst [dOp ixD (zaG 0) (dC (.int 0))]) (zaG 3))))))
def R_mixed : Nat → Con := fun n args Q _ => ∃ a b : List St2, args = [.fz (seqD a), .fz (seqD b)] ∧ dep a b ≤ n ∧ a.length + b.length ≤ 1000 ∧ (mixL a b).length ≤ 1000 ∧ ∀ o, Q (.ft (prtsD (mixL a b))) o
abbrev C_mixed : Con := R_mixed 258
theorem p0_mixed : ∀ args Q E, R_mixed 0 args Q E → False := by
  intro args Q E ⟨a, b, _, h, _⟩
  unfold dep at h
  split at h
  · omega
  · rename_i hh
    cases a with
    | nil => exact hh (.inl rfl)
    | cons x a => simp only [List.length_cons] at h; omega
theorem p_mixed : ∀ (n : Nat) args Q E, args.length = 2 → R_mixed (n + 1) args Q E → runD 4 (b_mixed (R_mixed n)) args Q E := by
  intro n args Q E _ h
  obtain ⟨a, b, rfl, hd, hl, hm, hq⟩ := h
  unfold b_mixed
  try walk_at "dl"
  refine ⟨by decide, seq_eqC a, ?_⟩
  rw [seq_eqv]
  have small : a = [] ∨ b = [] → mixL a b = [a ++ b] := fun z => by
    rcases z with rfl | rfl
    · rw [mixL]; rfl
    · cases a with
      | nil => rw [mixL]; rfl
      | cons x a => rw [mixL, List.append_nil]
  unfold prtsD at hq
  cases a with
  | nil =>
    refine (if_pos (by decide)).mpr ?_
    rw [small (.inl rfl)] at hq
    unfold seqD
    try walk_at "dl"
    refine ⟨by rw [List.length_map]; show _ ≤ 16777216; simp at hl ⊢; omega, _, rfl, by show 1 ≤ 16777216; decide, ?_⟩
    exact hq _
  | cons x a =>
    refine (if_neg (by simp)).mpr ⟨by decide, seq_eqC b, ?_⟩
    rw [seq_eqv]
    cases b with
    | nil =>
      refine (if_pos (by decide)).mpr ?_
      rw [small (.inr rfl)] at hq
      unfold seqD
      try walk_at "dl"
      refine ⟨by rw [List.length_map]; show _ ≤ 16777216; simp at hl ⊢; omega, _, rfl, by show 1 ≤ 16777216; decide, ?_⟩
      have e : x :: a ++ [] = x :: a := List.append_nil _
      rw [e] at hq
      have e2 : List.map stepD a ++ [] = List.map stepD a := List.append_nil _
      rw [e2]
      exact hq _
    | cons y b =>
      refine (if_neg (by simp)).mpr ?_
      have hd : a.length + 1 + (b.length + 1) ≤ n + 1 := by
        unfold dep at hd
        rw [if_neg (by simp)] at hd
        exact hd
      have dle : ∀ u v : List St2, u.length + v.length ≤ n → 1 ≤ n → dep u v ≤ n := fun u v h h1 => by
        unfold dep
        split
        · exact h1
        · exact h
      simp only [List.length_cons] at hl
      have hmm : mixL (x :: a) (y :: b) = (mixL (x :: a) b).map (fun l => y :: l) ++ (mixL a (y :: b)).map fun l => x :: l := by rw [mixL]
      rw [hmm, List.length_append, List.length_map, List.length_map] at hm
      rw [hmm] at hq
      unfold seqD
      try walk_at "dl"
      rw [cut_1G]
      refine ⟨x :: a, b, rfl, dle _ _ (by rw [List.length_cons]; omega) (by omega), by rw [List.length_cons]; omega, by omega, fun o => ?_⟩
      unfold prtsD
      try walk_at "dl"
      rw [prts_calm]
      refine ⟨own1 (fun d z => nomatch z), mix_item (x := y) _ (by omega) (fun l hl k1 z => ?_) ?_⟩
      · have ll := (mixL_len _ (x :: a) b rfl).2 l hl
        rw [List.length_cons] at ll
        unfold seqD
        try walk_at "dl"
        exact ⟨0, stepD y, ix_nat (r := 0) (by decide) (by omega), rfl, by decide, by rw [List.length_map]; show 1 + _ ≤ 16777216; omega, z _ _ rfl rfl⟩
      try walk_at "dl"
      rw [cut_1G]
      refine ⟨a, y :: b, rfl, dle _ _ (by rw [List.length_cons]; omega) (by omega), by rw [List.length_cons]; omega, by omega, fun o => ?_⟩
      unfold prtsD
      try walk_at "dl"
      rw [prts_calm]
      refine ⟨own1 (fun d z => nomatch z), mix_item (x := x) _ (by omega) (fun l hl k1 z => ?_) ?_⟩
      · have ll := (mixL_len _ a (y :: b) rfl).2 l hl
        rw [List.length_cons] at ll
        unfold seqD
        try walk_at "dl"
        exact ⟨0, stepD x, ix_nat (r := 0) (by decide) (by omega), rfl, by decide, by rw [List.length_map]; show 1 + _ ≤ 16777216; omega, z _ _ rfl rfl⟩
      refine ⟨_, _, rfl, rfl, by rw [List.length_map, List.length_map, List.length_map, List.length_map]; show _ ≤ 16777216; omega, ?_⟩
      rw [← List.map_append]
      exact hq _
end DL

set_option linter.all false
set_option autoImplicit false
set_option maxRecDepth 100000
namespace DL
local macro_rules | `(tactic| walk_at "dl") => `(tactic| simp -implicitDefEqProofs only [runD, startE, outsE, outs_0, outs_s, List.length_cons, List.length_nil, List.cons_append, List.nil_append, List.replicate, Nat.sub_zero, Nat.add_one_sub_one, Nat.reduceSub, Nat.reduceAdd, dC, dVar_M, dVarM_fz, dVarM_own, dIxN_M, dIxM_fz, dIxM_own, dOpN_M, dOpM_fz, dOpM_own, dFnN_M, dFnM_fz, dFnM_own, dOp, dUn, dArgs, dLst, dTup, dFn, dIsi, dMs, dPart, dSl, dIfE, Slot.known, tVal, tTru, tAnd, tOr, tNot, dAnd, dOr, dNot, dChain, iLst, iTup, iStr, iRng1, iRng2, iEnum, iZip, gN, gNs, gT, gL, Tgt.g, tYes, wipeE, backE, dAVs, dCall, avSlot, AV.ok, Slot.isOwn, bA_nil, bA_v, bA_m, D.isRef, List.all_cons, List.all_nil, List.map_cons, List.map_nil, Bool.and_true, Bool.true_and, List.tail_cons, List.tail_nil, List.head?_cons, sTryFin, dPropM, dLenM, dMakeVT, sAppFL, sPutFK, dIxFK, dLstF, sNx, sSeq, sRet, sRetN, sExp, sAsg, sAsgO, sIf, sAug, sFor, sWh, sBrk, sCnt, sRaise, sApp, sAppP, dLstP, dCatG, dSrtH, sRetT, dCatT, dMinKT, eqKN, listKF, listSF, sExt, sUpdT, mergeT, dDct0T, dIxKT, repZD, neEmp, iWkT, itmT, keyT, dSrtKT, Slot.ownL, sPut, sPut2, putAt, sPar, sParL, sFld, dFld, dMake, mkC, dMakeV, dCm, dObj, D.isObj, dCallV, dCallS, dEqO, dIsO, dDct0, isBD_bl, notBD_bl, revD_lst, sPar3, sTrys, catchD, DEnds.unname, repF, D.eqTo, at_0, at_s, at_nil, set_0, set_s, fzd, frd, ftd, Slot.noT, dVarM_ownT, hide_ownT, dMakeT, mkCT, D.calm, D.unm, dEqN, dProp, strF, sFldT, sAppF, sFldAugT, kidOf, putL, dMethM, Slot.isObj, if_true, if_false, Bool.not_true, Bool.not_false, true_and, and_true, Bool.false_eq_true, ↓reduceIte, lenF, lenD, allF, anyF, sumF, absF, intF, tupleF, swM, ewM, eqv_int, eqv_str, eqv_bl, D.isTy, Int.cast_ofNat_Int, addD_int, addD_str, addD_lst, fdivWD_int, orKD_dct, dMinK, dSumV, iaddD_int, iaddD_str, subD_int, mulD_int, mulD_str, mulD_lst, fdivD_int, modD_int, powD_int, negD_int, eqD, neD_str, neD_int, ltD_int, leD_int, gtD_int, geD_int, isD, isnD, D.isNon, inDv, ninDv, ixD_lst, ixD_tup, ixD_str, slD_lst, slD_frl, slD_str, dLc, dLook, Slot.calm, tLook, iRngD, iRngB', dNeT, revT_str, dDisp, iZipS, iZipK, minPF_2, sParF, dLenO, dRepO, dVals, putR, sParR, dFmt, dFmtR, fstL, dFst, mulWD_int, imulD_int, countM, lstRg, dLrg1, dLrg2, sRetO_M, retOM_own, retOM_fz, dLookL, dNeN, dLenSet, dSrtSet, sortedF, dTold, dToldB, dToldO, calm_nil, calm_cons, hide_nil, hide_fz, hide_own, hide_no, at_hs, dIsiO, gTG, gGs, gA, gAll, sAsgs, sClr, sAsgN, dFldN, iWk, itmX, valX, keyX, sForN, dDc, dDcP, eqKd, dDsp1, dGet, dGetN, sPutK, inKv, kyOf, ownK, dictF, dLitm, dIxK, eqKv, sortedIF, ltSD, dDspT, sPutT, ownKT, dTupK, giveE, R.raw, sAsgK, unpK, unpK1, ninKv, eqKg, catTD, repTD, dSlT, sAppAt, updD, sAppAtK, dPopAtK, tNinSet, Slot.dctT, dLcP, R.dctN, lc2L, dLc2, sAugK, dSrtRev, sRetTK, sortedKIF, splitM, partM, intTF, dStp, dTake, sTryF, dRep, dPopN, sPutFT, dFldP, dIxFT, dSrtFS, sortedLLF, dLc2I, dDcT, dGetNT, dLstKT, sUpdP, runG, gThen, gPlain, gNil, gYield, gYieldR, gIf, gFor, GD.at, sForGen, dLcGen, dLcGenQ, gDead, dListGen, dCallFV, dKw, dKwM, dKwC, dKwI, pick, List.getElem?_cons_zero, List.getElem?_cons_succ])
theorem ch_low : ∀ n k : Nat, 0 < k → k < n → n ≤ ch n k
  | 0, _, _, h => by omega
  | n + 1, 0, h, _ => by omega
  | n + 1, k + 1, _, h => by
    show n + 1 ≤ ch n k + ch n (k + 1)
    by_cases hk : k = 0
    · subst hk
      rw [ch_z]
      by_cases h1 : 1 < n
      · have := ch_low n 1 (by omega) h1
        show n + 1 ≤ 1 + ch n 1
        omega
      · obtain rfl : n = 1 := by omega
        decide
    · have a := ch_low n k (by omega) (by omega)
      by_cases h2 : k + 1 < n
      · have b := ch_low n (k + 1) (by omega) h2
        omega
      · obtain rfl : k + 1 = n := by omega
        rw [ch_self]
        omega
def allN (s g : Tx) : Nat := ch ((downs s g).length + (ups s g).length) (downs s g).length
theorem route_filter (s g : Tx) : ((routeL s g).map stepD).filter (fun d => match d with | .str (c :: _) => c == 45 | _ => false) = (downs s g).map stepD := by
  unfold routeL
  rw [List.map_append, List.filter_append]
  have e1 : ((downs s g).map stepD).filter (fun d => match d with | .str (c :: _) => c == 45 | _ => false) = (downs s g).map stepD := by
    refine List.filter_eq_self.mpr fun x hx => ?_
    unfold downs at hx
    rw [List.map_map] at hx
    obtain ⟨c, _, rfl⟩ := List.mem_map.mp hx
    rfl
  have e2 : ((ups s g).map stepD).filter (fun d => match d with | .str (c :: _) => c == 45 | _ => false) = [] := by
    refine List.filter_eq_nil_iff.mpr fun x hx => ?_
    unfold ups at hx
    rw [List.map_map] at hx
    obtain ⟨c, _, rfl⟩ := List.mem_map.mp hx
    exact Bool.noConfusion
  rw [e1, e2, List.append_nil]
/-- all_shortest_routes: 0 start, 1 goal, 2 route, 3 takes, 4 step -/
def b_all_shortest_routes : DS := sSeq (sAsg (gN 2) (dCall C_shortest_route [.v (zaG 0), .v (zaG 1)])) (sSeq (sAsg (gN 3) (dLc [4] (iLst (zaG 2)) (Tgt.g (.one 4)) (tVal (dOp eqD (dOp ixD (zaG 4) (dC (.int 0))) (dC (.str [45])))) (zaG 4))) (sSeq (sIf (tVal (dOp gtD (dCall C_binomial [.v (dFn lenF [zaG 2]), .v (dFn lenF [zaG 3])]) (dC (.int 256)))) (sRaise 10 (dC (.int 256))) (sNx)) (sRet (dCall C_mixed [.v (zaG 3), .v (dSl (zaG 2) (some (dFn lenF [zaG 3])) none)]))))
def C_all_shortest_routes : Con := fun args Q _ => ∃ s g : Tx, args = [.fz (.str s), .fz (.str g)] ∧ isWord (.str s) 2100 = true ∧ isWord (.str g) 2100 = true ∧ dst s g ≤ 400 ∧ allN s g ≤ 256 ∧ ∀ o, Q (.ft (prtsD (mixL (downs s g) (ups s g)))) o
theorem p_all_shortest_routes : ∀ args Q E, args.length = 2 → C_all_shortest_routes args Q E → runD 5 b_all_shortest_routes args Q E := by
  intro args Q E _ h
  obtain ⟨s, g, rfl, w1, w2, c, c2, hq⟩ := h
  unfold b_all_shortest_routes
  try walk_at "dl"
  refine ⟨_, _, rfl, .mk w1 w2 ⟨fun z => by omega, fun _ r o hr => ?_⟩⟩
  have rl := route_len s g
  try walk_at "dl"
  simp only [hr]
  clear hr
  unfold seqD
  have ll : ((routeL s g).map stepD).length ≤ 400 := by rw [List.length_map]; omega
  try walk_at "dl"
  refine ⟨own1 (fun d z => nomatch z), ?_⟩
  refine lcL_pure (p := fun d => match d with | .str (c :: _) => c == 45 | _ => false) (f := id) _ _ (fun y hy k1 k2 z1 z2 => ?_) [] (by show 0 + _ ≤ 16777216; omega) ?_
  · obtain ⟨st, hs, rfl⟩ := List.mem_map.mp hy
    obtain ⟨c, x⟩ := st
    unfold stepD
    try walk_at "dl"
    refine ⟨0, c, ix_nat (r := 0) (by decide) (by decide), rfl, .inl rfl, ?_⟩
    by_cases hc : c = 45
    · subst hc
      exact (if_pos (by decide)).mpr (z1 rfl _ _ rfl rfl)
    · refine (if_neg fun z => hc ?_).mpr (z2 ?_ _ rfl)
      · have z : (([c] : Tx) == [45]) = true := z
        rw [beq_iff_eq] at z
        exact List.head_eq_of_cons_eq z
      · show (c == 45) = false
        rw [beq_eq_false_iff_ne]
        exact hc
  rw [List.nil_append, List.map_id, route_filter]
  have e3 : (routeL s g).length = (downs s g).length + (ups s g).length := by unfold routeL; rw [List.length_append]
  try walk_at "dl"
  simp only [List.length_map]
  refine ⟨(routeL s g).length, ((downs s g).length : Int), rfl, by omega, fun o => ?_⟩
  have e4 : binZ (routeL s g).length ((downs s g).length : Int) = allN s g := by
    unfold binZ allN
    rw [if_neg (by omega), Int.toNat_natCast, e3]
  rw [e4]
  try walk_at "dl"
  refine (if_neg (by rw [decide_eq_true_eq]; omega)).mpr ?_
  rw [cut_fromG]
  have e5 : ((routeL s g).map stepD).drop (downs s g).length = (ups s g).map stepD := by
    unfold routeL
    rw [List.map_append, List.drop_append_of_le_length (by rw [List.length_map]; exact Nat.le_refl _), List.drop_of_length_le (by rw [List.length_map]; exact Nat.le_refl _), List.nil_append]
  rw [e5]
  refine ⟨downs s g, ups s g, rfl, ?_, by omega, ?_, fun o => hq _⟩
  · unfold dep
    split
    · decide
    · rename_i hz
      have := ch_low ((downs s g).length + (ups s g).length) (downs s g).length
        (by rcases Nat.eq_zero_or_pos (downs s g).length with z | z
            · exact absurd (.inl (List.eq_nil_of_length_eq_zero z)) hz
            · exact z)
        (by rcases Nat.eq_zero_or_pos (ups s g).length with z | z
            · exact absurd (.inr (List.eq_nil_of_length_eq_zero z)) hz
            · omega)
      unfold allN at c2
      omega
  · rw [(mixL_len _ _ _ rfl).1]
    unfold allN at c2
    omega
/-- is_sequence: 0 value -/
def b_is_sequence : DS := sRet (dUn isD (dCall C_first_invalid [.v (zaG 0)]))
def C_is_sequence : Con := fun args Q _ => ∃ ss, args = [.fz (seqD ss)] ∧ okSeq ss ∧ ∀ outs, Q (.fz (.bl true)) outs
theorem p_is_sequence : ∀ args Q E, args.length = 1 → C_is_sequence args Q E → runD 1 b_is_sequence args Q E := by
  intro args Q E _ h
  obtain ⟨ss, rfl, ok, hq⟩ := h
  unfold b_is_sequence
  try walk_at "dl"
  refine ⟨_, rfl, plainL_seq ss, fun r outs hr => ?_⟩
  rw [firstInv_seq ok] at hr
  simp only [hr]
  exact hq _
def goesB (q g : Tx) (ss : List St2) : Bool := (exec q ss 0).1 == g && (exec q ss 0).2.isNone
def goD (x : Tx × Option Nat) : D := match x.2 with
  | none => .tup [.str x.1, .non]
  | some i => .tup [.non, .int i]
theorem execD_eqC (x : Tx × Option Nat) (g : Tx) : eqC (execD x) (.tup [.str g, .non]) := by
  obtain ⟨y, o⟩ := x
  cases o <;> exact .inr ⟨rfl, rfl⟩
theorem execD_eqv (x : Tx × Option Nat) (g : Tx) : (execD x).eqv (.tup [.str g, .non]) = (x.1 == g && x.2.isNone) := by
  obtain ⟨y, o⟩ := x
  cases o with
  | none =>
    show (y == g && (true && true)) = (y == g && true)
    rfl
  | some i =>
    show (y == g && (false && true)) = (y == g && false)
    rfl
/-- is_route: 0 start, 1 goal, 2 value -/
def b_is_route : DS := sSeq (sExp (dCall C_check_queues [.v (zaG 0), .v (zaG 1)])) (sRet (dAnd (dCall C_is_sequence [.v (zaG 2)]) (dOp eqD (dCall C_execute [.v (zaG 0), .v (zaG 2)]) (dTup [zaG 1, dC .non]))))
def C_is_route : Con := fun args Q _ => ∃ (q g : Tx) (ss : List St2), args = [.fz (.str q), .fz (.str g), .fz (seqD ss)] ∧ isWord (.str q) 2100 = true ∧ isWord (.str g) 2100 = true ∧ okSeq ss ∧ ∀ outs, Q (.fz (.bl (goesB q g ss))) outs
theorem p_is_route : ∀ args Q E, args.length = 3 → C_is_route args Q E → runD 3 b_is_route args Q E := by
  intro args Q E _ h
  obtain ⟨q, g, ss, rfl, h1, h2, ok, hq⟩ := h
  unfold b_is_route
  try walk_at "dl"
  refine ⟨_, _, rfl, .mk h1 h2 fun r o hr => ?_⟩
  try walk_at "dl"
  refine ⟨ss, rfl, ok, fun o => ?_⟩
  try walk_at "dl"
  refine ⟨q, ss, rfl, okSeq_signs ok, by have := (word_len h1).1; have := ok.1; omega, fun r o hr => ⟨by decide, ?_⟩⟩
  rw [hr]
  refine ⟨execD_eqC _ _, ?_⟩
  rw [execD_eqv]
  exact hq _
/-- _law_go: 0 _law_queue, 1 _law_steps, 2 _law_position, 3 _law_step -/
def b__law_go : DS := sSeq (sFor (iEnum (zaG 1)) (gT [2, 3]) (sIf (tVal (dOp eqD (dOp ixD (zaG 3) (dC (.int 0))) (dC (.str [43])))) (sAsg (gN 0) (dOp addD (zaG 0) (dOp ixD (zaG 3) (dC (.int 1))))) (sIf (tOr (tVal (dOp eqD (zaG 0) (dC (.str [])))) (tVal (dOp neD (dOp ixD (zaG 0) (dC (.int 0))) (dOp ixD (zaG 3) (dC (.int 1)))))) (sRet (dTup [dC .non, zaG 2])) (sIf (tVal (dOp eqD (dOp ixD (zaG 3) (dC (.int 0))) (dC (.str [45])))) (sAsg (gN 0) (dSl (zaG 0) (some (dC (.int 1))) none)) (sNx))))) (sRet (dTup [zaG 0, dC .non]))
def C__law_go : Con := fun args Q _ => ∃ (q : Tx) (ss : List St2), args = [.fz (.str q), .fz (seqD ss)] ∧ signs ss ∧ q.length + ss.length ≤ 1000000 ∧ ∀ r outs, r.d = goD (exec q ss 0) → Q r outs
theorem p__law_go : ∀ args Q E, args.length = 2 → C__law_go args Q E → runD 4 b__law_go args Q E := by
  intro args Q E _ h
  obtain ⟨q, ss, rfl, hs, hl, hq⟩ := h
  unfold b__law_go seqD
  try walk_at "dl"
  rw [enumD_from]
  refine forL_inv (I := fun es ρ => ∃ (ts : List St2) (n : Nat) (q' : Tx) (s2 s3 : Slot), es = enumFrom n (ts.map stepD) ∧ ρ = [.fz (.str q'), .fz (.lst (ss.map stepD)), s2, s3] ∧ exec q ss 0 = exec q' ts n ∧ signs ts ∧ q'.length + ts.length ≤ 1000000)
    (fun ρ h => ?_) (fun e es ρ h k hk => ?_) _ _ ⟨ss, 0, q, .no, .no, rfl, rfl, rfl, hs, hl⟩
  · obtain ⟨ts, n, q', s2, s3, h1, rfl, h2, _⟩ := h
    cases ts with
    | nil =>
      try walk_at "dl"
      exact ⟨by decide, hq _ _ (by rw [h2]; rfl)⟩
    | cons t ts => cases h1
  · obtain ⟨ts, n, q', s2, s3, h1, rfl, h2, h3, h4⟩ := h
    cases ts with
    | nil => cases h1
    | cons t ts =>
      cases h1
      obtain ⟨a, b⟩ := t
      have hts : signs ts := fun s hs => h3 s (List.mem_cons_of_mem _ hs)
      simp only [List.length_cons] at h4
      unfold stepD
      try walk_at "dl"
      refine ⟨0, a, rfl, rfl, .inl rfl, ?_⟩
      rw [str1_eq]
      rcases h3 (a, b) List.mem_cons_self with ha | ha
      · have ha : a = 43 := ha
        subst ha
        try walk_at "dl"
        refine (if_pos rfl).mpr ⟨1, b, rfl, rfl, ?_⟩
        refine ⟨?_, hk _ ⟨ts, n + 1, q' ++ [b], _, _, rfl, rfl, h2, hts, ?_⟩⟩
        · show q'.length + 1 ≤ 16777216; omega
        · rw [List.length_append]; show q'.length + 1 + _ ≤ _; omega
      · have ha : a = 45 := ha
        subst ha
        refine (if_neg (by decide)).mpr ?_
        try walk_at "dl"
        rw [exec_cons] at h2
        refine ⟨.inl rfl, ?_⟩
        cases q' with
        | nil =>
          refine (if_pos rfl).mpr ⟨by decide, hq _ _ ?_⟩
          rw [h2]
          rfl
        | cons c q' =>
          refine (if_neg (by simp)).mpr ⟨0, c, ix_nat (by decide) (by show (0 : Int) < ((q'.length + 1 : Nat) : Int); omega), rfl, 1, b, rfl, rfl, .inl rfl, ?_⟩
          rw [str1_eq, cut_tail]
          have h2 : exec q ss 0 = if c == b then exec q' ts (n + 1) else (c :: q', some n) := h2
          cases hb : (c == b) with
          | true =>
            rw [hb] at h2
            refine (if_neg (by decide)).mpr ⟨0, 45, rfl, rfl, .inl rfl, (if_pos (by decide)).mpr ?_⟩
            refine hk _ ⟨ts, n + 1, q', _, _, rfl, rfl, h2, hts, ?_⟩
            simp only [List.length_cons] at h4
            omega
          | false =>
            rw [hb] at h2
            refine (if_pos rfl).mpr ⟨by decide, hq _ _ ?_⟩
            rw [h2]
            rfl
end DL

set_option linter.all false
set_option autoImplicit false
set_option maxRecDepth 100000
namespace DL
local macro_rules | `(tactic| walk_at "dl") => `(tactic| simp -implicitDefEqProofs only [runD, startE, outsE, outs_0, outs_s, List.length_cons, List.length_nil, List.cons_append, List.nil_append, List.replicate, Nat.sub_zero, Nat.add_one_sub_one, Nat.reduceSub, Nat.reduceAdd, dC, dVar_M, dVarM_fz, dVarM_own, dIxN_M, dIxM_fz, dIxM_own, dOpN_M, dOpM_fz, dOpM_own, dFnN_M, dFnM_fz, dFnM_own, dOp, dUn, dArgs, dLst, dTup, dFn, dIsi, dMs, dPart, dSl, dIfE, Slot.known, tVal, tTru, tAnd, tOr, tNot, dAnd, dOr, dNot, dChain, iLst, iTup, iStr, iRng1, iRng2, iEnum, iZip, gN, gNs, gT, gL, Tgt.g, tYes, wipeE, backE, dAVs, dCall, avSlot, AV.ok, Slot.isOwn, bA_nil, bA_v, bA_m, D.isRef, List.all_cons, List.all_nil, List.map_cons, List.map_nil, Bool.and_true, Bool.true_and, List.tail_cons, List.tail_nil, List.head?_cons, sTryFin, dPropM, dLenM, dMakeVT, sAppFL, sPutFK, dIxFK, dLstF, sNx, sSeq, sRet, sRetN, sExp, sAsg, sAsgO, sIf, sAug, sFor, sWh, sBrk, sCnt, sRaise, sApp, sAppP, dLstP, dCatG, dSrtH, sRetT, dCatT, dMinKT, eqKN, listKF, listSF, sExt, sUpdT, mergeT, dDct0T, dIxKT, repZD, neEmp, iWkT, itmT, keyT, dSrtKT, Slot.ownL, sPut, sPut2, putAt, sPar, sParL, sFld, dFld, dMake, mkC, dMakeV, dCm, dObj, D.isObj, dCallV, dCallS, dEqO, dIsO, dDct0, isBD_bl, notBD_bl, revD_lst, sPar3, sTrys, catchD, DEnds.unname, repF, D.eqTo, at_0, at_s, at_nil, set_0, set_s, fzd, frd, ftd, Slot.noT, dVarM_ownT, hide_ownT, dMakeT, mkCT, D.calm, D.unm, dEqN, dProp, strF, sFldT, sAppF, sFldAugT, kidOf, putL, dMethM, Slot.isObj, if_true, if_false, Bool.not_true, Bool.not_false, true_and, and_true, Bool.false_eq_true, ↓reduceIte, lenF, lenD, allF, anyF, sumF, absF, intF, tupleF, swM, ewM, eqv_int, eqv_str, eqv_bl, D.isTy, Int.cast_ofNat_Int, addD_int, addD_str, addD_lst, fdivWD_int, orKD_dct, dMinK, dSumV, iaddD_int, iaddD_str, subD_int, mulD_int, mulD_str, mulD_lst, fdivD_int, modD_int, powD_int, negD_int, eqD, neD_str, neD_int, ltD_int, leD_int, gtD_int, geD_int, isD, isnD, D.isNon, inDv, ninDv, ixD_lst, ixD_tup, ixD_str, slD_lst, slD_frl, slD_str, dLc, dLook, Slot.calm, tLook, iRngD, iRngB', dNeT, revT_str, dDisp, iZipS, iZipK, minPF_2, sParF, dLenO, dRepO, dVals, putR, sParR, dFmt, dFmtR, fstL, dFst, mulWD_int, imulD_int, countM, lstRg, dLrg1, dLrg2, sRetO_M, retOM_own, retOM_fz, dLookL, dNeN, dLenSet, dSrtSet, sortedF, dTold, dToldB, dToldO, calm_nil, calm_cons, hide_nil, hide_fz, hide_own, hide_no, at_hs, dIsiO, gTG, gGs, gA, gAll, sAsgs, sClr, sAsgN, dFldN, iWk, itmX, valX, keyX, sForN, dDc, dDcP, eqKd, dDsp1, dGet, dGetN, sPutK, inKv, kyOf, ownK, dictF, dLitm, dIxK, eqKv, sortedIF, ltSD, dDspT, sPutT, ownKT, dTupK, giveE, R.raw, sAsgK, unpK, unpK1, ninKv, eqKg, catTD, repTD, dSlT, sAppAt, updD, sAppAtK, dPopAtK, tNinSet, Slot.dctT, dLcP, R.dctN, lc2L, dLc2, sAugK, dSrtRev, sRetTK, sortedKIF, splitM, partM, intTF, dStp, dTake, sTryF, dRep, dPopN, sPutFT, dFldP, dIxFT, dSrtFS, sortedLLF, dLc2I, dDcT, dGetNT, dLstKT, sUpdP, runG, gThen, gPlain, gNil, gYield, gYieldR, gIf, gFor, GD.at, sForGen, dLcGen, dLcGenQ, gDead, dListGen, dCallFV, dKw, dKwM, dKwC, dKwI, pick, List.getElem?_cons_zero, List.getElem?_cons_succ])
theorem flat59 (w : Tx) (n : Nat) : (List.replicate n w).flatten.length = n * w.length := by
  induction n with
  | zero => simp
  | succ n ih => rw [List.replicate_succ, List.flatten_cons, List.length_append, ih, Nat.succ_mul]; omega
theorem flat59i {w : Tx} (h : w.all isItem = true) (n : Nat) : (List.replicate n w).flatten.all isItem = true := by
  induction n with
  | zero => rfl
  | succ n ih => rw [List.replicate_succ, List.flatten_cons, List.all_append, h, ih]; rfl
/-- _law_overlaps: 0 _law_one, 1 _law_other, 2 _law_size -/
def b__law_overlaps : DS := sRet (dLc [2] (iRng1 (dOp addD (dFn minF [dFn lenF [zaG 0], dFn lenF [zaG 1]]) (dC (.int 1)))) (Tgt.g (.one 2)) (tVal (dOp eqD (dSl (zaG 0) (some (dOp subD (dFn lenF [zaG 0]) (zaG 2))) none) (dSl (zaG 1) none (some (zaG 2))))) (zaG 2))
def C__law_overlaps : Con := fun args Q _ => ∃ s g : Tx, args = [.fz (.str s), .fz (.str g)] ∧ s.length ≤ 2100 ∧ g.length ≤ 2100 ∧ ∀ r o, r.d = ovD s g → Q r o
theorem p__law_overlaps : ∀ args Q E, args.length = 2 → C__law_overlaps args Q E → runD 3 b__law_overlaps args Q E := by
  intro args Q E _ h
  obtain ⟨s, g, rfl, l1, l2, hq⟩ := h
  unfold b__law_overlaps
  try walk_at "dl"
  rw [minF2]
  try walk_at "dl"
  refine ⟨⟨by omega, by omega⟩, own1 (fun d z => nomatch z), ?_⟩
  rw [show (min (s.length : Int) (g.length : Int) + 1).toNat = min s.length g.length + 1 from by omega, rng_map]
  refine lcL_pure (p := fun d => ovB s g (natOf d)) (f := id) _ _ (fun y hy k1 k2 z1 z2 => ?_) [] (by rw [List.length_map, List.length_range]; show 0 + _ ≤ 16777216; omega) ?_
  · obtain ⟨k, hk, rfl⟩ := List.mem_map.mp hy
    have hk := List.mem_range.mp hk
    have eb : ovB s g (natOf (.int (k : Int))) = (s.drop (s.length - k) == g.take k) := by
      show ovB s g (k : Int).toNat = _
      rw [Int.toNat_natCast]
      unfold ovB ewB
      rw [List.length_take, Nat.min_eq_left (by omega), decide_eq_true (by omega), Bool.true_and]
    try walk_at "dl"
    rw [show (s.length : Int) - (k : Int) = ((s.length - k : Nat) : Int) from by omega, cut_fromG, cut_to]
    refine ⟨.inl rfl, ?_⟩
    rw [eb] at z1 z2
    cases hb : (s.drop (s.length - k) == g.take k) with
    | true => exact (if_pos rfl).mpr (z1 hb _ _ rfl rfl)
    | false => exact (if_neg (by decide)).mpr (z2 hb _ rfl)
  · rw [List.nil_append, List.map_id]
    have e : ((List.range (min s.length g.length + 1)).map fun (k : Nat) => D.int (k : Int)).filter (fun d => ovB s g (natOf d)) = (ovL s g).map fun (k : Nat) => D.int (k : Int) := by
      unfold ovL
      rw [List.filter_map]
      refine congrArg _ (List.filter_congr fun k _ => ?_)
      show ovB s g (k : Int).toNat = _
      rw [Int.toNat_natCast]
    rw [e]
    exact hq _ _ rfl
def ab (t : Tx) : Prop := ∀ c ∈ t, c = 97 ∨ c = 98
theorem ab_items {t : Tx} (h : ab t) : t.all isItem = true := List.all_eq_true.mpr fun c hc => by
  rcases h c hc with rfl | rfl <;> rfl
theorem ab_cut {t : Tx} (h : ab t) (lo hi : Option Int) : ab (cut t lo hi) := fun c hc => by
  unfold cut at hc
  exact h c (List.mem_of_mem_drop (List.mem_of_mem_take hc))
theorem ab_app {s t : Tx} (h : ab s) (k : ab t) : ab (s ++ t) := fun c hc => by
  rcases List.mem_append.mp hc with hc | hc
  · exact h c hc
  · exact k c hc
theorem cut5 (t : Tx) : (cut t none (some 5)).length ≤ 5 := by
  rw [show cut t none (some 5) = t.take 5 from cut_to (n := 5), List.length_take]; omega
theorem ix_ex {n : Nat} {xs : List D} {r : Int} {P : D → Prop} (h0 : 0 ≤ r) (h1 : r < n) (hn : xs.length = n) (h : ∀ d ∈ xs, P d) : ∃ j d, ixN n r = some j ∧ xs[j]? = some d ∧ P d := by
  have hi : r.toNat < xs.length := by omega
  exact ⟨r.toNat, xs[r.toNat], ix_nat h0 h1, List.getElem?_eq_getElem hi, h _ (List.getElem_mem hi)⟩
/-- _law_two: 0 _law_pool, 1 _law_letters, 2 _law_one, 3 _law_other -/
def b__law_two : DS := sSeq (sAsg (gN 1) (dOp ixD (dLst [dC (.str [97]), dC (.str [97, 98]), dC (.str [97, 98])]) (dCall C__law_draw [.m 0, .v (dC (.int 3))]))) (sSeq (sPar 2 3 (dCall C__law_word [.m 0, .v (zaG 1), .v (dC (.int 5))]) (dCall C__law_word [.m 0, .v (zaG 1), .v (dC (.int 5))])) (sSeq (sIf (tAnd (tVal (dOp neD (zaG 2) (dC (.str [])))) (tVal (dOp eqD (dCall C__law_draw [.m 0, .v (dC (.int 2))]) (dC (.int 0))))) (sAsg (gN 3) (dSl (dOp addD (dSl (zaG 2) (some (dCall C__law_draw [.m 0, .v (dFn lenF [zaG 2])])) none) (zaG 3)) none (some (dC (.int 5))))) (sNx)) (sRet (dTup [zaG 2, zaG 3]))))
def C__law_two : Con := fun args Q _ => ∃ p, args = [p] ∧ poolOk p ∧ ∀ (s g : Tx) (r : R) p', s.length ≤ 5 → g.length ≤ 5 → ab s → ab g → poolOk p' → r.d = .tup [.str s, .str g] → Q r [p']
theorem p__law_two : ∀ args Q E, args.length = 1 → C__law_two args Q E → runD 4 b__law_two args Q E := by
  intro args Q E _ h
  obtain ⟨p, rfl, ⟨a, b, rfl, h0, h1⟩, hq⟩ := h
  unfold b__law_two
  try walk_at "dl"
  refine ⟨by decide, _, _, rfl, ⟨a, b, rfl, h0, h1⟩, by decide, by decide, fun z p1 o hz0 hz1 hp1 => ?_⟩
  obtain ⟨a1, b1, rfl, h10, h11⟩ := hp1
  try walk_at "dl"
  refine ix_ex hz0 hz1 rfl fun d hd => ?_
  obtain ⟨ls, rfl, hls, hab⟩ : ∃ ls, d = .str ls ∧ okLs ls ∧ ab ls := by
    simp only [List.mem_cons, List.not_mem_nil, or_false] at hd
    rcases hd with rfl | rfl | rfl
    · exact ⟨_, rfl, ⟨by decide, by decide, by decide⟩, by unfold ab; decide⟩
    · exact ⟨_, rfl, ⟨by decide, by decide, by decide⟩, by unfold ab; decide⟩
    · exact ⟨_, rfl, ⟨by decide, by decide, by decide⟩, by unfold ab; decide⟩
  refine ⟨_, ls, 5, rfl, ⟨a1, b1, rfl, h10, h11⟩, hls, by decide, fun s p2 o1 o2 s1 s2 s3 hp2 => ?_⟩
  obtain ⟨a2, b2, rfl, h20, h21⟩ := hp2
  try walk_at "dl"
  refine ⟨_, ls, 5, rfl, ⟨a2, b2, rfl, h20, h21⟩, hls, by decide, fun g p3 o3 o4 g1 g2 g3 hp3 => ?_⟩
  obtain ⟨a3, b3, rfl, h30, h31⟩ := hp3
  have sa : ab s := fun c hc => hab c (s3 c hc)
  have ga : ab g := fun c hc => hab c (g3 c hc)
  try walk_at "dl"
  refine ⟨.inl rfl, ?_⟩
  cases he : (s == []) with
  | true =>
    try walk_at "dl"
    exact ⟨by decide, hq s g _ _ s1 g1 sa ga ⟨a3, b3, rfl, h30, h31⟩ rfl⟩
  | false =>
    try walk_at "dl"
    refine ⟨_, _, rfl, ⟨a3, b3, rfl, h30, h31⟩, by decide, by decide, fun y p4 o5 hy0 hy1 hp4 => ?_⟩
    obtain ⟨a4, b4, rfl, h40, h41⟩ := hp4
    try walk_at "dl"
    refine ⟨.inl rfl, ?_⟩
    cases hy : (y == 0) with
    | false =>
      try walk_at "dl"
      exact ⟨by decide, hq s g _ _ s1 g1 sa ga ⟨a4, b4, rfl, h40, h41⟩ rfl⟩
    | true =>
      have hs : s ≠ [] := fun z => by rw [z] at he; cases he
      have hpos : 0 < s.length := List.length_pos_iff.mpr hs
      try walk_at "dl"
      refine ⟨_, _, rfl, ⟨a4, b4, rfl, h40, h41⟩, by omega, by omega, fun x p5 o6 hx0 hx1 hp5 => ?_⟩
      obtain ⟨a5, b5, rfl, h50, h51⟩ := hp5
      have cl := cut_len s (some x) none
      try walk_at "dl"
      refine ⟨by show _ + _ ≤ 16777216; omega, by decide, hq s _ _ _ s1 (cut5 _) sa (ab_cut (ab_app (ab_cut sa _ _) ga) _ _) ⟨a5, b5, rfl, h50, h51⟩ rfl⟩
theorem eqOkLR (n : Nat) : ∀ xs : List D, (∀ x ∈ xs, x.eqOk n = true) → D.eqOkL n xs = true
  | [], _ => by rw [D.eqOkL]
  | x :: xs, h => by rw [D.eqOkL, h x List.mem_cons_self, eqOkLR n xs fun y hy => h y (List.mem_cons_of_mem _ hy)]; rfl
theorem ovD_ok (s g : Tx) : (ovD s g).eqOk 60 = true := by
  show D.eqOkL 59 _ = true
  refine eqOkLR 59 _ fun x hx => ?_
  obtain ⟨k, _, rfl⟩ := List.mem_map.mp hx
  rfl
theorem ov_at (s g : Tx) : ixN ((ovL s g).map fun (k : Nat) => D.int (k : Int)).length (-1) = some ((ovL s g).length - 1) ∧ ((ovL s g).map fun (k : Nat) => D.int (k : Int))[(ovL s g).length - 1]? = some (.int (ovM s g : Int)) := by
  obtain ⟨ini, k, e, _, _⟩ := ov_last s g
  have ek : ovM s g = k := by unfold ovM; rw [e, List.getLastD_eq_getLast?, List.getLast?_append]; rfl
  rw [ek, e, List.map_append]
  have := last_atE (l := ini.map fun (k : Nat) => D.int (k : Int)) (d := .int (k : Int))
  rw [List.length_map] at this
  rw [show (ini ++ [k]).length - 1 = ini.length by rw [List.length_append]; simp]
  exact this
theorem long_dst (u m v : Tx) : dst (u ++ m) (m ++ v) ≤ u.length + v.length := by
  have hk : m.length ∈ ovL (u ++ m) (m ++ v) := by
    refine ov_mem.mpr ⟨by simp only [List.length_append]; omega, (ovB_iff (by rw [List.length_append]; omega)).mpr ⟨by rw [List.length_append]; omega, ?_⟩⟩
    rw [List.length_append, Nat.add_sub_cancel, List.drop_left, List.take_left]
  have := ovM_max hk
  rw [dst_M]
  simp only [List.length_append]
  omega
theorem route_goes (s g : Tx) : exec s (routeL s g) 0 = (g, none) := mix_goes (route_mix s g)
theorem route_signs (s g : Tx) : signs (routeL s g) := (mix_signs (route_mix s g)).1
/-- _law_long: 0 _law_pool, 1 _law_shared, 2 _law_one, 3 _law_other, 4 _law_due, 5 _law_steps -/
def b__law_long : DS := sSeq (sAsg (gN 1) (dOp mulD (dCall C__law_word [.m 0, .v (dC (.str [97, 98])), .v (dC (.int 9))]) (dC (.int 100)))) (sSeq (sPar 2 3 (dOp addD (dCall C__law_word [.m 0, .v (dC (.str [99, 100])), .v (dC (.int 30))]) (zaG 1)) (dOp addD (zaG 1) (dCall C__law_word [.m 0, .v (dC (.str [101, 102, 103])), .v (dC (.int 30))]))) (sSeq (sAsg (gN 4) (dCall C__law_overlaps [.v (zaG 2), .v (zaG 3)])) (sSeq (sIf (tOr (tVal (dOp neD (dCall C_overlaps [.v (zaG 2), .v (zaG 3)]) (zaG 4))) (tVal (dOp neD (dCall C_distance [.v (zaG 2), .v (zaG 3)]) (dOp subD (dOp addD (dFn lenF [zaG 2]) (dFn lenF [zaG 3])) (dOp mulD (dC (.int 2)) (dOp ixD (zaG 4) (dUn negD (dC (.int 1))))))))) (sRet (dC (.bl false))) (sNx)) (sSeq (sAsg (gN 5) (dCall C_shortest_route [.v (zaG 2), .v (zaG 3)])) (sRet (dAnd (dOp eqD (dFn lenF [zaG 5]) (dCall C_distance [.v (zaG 2), .v (zaG 3)])) (dOp eqD (dCall C__law_go [.v (zaG 2), .v (zaG 5)]) (dTup [zaG 3, dC .non]))))))))
def C__law_long : Con := fun args Q _ => ∃ p, args = [p] ∧ poolOk p ∧ ∀ (r : R) p', poolOk p' → r.d = .bl true → Q r [p']
theorem p__law_long : ∀ args Q E, args.length = 1 → C__law_long args Q E → runD 6 b__law_long args Q E := by
  intro args Q E _ h
  obtain ⟨p, rfl, ⟨a, b, rfl, h0, h1⟩, hq⟩ := h
  unfold b__law_long
  try walk_at "dl"
  refine ⟨_, _, 9, rfl, ⟨a, b, rfl, h0, h1⟩, ⟨by decide, by decide, by decide⟩, by decide, fun w p1 o1 o2 w1 w2 _ hp1 => ?_⟩
  obtain ⟨a1, b1, rfl, h10, h11⟩ := hp1
  try walk_at "dl"
  refine ⟨⟨by decide, by decide, by show w.length * 100 ≤ 16777216; omega⟩, _, _, 30, rfl, ⟨a1, b1, rfl, h10, h11⟩, ⟨by decide, by decide, by decide⟩, by decide, fun u p2 o3 o4 u1 u2 _ hp2 => ?_⟩
  obtain ⟨a2, b2, rfl, h20, h21⟩ := hp2
  have e1 : (List.replicate (Int.toNat 100) w).flatten.length = 100 * w.length := flat59 w 100
  have e2 := flat59i w2 (Int.toNat 100)
  generalize (List.replicate (Int.toNat 100) w).flatten = m at e1 e2
  try walk_at "dl"
  refine ⟨by show _ + _ ≤ 16777216; omega, _, _, 30, rfl, ⟨a2, b2, rfl, h20, h21⟩, ⟨by decide, by decide, by decide⟩, by decide, fun v p3 o5 o6 v1 v2 _ hp3 => ?_⟩
  obtain ⟨a3, b3, rfl, h30, h31⟩ := hp3
  try walk_at "dl"
  refine ⟨by show _ + _ ≤ 16777216; omega, ?_⟩
  have hd := long_dst u m v
  have l1 : (u ++ m).length ≤ 930 := by rw [List.length_append]; omega
  have l2 : (m ++ v).length ≤ 930 := by rw [List.length_append]; omega
  have i1 : isWord (.str (u ++ m)) 2100 = true := word_mk (by omega) (by rw [List.all_append, u2, e2]; rfl)
  have i2 : isWord (.str (m ++ v)) 2100 = true := word_mk (by omega) (by rw [List.all_append, e2, v2]; rfl)
  generalize u ++ m = s at *
  generalize m ++ v = g at *
  refine ⟨s, g, rfl, by omega, by omega, fun r o hr => ?_⟩
  try walk_at "dl"
  simp only [hr]
  clear hr
  refine ⟨_, _, rfl, .mk i1 i2 fun r2 o2 hr2 => ?_⟩
  try walk_at "dl"
  simp only [hr2]
  refine ne_same (ovD_ok s g) ?_
  try walk_at "dl"
  refine ⟨_, _, rfl, .mk i1 i2 fun o3 => ?_⟩
  unfold ovD
  obtain ⟨oa, ob⟩ := ov_at s g
  try walk_at "dl"
  refine ⟨_, .int (ovM s g : Int), oa, ob, ?_⟩
  try walk_at "dl"
  refine ⟨.inl ⟨by decide, by decide⟩, .inl rfl, ?_⟩
  rw [← dst_M]
  rw [beq_self_eq_true]
  try walk_at "dl"
  refine ⟨_, _, rfl, .mk i1 i2 ⟨fun z => by omega, fun _ r4 o4 hr4 => ?_⟩⟩
  have rl := route_len s g
  try walk_at "dl"
  simp only [hr4]
  clear hr4
  unfold seqD
  try walk_at "dl"
  rw [List.length_map]
  refine ⟨_, _, rfl, .mk i1 i2 fun o5 => ⟨.inl rfl, ?_⟩⟩
  rw [rl]
  refine (if_pos (eqv_refl 60 _ rfl)).mpr ?_
  have lr : (routeL s g).length ≤ 60 := by omega
  refine ⟨s, routeL s g, rfl, route_signs s g, by omega, fun r6 o6 hr6 => ?_⟩
  rw [route_goes] at hr6
  simp only [hr6]
  refine ⟨by decide, .inr ⟨rfl, rfl⟩, ?_⟩
  refine hq _ _ ⟨a3, b3, rfl, h30, h31⟩ ?_
  show D.bl ((goD (g, none)).eqv (.tup [.str g, .non])) = D.bl true
  rw [show goD (g, none) = .tup [.str g, .non] from rfl, eqv_refl 60 _ rfl]
/-- _law_moves: 0 _law_queue, 1 _law_letters, 2 _law_found, 3 _law_item -/
def b__law_moves : DS := sSeq (sAsg (gN 2) (dLc [3] (iStr (zaG 1)) (Tgt.g (.one 3)) (tYes) (dOp addD (zaG 0) (zaG 3)))) (sRet (dOp addD (zaG 2) (dOp mulD (dLst [dSl (zaG 0) (some (dC (.int 1))) none]) (dFn intF [dOp neD (zaG 0) (dC (.str []))]))))
def mvL (q : Tx) : List Tx := [q ++ [97], q ++ [98]] ++ (if q = [] then [] else [q.drop 1])
def C__law_moves : Con := fun args Q _ => ∃ q : Tx, args = [.fz (.str q), .fz (.str [97, 98])] ∧ q.length ≤ 10000 ∧ ∀ r o, r.d = .lst ((mvL q).map .str) → Q r o
theorem p__law_moves : ∀ args Q E, args.length = 2 → C__law_moves args Q E → runD 4 b__law_moves args Q E := by
  intro args Q E _ h
  obtain ⟨q, rfl, hl, hq⟩ := h
  unfold b__law_moves
  try walk_at "dl"
  refine ⟨own1 (fun d z => nomatch z), ?_⟩
  refine lcL_pure (p := fun _ => true) (f := fun d => match d with | .str [c] => .str (q ++ [c]) | d => d) _ _ (fun y hy k1 k2 z1 z2 => ?_) [] (by show 0 + _ ≤ 16777216; simp) ?_
  · obtain ⟨c, rfl⟩ : ∃ c, y = .str [c] := by
      simp only [List.mem_cons, List.not_mem_nil, or_false] at hy
      rcases hy with rfl | rfl
      · exact ⟨_, rfl⟩
      · exact ⟨_, rfl⟩
    try walk_at "dl"
    exact ⟨by show q.length + 1 ≤ 16777216; omega, z1 rfl _ _ rfl rfl⟩
  rw [List.nil_append, map_filter_true]
  try walk_at "dl"
  cases q with
  | nil =>
    try walk_at "dl"
    exact ⟨by decide, .inl rfl, ⟨by decide, by decide, by decide⟩, by decide, hq _ _ rfl⟩
  | cons c q =>
    try walk_at "dl"
    rw [show ((c :: q : Tx) == []) = false from rfl, cut_1G]
    exact ⟨by decide, .inl rfl, ⟨by decide, by decide, by decide⟩, (show 3 ≤ 16777216 by decide), hq _ _ rfl⟩
end DL

set_option linter.all false
set_option autoImplicit false
set_option maxRecDepth 100000
namespace DL
local macro_rules | `(tactic| walk_at "dl") => `(tactic| simp -implicitDefEqProofs only [runD, startE, outsE, outs_0, outs_s, List.length_cons, List.length_nil, List.cons_append, List.nil_append, List.replicate, Nat.sub_zero, Nat.add_one_sub_one, Nat.reduceSub, Nat.reduceAdd, dC, dVar_M, dVarM_fz, dVarM_own, dIxN_M, dIxM_fz, dIxM_own, dOpN_M, dOpM_fz, dOpM_own, dFnN_M, dFnM_fz, dFnM_own, dOp, dUn, dArgs, dLst, dTup, dFn, dIsi, dMs, dPart, dSl, dIfE, Slot.known, tVal, tTru, tAnd, tOr, tNot, dAnd, dOr, dNot, dChain, iLst, iTup, iStr, iRng1, iRng2, iEnum, iZip, gN, gNs, gT, gL, Tgt.g, tYes, wipeE, backE, dAVs, dCall, avSlot, AV.ok, Slot.isOwn, bA_nil, bA_v, bA_m, D.isRef, List.all_cons, List.all_nil, List.map_cons, List.map_nil, Bool.and_true, Bool.true_and, List.tail_cons, List.tail_nil, List.head?_cons, sTryFin, dPropM, dLenM, dMakeVT, sAppFL, sPutFK, dIxFK, dLstF, sNx, sSeq, sRet, sRetN, sExp, sAsg, sAsgO, sIf, sAug, sFor, sWh, sBrk, sCnt, sRaise, sApp, sAppP, dLstP, dCatG, dSrtH, sRetT, dCatT, dMinKT, eqKN, listKF, listSF, sExt, sUpdT, mergeT, dDct0T, dIxKT, repZD, neEmp, iWkT, itmT, keyT, dSrtKT, Slot.ownL, sPut, sPut2, putAt, sPar, sParL, sFld, dFld, dMake, mkC, dMakeV, dCm, dObj, D.isObj, dCallV, dCallS, dEqO, dIsO, dDct0, isBD_bl, notBD_bl, revD_lst, sPar3, sTrys, catchD, DEnds.unname, repF, D.eqTo, at_0, at_s, at_nil, set_0, set_s, fzd, frd, ftd, Slot.noT, dVarM_ownT, hide_ownT, dMakeT, mkCT, D.calm, D.unm, dEqN, dProp, strF, sFldT, sAppF, sFldAugT, kidOf, putL, dMethM, Slot.isObj, if_true, if_false, Bool.not_true, Bool.not_false, true_and, and_true, Bool.false_eq_true, ↓reduceIte, lenF, lenD, allF, anyF, sumF, absF, intF, tupleF, swM, ewM, eqv_int, eqv_str, eqv_bl, D.isTy, Int.cast_ofNat_Int, addD_int, addD_str, addD_lst, fdivWD_int, orKD_dct, dMinK, dSumV, iaddD_int, iaddD_str, subD_int, mulD_int, mulD_str, mulD_lst, fdivD_int, modD_int, powD_int, negD_int, eqD, neD_str, neD_int, ltD_int, leD_int, gtD_int, geD_int, isD, isnD, D.isNon, inDv, ninDv, ixD_lst, ixD_tup, ixD_str, slD_lst, slD_frl, slD_str, dLc, dLook, Slot.calm, tLook, iRngD, iRngB', dNeT, revT_str, dDisp, iZipS, iZipK, minPF_2, sParF, dLenO, dRepO, dVals, putR, sParR, dFmt, dFmtR, fstL, dFst, mulWD_int, imulD_int, countM, lstRg, dLrg1, dLrg2, sRetO_M, retOM_own, retOM_fz, dLookL, dNeN, dLenSet, dSrtSet, sortedF, dTold, dToldB, dToldO, calm_nil, calm_cons, hide_nil, hide_fz, hide_own, hide_no, at_hs, dIsiO, gTG, gGs, gA, gAll, sAsgs, sClr, sAsgN, dFldN, iWk, itmX, valX, keyX, sForN, dDc, dDcP, eqKd, dDsp1, dGet, dGetN, sPutK, inKv, kyOf, ownK, dictF, dLitm, dIxK, eqKv, sortedIF, ltSD, dDspT, sPutT, ownKT, dTupK, giveE, R.raw, sAsgK, unpK, unpK1, ninKv, eqKg, catTD, repTD, dSlT, sAppAt, updD, sAppAtK, dPopAtK, tNinSet, Slot.dctT, dLcP, R.dctN, lc2L, dLc2, sAugK, dSrtRev, sRetTK, sortedKIF, splitM, partM, intTF, dStp, dTake, sTryF, dRep, dPopN, sPutFT, dFldP, dIxFT, dSrtFS, sortedLLF, dLc2I, dDcT, dGetNT, dLstKT, sUpdP, runG, gThen, gPlain, gNil, gYield, gYieldR, gIf, gFor, GD.at, sForGen, dLcGen, dLcGenQ, gDead, dListGen, dCallFV, dKw, dKwM, dKwC, dKwI, pick, List.getElem?_cons_zero, List.getElem?_cons_succ])
/-! the fewest steps, found breadth first -/
def P10 : Nat → Tx → Tx → Prop
  | 0, s, w => w = s
  | n + 1, s, w => ∃ u, P10 n s u ∧ w ∈ mvL u ∧ w.length < 11
theorem mv_iff {u w : Tx} : w ∈ mvL u ↔ w = u ++ [97] ∨ w = u ++ [98] ∨ ∃ c, u = c :: w := by
  unfold mvL
  cases u with
  | nil => simp
  | cons c u =>
    rw [if_neg (by simp)]
    simp only [List.mem_append, List.mem_cons, List.not_mem_nil, or_false, List.drop_succ_cons, List.drop_zero, List.cons.injEq, or_assoc]
    refine or_congr Iff.rfl (or_congr Iff.rfl ⟨fun h => ⟨c, rfl, h.symm⟩, fun ⟨_, _, h⟩ => h.symm⟩)
theorem p10_up {s : Tx} : ∀ (p w : Tx) (n : Nat), P10 n s w → ab p → w.length + p.length < 11 → P10 (n + p.length) s (w ++ p)
  | [], w, n, h, _, _ => by rw [List.append_nil]; exact h
  | c :: p, w, n, h, hp, hl => by
    have h1 : P10 (n + 1) s (w ++ [c]) := ⟨w, h, mv_iff.mpr (by
      rcases hp c List.mem_cons_self with rfl | rfl
      · exact .inl rfl
      · exact .inr (.inl rfl)), by rw [List.length_append]; simp only [List.length_cons, List.length_nil] at hl ⊢; omega⟩
    have := p10_up p (w ++ [c]) (n + 1) h1 (fun x hx => hp x (List.mem_cons_of_mem _ hx)) (by rw [List.length_append]; simp only [List.length_cons, List.length_nil] at hl ⊢; omega)
    rw [List.append_assoc] at this
    rw [List.length_cons, show n + (p.length + 1) = n + 1 + p.length from by omega]
    exact this
theorem p10_dn {s : Tx} : ∀ (t w : Tx) (n : Nat), P10 n s (t ++ w) → (t ++ w).length < 11 → P10 (n + t.length) s w
  | [], w, n, h, _ => h
  | c :: t, w, n, h, hl => by
    have hl' : (t ++ w).length < 11 := by
      have : (c :: t ++ w).length = (t ++ w).length + 1 := rfl
      omega
    have h1 : P10 (n + 1) s (t ++ w) := ⟨c :: (t ++ w), h, mv_iff.mpr (.inr (.inr ⟨c, rfl⟩)), hl'⟩
    have := p10_dn t w (n + 1) h1 hl'
    rw [List.length_cons, show n + (t.length + 1) = n + 1 + t.length from by omega]
    exact this
theorem p10_run {s : Tx} : ∀ (n : Nat) (w : Tx), P10 n s w → ∃ ss, signs ss ∧ ss.length = n ∧ exec s ss 0 = (w, none)
  | 0, w, h => ⟨[], (fun _ z => nomatch z), rfl, by rw [show w = s from h]; rfl⟩
  | n + 1, w, h => by
    obtain ⟨u, hu, hw, _⟩ := h
    obtain ⟨ss, h1, h2, h3⟩ := p10_run n u hu
    have sg : ∀ x : St2, x.1 = 43 ∨ x.1 = 45 → signs (ss ++ [x]) := fun x hx y hy => by
      rcases List.mem_append.mp hy with hy | hy
      · exact h1 y hy
      · rw [List.mem_singleton.mp hy]; exact hx
    rcases mv_iff.mp hw with rfl | rfl | ⟨c, rfl⟩
    · exact ⟨ss ++ [(43, 97)], sg _ (.inl rfl), by rw [List.length_append, h2]; rfl, exec_put h3⟩
    · exact ⟨ss ++ [(43, 98)], sg _ (.inl rfl), by rw [List.length_append, h2]; rfl, exec_put h3⟩
    · exact ⟨ss ++ [(45, c)], sg _ (.inr rfl), by rw [List.length_append, h2]; rfl, exec_take h3⟩
theorem p10_low {s g : Tx} {n : Nat} (h : P10 n s g) : dst s g ≤ n := by
  obtain ⟨ss, h1, h2, h3⟩ := p10_run n g h
  rw [← h2]
  exact dst_low h1 h3
theorem p10_dst {s g : Tx} (hs : s.length ≤ 5) (hg : g.length ≤ 5) (ga : ab g) : P10 (routeL s g).length s g ∧ (routeL s g).length ≤ 10 := by
  have hk := ovM_le s g
  obtain ⟨hk1, hk2⟩ := (ovB_iff (by omega)).mp (ov_mem.mp (ovM_mem s g)).2
  have h0 : P10 0 s (s.take (s.length - ovM s g) ++ g.take (ovM s g)) := by
    rw [← hk2, List.take_append_drop]; rfl
  have h1 := p10_dn _ _ _ h0 (by rw [List.length_append, List.length_take, List.length_take]; omega)
  have h2 := p10_up (g.drop (ovM s g)) _ _ h1 (fun c hc => ga c (List.mem_of_mem_drop hc)) (by rw [List.length_take, List.length_drop]; omega)
  rw [List.take_append_drop] at h2
  have e : (routeL s g).length = 0 + (s.take (s.length - ovM s g)).length + (g.drop (ovM s g)).length := by
    unfold routeL
    rw [List.length_append, downs_len, ups_len, List.length_take, List.length_drop]
    omega
  rw [e]
  refine ⟨h2, ?_⟩
  rw [List.length_take, List.length_drop]
  omega
/-- what is new among the candidates -/
def Cand (S C L : List Tx) : Prop := (∀ v, v ∈ L ↔ v ∉ S ∧ v.length < 11 ∧ v ∈ C) ∧ L.length ≤ C.length
theorem Cand.yes {S C L : List Tx} {v : Tx} (h : Cand S C L) (hv : v ∉ S ++ L) (hl : v.length < 11) : Cand S (C ++ [v]) (L ++ [v]) := by
  refine ⟨fun w => ?_, by rw [List.length_append, List.length_append]; exact Nat.add_le_add_right h.2 _⟩
  rw [List.mem_append, List.mem_append, h.1 w, List.mem_singleton]
  constructor
  · rintro (⟨a, b, c⟩ | rfl)
    · exact ⟨a, b, .inl c⟩
    · exact ⟨fun z => hv (List.mem_append.mpr (.inl z)), hl, .inr rfl⟩
  · rintro ⟨a, b, c | rfl⟩
    · exact .inl ⟨a, b, c⟩
    · exact .inr rfl
theorem Cand.no {S C L : List Tx} {v : Tx} (h : Cand S C L) (hv : v ∈ S ++ L ∨ ¬ v.length < 11) : Cand S (C ++ [v]) L := by
  refine ⟨fun w => ?_, by rw [List.length_append]; exact Nat.le_trans h.2 (Nat.le_add_right _ _)⟩
  rw [List.mem_append, h.1 w, List.mem_singleton]
  constructor
  · rintro ⟨a, b, c⟩
    exact ⟨a, b, .inl c⟩
  · rintro ⟨a, b, c | rfl⟩
    · exact ⟨a, b, c⟩
    · rcases hv with hv | hv
      · rcases List.mem_append.mp hv with hv | hv
        · exact absurd hv a
        · exact (h.1 _).mp hv
      · exact absurd b hv
/-- the search after n turns: what was seen, and the front -/
structure Bfs (s : Tx) (n : Nat) (S F : List Tx) : Prop where
  seen : ∀ w, w ∈ S ↔ ∃ m, m ≤ n ∧ P10 m s w
  front : ∀ w, w ∈ F ↔ P10 n s w ∧ ∀ m, m < n → ¬ P10 m s w
  fl : F.length ≤ 3 ^ n
  sl : S.length ≤ 3 ^ (n + 1)
  wl : ∀ w ∈ F, w.length < 11
theorem Bfs.start {s : Tx} (h : s.length ≤ 5) : Bfs s 0 [s] [s] where
  seen := fun w => by
    rw [List.mem_singleton]
    exact ⟨fun e => ⟨0, Nat.le_refl _, e⟩, fun ⟨m, hm, e⟩ => by
      obtain rfl : m = 0 := by omega
      exact e⟩
  front := fun w => by
    rw [List.mem_singleton]
    exact ⟨fun e => ⟨e, fun m z => by omega⟩, fun e => e.1⟩
  fl := by simp
  sl := by simp
  wl := fun w hw => by rw [List.mem_singleton.mp hw]; omega
theorem mv_len (u : Tx) : (mvL u).length ≤ 3 := by
  unfold mvL
  rw [List.length_append]
  split <;> simp
theorem mvs_len : ∀ F : List Tx, (F.flatMap mvL).length ≤ 3 * F.length
  | [] => by simp
  | u :: F => by
    rw [List.flatMap_cons, List.length_append, List.length_cons]
    have := mv_len u
    have := mvs_len F
    omega
theorem p10_min {s w : Tx} {n : Nat} (h : P10 n s w) : ∃ k, k ≤ n ∧ P10 k s w ∧ ∀ m, m < k → ¬ P10 m s w := by
  induction n using Nat.strongRecOn with
  | _ n ih =>
    by_cases z : ∃ m, m < n ∧ P10 m s w
    · obtain ⟨m, hm, hp⟩ := z
      obtain ⟨k, hk, a⟩ := ih m hm hp
      exact ⟨k, by omega, a⟩
    · exact ⟨n, Nat.le_refl _, h, fun m hm hp => z ⟨m, hm, hp⟩⟩
theorem Bfs.next {s : Tx} {n : Nat} {S F L : List Tx} (b : Bfs s n S F) (c : Cand S (F.flatMap mvL) L) : Bfs s (n + 1) (S ++ L) L := by
  have hL : ∀ v, v ∈ L ↔ v ∉ S ∧ v.length < 11 ∧ ∃ u, u ∈ F ∧ v ∈ mvL u := fun v => by rw [c.1 v, List.mem_flatMap]
  have hf : ∀ w, w ∈ L ↔ P10 (n + 1) s w ∧ ∀ m, m < n + 1 → ¬ P10 m s w := fun w => by
    rw [hL w, b.seen w]
    constructor
    · rintro ⟨a1, a2, u, hu, hw⟩
      exact ⟨⟨u, ((b.front u).mp hu).1, hw, a2⟩, fun m hm hp => a1 ⟨m, by omega, hp⟩⟩
    · rintro ⟨⟨u, hu, hw, a2⟩, a1⟩
      refine ⟨fun ⟨m, hm, hp⟩ => a1 m (by omega) hp, a2, u, (b.front u).mpr ⟨hu, fun m hm hp => ?_⟩, hw⟩
      exact a1 (m + 1) (by omega) ⟨u, hp, hw, a2⟩
  have ll := mvs_len F
  have l3 := b.fl
  have l4 := b.sl
  have l5 := c.2
  have e1 : 3 ^ (n + 1) = 3 ^ n * 3 := Nat.pow_succ _ _
  have e2 : 3 ^ (n + 1 + 1) = 3 ^ (n + 1) * 3 := Nat.pow_succ _ _
  refine ⟨fun w => ?_, hf, by omega, by rw [List.length_append]; omega, fun w hw => ((hL w).mp hw).2.1⟩
  rw [List.mem_append, b.seen w, hf w]
  constructor
  · rintro (⟨m, hm, hp⟩ | ⟨hp, _⟩)
    · exact ⟨m, by omega, hp⟩
    · exact ⟨n + 1, Nat.le_refl _, hp⟩
  · rintro ⟨m, hm, hp⟩
    obtain ⟨k, hk, hp2, hmin⟩ := p10_min hp
    by_cases z : k ≤ n
    · exact .inl ⟨k, z, hp2⟩
    · obtain rfl : k = n + 1 := by omega
      exact .inr ⟨hp2, hmin⟩
theorem Bfs.hit {s g : Tx} {n N : Nat} {S F : List Tx} (b : Bfs s n S F) (hN : P10 N s g) (hd : (N : Int) = dst s g) (hn : n ≤ N) : (g ∈ F → n = N) ∧ (g ∉ F → n + 1 ≤ N) := by
  refine ⟨fun h => ?_, fun h => ?_⟩
  · have := p10_low ((b.front g).mp h).1
    omega
  · by_cases z : n = N
    · subst z
      exact absurd ((b.front g).mpr ⟨hN, fun m hm hp => by have := p10_low hp; omega⟩) h
    · omega
def kdD (S : List Tx) : List (Ky × D) := S.map fun k => (Ky.str k, D.bl true)
theorem kd_any (S : List Tx) (v : Tx) : ((kdD S).any fun p => decide (p.1 = Ky.str v)) = decide (v ∈ S) := by
  unfold kdD
  rw [List.any_map, Bool.eq_iff_iff, List.any_eq_true, decide_eq_true_eq]
  constructor
  · rintro ⟨x, hx, h⟩
    have h : decide (Ky.str x = Ky.str v) = true := h
    rw [decide_eq_true_eq] at h
    cases h
    exact hx
  · intro h
    exact ⟨v, h, by show decide (Ky.str v = Ky.str v) = true; rw [decide_eq_true rfl]⟩
theorem kd_put {S : List Tx} {v : Tx} (h : v ∉ S) : putD (kdD S) (.str v) (.bl true) = kdD (S ++ [v]) := by
  unfold putD
  rw [kd_any, decide_eq_false h, if_neg (by decide)]
  unfold kdD
  rw [List.map_append]
  rfl
end DL

set_option linter.all false
set_option autoImplicit false
set_option maxRecDepth 100000
namespace DL
local macro_rules | `(tactic| walk_at "dl") => `(tactic| simp -implicitDefEqProofs only [runD, startE, outsE, outs_0, outs_s, List.length_cons, List.length_nil, List.cons_append, List.nil_append, List.replicate, Nat.sub_zero, Nat.add_one_sub_one, Nat.reduceSub, Nat.reduceAdd, dC, dVar_M, dVarM_fz, dVarM_own, dIxN_M, dIxM_fz, dIxM_own, dOpN_M, dOpM_fz, dOpM_own, dFnN_M, dFnM_fz, dFnM_own, dOp, dUn, dArgs, dLst, dTup, dFn, dIsi, dMs, dPart, dSl, dIfE, Slot.known, tVal, tTru, tAnd, tOr, tNot, dAnd, dOr, dNot, dChain, iLst, iTup, iStr, iRng1, iRng2, iEnum, iZip, gN, gNs, gT, gL, Tgt.g, tYes, wipeE, backE, dAVs, dCall, avSlot, AV.ok, Slot.isOwn, bA_nil, bA_v, bA_m, D.isRef, List.all_cons, List.all_nil, List.map_cons, List.map_nil, Bool.and_true, Bool.true_and, List.tail_cons, List.tail_nil, List.head?_cons, sTryFin, dPropM, dLenM, dMakeVT, sAppFL, sPutFK, dIxFK, dLstF, sNx, sSeq, sRet, sRetN, sExp, sAsg, sAsgO, sIf, sAug, sFor, sWh, sBrk, sCnt, sRaise, sApp, sAppP, dLstP, dCatG, dSrtH, sRetT, dCatT, dMinKT, eqKN, listKF, listSF, sExt, sUpdT, mergeT, dDct0T, dIxKT, repZD, neEmp, iWkT, itmT, keyT, dSrtKT, Slot.ownL, sPut, sPut2, putAt, sPar, sParL, sFld, dFld, dMake, mkC, dMakeV, dCm, dObj, D.isObj, dCallV, dCallS, dEqO, dIsO, dDct0, isBD_bl, notBD_bl, revD_lst, sPar3, sTrys, catchD, DEnds.unname, repF, D.eqTo, at_0, at_s, at_nil, set_0, set_s, fzd, frd, ftd, Slot.noT, dVarM_ownT, hide_ownT, dMakeT, mkCT, D.calm, D.unm, dEqN, dProp, strF, sFldT, sAppF, sFldAugT, kidOf, putL, dMethM, Slot.isObj, if_true, if_false, Bool.not_true, Bool.not_false, true_and, and_true, Bool.false_eq_true, ↓reduceIte, lenF, lenD, allF, anyF, sumF, absF, intF, tupleF, swM, ewM, eqv_int, eqv_str, eqv_bl, D.isTy, Int.cast_ofNat_Int, addD_int, addD_str, addD_lst, fdivWD_int, orKD_dct, dMinK, dSumV, iaddD_int, iaddD_str, subD_int, mulD_int, mulD_str, mulD_lst, fdivD_int, modD_int, powD_int, negD_int, eqD, neD_str, neD_int, ltD_int, leD_int, gtD_int, geD_int, isD, isnD, D.isNon, inDv, ninDv, ixD_lst, ixD_tup, ixD_str, slD_lst, slD_frl, slD_str, dLc, dLook, Slot.calm, tLook, iRngD, iRngB', dNeT, revT_str, dDisp, iZipS, iZipK, minPF_2, sParF, dLenO, dRepO, dVals, putR, sParR, dFmt, dFmtR, fstL, dFst, mulWD_int, imulD_int, countM, lstRg, dLrg1, dLrg2, sRetO_M, retOM_own, retOM_fz, dLookL, dNeN, dLenSet, dSrtSet, sortedF, dTold, dToldB, dToldO, calm_nil, calm_cons, hide_nil, hide_fz, hide_own, hide_no, at_hs, dIsiO, gTG, gGs, gA, gAll, sAsgs, sClr, sAsgN, dFldN, iWk, itmX, valX, keyX, sForN, dDc, dDcP, eqKd, dDsp1, dGet, dGetN, sPutK, inKv, kyOf, ownK, dictF, dLitm, dIxK, eqKv, sortedIF, ltSD, dDspT, sPutT, ownKT, dTupK, giveE, R.raw, sAsgK, unpK, unpK1, ninKv, eqKg, catTD, repTD, dSlT, sAppAt, updD, sAppAtK, dPopAtK, tNinSet, Slot.dctT, dLcP, R.dctN, lc2L, dLc2, sAugK, dSrtRev, sRetTK, sortedKIF, splitM, partM, intTF, dStp, dTake, sTryF, dRep, dPopN, sPutFT, dFldP, dIxFT, dSrtFS, sortedLLF, dLc2I, dDcT, dGetNT, dLstKT, sUpdP, runG, gThen, gPlain, gNil, gYield, gYieldR, gIf, gFor, GD.at, sForGen, dLcGen, dLcGenQ, gDead, dListGen, dCallFV, dKw, dKwM, dKwC, dKwI, pick, List.getElem?_cons_zero, List.getElem?_cons_succ])
theorem in_strs {g : Tx} {F : List Tx} {k : Bool → Prop} (h : k (decide (g ∈ F))) : inD (.str g) (.lst (F.map .str)) k := by
  have e : ((F.map D.str).any fun y => D.eqv y (.str g)) = decide (g ∈ F) := by
    rw [List.any_map, Bool.eq_iff_iff, List.any_eq_true, decide_eq_true_eq]
    constructor
    · rintro ⟨x, hx, h⟩
      have h : (x == g) = true := h
      rw [beq_iff_eq] at h
      exact h ▸ hx
    · intro h
      exact ⟨g, h, beq_self_eq_true g⟩
  have f : (F.map D.str).all D.flat = true := by
    rw [List.all_map]
    exact List.all_eq_true.mpr fun x _ => rfl
  have : inD (.str g) (.lst (F.map .str)) k = ((D.str g).flat = true ∧ (F.map D.str).all D.flat = true ∧ k ((F.map D.str).any fun y => D.eqv y (.str g))) := by
    cases g with
    | nil => rfl
    | cons c g =>
      cases g <;> rfl
  rw [this, e]
  exact ⟨rfl, f, h⟩
theorem pow_le12 {n : Nat} (h : n ≤ 12) : 3 ^ n ≤ 531441 := Nat.le_trans (Nat.pow_le_pow_right (by decide) h) (by decide)
/-- _law_fewest: 0 _law_one, 1 _law_other, 2 _law_front, 3 _law_seen, 4 _law_turn, 5 _law_later, 6 _law_queue, 7 _law_near -/
def b__law_fewest : DS := sSeq (sParR [(2, false), (3, true)] [dLst [zaG 0], dDsp1 (zaG 0) (dC (.bl true))]) (sSeq (sFor (iRng1 (dC (.int 11))) (gN 4) (sSeq (sIf (tVal (dOp inDv (zaG 1) (zaG 2))) (sRet (zaG 4)) (sNx)) (sSeq (sAsgO 5 (dLst [])) (sSeq (sFor (iLst (zaG 2)) (gN 6) (sFor (iLst (dCall C__law_moves [.v (zaG 6), .v (dC (.str [97, 98]))])) (gN 7) (sIf (tLook (tAnd (tVal (dOp ninKv (zaG 7) (zaG 3))) (tVal (dOp ltD (dFn lenF [zaG 7]) (dC (.int 11)))))) (sSeq (sPutK 3 (zaG 7) (dC (.bl true))) (sApp 5 (zaG 7))) (sNx)))) (sAsg (gN 2) (zaG 5)))))) (sRet (dC .non)))
def C__law_fewest : Con := fun args Q _ => ∃ s g : Tx, args = [.fz (.str s), .fz (.str g)] ∧ s.length ≤ 5 ∧ g.length ≤ 5 ∧ ab g ∧ ∀ o, Q (.fz (.int (dst s g))) o
theorem p__law_fewest : ∀ args Q E, args.length = 2 → C__law_fewest args Q E → runD 8 b__law_fewest args Q E := by
  intro args Q E _ h
  obtain ⟨s, g, rfl, h1, h2, ga, hq⟩ := h
  unfold b__law_fewest
  obtain ⟨hP, hN⟩ := p10_dst h1 h2 ga
  have hd := route_len s g
  generalize (routeL s g).length = N at hP hN hd
  try walk_at "dl"
  refine ⟨by decide, _, rfl, ?_⟩
  try walk_at "dl"
  refine ⟨⟨by decide, by decide⟩, ?_⟩
  refine forL_inv (I := fun es ρ => ∃ (n m : Nat) (S F : List Tx) (s4 s5 s6 s7 : Slot), es = rng (n : Int) m ∧ n + m = 11 ∧ n ≤ N ∧ Bfs s n S F ∧ ρ = [.fz (.str s), .fz (.str g), .fz (.lst (F.map .str)), .own (.dct (kdD S)), s4, s5, s6, s7])
    (fun ρ h => ?_) (fun x es ρ h k hk => ?_) _ _ ⟨0, 11, [s], [s], .no, .no, .no, .no, rfl, rfl, Nat.zero_le _, Bfs.start h1, rfl⟩
  · obtain ⟨n, m, S, F, s4, s5, s6, s7, e1, e2, e3, _, rfl⟩ := h
    cases m with
    | succ m => rw [rng_succ] at e1; cases e1
    | zero => omega
  · obtain ⟨n, m, S, F, s4, s5, s6, s7, e1, e2, e3, b, rfl⟩ := h
    cases m with
    | zero => cases e1
    | succ m =>
    rw [rng_succ] at e1
    cases e1
    obtain ⟨hh1, hh2⟩ := b.hit hP hd e3
    try walk_at "dl"
    refine in_strs ?_
    by_cases hg : g ∈ F
    · rw [decide_eq_true hg]
      try walk_at "dl"
      rw [hh1 hg, hd]
      exact hq _
    · rw [decide_eq_false hg]
      try walk_at "dl"
      refine ⟨by decide, ?_⟩
      have bf := b.fl
      have bs := b.sl
      have p1 := pow_le12 (n := n) (by omega)
      have p2 := pow_le12 (n := n + 1) (by omega)
      refine forL_inv (I := fun es ρ => ∃ (F1 F2 L : List Tx) (s6 s7 : Slot), es = F2.map .str ∧ F = F1 ++ F2 ∧ Cand S (F1.flatMap mvL) L ∧ ρ = [.fz (.str s), .fz (.str g), .fz (.lst (F.map .str)), .own (.dct (kdD (S ++ L))), .fz (.int n), .own (.lst (L.map .str)), s6, s7])
        (fun ρ h => ?_) (fun x es ρ h k2 hk2 => ?_) _ _ ⟨[], F, [], s6, s7, rfl, rfl, ⟨fun v => by simp, by simp⟩, by rw [List.append_nil]; rfl⟩
      · obtain ⟨F1, F2, L, t6, t7, f1, f2, c, rfl⟩ := h
        have : F2 = [] := by
          cases F2 with
          | nil => rfl
          | cons _ _ => cases f1
        subst this
        rw [List.append_nil] at f2
        subst f2
        try walk_at "dl"
        exact hk _ ⟨n + 1, m, S ++ L, L, _, _, _, _, rfl, by omega, hh2 hg, b.next c, rfl⟩
      · obtain ⟨F1, F2, L, t6, t7, f1, f2, c, rfl⟩ := h
        cases F2 with
        | nil => cases f1
        | cons u F2 =>
        cases f1
        have hu : u.length < 11 := b.wl u (by rw [f2]; exact List.mem_append.mpr (.inr List.mem_cons_self))
        have hF1 : F1.length + 1 ≤ F.length := by rw [f2, List.length_append, List.length_cons]; omega
        try walk_at "dl"
        refine ⟨u, rfl, by omega, fun r o hr => ?_⟩
        try walk_at "dl"
        simp only [hr]
        have ml := mvs_len F1
        have m3 := mv_len u
        refine forL_inv (I := fun es ρ => ∃ (C1 C2 L : List Tx) (s7 : Slot), es = C2.map .str ∧ mvL u = C1 ++ C2 ∧ Cand S (F1.flatMap mvL ++ C1) L ∧ ρ = [.fz (.str s), .fz (.str g), .fz (.lst (F.map .str)), .own (.dct (kdD (S ++ L))), .fz (.int n), .own (.lst (L.map .str)), .fz (.str u), s7])
          (fun ρ h => ?_) (fun x es ρ h k3 hk3 => ?_) _ _ ⟨[], mvL u, L, t7, rfl, rfl, by rw [List.append_nil]; exact c, rfl⟩
        · obtain ⟨C1, C2, L, t7, f3, f4, c, rfl⟩ := h
          have : C2 = [] := by
            cases C2 with
            | nil => rfl
            | cons _ _ => cases f3
          subst this
          rw [List.append_nil] at f4
          refine hk2 _ ⟨F1 ++ [u], F2, L, _, _, rfl, by rw [List.append_assoc]; exact f2, ?_, rfl⟩
          rw [List.flatMap_append, List.flatMap_singleton, f4]
          exact c
        · obtain ⟨C1, C2, L, t7, f3, f4, c, rfl⟩ := h
          cases C2 with
          | nil => cases f3
          | cons v C2 =>
          cases f3
          have hC : C1.length + 1 ≤ 3 := by
            have := congrArg List.length f4
            rw [List.length_append, List.length_cons] at this
            omega
          have cl := c.2
          rw [List.length_append] at cl
          try walk_at "dl"
          refine ⟨_, rfl, ?_⟩
          rw [kd_any]
          have no : (v ∈ S ++ L ∨ ¬ v.length < 11) → k3 [.fz (.str s), .fz (.str g), .fz (.lst (F.map .str)), .own (.dct (kdD (S ++ L))), .fz (.int n), .own (.lst (L.map .str)), .fz (.str u), .fz (.str v)] := fun z =>
            hk3 _ ⟨C1 ++ [v], C2, L, _, rfl, by rw [List.append_assoc]; exact f4, by rw [← List.append_assoc]; exact c.no z, rfl⟩
          by_cases hv : v ∈ S ++ L
          · rw [decide_eq_true hv]
            try walk_at "dl"
            exact no (.inl hv)
          · rw [decide_eq_false hv]
            try walk_at "dl"
            by_cases hl : v.length < 11
            · refine (if_pos (by rw [decide_eq_true_eq]; omega)).mpr ?_
              try walk_at "dl"
              have kl : (kdD (S ++ L)).length = S.length + L.length := by unfold kdD; rw [List.length_map, List.length_append]
              refine ⟨_, rfl, by rw [kl]; show _ < 16777216; omega, by rw [List.length_map]; show _ < 16777216; omega, ?_⟩
              rw [kd_put hv]
              refine hk3 _ ⟨C1 ++ [v], C2, L ++ [v], .fz (.str v), rfl, by rw [List.append_assoc]; exact f4, by rw [← List.append_assoc]; exact c.yes hv hl, ?_⟩
              rw [List.append_assoc, List.map_append]
              rfl
            · exact (if_neg (by rw [decide_eq_true_eq]; omega)).mpr (no (.inr hl))
end DL

set_option linter.all false
set_option autoImplicit false
set_option maxRecDepth 100000
namespace DL
local macro_rules | `(tactic| walk_at "dl") => `(tactic| simp -implicitDefEqProofs only [runD, startE, outsE, outs_0, outs_s, List.length_cons, List.length_nil, List.cons_append, List.nil_append, List.replicate, Nat.sub_zero, Nat.add_one_sub_one, Nat.reduceSub, Nat.reduceAdd, dC, dVar_M, dVarM_fz, dVarM_own, dIxN_M, dIxM_fz, dIxM_own, dOpN_M, dOpM_fz, dOpM_own, dFnN_M, dFnM_fz, dFnM_own, dOp, dUn, dArgs, dLst, dTup, dFn, dIsi, dMs, dPart, dSl, dIfE, Slot.known, tVal, tTru, tAnd, tOr, tNot, dAnd, dOr, dNot, dChain, iLst, iTup, iStr, iRng1, iRng2, iEnum, iZip, gN, gNs, gT, gL, Tgt.g, tYes, wipeE, backE, dAVs, dCall, avSlot, AV.ok, Slot.isOwn, bA_nil, bA_v, bA_m, D.isRef, List.all_cons, List.all_nil, List.map_cons, List.map_nil, Bool.and_true, Bool.true_and, List.tail_cons, List.tail_nil, List.head?_cons, sTryFin, dPropM, dLenM, dMakeVT, sAppFL, sPutFK, dIxFK, dLstF, sNx, sSeq, sRet, sRetN, sExp, sAsg, sAsgO, sIf, sAug, sFor, sWh, sBrk, sCnt, sRaise, sApp, sAppP, dLstP, dCatG, dSrtH, sRetT, dCatT, dMinKT, eqKN, listKF, listSF, sExt, sUpdT, mergeT, dDct0T, dIxKT, repZD, neEmp, iWkT, itmT, keyT, dSrtKT, Slot.ownL, sPut, sPut2, putAt, sPar, sParL, sFld, dFld, dMake, mkC, dMakeV, dCm, dObj, D.isObj, dCallV, dCallS, dEqO, dIsO, dDct0, isBD_bl, notBD_bl, revD_lst, sPar3, sTrys, catchD, DEnds.unname, repF, D.eqTo, at_0, at_s, at_nil, set_0, set_s, fzd, frd, ftd, Slot.noT, dVarM_ownT, hide_ownT, dMakeT, mkCT, D.calm, D.unm, dEqN, dProp, strF, sFldT, sAppF, sFldAugT, kidOf, putL, dMethM, Slot.isObj, if_true, if_false, Bool.not_true, Bool.not_false, true_and, and_true, Bool.false_eq_true, ↓reduceIte, lenF, lenD, allF, anyF, sumF, absF, intF, tupleF, swM, ewM, eqv_int, eqv_str, eqv_bl, D.isTy, Int.cast_ofNat_Int, addD_int, addD_str, addD_lst, fdivWD_int, orKD_dct, dMinK, dSumV, iaddD_int, iaddD_str, subD_int, mulD_int, mulD_str, mulD_lst, fdivD_int, modD_int, powD_int, negD_int, eqD, neD_str, neD_int, ltD_int, leD_int, gtD_int, geD_int, isD, isnD, D.isNon, inDv, ninDv, ixD_lst, ixD_tup, ixD_str, slD_lst, slD_frl, slD_str, dLc, dLook, Slot.calm, tLook, iRngD, iRngB', dNeT, revT_str, dDisp, iZipS, iZipK, minPF_2, sParF, dLenO, dRepO, dVals, putR, sParR, dFmt, dFmtR, fstL, dFst, mulWD_int, imulD_int, countM, lstRg, dLrg1, dLrg2, sRetO_M, retOM_own, retOM_fz, dLookL, dNeN, dLenSet, dSrtSet, sortedF, dTold, dToldB, dToldO, calm_nil, calm_cons, hide_nil, hide_fz, hide_own, hide_no, at_hs, dIsiO, gTG, gGs, gA, gAll, sAsgs, sClr, sAsgN, dFldN, iWk, itmX, valX, keyX, sForN, dDc, dDcP, eqKd, dDsp1, dGet, dGetN, sPutK, inKv, kyOf, ownK, dictF, dLitm, dIxK, eqKv, sortedIF, ltSD, dDspT, sPutT, ownKT, dTupK, giveE, R.raw, sAsgK, unpK, unpK1, ninKv, eqKg, catTD, repTD, dSlT, sAppAt, updD, sAppAtK, dPopAtK, tNinSet, Slot.dctT, dLcP, R.dctN, lc2L, dLc2, sAugK, dSrtRev, sRetTK, sortedKIF, splitM, partM, intTF, dStp, dTake, sTryF, dRep, dPopN, sPutFT, dFldP, dIxFT, dSrtFS, sortedLLF, dLc2I, dDcT, dGetNT, dLstKT, sUpdP, runG, gThen, gPlain, gNil, gYield, gYieldR, gIf, gFor, GD.at, sForGen, dLcGen, dLcGenQ, gDead, dListGen, dCallFV, dKw, dKwM, dKwC, dKwI, pick, List.getElem?_cons_zero, List.getElem?_cons_succ])
/-! all routes of a length, one step after the other -/
def exP : List St2 × Tx → List (List St2 × Tx)
  | (ss, []) => [(ss ++ [(43, 97)], [97]), (ss ++ [(43, 98)], [98])]
  | (ss, c :: q) => [(ss ++ [(43, 97)], c :: q ++ [97]), (ss ++ [(43, 98)], c :: q ++ [98]), (ss ++ [(45, c)], q)]
theorem exP_len (p : List St2 × Tx) : (exP p).length ≤ 3 := by
  obtain ⟨ss, q⟩ := p
  cases q <;> simp [exP]
theorem exPs_len : ∀ F : List (List St2 × Tx), (F.flatMap exP).length ≤ 3 * F.length
  | [] => by simp
  | u :: F => by
    rw [List.flatMap_cons, List.length_append, List.length_cons]
    have := exP_len u
    have := exPs_len F
    omega
theorem exP_fst {p x : List St2 × Tx} (h : x ∈ exP p) : ∃ a, x.1 = p.1 ++ [a] := by
  obtain ⟨ss, q⟩ := p
  cases q with
  | nil =>
    simp only [exP, List.mem_cons, List.not_mem_nil, or_false] at h
    rcases h with rfl | rfl <;> exact ⟨_, rfl⟩
  | cons c q =>
    simp only [exP, List.mem_cons, List.not_mem_nil, or_false] at h
    rcases h with rfl | rfl | rfl <;> exact ⟨_, rfl⟩
def abq (ss : List St2) : Prop := ∀ x ∈ ss, x.2 = 97 ∨ x.2 = 98
def keepB (n i : Nat) (g : Tx) (p : List St2 × Tx) : Bool := decide (absI ((p.2.length : Int) - (g.length : Int)) ≤ (n : Int) - (i : Int) - 1)
structure AllR (s g : Tx) (n i : Nat) (St : List (List St2 × Tx)) : Prop where
  nd : St.Pairwise fun p q => p.1 ≠ q.1
  ok : ∀ p ∈ St, signs p.1 ∧ p.1.length = i ∧ exec s p.1 0 = (p.2, none)
  all : ∀ ss tt, signs (ss ++ tt) → abq (ss ++ tt) → ss.length = i → (ss ++ tt).length = n → exec s (ss ++ tt) 0 = (g, none) → ∃ q, (ss, q) ∈ St
  len : St.length ≤ 3 ^ i
theorem AllR.start {s g : Tx} {n : Nat} : AllR s g n 0 [([], s)] where
  nd := List.pairwise_singleton _ _
  ok := fun p hp => by rw [List.mem_singleton.mp hp]; exact ⟨(fun _ z => nomatch z), rfl, rfl⟩
  all := fun ss tt _ _ hl _ _ => ⟨s, by rw [List.eq_nil_of_length_eq_zero hl]; exact List.mem_cons_self⟩
  len := by simp
theorem exec_diff {q g : Tx} {tt : List St2} {j : Nat} (h : signs tt) (e : exec q tt j = (g, none)) : absI ((q.length : Int) - (g.length : Int)) ≤ tt.length := by
  obtain ⟨h1, h2⟩ := exec_iff tt q j h
  have e2 : (exec q tt j).2 = none := by rw [e]
  obtain ⟨_, r, hr⟩ := h1.mp e2
  have c := h2 e2
  rw [e, ← hr, List.drop_left] at c
  have c : g = r := c
  have hl := congrArg List.length hr
  rw [List.length_append, List.length_append, ← c] at hl
  have := sign_len h
  unfold absI
  split <;> omega
theorem AllR.next {s g : Tx} {n i : Nat} {St : List (List St2 × Tx)} (a : AllR s g n i St) : AllR s g n (i + 1) ((St.flatMap exP).filter (keepB n i g)) where
  nd := by
    refine List.Pairwise.filter _ (List.pairwise_flatMap.mpr ⟨fun p _ => ?_, a.nd.imp fun h x hx y hy e => h ?_⟩)
    · obtain ⟨ss, q⟩ := p
      cases q <;> simp [exP]
    · obtain ⟨u, hu⟩ := exP_fst hx
      obtain ⟨v, hv⟩ := exP_fst hy
      rw [hu, hv] at e
      exact List.append_inj_left' e rfl
  ok := fun x hx => by
    obtain ⟨p, hp, hx⟩ := List.mem_flatMap.mp (List.mem_filter.mp hx).1
    obtain ⟨h1, h2, h3⟩ := a.ok p hp
    obtain ⟨ss, q⟩ := p
    have sg : ∀ x : St2, x.1 = 43 ∨ x.1 = 45 → signs (ss ++ [x]) := fun x hx y hy => by
      rcases List.mem_append.mp hy with hy | hy
      · exact h1 y hy
      · rw [List.mem_singleton.mp hy]; exact hx
    have hl : ∀ x : St2, (ss ++ [x]).length = i + 1 := fun x => by rw [List.length_append, List.length_singleton]; exact congrArg (· + 1) h2
    cases q with
    | nil =>
      simp only [exP, List.mem_cons, List.not_mem_nil, or_false] at hx
      rcases hx with rfl | rfl
      · exact ⟨sg _ (.inl rfl), hl _, exec_put h3⟩
      · exact ⟨sg _ (.inl rfl), hl _, exec_put h3⟩
    | cons c q =>
      simp only [exP, List.mem_cons, List.not_mem_nil, or_false] at hx
      rcases hx with rfl | rfl | rfl
      · exact ⟨sg _ (.inl rfl), hl _, exec_put h3⟩
      · exact ⟨sg _ (.inl rfl), hl _, exec_put h3⟩
      · exact ⟨sg _ (.inr rfl), hl _, exec_take h3⟩
  all := fun ss' tt h1 h2 hl hn he => by
    obtain ⟨ss, x, rfl⟩ : ∃ ss x, ss' = ss ++ [x] := ⟨ss'.dropLast, ss'.getLast (by intro z; rw [z] at hl; cases hl), (List.dropLast_concat_getLast _).symm⟩
    have hl2 : ss.length = i := by simpa using hl
    have ea : ss ++ [x] ++ tt = ss ++ (x :: tt) := by simp
    rw [ea] at h1 h2 he hn
    obtain ⟨q, hq⟩ := a.all ss (x :: tt) h1 h2 hl2 hn he
    obtain ⟨_, _, h3⟩ := a.ok _ hq
    have h3 : exec s ss 0 = (q, none) := h3
    have stt : signs tt := fun y hy => h1 y (List.mem_append.mpr (.inr (List.mem_cons_of_mem _ hy)))
    have hx := h1 x (List.mem_append.mpr (.inr List.mem_cons_self))
    have hx2 := h2 x (List.mem_append.mpr (.inr List.mem_cons_self))
    rw [exec_on _ _ _ _ (by rw [h3]), h3] at he
    have he : exec q (x :: tt) (0 + ss.length) = (g, none) := he
    have lt : (tt.length : Int) = (n : Int) - (i : Int) - 1 := by
      rw [List.length_append, List.length_cons] at hn
      omega
    obtain ⟨sx, c⟩ := x
    have hx : sx = 43 ∨ sx = 45 := hx
    have hx2 : c = 97 ∨ c = 98 := hx2
    have fin : ∀ q', (ss ++ [(sx, c)], q') ∈ exP (ss, q) → exec q' tt (0 + ss.length + 1) = (g, none) → ∃ q, (ss ++ [(sx, c)], q) ∈ (St.flatMap exP).filter (keepB n i g) := fun q' hm e => by
      refine ⟨q', List.mem_filter.mpr ⟨List.mem_flatMap.mpr ⟨_, hq, hm⟩, ?_⟩⟩
      unfold keepB
      rw [decide_eq_true_eq, ← lt]
      exact exec_diff stt e
    rcases hx with rfl | rfl
    · refine fin (q ++ [c]) ?_ he
      rcases hx2 with rfl | rfl
      · cases q <;> simp [exP]
      · cases q <;> simp [exP]
    · cases q with
      | nil => cases he
      | cons b q =>
        rw [exec_cons] at he
        have he : (if b == c then exec q tt (0 + ss.length + 1) else (b :: q, some (0 + ss.length))) = (g, none) := he
        by_cases hb : b = c
        · subst hb
          rw [if_pos (beq_self_eq_true b)] at he
          exact fin q (by simp [exP]) he
        · rw [if_neg (by rw [beq_iff_eq]; exact hb)] at he
          cases he
  len := by
    have l1 := exPs_len St
    have l2 := List.length_filter_le (keepB n i g) (St.flatMap exP)
    have l3 := a.len
    have e1 : 3 ^ (i + 1) = 3 ^ i * 3 := Nat.pow_succ _ _
    omega
def foundL (g : Tx) (St : List (List St2 × Tx)) : List (List St2) := (St.filter fun p => p.2 == g).map (·.1)
theorem mix_abq {s g : Tx} (hs : ab s) (hg : ab g) {ss : List St2} (h : ss ∈ mixL (downs s g) (ups s g)) : abq ss := by
  rw [downs_dn, ups_up] at h
  obtain ⟨h1, h2, h3⟩ := mix_mem1 _ _ _ rfl ss h
  intro x hx
  obtain ⟨a, c⟩ := x
  rcases h1 _ hx with ha | ha
  · have ha : a = 43 := ha
    subst ha
    have : c ∈ zaC 43 ss := List.mem_map.mpr ⟨(43, c), List.mem_filter.mpr ⟨hx, rfl⟩, rfl⟩
    rw [h3] at this
    exact hg c (List.mem_of_mem_drop this)
  · have ha : a = 45 := ha
    subst ha
    have : c ∈ zaC 45 ss := List.mem_map.mpr ⟨(45, c), List.mem_filter.mpr ⟨hx, rfl⟩, rfl⟩
    rw [h2] at this
    exact hs c (List.mem_of_mem_take this)
theorem found_iff {s g : Tx} {n : Nat} {St : List (List St2 × Tx)} (hs : ab s) (hg : ab g) (hn : (n : Int) = dst s g) (a : AllR s g n n St) (ss : List St2) : ss ∈ foundL g St ↔ ss ∈ mixL (downs s g) (ups s g) := by
  unfold foundL
  rw [List.mem_map]
  constructor
  · rintro ⟨p, hp, rfl⟩
    obtain ⟨hp, e⟩ := List.mem_filter.mp hp
    rw [beq_iff_eq] at e
    obtain ⟨h1, h2, h3⟩ := a.ok p hp
    rw [e] at h3
    exact (short_iff h1 (by rw [h2]; exact hn)).mp h3
  · intro h
    obtain ⟨h1, h2⟩ := mix_signs h
    have h3 := mix_goes h
    have hl : ss.length = n := by omega
    obtain ⟨q, hq⟩ := a.all ss [] (by rw [List.append_nil]; exact h1) (by rw [List.append_nil]; exact mix_abq hs hg h) hl (by rw [List.append_nil]; exact hl) (by rw [List.append_nil]; exact h3)
    have h4 := (a.ok _ hq).2.2
    have h4 : exec s ss 0 = (q, none) := h4
    rw [h3] at h4
    refine ⟨(ss, q), List.mem_filter.mpr ⟨hq, ?_⟩, rfl⟩
    have e : g = q := congrArg Prod.fst h4
    rw [e]
    exact beq_self_eq_true _
theorem mix_srt (s g : Tx) : (mixL (downs s g) (ups s g)).Pairwise fun a b => rowLt (sgR a) (sgR b) = true := mix_sorted _ _ _ rfl
theorem found_perm {s g : Tx} {n : Nat} {St : List (List St2 × Tx)} (hs : ab s) (hg : ab g) (hn : (n : Int) = dst s g) (a : AllR s g n n St) : (foundL g St).Perm (mixL (downs s g) (ups s g)) := by
  refine (List.perm_ext_iff_of_nodup ?_ ?_).mpr (found_iff hs hg hn a)
  · unfold foundL
    exact List.pairwise_map.mpr (List.Pairwise.filter _ a.nd)
  · exact (mix_srt s g).imp fun h e => by rw [e, lt_irr56] at h; cases h
def stT (ss : List St2) : List Tx := ss.map fun s => [s.1, s.2]
theorem heads_st (ss : List St2) : headsT (stT ss) = sgR ss := by
  unfold headsT stT sgR
  rw [List.map_map]
  rfl
theorem row_st (ls : List (List St2)) : (ls.map stT).map rowD = ls.map seqD := by
  rw [List.map_map]
  refine List.map_congr_left fun ss _ => ?_
  show D.lst ((ss.map fun s => [s.1, s.2]).map D.str) = D.lst (ss.map stepD)
  rw [List.map_map]
  rfl
theorem sorted_mix {s g : Tx} {n : Nat} {St : List (List St2 × Tx)} (hs : ab s) (hg : ab g) (hn : (n : Int) = dst s g) (a : AllR s g n n St) {L : List (List Tx)} (p : L.Perm ((foundL g St).map stT)) (h : L.Pairwise fun a b => rowLt (headsT b) (headsT a) = false) :
    L = (mixL (downs s g) (ups s g)).map stT := by
  refine sorted_uniq (lt := fun a b => rowLt (headsT a) (headsT b)) (fun a => lt_irr56 _) _ _ (p.trans ((found_perm hs hg hn a).map stT)) (List.pairwise_map.mpr ((mix_srt s g).imp fun h => ?_)) h
  rw [heads_st, heads_st]
  exact h
end DL

set_option linter.all false
set_option autoImplicit false
set_option maxRecDepth 100000
namespace DL
local macro_rules | `(tactic| walk_at "dl") => `(tactic| simp -implicitDefEqProofs only [runD, startE, outsE, outs_0, outs_s, List.length_cons, List.length_nil, List.cons_append, List.nil_append, List.replicate, Nat.sub_zero, Nat.add_one_sub_one, Nat.reduceSub, Nat.reduceAdd, dC, dVar_M, dVarM_fz, dVarM_own, dIxN_M, dIxM_fz, dIxM_own, dOpN_M, dOpM_fz, dOpM_own, dFnN_M, dFnM_fz, dFnM_own, dOp, dUn, dArgs, dLst, dTup, dFn, dIsi, dMs, dPart, dSl, dIfE, Slot.known, tVal, tTru, tAnd, tOr, tNot, dAnd, dOr, dNot, dChain, iLst, iTup, iStr, iRng1, iRng2, iEnum, iZip, gN, gNs, gT, gL, Tgt.g, tYes, wipeE, backE, dAVs, dCall, avSlot, AV.ok, Slot.isOwn, bA_nil, bA_v, bA_m, D.isRef, List.all_cons, List.all_nil, List.map_cons, List.map_nil, Bool.and_true, Bool.true_and, List.tail_cons, List.tail_nil, List.head?_cons, sTryFin, dPropM, dLenM, dMakeVT, sAppFL, sPutFK, dIxFK, dLstF, sNx, sSeq, sRet, sRetN, sExp, sAsg, sAsgO, sIf, sAug, sFor, sWh, sBrk, sCnt, sRaise, sApp, sAppP, dLstP, dCatG, dSrtH, sRetT, dCatT, dMinKT, eqKN, listKF, listSF, sExt, sUpdT, mergeT, dDct0T, dIxKT, repZD, neEmp, iWkT, itmT, keyT, dSrtKT, Slot.ownL, sPut, sPut2, putAt, sPar, sParL, sFld, dFld, dMake, mkC, dMakeV, dCm, dObj, D.isObj, dCallV, dCallS, dEqO, dIsO, dDct0, isBD_bl, notBD_bl, revD_lst, sPar3, sTrys, catchD, DEnds.unname, repF, D.eqTo, at_0, at_s, at_nil, set_0, set_s, fzd, frd, ftd, Slot.noT, dVarM_ownT, hide_ownT, dMakeT, mkCT, D.calm, D.unm, dEqN, dProp, strF, sFldT, sAppF, sFldAugT, kidOf, putL, dMethM, Slot.isObj, if_true, if_false, Bool.not_true, Bool.not_false, true_and, and_true, Bool.false_eq_true, ↓reduceIte, lenF, lenD, allF, anyF, sumF, absF, intF, tupleF, swM, ewM, eqv_int, eqv_str, eqv_bl, D.isTy, Int.cast_ofNat_Int, addD_int, addD_str, addD_lst, fdivWD_int, orKD_dct, dMinK, dSumV, iaddD_int, iaddD_str, subD_int, mulD_int, mulD_str, mulD_lst, fdivD_int, modD_int, powD_int, negD_int, eqD, neD_str, neD_int, ltD_int, leD_int, gtD_int, geD_int, isD, isnD, D.isNon, inDv, ninDv, ixD_lst, ixD_tup, ixD_str, slD_lst, slD_frl, slD_str, dLc, dLook, Slot.calm, tLook, iRngD, iRngB', dNeT, revT_str, dDisp, iZipS, iZipK, minPF_2, sParF, dLenO, dRepO, dVals, putR, sParR, dFmt, dFmtR, fstL, dFst, mulWD_int, imulD_int, countM, lstRg, dLrg1, dLrg2, sRetO_M, retOM_own, retOM_fz, dLookL, dNeN, dLenSet, dSrtSet, sortedF, dTold, dToldB, dToldO, calm_nil, calm_cons, hide_nil, hide_fz, hide_own, hide_no, at_hs, dIsiO, gTG, gGs, gA, gAll, sAsgs, sClr, sAsgN, dFldN, iWk, itmX, valX, keyX, sForN, dDc, dDcP, eqKd, dDsp1, dGet, dGetN, sPutK, inKv, kyOf, ownK, dictF, dLitm, dIxK, eqKv, sortedIF, ltSD, dDspT, sPutT, ownKT, dTupK, giveE, R.raw, sAsgK, unpK, unpK1, ninKv, eqKg, catTD, repTD, dSlT, sAppAt, updD, sAppAtK, dPopAtK, tNinSet, Slot.dctT, dLcP, R.dctN, lc2L, dLc2, sAugK, dSrtRev, sRetTK, sortedKIF, splitM, partM, intTF, dStp, dTake, sTryF, dRep, dPopN, sPutFT, dFldP, dIxFT, dSrtFS, sortedLLF, dLc2I, dDcT, dGetNT, dLstKT, sUpdP, runG, gThen, gPlain, gNil, gYield, gYieldR, gIf, gFor, GD.at, sForGen, dLcGen, dLcGenQ, gDead, dListGen, dCallFV, dKw, dKwM, dKwC, dKwI, pick, List.getElem?_cons_zero, List.getElem?_cons_succ])
def stD56 (p : List St2 × Tx) : D := .tup [seqD p.1, .str p.2]
theorem pow_le6 {n : Nat} (h : n ≤ 6) : 3 ^ n ≤ 729 := Nat.le_trans (Nat.pow_le_pow_right (by decide) h) (by decide)
def NoOwn (s : Slot) : Prop := s = .no ∨ ∃ d, s = .fz d
theorem found_map (g : Tx) (St : List (List St2 × Tx)) : ((St.map stD56).filter fun d => match d with | .tup [_, .str q] => q == g | _ => false).map (fun d => match d with | .tup [x, _] => x | d => d) = (foundL g St).map seqD := by
  unfold foundL
  rw [List.filter_map, List.map_map, List.map_map]
  rfl
theorem found_len (g : Tx) (St : List (List St2 × Tx)) : (foundL g St).length ≤ St.length := by
  unfold foundL
  rw [List.length_map]
  exact List.length_filter_le _ _
theorem keep_map (N i : Nat) (g : Tx) (St : List (List St2 × Tx)) : ((St.map stD56).filter fun d => match d with | .tup [_, .str q] => decide (absI ((q.length : Int) - (g.length : Int)) ≤ (N : Int) - (i : Int) - 1) | _ => false) = (St.filter (keepB N i g)).map stD56 := by
  rw [List.filter_map]
  rfl
/-- _law_all: 0 _law_one, 1 _law_other, 2 _law_size, 3 _law_found, 4 _law_kept, 5 _law_start, 6 _law_turn, 7 _law_later, 8 _law_left, 9 _law_steps, 10 _law_queue, 11 _law_item, 12 _law_step -/
def b__law_all : DS := sSeq (sPar 3 4 (dLst []) (zaG 2)) (sSeq (sAsg (gN 5) (dLst [dTup [dLst [], zaG 0]])) (sSeq (sFor (iRng1 (zaG 4)) (gN 6) (sSeq (sAsgO 7 (dLst [])) (sSeq (sFor (iLst (zaG 5)) (gT [9, 10]) (sSeq (sFor (iStr (dC (.str [97, 98]))) (gN 11) (sApp 7 (dTup [dOp addD (zaG 9) (dLst [dOp addD (dC (.str [43])) (zaG 11)]), dOp addD (zaG 10) (zaG 11)]))) (sIf (tVal (dOp neD (zaG 10) (dC (.str [])))) (sApp 7 (dTup [dOp addD (zaG 9) (dLst [dOp addD (dC (.str [45])) (dOp ixD (zaG 10) (dC (.int 0)))]), dSl (zaG 10) (some (dC (.int 1))) none])) (sNx)))) (sSeq (sAsg (gN 8) (dOp subD (dOp subD (zaG 4) (zaG 6)) (dC (.int 1)))) (sAsg (gN 5) (dLc [9, 10] (iLst (zaG 7)) (Tgt.g (.tup [9, 10])) (tVal (dOp leD (dFn absF [dOp subD (dFn lenF [zaG 10]) (dFn lenF [zaG 1])]) (zaG 8))) (dTup [zaG 9, zaG 10]))))))) (sSeq (sAsg (gN 3) (dLc [9, 10] (iLst (zaG 5)) (Tgt.g (.tup [9, 10])) (tVal (dOp eqD (zaG 10) (zaG 1))) (zaG 9))) (sRet (dSrtH (zaG 3))))))
def C__law_all : Con := fun args Q _ => ∃ (s g : Tx) (n : Nat), args = [.fz (.str s), .fz (.str g), .fz (.int n)] ∧ s.length ≤ 100 ∧ g.length ≤ 100 ∧ ab s ∧ ab g ∧ n ≤ 6 ∧ (n : Int) = dst s g ∧ ∀ r o, r.d = mixD (downs s g) (ups s g) → Q r o
theorem p__law_all : ∀ args Q E, args.length = 3 → C__law_all args Q E → runD 13 b__law_all args Q E := by
  intro args Q E _ h
  obtain ⟨s, g, N, rfl, l1, l2, sa, ga, hN, hd, hq⟩ := h
  unfold b__law_all
  try walk_at "dl"
  refine ⟨by decide, by decide, by decide, by decide, ⟨by omega, by omega⟩, ?_⟩
  rw [Int.toNat_natCast]
  refine forL_inv (I := fun es ρ => ∃ (i m : Nat) (St : List (List St2 × Tx)) (s6 s7 s8 s9 s10 s11 : Slot), es = rng (i : Int) m ∧ i + m = N ∧ AllR s g N i St ∧ (NoOwn s9 ∧ NoOwn s10) ∧ ρ = [.fz (.str s), .fz (.str g), .fz (.int N), .fz (.lst []), .fz (.int N), .fz (.lst (St.map stD56)), s6, s7, s8, s9, s10, s11, .no])
    (fun ρ h => ?_) (fun x es ρ h k hk => ?_) _ _ ⟨0, N, [([], s)], .no, .no, .no, .no, .no, .no, rfl, by omega, AllR.start, ⟨.inl rfl, .inl rfl⟩, rfl⟩
  · obtain ⟨i, m, St, s6, s7, s8, s9, s10, s11, e1, e2, a, ⟨n9, n10⟩, rfl⟩ := h
    cases m with
    | succ m => rw [rng_succ] at e1; cases e1
    | zero =>
    have e2 : i = N := e2
    subst e2
    have sl := a.len
    have pw := pow_le6 hN
    rcases n9 with rfl | ⟨d9, rfl⟩ <;> rcases n10 with rfl | ⟨d10, rfl⟩
    all_goals
      try walk_at "dl"
      refine ⟨fun j hj d => ?_, ?_⟩
      · simp only [List.mem_cons, List.not_mem_nil, or_false] at hj
        rcases hj with rfl | rfl <;> exact fun z => nomatch z
      refine lcL_pure (p := fun d => match d with | .tup [_, .str q] => q == g | _ => false) (f := fun d => match d with | .tup [x, _] => x | d => d) _ _ (fun y hy k1 k2 z1 z2 => ?_) [] (by rw [List.length_map]; show 0 + _ ≤ 16777216; omega) ?_
      · obtain ⟨p, hp, rfl⟩ := List.mem_map.mp hy
        unfold stD56
        try walk_at "dl"
        refine ⟨.inl rfl, ?_⟩
        cases hb : (p.2 == g) with
        | true => exact (if_pos rfl).mpr (z1 hb _ _ rfl rfl)
        | false => exact (if_neg (by decide)).mpr (z2 hb _ rfl)
      rw [List.nil_append, found_map]
      try walk_at "dl"
      refine ⟨(foundL g St).map stT, by rw [row_st], fun row hr t ht => ?_, ?_, fun row hr => ?_, fun L hL hs => ?_⟩
      · obtain ⟨ss, _, rfl⟩ := List.mem_map.mp hr
        obtain ⟨x, _, rfl⟩ := List.mem_map.mp ht
        exact fun z => nomatch z
      · rw [List.length_map]
        have := found_len g St
        show _ ≤ 16777216
        omega
      · obtain ⟨ss, hss, rfl⟩ := List.mem_map.mp hr
        obtain ⟨p, hp, rfl⟩ := List.mem_map.mp hss
        have := (a.ok p (List.mem_filter.mp hp).1).2.1
        unfold stT
        rw [List.length_map, this]
        show _ ≤ 16777216
        omega
      · rw [sorted_mix sa ga hd a hL hs, row_st]
        exact hq _ _ rfl
  · obtain ⟨i, m, St, s6, s7, s8, s9, s10, s11, e1, e2, a, ⟨n9, n10⟩, rfl⟩ := h
    cases m with
    | zero => cases e1
    | succ m =>
    rw [rng_succ] at e1
    cases e1
    try walk_at "dl"
    have sl := a.len
    have pw := pow_le6 (n := i) (by omega)
    refine ⟨by decide, ?_⟩
    refine forL_inv (I := fun es ρ => ∃ (F1 F2 : List (List St2 × Tx)) (s8 s9 s10 s11 : Slot), es = F2.map stD56 ∧ St = F1 ++ F2 ∧ (NoOwn s9 ∧ NoOwn s10) ∧ ρ = [.fz (.str s), .fz (.str g), .fz (.int N), .fz (.lst []), .fz (.int N), .fz (.lst (St.map stD56)), .fz (.int i), .own (.lst ((F1.flatMap exP).map stD56)), s8, s9, s10, s11, .no])
      (fun ρ h => ?_) (fun x es ρ h k2 hk2 => ?_) _ _ ⟨[], St, s8, s9, s10, s11, rfl, rfl, ⟨n9, n10⟩, rfl⟩
    · obtain ⟨F1, F2, t8, t9, t10, t11, f1, f2, ⟨n9, n10⟩, rfl⟩ := h
      have : F2 = [] := by
        cases F2 with
        | nil => rfl
        | cons _ _ => cases f1
      subst this
      rw [List.append_nil] at f2
      subst f2
      try walk_at "dl"
      have el := exPs_len St
      rcases n9 with rfl | ⟨d9, rfl⟩ <;> rcases n10 with rfl | ⟨d10, rfl⟩
      all_goals
        refine ⟨fun j hj d => ?_, ?_⟩
        · simp only [List.mem_cons, List.not_mem_nil, or_false] at hj
          rcases hj with rfl | rfl <;> exact fun z => nomatch z
        refine lcL_pure (p := fun d => match d with | .tup [_, .str q] => decide (absI ((q.length : Int) - (g.length : Int)) ≤ (N : Int) - (i : Int) - 1) | _ => false) (f := id) _ _ (fun y hy k1 k2 z1 z2 => ?_) [] (by rw [List.length_map]; show 0 + _ ≤ 16777216; omega) ?_
        · obtain ⟨p, hp, rfl⟩ := List.mem_map.mp hy
          unfold stD56
          try walk_at "dl"
          cases hb : decide (absI ((p.2.length : Int) - (g.length : Int)) ≤ (N : Int) - (i : Int) - 1) with
          | true => exact (if_pos hb).mpr ⟨by decide, z1 hb _ _ rfl rfl⟩
          | false => exact (if_neg (fun z => Bool.noConfusion (hb.symm.trans z))).mpr (z2 hb _ rfl)
        rw [List.nil_append, List.map_id, keep_map]
        try walk_at "dl"
        exact hk _ ⟨i + 1, m, _, _, _, _, _, _, _, rfl, by omega, a.next, ⟨by first | exact .inl rfl | exact .inr ⟨_, rfl⟩, by first | exact .inl rfl | exact .inr ⟨_, rfl⟩⟩, rfl⟩
    · obtain ⟨F1, F2, t8, t9, t10, t11, f1, f2, ⟨n9, n10⟩, rfl⟩ := h
      cases F2 with
      | nil => cases f1
      | cons p F2 =>
      cases f1
      have fl : (F1 ++ p :: F2).length ≤ 3 ^ i := f2 ▸ sl
      rw [List.length_append, List.length_cons] at fl
      have el := exPs_len F1
      obtain ⟨h1, h2, h3⟩ := a.ok p (by rw [f2]; exact List.mem_append.mpr (.inr List.mem_cons_self))
      obtain ⟨ss, q⟩ := p
      have h2 : ss.length = i := h2
      have ql : q.length ≤ 200 := by
        have h4 := exec_diff h1 h3
        have h4 : absI ((s.length : Int) - (q.length : Int)) ≤ ss.length := h4
        obtain ⟨b1, b2, _⟩ := absI_le ((s.length : Int) - (q.length : Int))
        omega
      have app : ((F1.flatMap exP).map stD56).length + 3 < zaK := by
        rw [List.length_map]
        show _ < 16777216
        omega
      have nxt : k2 [.fz (.str s), .fz (.str g), .fz (.int N), .fz (.lst []), .fz (.int N), .fz (.lst (St.map stD56)), .fz (.int i), .own (.lst ((F1.flatMap exP).map stD56 ++ (exP (ss, q)).map stD56)), t8, .fz (seqD ss), .fz (.str q), .fz (.str [98]), .no] :=
        hk2 _ ⟨F1 ++ [(ss, q)], F2, _, _, _, _, rfl, by rw [List.append_assoc]; exact f2, ⟨.inr ⟨_, rfl⟩, .inr ⟨_, rfl⟩⟩, by rw [List.flatMap_append, List.flatMap_singleton, List.map_append]⟩
      generalize (F1.flatMap exP).map stD56 = A at app nxt ⊢
      show gT [9, 10] (.tup [.lst (ss.map stepD), .str q]) _ _
      try walk_at "dl"
      unfold forL
      try walk_at "dl"
      have L1 : (ss.map stepD).length + 1 ≤ zaK := by rw [List.length_map]; show _ + 1 ≤ 16777216; omega
      have L2 : q.length + 1 ≤ zaK := by show _ + 1 ≤ 16777216; omega
      refine ⟨by decide, by decide, L1, L2, by decide, by omega, ?_⟩
      unfold forL
      try walk_at "dl"
      refine ⟨by decide, by decide, L1, L2, by decide, by rw [List.length_append, List.length_singleton]; omega, ?_⟩
      unfold forL
      try walk_at "dl"
      refine ⟨.inl rfl, ?_⟩
      cases q with
      | nil =>
        refine (if_neg (by decide)).mpr ?_
        rw [List.append_assoc]
        rw [show (exP (ss, [])).map stD56 = [.tup [.lst (ss.map stepD ++ [.str [43, 97]]), .str [97]], .tup [.lst (ss.map stepD ++ [.str [43, 98]]), .str [98]]] by
          show [D.tup [.lst ((ss ++ [(43, 97)]).map stepD), .str [97]], D.tup [.lst ((ss ++ [(43, 98)]).map stepD), .str [98]]] = _
          rw [List.map_append, List.map_append]; rfl] at nxt
        exact nxt
      | cons c q =>
        refine (if_pos (by rfl)).mpr ?_
        try walk_at "dl"
        refine ⟨0, c, ix_nat (r := 0) (by decide) (by omega), rfl, by decide, by decide, L1, by decide, ?_, ?_⟩
        · rw [List.length_append, List.length_append, List.length_singleton, List.length_singleton]; omega
        rw [cut_1G, List.append_assoc, List.append_assoc]
        rw [show (exP (ss, c :: q)).map stD56 = [.tup [.lst (ss.map stepD ++ [.str [43, 97]]), .str (c :: (q ++ [97]))]] ++ ([.tup [.lst (ss.map stepD ++ [.str [43, 98]]), .str (c :: (q ++ [98]))]] ++ [.tup [.lst (ss.map stepD ++ [.str [45, c]]), .str ((c :: q).drop 1)]]) by
          show [D.tup [.lst ((ss ++ [(43, 97)]).map stepD), .str (c :: q ++ [97])], D.tup [.lst ((ss ++ [(43, 98)]).map stepD), .str (c :: q ++ [98])], D.tup [.lst ((ss ++ [(45, c)]).map stepD), .str q]] = _
          rw [List.map_append, List.map_append, List.map_append]; rfl] at nxt
        exact nxt
end DL

set_option linter.all false
set_option autoImplicit false
set_option maxRecDepth 100000
namespace DL
local macro_rules | `(tactic| walk_at "dl") => `(tactic| simp -implicitDefEqProofs only [runD, startE, outsE, outs_0, outs_s, List.length_cons, List.length_nil, List.cons_append, List.nil_append, List.replicate, Nat.sub_zero, Nat.add_one_sub_one, Nat.reduceSub, Nat.reduceAdd, dC, dVar_M, dVarM_fz, dVarM_own, dIxN_M, dIxM_fz, dIxM_own, dOpN_M, dOpM_fz, dOpM_own, dFnN_M, dFnM_fz, dFnM_own, dOp, dUn, dArgs, dLst, dTup, dFn, dIsi, dMs, dPart, dSl, dIfE, Slot.known, tVal, tTru, tAnd, tOr, tNot, dAnd, dOr, dNot, dChain, iLst, iTup, iStr, iRng1, iRng2, iEnum, iZip, gN, gNs, gT, gL, Tgt.g, tYes, wipeE, backE, dAVs, dCall, avSlot, AV.ok, Slot.isOwn, bA_nil, bA_v, bA_m, D.isRef, List.all_cons, List.all_nil, List.map_cons, List.map_nil, Bool.and_true, Bool.true_and, List.tail_cons, List.tail_nil, List.head?_cons, sTryFin, dPropM, dLenM, dMakeVT, sAppFL, sPutFK, dIxFK, dLstF, sNx, sSeq, sRet, sRetN, sExp, sAsg, sAsgO, sIf, sAug, sFor, sWh, sBrk, sCnt, sRaise, sApp, sAppP, dLstP, dCatG, dSrtH, sRetT, dCatT, dMinKT, eqKN, listKF, listSF, sExt, sUpdT, mergeT, dDct0T, dIxKT, repZD, neEmp, iWkT, itmT, keyT, dSrtKT, Slot.ownL, sPut, sPut2, putAt, sPar, sParL, sFld, dFld, dMake, mkC, dMakeV, dCm, dObj, D.isObj, dCallV, dCallS, dEqO, dIsO, dDct0, isBD_bl, notBD_bl, revD_lst, sPar3, sTrys, catchD, DEnds.unname, repF, D.eqTo, at_0, at_s, at_nil, set_0, set_s, fzd, frd, ftd, Slot.noT, dVarM_ownT, hide_ownT, dMakeT, mkCT, D.calm, D.unm, dEqN, dProp, strF, sFldT, sAppF, sFldAugT, kidOf, putL, dMethM, Slot.isObj, if_true, if_false, Bool.not_true, Bool.not_false, true_and, and_true, Bool.false_eq_true, ↓reduceIte, lenF, lenD, allF, anyF, sumF, absF, intF, tupleF, swM, ewM, eqv_int, eqv_str, eqv_bl, D.isTy, Int.cast_ofNat_Int, addD_int, addD_str, addD_lst, fdivWD_int, orKD_dct, dMinK, dSumV, iaddD_int, iaddD_str, subD_int, mulD_int, mulD_str, mulD_lst, fdivD_int, modD_int, powD_int, negD_int, eqD, neD_str, neD_int, ltD_int, leD_int, gtD_int, geD_int, isD, isnD, D.isNon, inDv, ninDv, ixD_lst, ixD_tup, ixD_str, slD_lst, slD_frl, slD_str, dLc, dLook, Slot.calm, tLook, iRngD, iRngB', dNeT, revT_str, dDisp, iZipS, iZipK, minPF_2, sParF, dLenO, dRepO, dVals, putR, sParR, dFmt, dFmtR, fstL, dFst, mulWD_int, imulD_int, countM, lstRg, dLrg1, dLrg2, sRetO_M, retOM_own, retOM_fz, dLookL, dNeN, dLenSet, dSrtSet, sortedF, dTold, dToldB, dToldO, calm_nil, calm_cons, hide_nil, hide_fz, hide_own, hide_no, at_hs, dIsiO, gTG, gGs, gA, gAll, sAsgs, sClr, sAsgN, dFldN, iWk, itmX, valX, keyX, sForN, dDc, dDcP, eqKd, dDsp1, dGet, dGetN, sPutK, inKv, kyOf, ownK, dictF, dLitm, dIxK, eqKv, sortedIF, ltSD, dDspT, sPutT, ownKT, dTupK, giveE, R.raw, sAsgK, unpK, unpK1, ninKv, eqKg, catTD, repTD, dSlT, sAppAt, updD, sAppAtK, dPopAtK, tNinSet, Slot.dctT, dLcP, R.dctN, lc2L, dLc2, sAugK, dSrtRev, sRetTK, sortedKIF, splitM, partM, intTF, dStp, dTake, sTryF, dRep, dPopN, sPutFT, dFldP, dIxFT, dSrtFS, sortedLLF, dLc2I, dDcT, dGetNT, dLstKT, sUpdP, runG, gThen, gPlain, gNil, gYield, gYieldR, gIf, gFor, GD.at, sForGen, dLcGen, dLcGenQ, gDead, dListGen, dCallFV, dKw, dKwM, dKwC, dKwI, pick, List.getElem?_cons_zero, List.getElem?_cons_succ])
theorem ov_rep {s g : Tx} (h : s.length ≤ 5) : D.repOk 40 (ovD s g) = true ∧ (ovD s g).wt ≤ zaK ∨ (ovD s g).noD = true := by
  have key : ∀ l : List Nat, (∀ k ∈ l, k ≤ 5) → D.repOkL 39 (l.map fun (k : Nat) => D.int (k : Int)) = true ∧ D.wtL (l.map fun (k : Nat) => D.int (k : Int)) = 130 * l.length := by
    intro l
    induction l with
    | nil => intro _; exact ⟨rfl, rfl⟩
    | cons k l ih =>
      intro h
      obtain ⟨i1, i2⟩ := ih fun j hj => h j (List.mem_cons_of_mem _ hj)
      have hk := h k List.mem_cons_self
      rw [List.map_cons, D.repOkL, D.wtL, i1, i2, D.wt]
      refine ⟨?_, by rw [List.length_cons]; omega⟩
      rw [D.repOk, Bool.and_true, decide_eq_true_eq, Int.natAbs_natCast]
      exact Nat.lt_of_le_of_lt hk (by decide)
  obtain ⟨k1, k2⟩ := key (ovL s g) fun k hk => by have := (ov_mem.mp hk).1; omega
  have hl : (ovL s g).length ≤ 6 := by
    unfold ovL
    refine Nat.le_trans (List.length_filter_le _ _) ?_
    rw [List.length_range]; omega
  refine .inl ⟨?_, ?_⟩
  · show D.repOk 40 (.lst _) = true
    rw [D.repOk]; exact k1
  · show D.wt (.lst _) ≤ 16777216
    rw [D.wt, k2]; omega
theorem ix_ov {s g : Tx} {k : R → Prop} (h : k (.fz (.int (ovM s g : Int)))) : ixD (ovD s g) (.int (-1)) k :=
  ⟨_, _, (ov_at s g).1, (ov_at s g).2, h⟩
theorem rep_small {d : Int} (h : d.natAbs ≤ 1000) : D.repOk 40 (.int d) = true ∧ (D.int d).wt ≤ zaK ∨ (D.int d).noD = true := by
  refine .inl ⟨?_, by rw [D.wt]; decide⟩
  rw [D.repOk, decide_eq_true_eq]
  exact Nat.lt_of_le_of_lt h (by decide)
theorem neg_self {x : Tx} : ¬ (!(x == x)) = true := by rw [beq_self_eq_true]; decide
theorem map_steps (f : D → D) (sg : Nat) (h : ∀ c, f (.str [c]) = .str [sg, c]) (t : Tx) : (t.map fun c => D.str [c]).map f = (t.map fun c => ((sg, c) : St2)).map stepD := by
  rw [List.map_map, List.map_map]
  exact List.map_congr_left fun c _ => h c
theorem seq_ok60 (ss : List St2) : (seqD ss).eqOk 60 = true := by
  show D.eqOkL 59 _ = true
  refine eqOkLR 59 _ fun x hx => ?_
  obtain ⟨q, _, rfl⟩ := List.mem_map.mp hx
  rfl
theorem mixD_ok (a b : List St2) : (mixD a b).eqOk 60 = true := by
  show D.eqOkL 59 _ = true
  refine eqOkLR 59 _ fun x hx => ?_
  obtain ⟨q, _, rfl⟩ := List.mem_map.mp hx
  show D.eqOkL 58 _ = true
  refine eqOkLR 58 _ fun x hx => ?_
  obtain ⟨q, _, rfl⟩ := List.mem_map.mp hx
  rfl
theorem goes_mix {s g : Tx} {ss : List St2} (h : ss ∈ mixL (downs s g) (ups s g)) : goesB s g ss = true := by
  unfold goesB
  rw [mix_goes h, beq_self_eq_true]
  rfl
theorem seq_mix {s g : Tx} (hs : ab s) (hg : ab g) {ss : List St2} (h : ss ∈ mixL (downs s g) (ups s g)) (hl : dst s g ≤ 400) : okSeq ss := by
  obtain ⟨h1, h2⟩ := mix_signs h
  have h3 := mix_abq hs hg h
  refine ⟨by omega, fun x hx => ?_⟩
  obtain ⟨a, c⟩ := x
  have ha : a = 43 ∨ a = 45 := h1 _ hx
  have hc : c = 97 ∨ c = 98 := h3 _ hx
  rcases ha with rfl | rfl <;> rcases hc with rfl | rfl <;> rfl
theorem allN_le {s g : Tx} (h : dst s g ≤ 6) : allN s g ≤ 256 := by
  have h1 := downs_len s g
  have h2 := ups_len s g
  have hk := ovM_le s g
  rw [dst_M] at h
  unfold allN
  refine Nat.le_trans (ch_le _ _) (Nat.le_trans (Nat.pow_le_pow_right (by decide) (show _ ≤ 6 by omega)) (by decide))
def lawConP : Con := fun args Q _ => ∃ ns : List Int, ns.length ≤ 63 ∧ args = [.fz (.frl (ns.map .int))] ∧ ∀ outs, Q (.fz (.bl true)) outs
/-- law: 0 _law_script, 1 _law_k, 2 _law_pool, 3 _law_due, 4 _law_fewest_here, 5 _law_route, 6 _law_one, 7 _law_other, 8 _law_down, 9 _law_up, 10 _law_told, 11 _law_item, 12 _law_steps -/
def b_law : DS := sSeq (sFor (iRng1 (dFn maxF [dC (.int 2), dFn minF [dFn lenF [zaG 0], dC (.int 8)]])) (gN 1) (sSeq (sAsgO 2 (dCall C__law_hand [.v (zaG 0), .v (zaG 1)])) (sSeq (sAsg (gT [6, 7]) (dCall C__law_two [.m 2])) (sSeq (sAsg (gN 3) (dCall C__law_overlaps [.v (zaG 6), .v (zaG 7)])) (sSeq (sAsg (gN 4) (dCall C__law_fewest [.v (zaG 6), .v (zaG 7)])) (sSeq (sIf (tVal (dOp neD (dFn repF [dCall C_overlaps [.v (zaG 6), .v (zaG 7)]]) (dFn repF [zaG 3]))) (sRet (dC (.bl false))) (sNx)) (sSeq (sIf (tVal (dOp neD (dFn repF [dCall C_distance [.v (zaG 6), .v (zaG 7)]]) (dFn repF [zaG 4]))) (sRet (dC (.bl false))) (sNx)) (sSeq (sIf (tVal (dOp neD (dOp subD (dOp addD (dFn lenF [zaG 6]) (dFn lenF [zaG 7])) (dOp mulD (dC (.int 2)) (dOp ixD (zaG 3) (dUn negD (dC (.int 1)))))) (zaG 4))) (sRet (dC (.bl false))) (sNx)) (sSeq (sPar 8 9 (dOp subD (dFn lenF [zaG 6]) (dOp ixD (zaG 3) (dUn negD (dC (.int 1))))) (dSl (zaG 7) (some (dOp ixD (zaG 3) (dUn negD (dC (.int 1))))) none)) (sSeq (sAsg (gN 5) (dOp addD (dLc [11] (iStr (dSl (zaG 6) none (some (zaG 8)))) (Tgt.g (.one 11)) (tYes) (dOp addD (dC (.str [45])) (zaG 11))) (dLc [11] (iStr (zaG 9)) (Tgt.g (.one 11)) (tYes) (dOp addD (dC (.str [43])) (zaG 11))))) (sSeq (sIf (tOr (tVal (dOp neD (dCall C_shortest_route [.v (zaG 6), .v (zaG 7)]) (zaG 5))) (tVal (dOp notBD (dCall C_is_route [.v (zaG 6), .v (zaG 7), .v (zaG 5)]) (dC (.bl true))))) (sRet (dC (.bl false))) (sNx)) (sSeq (sIf (tVal (dOp ltD (zaG 4) (dC (.int 7)))) (sSeq (sAsgO 10 (dCall C_all_shortest_routes [.v (zaG 6), .v (zaG 7)])) (sSeq (sIf (tLook (tVal (dOpN neD 10 (dCall C__law_all [.v (zaG 6), .v (zaG 7), .v (zaG 4)])))) (sRet (dC (.bl false))) (sNx)) (sSeq (sIf (tLook (tVal (dOp neD (dLc [12] (iLst (zaG 10)) (Tgt.g (.one 12)) (tNot (tVal (dCall C_is_route [.v (zaG 6), .v (zaG 7), .v (zaG 12)]))) (zaG 12)) (dLst [])))) (sRet (dC (.bl false))) (sNx)) (sSeq (sAppAt 10 (dC (.int 0)) (dC (.str [43, 97]))) (sSeq (sAppP 10 (dC .non)) (sIf (tVal (dOp neD (dCall C_all_shortest_routes [.v (zaG 6), .v (zaG 7)]) (dCall C__law_all [.v (zaG 6), .v (zaG 7), .v (zaG 4)]))) (sRet (dC (.bl false))) (sNx))))))) (sNx)) (sIf (tNot (tVal (dCall C__law_long [.m 2]))) (sRet (dC (.bl false))) (sNx)))))))))))))) (sRet (dC (.bl true)))
theorem p_law : ∀ args Q E, args.length = 1 → lawConP args Q E → runD 13 b_law args Q E := by
  intro args Q E _ h
  obtain ⟨ns, hns, rfl, hq⟩ := h
  unfold b_law
  try walk_at "dl"
  rw [minF2]
  try walk_at "dl"
  rw [max59]
  try walk_at "dl"
  refine ⟨⟨by omega, by omega⟩, ?_⟩
  rw [List.length_map]
  rw [show (max 2 (min (ns.length : Int) 8)).toNat = max 2 (min ns.length 8) from by omega]
  refine forL_inv (I := fun es ρ => ∃ (i m : Nat) (s1 s2 s3 s4 s5 s6 s7 s8 s9 s10 : Slot), es = rng (i : Int) m ∧ i + m = max 2 (min ns.length 8) ∧ ρ = [.fz (.frl (ns.map .int)), s1, s2, s3, s4, s5, s6, s7, s8, s9, s10, .no, .no])
    (fun ρ h => ?_) (fun x es ρ h k hk => ?_) _ _ ⟨0, max 2 (min ns.length 8), .no, .no, .no, .no, .no, .no, .no, .no, .no, .no, rfl, by omega, rfl⟩
  · obtain ⟨i, m, s1, s2, s3, s4, s5, s6, s7, s8, s9, s10, g1, g2, rfl⟩ := h
    exact hq _
  · obtain ⟨i, m, s1, s2, s3, s4, s5, s6, s7, s8, s9, s10, g1, g2, rfl⟩ := h
    cases m with
    | zero => cases g1
    | succ m =>
    rw [rng_succ] at g1
    cases g1
    try walk_at "dl"
    refine ⟨ns, i, rfl, hns, by omega, fun a b h0 h1 o => ?_⟩
    try walk_at "dl"
    refine ⟨_, rfl, ⟨a, b, rfl, h0, h1⟩, fun s g r p1 sl gl sa ga hp1 hr => ?_⟩
    obtain ⟨a1, b1, rfl, h10, h11⟩ := hp1
    try walk_at "dl"
    simp only [hr]
    clear hr
    have i1 : isWord (.str s) 2100 = true := word_mk (by omega) (ab_items sa)
    have i2 : isWord (.str g) 2100 = true := word_mk (by omega) (ab_items ga)
    have rl := route_len s g
    obtain ⟨_, r10⟩ := p10_dst sl gl ga
    have hov := ovM_le s g
    try walk_at "dl"
    refine ⟨s, g, rfl, by omega, by omega, fun r2 o2 hr2 => ?_⟩
    try walk_at "dl"
    simp only [hr2]
    clear hr2
    refine ⟨s, g, rfl, sl, gl, ga, fun o3 => ?_⟩
    try walk_at "dl"
    refine ⟨_, _, rfl, .mk i1 i2 fun r4 o4 hr4 => ?_⟩
    try walk_at "dl"
    simp only [hr4]
    clear hr4
    refine ⟨ov_rep sl, ov_rep sl, .inl rfl, (if_neg neg_self).mpr ?_⟩
    refine ⟨_, _, rfl, .mk i1 i2 fun o5 => ?_⟩
    refine ⟨rep_small (by show (dst s g).natAbs ≤ _; omega), rep_small (by omega), .inl rfl, (if_neg neg_self).mpr ?_⟩
    refine ix_ov ?_
    try walk_at "dl"
    refine ⟨.inl ⟨by decide, by decide⟩, .inl rfl, ?_⟩
    rw [← dst_M, beq_self_eq_true]
    try walk_at "dl"
    refine ix_ov ?_
    try walk_at "dl"
    refine ix_ov ?_
    try walk_at "dl"
    rw [show (s.length : Int) - (ovM s g : Int) = ((s.length - ovM s g : Nat) : Int) from by omega, cut_to, cut_fromG]
    refine ⟨own1 (fun d z => nomatch z), ?_⟩
    refine lcL_pure (p := fun _ => true) (f := fun d => match d with | .str [c] => .str [45, c] | d => d) _ _ (fun y hy k1 k2 z1 z2 => ?_) [] (by rw [List.length_map, List.length_take]; show 0 + _ ≤ 16777216; omega) ?_
    · obtain ⟨c, _, rfl⟩ := List.mem_map.mp hy
      try walk_at "dl"
      exact ⟨by decide, z1 rfl _ _ rfl rfl⟩
    rw [List.nil_append, map_filter_true]
    try walk_at "dl"
    refine ⟨own1 (fun d z => nomatch z), ?_⟩
    refine lcL_pure (p := fun _ => true) (f := fun d => match d with | .str [c] => .str [43, c] | d => d) _ _ (fun y hy k1 k2 z1 z2 => ?_) [] (by rw [List.length_map, List.length_drop]; show 0 + _ ≤ 16777216; omega) ?_
    · obtain ⟨c, _, rfl⟩ := List.mem_map.mp hy
      try walk_at "dl"
      exact ⟨by decide, z1 rfl _ _ rfl rfl⟩
    rw [List.nil_append, map_filter_true, map_steps _ 45 (fun c => rfl), map_steps _ 43 (fun c => rfl)]
    try walk_at "dl"
    rw [← List.map_append, ← List.length_append, ← List.map_append, List.length_map]
    refine ⟨by show (routeL s g).length ≤ 16777216; omega, ?_⟩
    refine ⟨_, _, rfl, .mk i1 i2 ⟨fun z => by omega, fun _ r6 o6 hr6 => ?_⟩⟩
    simp only [hr6]
    clear hr6
    refine ne_same (seq_ok60 _) ?_
    try walk_at "dl"
    refine ⟨s, g, routeL s g, rfl, i1, i2, seq_mix sa ga (route_mix s g) (by omega), fun o7 => ?_⟩
    rw [goes_mix (route_mix s g)]
    try walk_at "dl"
    refine (if_neg (by decide)).mpr ?_
    by_cases c7 : dst s g < 7
    · refine (if_pos (decide_eq_true c7)).mpr ⟨s, g, rfl, i1, i2, by omega, allN_le (by omega), fun o8 => ?_⟩
      unfold prtsD
      try walk_at "dl"
      refine ⟨s, g, (routeL s g).length, by rw [rl], by omega, by omega, sa, ga, by omega, rl, fun r9 o9 hr9 => ?_⟩
      simp only [hr9]
      clear hr9
      rw [prts_calm]
      refine ne_same (mixD_ok _ _) ?_
      try walk_at "dl"
      obtain ⟨lm, _⟩ := mixL_len _ (downs s g) (ups s g) rfl
      have am := allN_le (s := s) (g := g) (by omega)
      unfold allN at am
      rw [← lm] at am
      refine ⟨own1 (fun d z => nomatch z), ?_⟩
      refine lcL_pure (p := fun _ => false) (f := fun d => d) _ _ (fun y hy k1 k2 z1 z2 => ?_) [] (by rw [List.length_map]; show 0 + _ ≤ 16777216; omega) ?_
      · obtain ⟨ss, hs, rfl⟩ := List.mem_map.mp hy
        try walk_at "dl"
        refine ⟨s, g, ss, rfl, i1, i2, seq_mix sa ga hs (by omega), fun o => ?_⟩
        rw [goes_mix hs]
        try walk_at "dl"
        exact z2 rfl _ rfl
      have e0 : ([] : List D) ++ (((mixL (downs s g) (ups s g)).map seqD).filter fun _ => false).map (fun d => d) = [] := by
        have : (((mixL (downs s g) (ups s g)).map seqD).filter fun _ => false) = [] := List.filter_eq_nil_iff.mpr fun _ _ z => nomatch z
        rw [this]; rfl
      rw [e0]
      refine ⟨by decide, ne_same rfl ?_⟩
      try walk_at "dl"
      obtain ⟨m0, M, hM⟩ : ∃ m0 M, mixL (downs s g) (ups s g) = m0 :: M := by
        cases h : mixL (downs s g) (ups s g) with
        | nil => exact absurd h (mix_ne s g)
        | cons a b => exact ⟨a, b, rfl⟩
      have l0 := (mix_signs (s := s) (g := g) (ss := m0) (by rw [hM]; exact List.mem_cons_self)).2
      refine ⟨rfl, 0, 0, m0.map stepD, rfl, ix_nat (r := 0) (by decide) (by rw [List.length_map, hM, List.length_cons]; omega), by rw [hM]; rfl, rfl, by rw [List.length_map]; show _ < 16777216; omega, ⟨_, rfl⟩, _, _, rfl, rfl, by rw [List.length_set, List.length_map]; show _ < 16777216; omega, ?_⟩
      refine ⟨s, g, rfl, i1, i2, by omega, allN_le (by omega), fun o10 => ?_⟩
      unfold prtsD
      try walk_at "dl"
      rw [prts_calm]
      refine ⟨s, g, (routeL s g).length, by rw [rl], by omega, by omega, sa, ga, by omega, rl, fun r11 o11 hr11 => ?_⟩
      simp only [hr11]
      clear hr11
      refine ne_same (mixD_ok _ _) ?_
      try walk_at "dl"
      refine ⟨_, rfl, ⟨a1, b1, rfl, h10, h11⟩, fun r9 p9 hp9 hr9 => ?_⟩
      try walk_at "dl"
      simp only [hr9]
      try walk_at "dl"
      exact hk _ ⟨i + 1, m, _, _, _, _, _, _, _, _, _, _, rfl, by omega, rfl⟩
    · refine (if_neg (by rw [decide_eq_true_eq]; exact c7)).mpr ?_
      refine ⟨_, rfl, ⟨a1, b1, rfl, h10, h11⟩, fun r9 p9 hp9 hr9 => ?_⟩
      try walk_at "dl"
      simp only [hr9]
      try walk_at "dl"
      exact hk _ ⟨i + 1, m, _, _, _, _, _, _, _, _, _, _, rfl, by omega, rfl⟩
end DL

set_option Elab.async false
set_option linter.all false
set_option autoImplicit false
set_option maxRecDepth 100000
set_option maxHeartbeats 4000000
/-! the walk of law_k56_shortest_routes; printed by gen.py -/
namespace Wk56
open PySem PySem.Spec PyProof.Rows L2 DL
abbrev N__law_hand : List Str := ["_law_script", "_law_k", "_law_cell", "_law_seed"]
theorem sc__law_hand : FnScope ["_law_script", "_law_k", "_law_cell", "_law_seed"] ["_law_script", "_law_k"] (defScope s__law_hand) := ⟨rfl, rfl, rfl, by decide +kernel, rfl, by decide +kernel, by decide +kernel⟩
abbrev N__law_draw : List Str := ["_law_pool", "_law_size", "_law_found"]
theorem sc__law_draw : FnScope ["_law_pool", "_law_size", "_law_found"] ["_law_pool", "_law_size"] (defScope s__law_draw) := ⟨rfl, rfl, rfl, by decide +kernel, rfl, by decide +kernel, by decide +kernel⟩
abbrev N__law_word : List Str := ["_law_pool", "_law_letters", "_law_most", "_law_turn"]
theorem sc__law_word : FnScope ["_law_pool", "_law_letters", "_law_most", "_law_turn"] ["_law_pool", "_law_letters", "_law_most"] (defScope s__law_word) := ⟨rfl, rfl, rfl, by decide +kernel, rfl, by decide +kernel, by decide +kernel⟩
abbrev N__law_two : List Str := ["_law_pool", "_law_letters", "_law_one", "_law_other"]
theorem sc__law_two : FnScope ["_law_pool", "_law_letters", "_law_one", "_law_other"] ["_law_pool"] (defScope s__law_two) := ⟨rfl, rfl, rfl, by decide +kernel, rfl, by decide +kernel, by decide +kernel⟩
abbrev N__law_overlaps : List Str := ["_law_one", "_law_other", "_law_size"]
theorem sc__law_overlaps : FnScope ["_law_one", "_law_other", "_law_size"] ["_law_one", "_law_other"] (defScope s__law_overlaps) := ⟨rfl, rfl, rfl, by decide +kernel, rfl, by decide +kernel, by decide +kernel⟩
abbrev N__law_moves : List Str := ["_law_queue", "_law_letters", "_law_found", "_law_item"]
theorem sc__law_moves : FnScope ["_law_queue", "_law_letters", "_law_found", "_law_item"] ["_law_queue", "_law_letters"] (defScope s__law_moves) := ⟨rfl, rfl, rfl, by decide +kernel, rfl, by decide +kernel, by decide +kernel⟩
abbrev N__law_fewest : List Str := ["_law_one", "_law_other", "_law_front", "_law_seen", "_law_turn", "_law_later", "_law_queue", "_law_near"]
theorem sc__law_fewest : FnScope ["_law_one", "_law_other", "_law_front", "_law_seen", "_law_turn", "_law_later", "_law_queue", "_law_near"] ["_law_one", "_law_other"] (defScope s__law_fewest) := ⟨rfl, rfl, rfl, by decide +kernel, rfl, by decide +kernel, by decide +kernel⟩
abbrev N_is_word : List Str := ["value", "most", "item"]
theorem sc_is_word : FnScope ["value", "most", "item"] ["value", "most"] (defScope s_is_word) := ⟨rfl, rfl, rfl, by decide +kernel, rfl, by decide +kernel, by decide +kernel⟩
abbrev N_is_queue : List Str := ["value"]
theorem sc_is_queue : FnScope ["value"] ["value"] (defScope s_is_queue) := ⟨rfl, rfl, rfl, by decide +kernel, rfl, by decide +kernel, by decide +kernel⟩
abbrev N_check_queue : List Str := ["queue"]
theorem sc_check_queue : FnScope ["queue"] ["queue"] (defScope s_check_queue) := ⟨rfl, rfl, rfl, by decide +kernel, rfl, by decide +kernel, by decide +kernel⟩
abbrev N_check_queues : List Str := ["one", "other"]
theorem sc_check_queues : FnScope ["one", "other"] ["one", "other"] (defScope s_check_queues) := ⟨rfl, rfl, rfl, by decide +kernel, rfl, by decide +kernel, by decide +kernel⟩
abbrev N_overlaps : List Str := ["one", "other", "size"]
theorem sc_overlaps : FnScope ["one", "other", "size"] ["one", "other"] (defScope s_overlaps) := ⟨rfl, rfl, rfl, by decide +kernel, rfl, by decide +kernel, by decide +kernel⟩
abbrev N_distance : List Str := ["start", "goal", "kept"]
theorem sc_distance : FnScope ["start", "goal", "kept"] ["start", "goal"] (defScope s_distance) := ⟨rfl, rfl, rfl, by decide +kernel, rfl, by decide +kernel, by decide +kernel⟩
abbrev N_shortest_route : List Str := ["start", "goal", "kept", "item"]
theorem sc_shortest_route : FnScope ["start", "goal", "kept", "item"] ["start", "goal"] (defScope s_shortest_route) := ⟨rfl, rfl, rfl, by decide +kernel, rfl, by decide +kernel, by decide +kernel⟩
abbrev N_binomial : List Str := ["size", "chosen", "result", "number"]
theorem sc_binomial : FnScope ["size", "chosen", "result", "number"] ["size", "chosen"] (defScope s_binomial) := ⟨rfl, rfl, rfl, by decide +kernel, rfl, by decide +kernel, by decide +kernel⟩
abbrev N_mixed : List Str := ["takes", "puts", "first", "rest"]
theorem sc_mixed : FnScope ["takes", "puts", "first", "rest"] ["takes", "puts"] (defScope s_mixed) := ⟨rfl, rfl, rfl, by decide +kernel, rfl, by decide +kernel, by decide +kernel⟩
abbrev N_all_shortest_routes : List Str := ["start", "goal", "route", "takes", "step"]
theorem sc_all_shortest_routes : FnScope ["start", "goal", "route", "takes", "step"] ["start", "goal"] (defScope s_all_shortest_routes) := ⟨rfl, rfl, rfl, by decide +kernel, rfl, by decide +kernel, by decide +kernel⟩
abbrev N__law_go : List Str := ["_law_queue", "_law_steps", "_law_position", "_law_step"]
theorem sc__law_go : FnScope ["_law_queue", "_law_steps", "_law_position", "_law_step"] ["_law_queue", "_law_steps"] (defScope s__law_go) := ⟨rfl, rfl, rfl, by decide +kernel, rfl, by decide +kernel, by decide +kernel⟩
abbrev N__law_long : List Str := ["_law_pool", "_law_shared", "_law_one", "_law_other", "_law_due", "_law_steps"]
theorem sc__law_long : FnScope ["_law_pool", "_law_shared", "_law_one", "_law_other", "_law_due", "_law_steps"] ["_law_pool"] (defScope s__law_long) := ⟨rfl, rfl, rfl, by decide +kernel, rfl, by decide +kernel, by decide +kernel⟩
abbrev N_is_step : List Str := ["value"]
theorem sc_is_step : FnScope ["value"] ["value"] (defScope s_is_step) := ⟨rfl, rfl, rfl, by decide +kernel, rfl, by decide +kernel, by decide +kernel⟩
abbrev N_first_invalid : List Str := ["value", "position", "step"]
theorem sc_first_invalid : FnScope ["value", "position", "step"] ["value"] (defScope s_first_invalid) := ⟨rfl, rfl, rfl, by decide +kernel, rfl, by decide +kernel, by decide +kernel⟩
abbrev N_is_sequence : List Str := ["value"]
theorem sc_is_sequence : FnScope ["value"] ["value"] (defScope s_is_sequence) := ⟨rfl, rfl, rfl, by decide +kernel, rfl, by decide +kernel, by decide +kernel⟩
abbrev N_execute : List Str := ["queue", "steps", "position", "step"]
theorem sc_execute : FnScope ["queue", "steps", "position", "step"] ["queue", "steps"] (defScope s_execute) := ⟨rfl, rfl, rfl, by decide +kernel, rfl, by decide +kernel, by decide +kernel⟩
abbrev N_is_route : List Str := ["start", "goal", "value"]
theorem sc_is_route : FnScope ["start", "goal", "value"] ["start", "goal", "value"] (defScope s_is_route) := ⟨rfl, rfl, rfl, by decide +kernel, rfl, by decide +kernel, by decide +kernel⟩
abbrev N__law_all : List Str := ["_law_one", "_law_other", "_law_size", "_law_found", "_law_kept", "_law_start", "_law_turn", "_law_later", "_law_left", "_law_steps", "_law_queue", "_law_item", "_law_step"]
theorem sc__law_all : FnScope ["_law_one", "_law_other", "_law_size", "_law_found", "_law_kept", "_law_start", "_law_turn", "_law_later", "_law_left", "_law_steps", "_law_queue", "_law_item", "_law_step"] ["_law_one", "_law_other", "_law_size"] (defScope s__law_all) := ⟨rfl, rfl, rfl, by decide +kernel, rfl, by decide +kernel, by decide +kernel⟩
abbrev N_law : List Str := ["_law_script", "_law_k", "_law_pool", "_law_due", "_law_fewest_here", "_law_route", "_law_one", "_law_other", "_law_down", "_law_up", "_law_told", "_law_item", "_law_steps"]
theorem sc_law : FnScope ["_law_script", "_law_k", "_law_pool", "_law_due", "_law_fewest_here", "_law_route", "_law_one", "_law_other", "_law_down", "_law_up", "_law_told", "_law_item", "_law_steps"] ["_law_script"] (defScope s_law) := ⟨rfl, rfl, rfl, by decide +kernel, rfl, by decide +kernel, by decide +kernel⟩
structure Zs (K : PySem.W.Frag) (mg : Str → Option Value)  : Prop where
  one : True
  z_int : mg "int" = none
  z_range : mg "range" = none
  z_len : mg "len" = none
  z_min : mg "min" = none
  z_isinstance : mg "isinstance" = none
  z_str : mg "str" = none
  z_all : mg "all" = none
  z_enumerate : mg "enumerate" = none
  z_list : mg "list" = none
  z_abs : mg "abs" = none
  z_sorted : mg "sorted" = none
  z_max : mg "max" = none
  z_repr : mg "repr" = none
  c_ITEMS : ∃ tk, mg "ITEMS" = some (.str (tx [97, 98, 99, 100, 101, 102, 103, 104]) tk)
  c_MAX_QUEUE : ∃ tk, mg "MAX_QUEUE" = some (.int 2100 tk)
  c_MAX_STEPS : ∃ tk, mg "MAX_STEPS" = some (.int 400 tk)
  c_MAX_LISTED : ∃ tk, mg "MAX_LISTED" = some (.int 256 tk)
section
variable {P : Program} {w : World} {K : PySem.W.Frag} {mg : Str → Option Value} {base : Heap} {T : Tb} {fa : Addr} {fd : FuncData} 
theorem d__law_hand (FF : Fun K "_law_hand" "_law_hand" s__law_hand fa fd) (Z : Zs K mg ) : Def P w K mg base T 2 fa fd ["_law_script", "_law_k"] [] C__law_hand :=
  fnD (k := 1) FF sc__law_hand rfl (fun cdv hcd A outer s H E B W hr tk po hB => zaD (pds_set (i := 2) sc__law_hand.nd rfl (by first | exact Or.inl rfl | exact Or.inr rfl) (by decide) (pd_ix (pd_op op_addA ok_add (pd_sl (zaA (i := 0) rfl (by first | exact Or.inl rfl | exact Or.inr (Or.inl rfl) | exact Or.inr (Or.inr rfl))) (pdo_some (zaA (i := 1) rfl (by first | exact Or.inl rfl | exact Or.inr (Or.inl rfl) | exact Or.inr (Or.inr rfl)))) (pdo_some (pd_op op_addA ok_add (zaA (i := 1) rfl (by first | exact Or.inl rfl | exact Or.inr (Or.inl rfl) | exact Or.inr (Or.inr rfl))) (zaJ)))) (pd_lst (zaB (zaJ) (zaE)))) (zaJ))) (zaD (pds_set (i := 3) sc__law_hand.nd rfl (by first | exact Or.inl rfl | exact Or.inr rfl) (by decide) (pd_op op_mod ok_mod (pd_op op_mulA ok_mul (pd_op op_addA ok_add (pd_op op_addA ok_add (pd_op op_mod ok_mod (zaA (i := 2) rfl (by first | exact Or.inl rfl | exact Or.inr (Or.inl rfl) | exact Or.inr (Or.inr rfl))) (zaJ)) (pd_op op_mulA ok_mul (zaJ) (zaA (i := 1) rfl (by first | exact Or.inl rfl | exact Or.inr (Or.inl rfl) | exact Or.inr (Or.inr rfl))))) (zaJ)) (zaJ)) (zaJ))) (zaF (pds_ret (pd_lst (zaB (pd_op op_mulA ok_mul (pd_callTy ok_int call_int1 rfl Z.z_int (by rfl) (zaB (pd_cmp op_ge ok_ge (zaA (i := 2) rfl (by first | exact Or.inl rfl | exact Or.inr (Or.inl rfl) | exact Or.inr (Or.inr rfl))) (pd_op op_pow ok_pow (zaJ) (zaJ)) (nomark _)) (zaE))) (zaA (i := 2) rfl (by first | exact Or.inl rfl | exact Or.inr (Or.inl rfl) | exact Or.inr (Or.inr rfl)))) (zaB (zaA (i := 3) rfl (by first | exact Or.inl rfl | exact Or.inr (Or.inl rfl) | exact Or.inr (Or.inr rfl))) (zaE)))))))) p__law_hand
theorem d__law_draw (FF : Fun K "_law_draw" "_law_draw" s__law_draw fa fd) (Z : Zs K mg ) : Def P w K mg base T 2 fa fd ["_law_pool", "_law_size"] [0] C__law_draw :=
  fnD (k := 1) FF sc__law_draw rfl (fun cdv hcd A outer s H E B W hr tk po hB => zaD (pds_if (pdt_cmp op_gt ok_gt (pd_ixN (i := 0) rfl (by first | exact Or.inl rfl | exact Or.inr (Or.inl rfl) | exact Or.inr (Or.inr rfl)) (zaJ)) (zaJ) (nomark _)) (zaD (pds_set (i := 2) sc__law_draw.nd rfl (by first | exact Or.inl rfl | exact Or.inr rfl) (by decide) (pd_op op_mod ok_mod (pd_ixN (i := 0) rfl (by first | exact Or.inl rfl | exact Or.inr (Or.inl rfl) | exact Or.inr (Or.inr rfl)) (zaJ)) (zaA (i := 1) rfl (by first | exact Or.inl rfl | exact Or.inr (Or.inl rfl) | exact Or.inr (Or.inr rfl))))) (zaD (pds_put (i := 0) rfl (by first | exact Or.inl rfl | exact Or.inr (Or.inl rfl) | exact Or.inr (Or.inr rfl)) (pd_op op_fdivW ok_fdiv (pd_ixN (i := 0) rfl (by first | exact Or.inl rfl | exact Or.inr (Or.inl rfl) | exact Or.inr (Or.inr rfl)) (zaJ)) (zaA (i := 1) rfl (by first | exact Or.inl rfl | exact Or.inr (Or.inl rfl) | exact Or.inr (Or.inr rfl)))) (zaJ)) (zaF (pds_ret (zaA (i := 2) rfl (by first | exact Or.inl rfl | exact Or.inr (Or.inl rfl) | exact Or.inr (Or.inr rfl))))))) (pds_nil)) (zaD (pds_put (i := 0) rfl (by first | exact Or.inl rfl | exact Or.inr (Or.inl rfl) | exact Or.inr (Or.inr rfl)) (pd_op op_mod ok_mod (pd_op op_addA ok_add (pd_op op_mulA ok_mul (pd_ixN (i := 0) rfl (by first | exact Or.inl rfl | exact Or.inr (Or.inl rfl) | exact Or.inr (Or.inr rfl)) (zaJ)) (zaJ)) (zaJ)) (zaJ)) (zaJ)) (zaF (pds_ret (pd_op op_mod ok_mod (pd_op op_fdivW ok_fdiv (pd_op op_mod ok_mod (pd_op op_mulA ok_mul (pd_ixN (i := 0) rfl (by first | exact Or.inl rfl | exact Or.inr (Or.inl rfl) | exact Or.inr (Or.inr rfl)) (zaJ)) (pd_ixN (i := 0) rfl (by first | exact Or.inl rfl | exact Or.inr (Or.inl rfl) | exact Or.inr (Or.inr rfl)) (zaJ))) (zaJ)) (zaJ)) (zaA (i := 1) rfl (by first | exact Or.inl rfl | exact Or.inr (Or.inl rfl) | exact Or.inr (Or.inr rfl)))))))) p__law_draw
theorem d__law_word (FF : Fun K "_law_word" "_law_word" s__law_word fa fd) (Z : Zs K mg ) (g__law_draw : Cal P w K mg base T "_law_draw" 2 ["_law_pool", "_law_size"] [0] C__law_draw) : Def P w K mg base T 3 fa fd ["_law_pool", "_law_letters", "_law_most"] [0] C__law_word :=
  fnD (k := 2) FF sc__law_word rfl (fun cdv hcd A outer s H E B W hr tk po hB => zaF (pds_ret (pd_ms ok_join F.slot_str_join F.type_str_join mt_join (pd_str (l := []) rfl (by decide)) (zaB (pd_lc (t := .one 3) (own := [("_law_turn", 3)]) rfl sc__law_word.nd (pdi_rng1 rfl Z.z_range (zaH g__law_draw (hr.mono (by decide)) tk rfl (pav_m (i := 0) rfl (by first | exact Or.inl rfl | exact Or.inr (Or.inl rfl) | exact Or.inr (Or.inr rfl)) (pav_v (pd_op op_addA ok_add (zaA (i := 2) rfl (by first | exact Or.inl rfl | exact Or.inr (Or.inl rfl) | exact Or.inr (Or.inr rfl))) (zaJ)) (pav_nil))))) (blkOk_by (N := N__law_word) (sc := defScope s__law_word) (by decide +kernel)) rfl rfl (fun _ _ _ _ _ => pgh_one (i := 3) sc__law_word.nd rfl (by first | exact Or.inl rfl | exact Or.inr rfl)) (fun _ _ _ _ _ _ => pdts_nil) (fun _ _ _ _ _ _ => pd_ix (zaA (i := 1) rfl (by first | exact Or.inl rfl | exact Or.inr (Or.inl rfl) | exact Or.inr (Or.inr rfl))) (zaH g__law_draw (hr.mono (by decide)) takes_no rfl (pav_m (i := 0) rfl (by first | exact Or.inl rfl | exact Or.inr (Or.inl rfl) | exact Or.inr (Or.inr rfl)) (pav_v (pd_callB ok_len call_lenA rfl Z.z_len (by rfl) (zaB (zaA (i := 1) rfl (by first | exact Or.inl rfl | exact Or.inr (Or.inl rfl) | exact Or.inr (Or.inr rfl))) (zaE))) (pav_nil)))))) (zaE))))) p__law_word
theorem d__law_two (FF : Fun K "_law_two" "_law_two" s__law_two fa fd) (Z : Zs K mg ) (g__law_draw : Cal P w K mg base T "_law_draw" 2 ["_law_pool", "_law_size"] [0] C__law_draw) (g__law_word : Cal P w K mg base T "_law_word" 3 ["_law_pool", "_law_letters", "_law_most"] [0] C__law_word) : Def P w K mg base T 4 fa fd ["_law_pool"] [0] C__law_two :=
  fnD (k := 3) FF sc__law_two rfl (fun cdv hcd A outer s H E B W hr tk po hB => zaD (pds_set (i := 1) sc__law_two.nd rfl (by first | exact Or.inl rfl | exact Or.inr rfl) (by decide) (pd_ix (pd_lst (zaB (pd_str (l := [97]) rfl (by decide)) (zaB (pd_str (l := [97, 98]) rfl (by decide)) (zaB (pd_str (l := [97, 98]) rfl (by decide)) (zaE))))) (zaH g__law_draw (hr.mono (by decide)) tk rfl (pav_m (i := 0) rfl (by first | exact Or.inl rfl | exact Or.inr (Or.inl rfl) | exact Or.inr (Or.inr rfl)) (pav_v (zaJ) (pav_nil)))))) (zaD (pds_par (i := 2) (j := 3) rfl sc__law_two.nd rfl rfl (by decide) (by decide) (by decide) rfl rfl (zaB (zaH g__law_word (hr.mono (by decide)) tk rfl (pav_m (i := 0) rfl (by first | exact Or.inl rfl | exact Or.inr (Or.inl rfl) | exact Or.inr (Or.inr rfl)) (pav_v (zaA (i := 1) rfl (by first | exact Or.inl rfl | exact Or.inr (Or.inl rfl) | exact Or.inr (Or.inr rfl))) (pav_v (zaJ) (pav_nil))))) (zaB (zaH g__law_word (hr.mono (by decide)) tk rfl (pav_m (i := 0) rfl (by first | exact Or.inl rfl | exact Or.inr (Or.inl rfl) | exact Or.inr (Or.inr rfl)) (pav_v (zaA (i := 1) rfl (by first | exact Or.inl rfl | exact Or.inr (Or.inl rfl) | exact Or.inr (Or.inr rfl))) (pav_v (zaJ) (pav_nil))))) zaE))) (zaD (pds_if (pdt_w (pdw_and (pdt_cmp (op_neA hr.units) ok_ne (zaA (i := 2) rfl (by first | exact Or.inl rfl | exact Or.inr (Or.inl rfl) | exact Or.inr (Or.inr rfl))) (pd_str (l := []) rfl (by decide)) (nomark _)) (pdw_and1 (pdt_cmp (op_eqA hr.units) ok_eq (zaH g__law_draw (hr.mono (by decide)) tk rfl (pav_m (i := 0) rfl (by first | exact Or.inl rfl | exact Or.inr (Or.inl rfl) | exact Or.inr (Or.inr rfl)) (pav_v (zaJ) (pav_nil)))) (zaJ) (nomark _))))) (zaF (pds_set (i := 3) sc__law_two.nd rfl (by first | exact Or.inl rfl | exact Or.inr rfl) (by decide) (pd_sl (pd_op op_addA ok_add (pd_sl (zaA (i := 2) rfl (by first | exact Or.inl rfl | exact Or.inr (Or.inl rfl) | exact Or.inr (Or.inr rfl))) (pdo_some (zaH g__law_draw (hr.mono (by decide)) tk rfl (pav_m (i := 0) rfl (by first | exact Or.inl rfl | exact Or.inr (Or.inl rfl) | exact Or.inr (Or.inr rfl)) (pav_v (pd_callB ok_len call_lenA rfl Z.z_len (by rfl) (zaB (zaA (i := 2) rfl (by first | exact Or.inl rfl | exact Or.inr (Or.inl rfl) | exact Or.inr (Or.inr rfl))) (zaE))) (pav_nil))))) pdo_none) (zaA (i := 3) rfl (by first | exact Or.inl rfl | exact Or.inr (Or.inl rfl) | exact Or.inr (Or.inr rfl)))) pdo_none (pdo_some (zaJ))))) (pds_nil)) (zaF (pds_ret (pd_tup (zaB (zaA (i := 2) rfl (by first | exact Or.inl rfl | exact Or.inr (Or.inl rfl) | exact Or.inr (Or.inr rfl))) (zaB (zaA (i := 3) rfl (by first | exact Or.inl rfl | exact Or.inr (Or.inl rfl) | exact Or.inr (Or.inr rfl))) (zaE))))))))) p__law_two
theorem d__law_overlaps (FF : Fun K "_law_overlaps" "_law_overlaps" s__law_overlaps fa fd) (Z : Zs K mg ) : Def P w K mg base T 2 fa fd ["_law_one", "_law_other"] [] C__law_overlaps :=
  fnD (k := 1) FF sc__law_overlaps rfl (fun cdv hcd A outer s H E B W hr tk po hB => zaF (pds_ret (pd_lc (t := .one 2) (own := [("_law_size", 2)]) rfl sc__law_overlaps.nd (pdi_rng1 rfl Z.z_range (pd_op op_addA ok_add (pd_callB ok_min (call_minA rfl) rfl Z.z_min (by rfl) (zaB (pd_callB ok_len call_lenA rfl Z.z_len (by rfl) (zaB (zaA (i := 0) rfl (by first | exact Or.inl rfl | exact Or.inr (Or.inl rfl) | exact Or.inr (Or.inr rfl))) (zaE))) (zaB (pd_callB ok_len call_lenA rfl Z.z_len (by rfl) (zaB (zaA (i := 1) rfl (by first | exact Or.inl rfl | exact Or.inr (Or.inl rfl) | exact Or.inr (Or.inr rfl))) (zaE))) (zaE)))) (zaJ))) (blkOk_by (N := N__law_overlaps) (sc := defScope s__law_overlaps) (by decide +kernel)) rfl rfl (fun _ _ _ _ _ => pgh_one (i := 2) sc__law_overlaps.nd rfl (by first | exact Or.inl rfl | exact Or.inr rfl)) (fun _ _ _ _ _ _ => pdts_one (pdt_cmp (op_eqA hr.units) ok_eq (pd_sl (zaA (i := 0) rfl (by first | exact Or.inl rfl | exact Or.inr (Or.inl rfl) | exact Or.inr (Or.inr rfl))) (pdo_some (pd_op op_sub ok_sub (pd_callB ok_len call_lenA rfl Z.z_len (by rfl) (zaB (zaA (i := 0) rfl (by first | exact Or.inl rfl | exact Or.inr (Or.inl rfl) | exact Or.inr (Or.inr rfl))) (zaE))) (zaA (i := 2) rfl (by first | exact Or.inl rfl | exact Or.inr (Or.inl rfl) | exact Or.inr (Or.inr rfl))))) pdo_none) (pd_sl (zaA (i := 1) rfl (by first | exact Or.inl rfl | exact Or.inr (Or.inl rfl) | exact Or.inr (Or.inr rfl))) pdo_none (pdo_some (zaA (i := 2) rfl (by first | exact Or.inl rfl | exact Or.inr (Or.inl rfl) | exact Or.inr (Or.inr rfl))))) (nomark _))) (fun _ _ _ _ _ _ => zaA (i := 2) rfl (by first | exact Or.inl rfl | exact Or.inr (Or.inl rfl) | exact Or.inr (Or.inr rfl)))))) p__law_overlaps
theorem d__law_moves (FF : Fun K "_law_moves" "_law_moves" s__law_moves fa fd) (Z : Zs K mg ) : Def P w K mg base T 2 fa fd ["_law_queue", "_law_letters"] [] C__law_moves :=
  fnD (k := 1) FF sc__law_moves rfl (fun cdv hcd A outer s H E B W hr tk po hB => zaD (pds_setLc (i := 2) (t := .one 3) (own := [("_law_item", 3)]) rfl sc__law_moves.nd rfl rfl (by decide) (sw_true rfl rfl rfl (by decide +kernel)) (pdi_str (zaA (i := 1) rfl (by first | exact Or.inl rfl | exact Or.inr (Or.inl rfl) | exact Or.inr (Or.inr rfl)))) (blkOk_by (N := N__law_moves) (sc := defScope s__law_moves) (by decide +kernel)) rfl rfl (fun _ _ _ _ _ => pgh_one (i := 3) sc__law_moves.nd rfl (by first | exact Or.inl rfl | exact Or.inr rfl)) (fun _ _ _ _ _ _ => pdts_nil) (fun _ _ _ _ _ _ => pd_op op_addA ok_add (zaA (i := 0) rfl (by first | exact Or.inl rfl | exact Or.inr (Or.inl rfl) | exact Or.inr (Or.inr rfl))) (zaA (i := 3) rfl (by first | exact Or.inl rfl | exact Or.inr (Or.inl rfl) | exact Or.inr (Or.inr rfl))))) (zaF (pds_ret (pd_op op_addA ok_add (zaA (i := 2) rfl (by first | exact Or.inl rfl | exact Or.inr (Or.inl rfl) | exact Or.inr (Or.inr rfl))) (pd_op op_mulA ok_mul (pd_lst (zaB (pd_sl (zaA (i := 0) rfl (by first | exact Or.inl rfl | exact Or.inr (Or.inl rfl) | exact Or.inr (Or.inr rfl))) (pdo_some (zaJ)) pdo_none) (zaE))) (pd_callTy ok_int call_int1 rfl Z.z_int (by rfl) (zaB (pd_cmp (op_neA hr.units) ok_ne (zaA (i := 0) rfl (by first | exact Or.inl rfl | exact Or.inr (Or.inl rfl) | exact Or.inr (Or.inr rfl))) (pd_str (l := []) rfl (by decide)) (nomark _)) (zaE)))))))) p__law_moves
theorem d__law_fewest (FF : Fun K "_law_fewest" "_law_fewest" s__law_fewest fa fd) (Z : Zs K mg ) (g__law_moves : Cal P w K mg base T "_law_moves" 2 ["_law_queue", "_law_letters"] [] C__law_moves) : Def P w K mg base T 3 fa fd ["_law_one", "_law_other"] [] C__law_fewest :=
  fnD (k := 2) FF sc__law_fewest rfl (fun cdv hcd A outer s H E B W hr tk po hB => zaD (pds_parR (i := 2) (bi := false) (j := 3) (bj := true) rfl sc__law_fewest.nd rfl rfl  (by decide) (by decide) rfl rfl  (pva_cons tk (fun B tk => pd_lst (zaB (zaA (i := 0) rfl (by first | exact Or.inl rfl | exact Or.inr (Or.inl rfl) | exact Or.inr (Or.inr rfl))) (zaE))) (pva_cons tk (fun B tk => pd_dsp1 (fun _ => zaA (i := 0) rfl (by first | exact Or.inl rfl | exact Or.inr (Or.inl rfl) | exact Or.inr (Or.inr rfl))) (fun _ => pd_bl)) (pva_nil)))) (zaD (pds_for po rfl (pdi_rng1 rfl Z.z_range (zaJ)) (pdg_name (i := 4) sc__law_fewest.nd rfl (by first | exact Or.inl rfl | exact Or.inr rfl) (by decide)) (zaD (pds_if (pdt_cmp op_inA ok_in (zaA (i := 1) rfl (by first | exact Or.inl rfl | exact Or.inr (Or.inl rfl) | exact Or.inr (Or.inr rfl))) (zaA (i := 2) rfl (by first | exact Or.inl rfl | exact Or.inr (Or.inl rfl) | exact Or.inr (Or.inr rfl))) (by rfl)) (zaF (pds_ret (zaA (i := 4) rfl (by first | exact Or.inl rfl | exact Or.inr (Or.inl rfl) | exact Or.inr (Or.inr rfl))))) (pds_nil)) (zaD (pds_setO (i := 5) sc__law_fewest.nd rfl (by first | exact Or.inl rfl | exact Or.inr rfl) (by decide) (pd_lst zaE)) (zaD (pds_for po rfl (pdi_lst (zaA (i := 2) rfl (by first | exact Or.inl rfl | exact Or.inr (Or.inl rfl) | exact Or.inr (Or.inr rfl)))) (pdg_name (i := 6) sc__law_fewest.nd rfl (by first | exact Or.inl rfl | exact Or.inr rfl) (by decide)) (zaF (pds_for po rfl (pdi_lst (zaH g__law_moves (hr.mono (by decide)) tk rfl (pav_v (zaA (i := 6) rfl (by first | exact Or.inl rfl | exact Or.inr (Or.inl rfl) | exact Or.inr (Or.inr rfl))) (pav_v (pd_str (l := [97, 98]) rfl (by decide)) (pav_nil))))) (pdg_name (i := 7) sc__law_fewest.nd rfl (by first | exact Or.inl rfl | exact Or.inr rfl) (by decide)) (zaF (pds_if (pdt_look (pdt_w (pdw_and (pdt_cmp (op_ninK hr.units) ok_ninK (zaA (i := 7) rfl (by first | exact Or.inl rfl | exact Or.inr (Or.inl rfl) | exact Or.inr (Or.inr rfl))) (zaA (i := 3) rfl (by first | exact Or.inl rfl | exact Or.inr (Or.inl rfl) | exact Or.inr (Or.inr rfl))) (by rfl)) (pdw_and1 (pdt_cmp op_lt ok_lt (pd_callB ok_len call_lenA rfl Z.z_len (by rfl) (zaB (zaA (i := 7) rfl (by first | exact Or.inl rfl | exact Or.inr (Or.inl rfl) | exact Or.inr (Or.inr rfl))) (zaE))) (zaJ) (nomark _)))))) (zaD (pds_putK (i := 3) hr.units rfl (by first | exact Or.inl rfl | exact Or.inr (Or.inl rfl) | exact Or.inr (Or.inr rfl)) (pd_bl) (zaA (i := 7) rfl (by first | exact Or.inl rfl | exact Or.inr (Or.inl rfl) | exact Or.inr (Or.inr rfl)))) (zaF (pds_app (i := 5) rfl (by first | exact Or.inl rfl | exact Or.inr (Or.inl rfl) | exact Or.inr (Or.inr rfl)) (zaA (i := 7) rfl (by first | exact Or.inl rfl | exact Or.inr (Or.inl rfl) | exact Or.inr (Or.inr rfl)))))) (pds_nil)))))) (zaF (pds_set (i := 2) sc__law_fewest.nd rfl (by first | exact Or.inl rfl | exact Or.inr rfl) (by decide) (zaA (i := 5) rfl (by first | exact Or.inl rfl | exact Or.inr (Or.inl rfl) | exact Or.inr (Or.inr rfl))))))))) (zaF (pds_ret (pd_non))))) p__law_fewest
theorem d_is_word (FF : Fun K "is_word" "is_word" s_is_word fa fd) (Z : Zs K mg ) : Def P w K mg base T 2 fa fd ["value", "most"] [] C_is_word :=
  fnD (k := 1) FF sc_is_word rfl (fun cdv hcd A outer s H E B W hr tk po hB => zaF (pds_ret (pd_and (pd_isi (t := .str) (by rfl) rfl Z.z_isinstance rfl Z.z_str (zaA (i := 0) rfl (by first | exact Or.inl rfl | exact Or.inr (Or.inl rfl) | exact Or.inr (Or.inr rfl)))) (pd_and (pd_cmp op_le ok_le (pd_callB ok_len call_lenA rfl Z.z_len (by rfl) (zaB (zaA (i := 0) rfl (by first | exact Or.inl rfl | exact Or.inr (Or.inl rfl) | exact Or.inr (Or.inr rfl))) (zaE))) (zaA (i := 1) rfl (by first | exact Or.inl rfl | exact Or.inr (Or.inl rfl) | exact Or.inr (Or.inr rfl))) (nomark _)) (pd_one (pd_callB ok_all (cr_all rfl) rfl Z.z_all (by rfl) (zaB (pd_lc (t := .one 2) (own := [("item", 2)]) rfl sc_is_word.nd (pdi_str (zaA (i := 0) rfl (by first | exact Or.inl rfl | exact Or.inr (Or.inl rfl) | exact Or.inr (Or.inr rfl)))) (blkOk_by (N := N_is_word) (sc := defScope s_is_word) (by decide +kernel)) rfl rfl (fun _ _ _ _ _ => pgh_one (i := 2) sc_is_word.nd rfl (by first | exact Or.inl rfl | exact Or.inr rfl)) (fun _ _ _ _ _ _ => pdts_nil) (fun _ _ _ _ _ _ => pd_cmp op_inA ok_in (zaA (i := 2) rfl (by first | exact Or.inl rfl | exact Or.inr (Or.inl rfl) | exact Or.inr (Or.inr rfl))) (pd_strG rfl Z.c_ITEMS (by decide)) (by rfl))) (zaE)))))))) p_is_word
theorem d_is_queue (FF : Fun K "is_queue" "is_queue" s_is_queue fa fd) (Z : Zs K mg ) (g_is_word : Cal P w K mg base T "is_word" 2 ["value", "most"] [] C_is_word) : Def P w K mg base T 3 fa fd ["value"] [] C_is_queue :=
  fnD (k := 2) FF sc_is_queue rfl (fun cdv hcd A outer s H E B W hr tk po hB => zaF (pds_ret (zaH g_is_word (hr.mono (by decide)) tk rfl (pav_v (zaA (i := 0) rfl (by first | exact Or.inl rfl | exact Or.inr (Or.inl rfl) | exact Or.inr (Or.inr rfl))) (pav_v (pd_intG rfl Z.c_MAX_QUEUE) (pav_nil)))))) p_is_queue
theorem d_check_queue (FF : Fun K "check_queue" "check_queue" s_check_queue fa fd) (Z : Zs K mg ) (X_InvalidQueue : ErrX K mg T "InvalidQueue" 0) (g_is_queue : Cal P w K mg base T "is_queue" 3 ["value"] [] C_is_queue) : Def P w K mg base T 4 fa fd ["queue"] [] C_check_queue :=
  fnD (k := 3) FF sc_check_queue rfl (fun cdv hcd A outer s H E B W hr tk po hB => zaF (pds_if (pdt_not (pdt_val (zaH g_is_queue (hr.mono (by decide)) tk rfl (pav_v (zaA (i := 0) rfl (by first | exact Or.inl rfl | exact Or.inr (Or.inl rfl) | exact Or.inr (Or.inr rfl))) (pav_nil))))) (zaF (pds_raiseC (k := 1) X_InvalidQueue rfl tk (hr.mono (by decide)) (zaA (i := 0) rfl (by first | exact Or.inl rfl | exact Or.inr (Or.inl rfl) | exact Or.inr (Or.inr rfl))) rfl)) (pds_nil))) p_check_queue
theorem d_check_queues (FF : Fun K "check_queues" "check_queues" s_check_queues fa fd) (Z : Zs K mg ) (g_check_queue : Cal P w K mg base T "check_queue" 4 ["queue"] [] C_check_queue) : Def P w K mg base T 5 fa fd ["one", "other"] [] C_check_queues :=
  fnD (k := 4) FF sc_check_queues rfl (fun cdv hcd A outer s H E B W hr tk po hB => zaD (pds_expr (zaH g_check_queue (hr.mono (by decide)) tk rfl (pav_v (zaA (i := 0) rfl (by first | exact Or.inl rfl | exact Or.inr (Or.inl rfl) | exact Or.inr (Or.inr rfl))) (pav_nil)))) (zaF (pds_expr (zaH g_check_queue (hr.mono (by decide)) tk rfl (pav_v (zaA (i := 1) rfl (by first | exact Or.inl rfl | exact Or.inr (Or.inl rfl) | exact Or.inr (Or.inr rfl))) (pav_nil)))))) p_check_queues
theorem d_overlaps (FF : Fun K "overlaps" "overlaps" s_overlaps fa fd) (Z : Zs K mg ) (g_check_queues : Cal P w K mg base T "check_queues" 5 ["one", "other"] [] C_check_queues) : Def P w K mg base T 6 fa fd ["one", "other"] [] C_overlaps :=
  fnD (k := 5) FF sc_overlaps rfl (fun cdv hcd A outer s H E B W hr tk po hB => zaD (pds_expr (zaH g_check_queues (hr.mono (by decide)) tk rfl (pav_v (zaA (i := 0) rfl (by first | exact Or.inl rfl | exact Or.inr (Or.inl rfl) | exact Or.inr (Or.inr rfl))) (pav_v (zaA (i := 1) rfl (by first | exact Or.inl rfl | exact Or.inr (Or.inl rfl) | exact Or.inr (Or.inr rfl))) (pav_nil))))) (zaF (pds_ret (pd_lc (t := .one 2) (own := [("size", 2)]) rfl sc_overlaps.nd (pdi_rng1 rfl Z.z_range (pd_op op_addA ok_add (pd_callB ok_min (call_minA rfl) rfl Z.z_min (by rfl) (zaB (pd_callB ok_len call_lenA rfl Z.z_len (by rfl) (zaB (zaA (i := 0) rfl (by first | exact Or.inl rfl | exact Or.inr (Or.inl rfl) | exact Or.inr (Or.inr rfl))) (zaE))) (zaB (pd_callB ok_len call_lenA rfl Z.z_len (by rfl) (zaB (zaA (i := 1) rfl (by first | exact Or.inl rfl | exact Or.inr (Or.inl rfl) | exact Or.inr (Or.inr rfl))) (zaE))) (zaE)))) (zaJ))) (blkOk_by (N := N_overlaps) (sc := defScope s_overlaps) (by decide +kernel)) rfl rfl (fun _ _ _ _ _ => pgh_one (i := 2) sc_overlaps.nd rfl (by first | exact Or.inl rfl | exact Or.inr rfl)) (fun _ _ _ _ _ _ => pdts_one (pdt_val (pd_ms ok_ew F.slot_str_endswith F.type_str_endswith mt_endswith (zaA (i := 0) rfl (by first | exact Or.inl rfl | exact Or.inr (Or.inl rfl) | exact Or.inr (Or.inr rfl))) (zaB (pd_sl (zaA (i := 1) rfl (by first | exact Or.inl rfl | exact Or.inr (Or.inl rfl) | exact Or.inr (Or.inr rfl))) pdo_none (pdo_some (zaA (i := 2) rfl (by first | exact Or.inl rfl | exact Or.inr (Or.inl rfl) | exact Or.inr (Or.inr rfl))))) (zaE))))) (fun _ _ _ _ _ _ => zaA (i := 2) rfl (by first | exact Or.inl rfl | exact Or.inr (Or.inl rfl) | exact Or.inr (Or.inr rfl))))))) p_overlaps
theorem d_distance (FF : Fun K "distance" "distance" s_distance fa fd) (Z : Zs K mg ) (g_overlaps : Cal P w K mg base T "overlaps" 6 ["one", "other"] [] C_overlaps) : Def P w K mg base T 7 fa fd ["start", "goal"] [] C_distance :=
  fnD (k := 6) FF sc_distance rfl (fun cdv hcd A outer s H E B W hr tk po hB => zaD (pds_set (i := 2) sc_distance.nd rfl (by first | exact Or.inl rfl | exact Or.inr rfl) (by decide) (pd_ix (zaH g_overlaps (hr.mono (by decide)) tk rfl (pav_v (zaA (i := 0) rfl (by first | exact Or.inl rfl | exact Or.inr (Or.inl rfl) | exact Or.inr (Or.inr rfl))) (pav_v (zaA (i := 1) rfl (by first | exact Or.inl rfl | exact Or.inr (Or.inl rfl) | exact Or.inr (Or.inr rfl))) (pav_nil)))) (pd_un un_neg ok_neg (zaJ)))) (zaF (pds_ret (pd_op op_sub ok_sub (pd_op op_addA ok_add (pd_callB ok_len call_lenA rfl Z.z_len (by rfl) (zaB (zaA (i := 0) rfl (by first | exact Or.inl rfl | exact Or.inr (Or.inl rfl) | exact Or.inr (Or.inr rfl))) (zaE))) (pd_callB ok_len call_lenA rfl Z.z_len (by rfl) (zaB (zaA (i := 1) rfl (by first | exact Or.inl rfl | exact Or.inr (Or.inl rfl) | exact Or.inr (Or.inr rfl))) (zaE)))) (pd_op op_mulA ok_mul (zaJ) (zaA (i := 2) rfl (by first | exact Or.inl rfl | exact Or.inr (Or.inl rfl) | exact Or.inr (Or.inr rfl)))))))) p_distance
theorem d_shortest_route (FF : Fun K "shortest_route" "shortest_route" s_shortest_route fa fd) (Z : Zs K mg ) (X_LimitExceeded : ErrX K mg T "LimitExceeded" 10) (g_distance : Cal P w K mg base T "distance" 7 ["start", "goal"] [] C_distance) (g_overlaps : Cal P w K mg base T "overlaps" 6 ["one", "other"] [] C_overlaps) : Def P w K mg base T 8 fa fd ["start", "goal"] [] C_shortest_route :=
  fnD (k := 7) FF sc_shortest_route rfl (fun cdv hcd A outer s H E B W hr tk po hB => zaD (pds_if (pdt_cmp op_gt ok_gt (zaH g_distance (hr.mono (by decide)) tk rfl (pav_v (zaA (i := 0) rfl (by first | exact Or.inl rfl | exact Or.inr (Or.inl rfl) | exact Or.inr (Or.inr rfl))) (pav_v (zaA (i := 1) rfl (by first | exact Or.inl rfl | exact Or.inr (Or.inl rfl) | exact Or.inr (Or.inr rfl))) (pav_nil)))) (pd_intG rfl Z.c_MAX_STEPS) (nomark _)) (zaF (pds_raiseC (k := 1) X_LimitExceeded rfl tk (hr.mono (by decide)) (pd_intG rfl Z.c_MAX_STEPS) rfl)) (pds_nil)) (zaD (pds_set (i := 2) sc_shortest_route.nd rfl (by first | exact Or.inl rfl | exact Or.inr rfl) (by decide) (pd_ix (zaH g_overlaps (hr.mono (by decide)) tk rfl (pav_v (zaA (i := 0) rfl (by first | exact Or.inl rfl | exact Or.inr (Or.inl rfl) | exact Or.inr (Or.inr rfl))) (pav_v (zaA (i := 1) rfl (by first | exact Or.inl rfl | exact Or.inr (Or.inl rfl) | exact Or.inr (Or.inr rfl))) (pav_nil)))) (pd_un un_neg ok_neg (zaJ)))) (zaF (pds_ret (pd_op op_addA ok_add (pd_lc (t := .one 3) (own := [("item", 3)]) rfl sc_shortest_route.nd (pdi_str (pd_sl (zaA (i := 0) rfl (by first | exact Or.inl rfl | exact Or.inr (Or.inl rfl) | exact Or.inr (Or.inr rfl))) pdo_none (pdo_some (pd_op op_sub ok_sub (pd_callB ok_len call_lenA rfl Z.z_len (by rfl) (zaB (zaA (i := 0) rfl (by first | exact Or.inl rfl | exact Or.inr (Or.inl rfl) | exact Or.inr (Or.inr rfl))) (zaE))) (zaA (i := 2) rfl (by first | exact Or.inl rfl | exact Or.inr (Or.inl rfl) | exact Or.inr (Or.inr rfl))))))) (blkOk_by (N := N_shortest_route) (sc := defScope s_shortest_route) (by decide +kernel)) rfl rfl (fun _ _ _ _ _ => pgh_one (i := 3) sc_shortest_route.nd rfl (by first | exact Or.inl rfl | exact Or.inr rfl)) (fun _ _ _ _ _ _ => pdts_nil) (fun _ _ _ _ _ _ => pd_op op_addA ok_add (pd_str (l := [45]) rfl (by decide)) (zaA (i := 3) rfl (by first | exact Or.inl rfl | exact Or.inr (Or.inl rfl) | exact Or.inr (Or.inr rfl))))) (pd_lc (t := .one 3) (own := [("item", 3)]) rfl sc_shortest_route.nd (pdi_str (pd_sl (zaA (i := 1) rfl (by first | exact Or.inl rfl | exact Or.inr (Or.inl rfl) | exact Or.inr (Or.inr rfl))) (pdo_some (zaA (i := 2) rfl (by first | exact Or.inl rfl | exact Or.inr (Or.inl rfl) | exact Or.inr (Or.inr rfl)))) pdo_none)) (blkOk_by (N := N_shortest_route) (sc := defScope s_shortest_route) (by decide +kernel)) rfl rfl (fun _ _ _ _ _ => pgh_one (i := 3) sc_shortest_route.nd rfl (by first | exact Or.inl rfl | exact Or.inr rfl)) (fun _ _ _ _ _ _ => pdts_nil) (fun _ _ _ _ _ _ => pd_op op_addA ok_add (pd_str (l := [43]) rfl (by decide)) (zaA (i := 3) rfl (by first | exact Or.inl rfl | exact Or.inr (Or.inl rfl) | exact Or.inr (Or.inr rfl)))))))))) p_shortest_route
theorem d_binomial (FF : Fun K "binomial" "binomial" s_binomial fa fd) (Z : Zs K mg ) : Def P w K mg base T 2 fa fd ["size", "chosen"] [] C_binomial :=
  fnD (k := 1) FF sc_binomial rfl (fun cdv hcd A outer s H E B W hr tk po hB => zaD (pds_if (pdt_w (pdw_or (pdt_cmp op_lt ok_lt (zaA (i := 1) rfl (by first | exact Or.inl rfl | exact Or.inr (Or.inl rfl) | exact Or.inr (Or.inr rfl))) (zaJ) (nomark _)) (pdw_or1 (pdt_cmp op_gt ok_gt (zaA (i := 1) rfl (by first | exact Or.inl rfl | exact Or.inr (Or.inl rfl) | exact Or.inr (Or.inr rfl))) (zaA (i := 0) rfl (by first | exact Or.inl rfl | exact Or.inr (Or.inl rfl) | exact Or.inr (Or.inr rfl))) (nomark _))))) (zaF (pds_ret (zaJ))) (pds_nil)) (zaD (pds_set (i := 2) sc_binomial.nd rfl (by first | exact Or.inl rfl | exact Or.inr rfl) (by decide) (zaJ)) (zaD (pds_for po rfl (pdi_rng1 rfl Z.z_range (zaA (i := 1) rfl (by first | exact Or.inl rfl | exact Or.inr (Or.inl rfl) | exact Or.inr (Or.inr rfl)))) (pdg_name (i := 3) sc_binomial.nd rfl (by first | exact Or.inl rfl | exact Or.inr rfl) (by decide)) (zaF (pds_set (i := 2) sc_binomial.nd rfl (by first | exact Or.inl rfl | exact Or.inr rfl) (by decide) (pd_op op_fdivW ok_fdiv (pd_op op_mulA ok_mul (zaA (i := 2) rfl (by first | exact Or.inl rfl | exact Or.inr (Or.inl rfl) | exact Or.inr (Or.inr rfl))) (pd_op op_sub ok_sub (zaA (i := 0) rfl (by first | exact Or.inl rfl | exact Or.inr (Or.inl rfl) | exact Or.inr (Or.inr rfl))) (zaA (i := 3) rfl (by first | exact Or.inl rfl | exact Or.inr (Or.inl rfl) | exact Or.inr (Or.inr rfl))))) (pd_op op_addA ok_add (zaA (i := 3) rfl (by first | exact Or.inl rfl | exact Or.inr (Or.inl rfl) | exact Or.inr (Or.inr rfl))) (zaJ)))))) (zaF (pds_ret (zaA (i := 2) rfl (by first | exact Or.inl rfl | exact Or.inr (Or.inl rfl) | exact Or.inr (Or.inr rfl)))))))) p_binomial
theorem d_mixed (n : Nat) (FF : Fun K "mixed" "mixed" s_mixed fa fd) (Z : Zs K mg ) (g_mixed : Cal P w K mg base T "mixed" (1 + n) ["takes", "puts"] [] (R_mixed n)) : Def P w K mg base T (1 + n + 1) fa fd ["takes", "puts"] [] (R_mixed (n + 1)) :=
  fnD (k := 1 + n) FF sc_mixed rfl (fun cdv hcd A outer s H E B W hr tk po hB => zaD (pds_if (pdt_w (pdw_or (pdt_cmp (op_eqA hr.units) ok_eq (zaA (i := 0) rfl (by first | exact Or.inl rfl | exact Or.inr (Or.inl rfl) | exact Or.inr (Or.inr rfl))) (pd_lst zaE) (nomark _)) (pdw_or1 (pdt_cmp (op_eqA hr.units) ok_eq (zaA (i := 1) rfl (by first | exact Or.inl rfl | exact Or.inr (Or.inl rfl) | exact Or.inr (Or.inr rfl))) (pd_lst zaE) (nomark _))))) (zaF (pds_ret (pd_lstP (pvp_cons tk (fun B hQ tk => pd_op op_addA ok_add (zaA (i := 0) rfl (by first | exact Or.inl rfl | exact Or.inr (Or.inl rfl) | exact Or.inr (Or.inr rfl))) (zaA (i := 1) rfl (by first | exact Or.inl rfl | exact Or.inr (Or.inl rfl) | exact Or.inr (Or.inr rfl)))) (pvp_nil))))) (pds_nil)) (zaD (pds_setLcPO (i := 2) (t := .one 3) (own := [("rest", 3)]) rfl sc_mixed.nd rfl rfl (by decide) (sw_true rfl rfl rfl (by decide +kernel)) (pdi_lst (zaH g_mixed (hr.mono (by omega)) tk rfl (pav_v (zaA (i := 0) rfl (by first | exact Or.inl rfl | exact Or.inr (Or.inl rfl) | exact Or.inr (Or.inr rfl))) (pav_v (pd_sl (zaA (i := 1) rfl (by first | exact Or.inl rfl | exact Or.inr (Or.inl rfl) | exact Or.inr (Or.inr rfl))) (pdo_some (zaJ)) pdo_none) (pav_nil))))) (blkOk_by (N := N_mixed) (sc := defScope s_mixed) (by decide +kernel)) rfl rfl (fun _ _ _ _ _ => pgh_one (i := 3) sc_mixed.nd rfl (by first | exact Or.inl rfl | exact Or.inr rfl)) (fun _ _ _ _ _ _ => pdts_nil) (fun _ _ _ _ _ _ => pd_op op_addA ok_add (pd_lst (zaB (pd_ix (zaA (i := 1) rfl (by first | exact Or.inl rfl | exact Or.inr (Or.inl rfl) | exact Or.inr (Or.inr rfl))) (zaJ)) (zaE))) (zaA (i := 3) rfl (by first | exact Or.inl rfl | exact Or.inr (Or.inl rfl) | exact Or.inr (Or.inr rfl))))) (zaF (pds_ret (pd_catG (i := 2) hB (by decide) rfl (by first | exact Or.inl rfl | exact Or.inr (Or.inl rfl) | exact Or.inr (Or.inr rfl)) (pd_lcP (t := .one 3) (own := [("rest", 3)]) rfl sc_mixed.nd (pdi_lst (zaH g_mixed (hr.mono (by omega)) tk rfl (pav_v (pd_sl (zaA (i := 0) rfl (by first | exact Or.inl rfl | exact Or.inr (Or.inl rfl) | exact Or.inr (Or.inr rfl))) (pdo_some (zaJ)) pdo_none) (pav_v (zaA (i := 1) rfl (by first | exact Or.inl rfl | exact Or.inr (Or.inl rfl) | exact Or.inr (Or.inr rfl))) (pav_nil))))) (blkOk_by (N := N_mixed) (sc := defScope s_mixed) (by decide +kernel)) rfl rfl (fun _ _ _ _ _ => pgh_one (i := 3) sc_mixed.nd rfl (by first | exact Or.inl rfl | exact Or.inr rfl)) (fun _ _ _ _ _ _ => pdts_nil) (fun _ _ _ _ _ _ => pd_op op_addA ok_add (pd_lst (zaB (pd_ix (zaA (i := 0) rfl (by first | exact Or.inl rfl | exact Or.inr (Or.inl rfl) | exact Or.inr (Or.inr rfl))) (zaJ)) (zaE))) (zaA (i := 3) rfl (by first | exact Or.inl rfl | exact Or.inr (Or.inl rfl) | exact Or.inr (Or.inr rfl)))))))))) (p_mixed n)
theorem d_all_shortest_routes (FF : Fun K "all_shortest_routes" "all_shortest_routes" s_all_shortest_routes fa fd) (Z : Zs K mg ) (X_LimitExceeded : ErrX K mg T "LimitExceeded" 10) (g_shortest_route : Cal P w K mg base T "shortest_route" 8 ["start", "goal"] [] C_shortest_route) (g_binomial : Cal P w K mg base T "binomial" 2 ["size", "chosen"] [] C_binomial) (g_mixed : Cal P w K mg base T "mixed" 259 ["takes", "puts"] [] C_mixed) : Def P w K mg base T 260 fa fd ["start", "goal"] [] C_all_shortest_routes :=
  fnD (k := 259) FF sc_all_shortest_routes rfl (fun cdv hcd A outer s H E B W hr tk po hB => zaD (pds_set (i := 2) sc_all_shortest_routes.nd rfl (by first | exact Or.inl rfl | exact Or.inr rfl) (by decide) (zaH g_shortest_route (hr.mono (by decide)) tk rfl (pav_v (zaA (i := 0) rfl (by first | exact Or.inl rfl | exact Or.inr (Or.inl rfl) | exact Or.inr (Or.inr rfl))) (pav_v (zaA (i := 1) rfl (by first | exact Or.inl rfl | exact Or.inr (Or.inl rfl) | exact Or.inr (Or.inr rfl))) (pav_nil))))) (zaD (pds_setLc (i := 3) (t := .one 4) (own := [("step", 4)]) rfl sc_all_shortest_routes.nd rfl rfl (by decide) (sw_true rfl rfl rfl (by decide +kernel)) (pdi_lst (zaA (i := 2) rfl (by first | exact Or.inl rfl | exact Or.inr (Or.inl rfl) | exact Or.inr (Or.inr rfl)))) (blkOk_by (N := N_all_shortest_routes) (sc := defScope s_all_shortest_routes) (by decide +kernel)) rfl rfl (fun _ _ _ _ _ => pgh_one (i := 4) sc_all_shortest_routes.nd rfl (by first | exact Or.inl rfl | exact Or.inr rfl)) (fun _ _ _ _ _ _ => pdts_one (pdt_cmp (op_eqA hr.units) ok_eq (pd_ix (zaA (i := 4) rfl (by first | exact Or.inl rfl | exact Or.inr (Or.inl rfl) | exact Or.inr (Or.inr rfl))) (zaJ)) (pd_str (l := [45]) rfl (by decide)) (nomark _))) (fun _ _ _ _ _ _ => zaA (i := 4) rfl (by first | exact Or.inl rfl | exact Or.inr (Or.inl rfl) | exact Or.inr (Or.inr rfl)))) (zaD (pds_if (pdt_cmp op_gt ok_gt (zaH g_binomial (hr.mono (by decide)) tk rfl (pav_v (pd_callB ok_len call_lenA rfl Z.z_len (by rfl) (zaB (zaA (i := 2) rfl (by first | exact Or.inl rfl | exact Or.inr (Or.inl rfl) | exact Or.inr (Or.inr rfl))) (zaE))) (pav_v (pd_callB ok_len call_lenA rfl Z.z_len (by rfl) (zaB (zaA (i := 3) rfl (by first | exact Or.inl rfl | exact Or.inr (Or.inl rfl) | exact Or.inr (Or.inr rfl))) (zaE))) (pav_nil)))) (pd_intG rfl Z.c_MAX_LISTED) (nomark _)) (zaF (pds_raiseC (k := 1) X_LimitExceeded rfl tk (hr.mono (by decide)) (pd_intG rfl Z.c_MAX_LISTED) rfl)) (pds_nil)) (zaF (pds_ret (zaH g_mixed (hr.mono (by decide)) tk rfl (pav_v (zaA (i := 3) rfl (by first | exact Or.inl rfl | exact Or.inr (Or.inl rfl) | exact Or.inr (Or.inr rfl))) (pav_v (pd_sl (zaA (i := 2) rfl (by first | exact Or.inl rfl | exact Or.inr (Or.inl rfl) | exact Or.inr (Or.inr rfl))) (pdo_some (pd_callB ok_len call_lenA rfl Z.z_len (by rfl) (zaB (zaA (i := 3) rfl (by first | exact Or.inl rfl | exact Or.inr (Or.inl rfl) | exact Or.inr (Or.inr rfl))) (zaE)))) pdo_none) (pav_nil))))))))) p_all_shortest_routes
theorem d__law_go (FF : Fun K "_law_go" "_law_go" s__law_go fa fd) (Z : Zs K mg ) : Def P w K mg base T 2 fa fd ["_law_queue", "_law_steps"] [] C__law_go :=
  fnD (k := 1) FF sc__law_go rfl (fun cdv hcd A outer s H E B W hr tk po hB => zaD (pds_for po rfl (pdi_enum rfl Z.z_enumerate (zaA (i := 1) rfl (by first | exact Or.inl rfl | exact Or.inr (Or.inl rfl) | exact Or.inr (Or.inr rfl)))) (pdg_tup rfl (pdgs_cons (i := 2) sc__law_go.nd rfl (by first | exact Or.inl rfl | exact Or.inr rfl) (by decide) (pdgs_cons (i := 3) sc__law_go.nd rfl (by first | exact Or.inl rfl | exact Or.inr rfl) (by decide) (pdgs_nil)))) (zaF (pds_if (pdt_cmp (op_eqA hr.units) ok_eq (pd_ix (zaA (i := 3) rfl (by first | exact Or.inl rfl | exact Or.inr (Or.inl rfl) | exact Or.inr (Or.inr rfl))) (zaJ)) (pd_str (l := [43]) rfl (by decide)) (nomark _)) (zaF (pds_set (i := 0) sc__law_go.nd rfl (by first | exact Or.inl rfl | exact Or.inr rfl) (by decide) (pd_op op_addA ok_add (zaA (i := 0) rfl (by first | exact Or.inl rfl | exact Or.inr (Or.inl rfl) | exact Or.inr (Or.inr rfl))) (pd_ix (zaA (i := 3) rfl (by first | exact Or.inl rfl | exact Or.inr (Or.inl rfl) | exact Or.inr (Or.inr rfl))) (zaJ))))) (zaF (pds_if (pdt_w (pdw_or (pdt_cmp (op_eqA hr.units) ok_eq (zaA (i := 0) rfl (by first | exact Or.inl rfl | exact Or.inr (Or.inl rfl) | exact Or.inr (Or.inr rfl))) (pd_str (l := []) rfl (by decide)) (nomark _)) (pdw_or1 (pdt_cmp (op_neA hr.units) ok_ne (pd_ix (zaA (i := 0) rfl (by first | exact Or.inl rfl | exact Or.inr (Or.inl rfl) | exact Or.inr (Or.inr rfl))) (zaJ)) (pd_ix (zaA (i := 3) rfl (by first | exact Or.inl rfl | exact Or.inr (Or.inl rfl) | exact Or.inr (Or.inr rfl))) (zaJ)) (nomark _))))) (zaF (pds_ret (pd_tup (zaB (pd_non) (zaB (zaA (i := 2) rfl (by first | exact Or.inl rfl | exact Or.inr (Or.inl rfl) | exact Or.inr (Or.inr rfl))) (zaE)))))) (zaF (pds_if (pdt_cmp (op_eqA hr.units) ok_eq (pd_ix (zaA (i := 3) rfl (by first | exact Or.inl rfl | exact Or.inr (Or.inl rfl) | exact Or.inr (Or.inr rfl))) (zaJ)) (pd_str (l := [45]) rfl (by decide)) (nomark _)) (zaF (pds_set (i := 0) sc__law_go.nd rfl (by first | exact Or.inl rfl | exact Or.inr rfl) (by decide) (pd_sl (zaA (i := 0) rfl (by first | exact Or.inl rfl | exact Or.inr (Or.inl rfl) | exact Or.inr (Or.inr rfl))) (pdo_some (zaJ)) pdo_none))) (pds_nil)))))))) (zaF (pds_ret (pd_tup (zaB (zaA (i := 0) rfl (by first | exact Or.inl rfl | exact Or.inr (Or.inl rfl) | exact Or.inr (Or.inr rfl))) (zaB (pd_non) (zaE))))))) p__law_go
theorem d__law_long (FF : Fun K "_law_long" "_law_long" s__law_long fa fd) (Z : Zs K mg ) (g__law_word : Cal P w K mg base T "_law_word" 3 ["_law_pool", "_law_letters", "_law_most"] [0] C__law_word) (g__law_overlaps : Cal P w K mg base T "_law_overlaps" 2 ["_law_one", "_law_other"] [] C__law_overlaps) (g_overlaps : Cal P w K mg base T "overlaps" 6 ["one", "other"] [] C_overlaps) (g_distance : Cal P w K mg base T "distance" 7 ["start", "goal"] [] C_distance) (g_shortest_route : Cal P w K mg base T "shortest_route" 8 ["start", "goal"] [] C_shortest_route) (g__law_go : Cal P w K mg base T "_law_go" 2 ["_law_queue", "_law_steps"] [] C__law_go) : Def P w K mg base T 9 fa fd ["_law_pool"] [0] C__law_long :=
  fnD (k := 8) FF sc__law_long rfl (fun cdv hcd A outer s H E B W hr tk po hB => zaD (pds_set (i := 1) sc__law_long.nd rfl (by first | exact Or.inl rfl | exact Or.inr rfl) (by decide) (pd_op op_mulA ok_mul (zaH g__law_word (hr.mono (by decide)) tk rfl (pav_m (i := 0) rfl (by first | exact Or.inl rfl | exact Or.inr (Or.inl rfl) | exact Or.inr (Or.inr rfl)) (pav_v (pd_str (l := [97, 98]) rfl (by decide)) (pav_v (zaJ) (pav_nil))))) (zaJ))) (zaD (pds_par (i := 2) (j := 3) rfl sc__law_long.nd rfl rfl (by decide) (by decide) (by decide) rfl rfl (zaB (pd_op op_addA ok_add (zaH g__law_word (hr.mono (by decide)) tk rfl (pav_m (i := 0) rfl (by first | exact Or.inl rfl | exact Or.inr (Or.inl rfl) | exact Or.inr (Or.inr rfl)) (pav_v (pd_str (l := [99, 100]) rfl (by decide)) (pav_v (zaJ) (pav_nil))))) (zaA (i := 1) rfl (by first | exact Or.inl rfl | exact Or.inr (Or.inl rfl) | exact Or.inr (Or.inr rfl)))) (zaB (pd_op op_addA ok_add (zaA (i := 1) rfl (by first | exact Or.inl rfl | exact Or.inr (Or.inl rfl) | exact Or.inr (Or.inr rfl))) (zaH g__law_word (hr.mono (by decide)) tk rfl (pav_m (i := 0) rfl (by first | exact Or.inl rfl | exact Or.inr (Or.inl rfl) | exact Or.inr (Or.inr rfl)) (pav_v (pd_str (l := [101, 102, 103]) rfl (by decide)) (pav_v (zaJ) (pav_nil)))))) zaE))) (zaD (pds_set (i := 4) sc__law_long.nd rfl (by first | exact Or.inl rfl | exact Or.inr rfl) (by decide) (zaH g__law_overlaps (hr.mono (by decide)) tk rfl (pav_v (zaA (i := 2) rfl (by first | exact Or.inl rfl | exact Or.inr (Or.inl rfl) | exact Or.inr (Or.inr rfl))) (pav_v (zaA (i := 3) rfl (by first | exact Or.inl rfl | exact Or.inr (Or.inl rfl) | exact Or.inr (Or.inr rfl))) (pav_nil))))) (zaD (pds_if (pdt_w (pdw_or (pdt_cmp (op_neA hr.units) ok_ne (zaH g_overlaps (hr.mono (by decide)) tk rfl (pav_v (zaA (i := 2) rfl (by first | exact Or.inl rfl | exact Or.inr (Or.inl rfl) | exact Or.inr (Or.inr rfl))) (pav_v (zaA (i := 3) rfl (by first | exact Or.inl rfl | exact Or.inr (Or.inl rfl) | exact Or.inr (Or.inr rfl))) (pav_nil)))) (zaA (i := 4) rfl (by first | exact Or.inl rfl | exact Or.inr (Or.inl rfl) | exact Or.inr (Or.inr rfl))) (nomark _)) (pdw_or1 (pdt_cmp (op_neA hr.units) ok_ne (zaH g_distance (hr.mono (by decide)) tk rfl (pav_v (zaA (i := 2) rfl (by first | exact Or.inl rfl | exact Or.inr (Or.inl rfl) | exact Or.inr (Or.inr rfl))) (pav_v (zaA (i := 3) rfl (by first | exact Or.inl rfl | exact Or.inr (Or.inl rfl) | exact Or.inr (Or.inr rfl))) (pav_nil)))) (pd_op op_sub ok_sub (pd_op op_addA ok_add (pd_callB ok_len call_lenA rfl Z.z_len (by rfl) (zaB (zaA (i := 2) rfl (by first | exact Or.inl rfl | exact Or.inr (Or.inl rfl) | exact Or.inr (Or.inr rfl))) (zaE))) (pd_callB ok_len call_lenA rfl Z.z_len (by rfl) (zaB (zaA (i := 3) rfl (by first | exact Or.inl rfl | exact Or.inr (Or.inl rfl) | exact Or.inr (Or.inr rfl))) (zaE)))) (pd_op op_mulA ok_mul (zaJ) (pd_ix (zaA (i := 4) rfl (by first | exact Or.inl rfl | exact Or.inr (Or.inl rfl) | exact Or.inr (Or.inr rfl))) (pd_un un_neg ok_neg (zaJ))))) (nomark _))))) (zaF (pds_ret (pd_bl))) (pds_nil)) (zaD (pds_set (i := 5) sc__law_long.nd rfl (by first | exact Or.inl rfl | exact Or.inr rfl) (by decide) (zaH g_shortest_route (hr.mono (by decide)) tk rfl (pav_v (zaA (i := 2) rfl (by first | exact Or.inl rfl | exact Or.inr (Or.inl rfl) | exact Or.inr (Or.inr rfl))) (pav_v (zaA (i := 3) rfl (by first | exact Or.inl rfl | exact Or.inr (Or.inl rfl) | exact Or.inr (Or.inr rfl))) (pav_nil))))) (zaF (pds_ret (pd_and (pd_cmp (op_eqA hr.units) ok_eq (pd_callB ok_len call_lenA rfl Z.z_len (by rfl) (zaB (zaA (i := 5) rfl (by first | exact Or.inl rfl | exact Or.inr (Or.inl rfl) | exact Or.inr (Or.inr rfl))) (zaE))) (zaH g_distance (hr.mono (by decide)) tk rfl (pav_v (zaA (i := 2) rfl (by first | exact Or.inl rfl | exact Or.inr (Or.inl rfl) | exact Or.inr (Or.inr rfl))) (pav_v (zaA (i := 3) rfl (by first | exact Or.inl rfl | exact Or.inr (Or.inl rfl) | exact Or.inr (Or.inr rfl))) (pav_nil)))) (nomark _)) (pd_one (pd_cmp (op_eqA hr.units) ok_eq (zaH g__law_go (hr.mono (by decide)) tk rfl (pav_v (zaA (i := 2) rfl (by first | exact Or.inl rfl | exact Or.inr (Or.inl rfl) | exact Or.inr (Or.inr rfl))) (pav_v (zaA (i := 5) rfl (by first | exact Or.inl rfl | exact Or.inr (Or.inl rfl) | exact Or.inr (Or.inr rfl))) (pav_nil)))) (pd_tup (zaB (zaA (i := 3) rfl (by first | exact Or.inl rfl | exact Or.inr (Or.inl rfl) | exact Or.inr (Or.inr rfl))) (zaB (pd_non) (zaE)))) (nomark _))))))))))) p__law_long
theorem d_is_step (FF : Fun K "is_step" "is_step" s_is_step fa fd) (Z : Zs K mg ) : Def P w K mg base T 2 fa fd ["value"] [] C_is_step :=
  fnD (k := 1) FF sc_is_step rfl (fun cdv hcd A outer s H E B W hr tk po hB => zaF (pds_ret (pd_and (pd_isi (t := .str) (by rfl) rfl Z.z_isinstance rfl Z.z_str (zaA (i := 0) rfl (by first | exact Or.inl rfl | exact Or.inr (Or.inl rfl) | exact Or.inr (Or.inr rfl)))) (pd_and (pd_cmp (op_eqA hr.units) ok_eq (pd_callB ok_len call_lenA rfl Z.z_len (by rfl) (zaB (zaA (i := 0) rfl (by first | exact Or.inl rfl | exact Or.inr (Or.inl rfl) | exact Or.inr (Or.inr rfl))) (zaE))) (zaJ) (nomark _)) (pd_and (pd_cmp op_inA ok_in (pd_ix (zaA (i := 0) rfl (by first | exact Or.inl rfl | exact Or.inr (Or.inl rfl) | exact Or.inr (Or.inr rfl))) (zaJ)) (pd_str (l := [43, 45]) rfl (by decide)) (by rfl)) (pd_one (pd_cmp op_inA ok_in (pd_ix (zaA (i := 0) rfl (by first | exact Or.inl rfl | exact Or.inr (Or.inl rfl) | exact Or.inr (Or.inr rfl))) (zaJ)) (pd_strG rfl Z.c_ITEMS (by decide)) (by rfl)))))))) p_is_step
theorem d_first_invalid (FF : Fun K "first_invalid" "first_invalid" s_first_invalid fa fd) (Z : Zs K mg ) (g_is_step : Cal P w K mg base T "is_step" 2 ["value"] [] C_is_step) : Def P w K mg base T 3 fa fd ["value"] [] C_first_invalid :=
  fnD (k := 2) FF sc_first_invalid rfl (fun cdv hcd A outer s H E B W hr tk po hB => zaD (pds_if (pdt_w (pdw_or (pdt_not (pdt_val (pd_isi (t := .list) (by rfl) rfl Z.z_isinstance rfl Z.z_list (zaA (i := 0) rfl (by first | exact Or.inl rfl | exact Or.inr (Or.inl rfl) | exact Or.inr (Or.inr rfl)))))) (pdw_or1 (pdt_cmp op_gt ok_gt (pd_callB ok_len call_lenA rfl Z.z_len (by rfl) (zaB (zaA (i := 0) rfl (by first | exact Or.inl rfl | exact Or.inr (Or.inl rfl) | exact Or.inr (Or.inr rfl))) (zaE))) (pd_intG rfl Z.c_MAX_STEPS) (nomark _))))) (zaF (pds_ret (pd_tup (zaB (pd_non) (zaE))))) (pds_nil)) (zaD (pds_for po rfl (pdi_enum rfl Z.z_enumerate (zaA (i := 0) rfl (by first | exact Or.inl rfl | exact Or.inr (Or.inl rfl) | exact Or.inr (Or.inr rfl)))) (pdg_tup rfl (pdgs_cons (i := 1) sc_first_invalid.nd rfl (by first | exact Or.inl rfl | exact Or.inr rfl) (by decide) (pdgs_cons (i := 2) sc_first_invalid.nd rfl (by first | exact Or.inl rfl | exact Or.inr rfl) (by decide) (pdgs_nil)))) (zaF (pds_if (pdt_not (pdt_val (zaH g_is_step (hr.mono (by decide)) tk rfl (pav_v (zaA (i := 2) rfl (by first | exact Or.inl rfl | exact Or.inr (Or.inl rfl) | exact Or.inr (Or.inr rfl))) (pav_nil))))) (zaF (pds_ret (pd_tup (zaB (zaA (i := 1) rfl (by first | exact Or.inl rfl | exact Or.inr (Or.inl rfl) | exact Or.inr (Or.inr rfl))) (zaE))))) (pds_nil)))) (zaF (pds_ret (pd_non))))) p_first_invalid
theorem d_is_sequence (FF : Fun K "is_sequence" "is_sequence" s_is_sequence fa fd) (Z : Zs K mg ) (g_first_invalid : Cal P w K mg base T "first_invalid" 3 ["value"] [] C_first_invalid) : Def P w K mg base T 4 fa fd ["value"] [] C_is_sequence :=
  fnD (k := 3) FF sc_is_sequence rfl (fun cdv hcd A outer s H E B W hr tk po hB => zaF (pds_ret (pd_isN (zaH g_first_invalid (hr.mono (by decide)) tk rfl (pav_v (zaA (i := 0) rfl (by first | exact Or.inl rfl | exact Or.inr (Or.inl rfl) | exact Or.inr (Or.inr rfl))) (pav_nil)))))) p_is_sequence
theorem d_execute (FF : Fun K "execute" "execute" s_execute fa fd) (Z : Zs K mg ) : Def P w K mg base T 2 fa fd ["queue", "steps"] [] C_execute :=
  fnD (k := 1) FF sc_execute rfl (fun cdv hcd A outer s H E B W hr tk po hB => zaD (pds_for po rfl (pdi_enum rfl Z.z_enumerate (zaA (i := 1) rfl (by first | exact Or.inl rfl | exact Or.inr (Or.inl rfl) | exact Or.inr (Or.inr rfl)))) (pdg_tup rfl (pdgs_cons (i := 2) sc_execute.nd rfl (by first | exact Or.inl rfl | exact Or.inr rfl) (by decide) (pdgs_cons (i := 3) sc_execute.nd rfl (by first | exact Or.inl rfl | exact Or.inr rfl) (by decide) (pdgs_nil)))) (zaF (pds_if (pdt_cmp (op_eqA hr.units) ok_eq (pd_ix (zaA (i := 3) rfl (by first | exact Or.inl rfl | exact Or.inr (Or.inl rfl) | exact Or.inr (Or.inr rfl))) (zaJ)) (pd_str (l := [43]) rfl (by decide)) (nomark _)) (zaF (pds_aug (i := 0) sc_execute.nd rfl (by first | exact Or.inl rfl | exact Or.inr rfl) (by decide) (pd_ix (zaA (i := 3) rfl (by first | exact Or.inl rfl | exact Or.inr (Or.inl rfl) | exact Or.inr (Or.inr rfl))) (zaJ)) (pip_of iop_addA) ok_iadd)) (zaF (pds_if (pdt_cmp (op_eqA hr.units) ok_eq (pd_sl (zaA (i := 0) rfl (by first | exact Or.inl rfl | exact Or.inr (Or.inl rfl) | exact Or.inr (Or.inr rfl))) pdo_none (pdo_some (zaJ))) (pd_ix (zaA (i := 3) rfl (by first | exact Or.inl rfl | exact Or.inr (Or.inl rfl) | exact Or.inr (Or.inr rfl))) (zaJ)) (nomark _)) (zaF (pds_set (i := 0) sc_execute.nd rfl (by first | exact Or.inl rfl | exact Or.inr rfl) (by decide) (pd_sl (zaA (i := 0) rfl (by first | exact Or.inl rfl | exact Or.inr (Or.inl rfl) | exact Or.inr (Or.inr rfl))) (pdo_some (zaJ)) pdo_none))) (zaF (pds_ret (pd_tup (zaB (zaA (i := 0) rfl (by first | exact Or.inl rfl | exact Or.inr (Or.inl rfl) | exact Or.inr (Or.inr rfl))) (zaB (zaA (i := 2) rfl (by first | exact Or.inl rfl | exact Or.inr (Or.inl rfl) | exact Or.inr (Or.inr rfl))) (zaE))))))))))) (zaF (pds_ret (pd_tup (zaB (zaA (i := 0) rfl (by first | exact Or.inl rfl | exact Or.inr (Or.inl rfl) | exact Or.inr (Or.inr rfl))) (zaB (pd_non) (zaE))))))) p_execute
theorem d_is_route (FF : Fun K "is_route" "is_route" s_is_route fa fd) (Z : Zs K mg ) (g_check_queues : Cal P w K mg base T "check_queues" 5 ["one", "other"] [] C_check_queues) (g_is_sequence : Cal P w K mg base T "is_sequence" 4 ["value"] [] C_is_sequence) (g_execute : Cal P w K mg base T "execute" 2 ["queue", "steps"] [] C_execute) : Def P w K mg base T 6 fa fd ["start", "goal", "value"] [] C_is_route :=
  fnD (k := 5) FF sc_is_route rfl (fun cdv hcd A outer s H E B W hr tk po hB => zaD (pds_expr (zaH g_check_queues (hr.mono (by decide)) tk rfl (pav_v (zaA (i := 0) rfl (by first | exact Or.inl rfl | exact Or.inr (Or.inl rfl) | exact Or.inr (Or.inr rfl))) (pav_v (zaA (i := 1) rfl (by first | exact Or.inl rfl | exact Or.inr (Or.inl rfl) | exact Or.inr (Or.inr rfl))) (pav_nil))))) (zaF (pds_ret (pd_and (zaH g_is_sequence (hr.mono (by decide)) tk rfl (pav_v (zaA (i := 2) rfl (by first | exact Or.inl rfl | exact Or.inr (Or.inl rfl) | exact Or.inr (Or.inr rfl))) (pav_nil))) (pd_one (pd_cmp (op_eqA hr.units) ok_eq (zaH g_execute (hr.mono (by decide)) tk rfl (pav_v (zaA (i := 0) rfl (by first | exact Or.inl rfl | exact Or.inr (Or.inl rfl) | exact Or.inr (Or.inr rfl))) (pav_v (zaA (i := 2) rfl (by first | exact Or.inl rfl | exact Or.inr (Or.inl rfl) | exact Or.inr (Or.inr rfl))) (pav_nil)))) (pd_tup (zaB (zaA (i := 1) rfl (by first | exact Or.inl rfl | exact Or.inr (Or.inl rfl) | exact Or.inr (Or.inr rfl))) (zaB (pd_non) (zaE)))) (nomark _))))))) p_is_route
theorem d__law_all {cc PP : Addr}  (FF : Fun K "_law_all" "_law_all" s__law_all fa fd) (Z : Zs K mg ) (TB : LamX.TabB base mg cc PP) (hco : fd.code = .ref cc) (TM : (PP, (("_law_all" ++ ".<locals>.") ++ "<lambda>" : Str)) ∈ T.tabs) (TO : ∀ z ∈ T.tabs, z.1 = PP → z.2 = (("_law_all" ++ ".<locals>.") ++ "<lambda>" : Str)) : Def P w K mg base T 5 fa fd ["_law_one", "_law_other", "_law_size"] [] C__law_all :=
  fnD (k := 4) FF sc__law_all rfl (fun cdv hcd A outer s H E B W hr tk po hB => zaD (pds_par (i := 3) (j := 4) rfl sc__law_all.nd rfl rfl (by decide) (by decide) (by decide) rfl rfl (zaB (pd_lst zaE) (zaB (zaA (i := 2) rfl (by first | exact Or.inl rfl | exact Or.inr (Or.inl rfl) | exact Or.inr (Or.inr rfl))) zaE))) (zaD (pds_set (i := 5) sc__law_all.nd rfl (by first | exact Or.inl rfl | exact Or.inr rfl) (by decide) (pd_lst (zaB (pd_tup (zaB (pd_lst zaE) (zaB (zaA (i := 0) rfl (by first | exact Or.inl rfl | exact Or.inr (Or.inl rfl) | exact Or.inr (Or.inr rfl))) (zaE)))) (zaE)))) (zaD (pds_for po rfl (pdi_rng1 rfl Z.z_range (zaA (i := 4) rfl (by first | exact Or.inl rfl | exact Or.inr (Or.inl rfl) | exact Or.inr (Or.inr rfl)))) (pdg_name (i := 6) sc__law_all.nd rfl (by first | exact Or.inl rfl | exact Or.inr rfl) (by decide)) (zaD (pds_setO (i := 7) sc__law_all.nd rfl (by first | exact Or.inl rfl | exact Or.inr rfl) (by decide) (pd_lst zaE)) (zaD (pds_for po rfl (pdi_lst (zaA (i := 5) rfl (by first | exact Or.inl rfl | exact Or.inr (Or.inl rfl) | exact Or.inr (Or.inr rfl)))) (pdg_tup rfl (pdgs_cons (i := 9) sc__law_all.nd rfl (by first | exact Or.inl rfl | exact Or.inr rfl) (by decide) (pdgs_cons (i := 10) sc__law_all.nd rfl (by first | exact Or.inl rfl | exact Or.inr rfl) (by decide) (pdgs_nil)))) (zaD (pds_for po rfl (pdi_str (pd_str (l := [97, 98]) rfl (by decide))) (pdg_name (i := 11) sc__law_all.nd rfl (by first | exact Or.inl rfl | exact Or.inr rfl) (by decide)) (zaF (pds_app (i := 7) rfl (by first | exact Or.inl rfl | exact Or.inr (Or.inl rfl) | exact Or.inr (Or.inr rfl)) (pd_tup (zaB (pd_op op_addA ok_add (zaA (i := 9) rfl (by first | exact Or.inl rfl | exact Or.inr (Or.inl rfl) | exact Or.inr (Or.inr rfl))) (pd_lst (zaB (pd_op op_addA ok_add (pd_str (l := [43]) rfl (by decide)) (zaA (i := 11) rfl (by first | exact Or.inl rfl | exact Or.inr (Or.inl rfl) | exact Or.inr (Or.inr rfl)))) (zaE)))) (zaB (pd_op op_addA ok_add (zaA (i := 10) rfl (by first | exact Or.inl rfl | exact Or.inr (Or.inl rfl) | exact Or.inr (Or.inr rfl))) (zaA (i := 11) rfl (by first | exact Or.inl rfl | exact Or.inr (Or.inl rfl) | exact Or.inr (Or.inr rfl)))) (zaE))))))) (zaF (pds_if (pdt_cmp (op_neA hr.units) ok_ne (zaA (i := 10) rfl (by first | exact Or.inl rfl | exact Or.inr (Or.inl rfl) | exact Or.inr (Or.inr rfl))) (pd_str (l := []) rfl (by decide)) (nomark _)) (zaF (pds_app (i := 7) rfl (by first | exact Or.inl rfl | exact Or.inr (Or.inl rfl) | exact Or.inr (Or.inr rfl)) (pd_tup (zaB (pd_op op_addA ok_add (zaA (i := 9) rfl (by first | exact Or.inl rfl | exact Or.inr (Or.inl rfl) | exact Or.inr (Or.inr rfl))) (pd_lst (zaB (pd_op op_addA ok_add (pd_str (l := [45]) rfl (by decide)) (pd_ix (zaA (i := 10) rfl (by first | exact Or.inl rfl | exact Or.inr (Or.inl rfl) | exact Or.inr (Or.inr rfl))) (zaJ))) (zaE)))) (zaB (pd_sl (zaA (i := 10) rfl (by first | exact Or.inl rfl | exact Or.inr (Or.inl rfl) | exact Or.inr (Or.inr rfl))) (pdo_some (zaJ)) pdo_none) (zaE)))))) (pds_nil))))) (zaD (pds_set (i := 8) sc__law_all.nd rfl (by first | exact Or.inl rfl | exact Or.inr rfl) (by decide) (pd_op op_sub ok_sub (pd_op op_sub ok_sub (zaA (i := 4) rfl (by first | exact Or.inl rfl | exact Or.inr (Or.inl rfl) | exact Or.inr (Or.inr rfl))) (zaA (i := 6) rfl (by first | exact Or.inl rfl | exact Or.inr (Or.inl rfl) | exact Or.inr (Or.inr rfl)))) (zaJ))) (zaF (pds_setLc (i := 5) (t := .tup [9, 10]) (own := [("_law_steps", 9), ("_law_queue", 10)]) rfl sc__law_all.nd rfl rfl (by decide) (sw_true rfl rfl rfl (by decide +kernel)) (pdi_lst (zaA (i := 7) rfl (by first | exact Or.inl rfl | exact Or.inr (Or.inl rfl) | exact Or.inr (Or.inr rfl)))) (blkOk_by (N := N__law_all) (sc := defScope s__law_all) (by decide +kernel)) rfl rfl (fun _ _ _ _ _ => pgh_tup rfl (pgh_cons (i := 9) sc__law_all.nd rfl (by first | exact Or.inl rfl | exact Or.inr rfl) (pgh_cons (i := 10) sc__law_all.nd rfl (by first | exact Or.inl rfl | exact Or.inr rfl) (pgh_nil)))) (fun _ _ _ _ _ _ => pdts_one (pdt_cmp op_le ok_le (pd_callB ok_abs call_abs rfl Z.z_abs (by rfl) (zaB (pd_op op_sub ok_sub (pd_callB ok_len call_lenA rfl Z.z_len (by rfl) (zaB (zaA (i := 10) rfl (by first | exact Or.inl rfl | exact Or.inr (Or.inl rfl) | exact Or.inr (Or.inr rfl))) (zaE))) (pd_callB ok_len call_lenA rfl Z.z_len (by rfl) (zaB (zaA (i := 1) rfl (by first | exact Or.inl rfl | exact Or.inr (Or.inl rfl) | exact Or.inr (Or.inr rfl))) (zaE)))) (zaE))) (zaA (i := 8) rfl (by first | exact Or.inl rfl | exact Or.inr (Or.inl rfl) | exact Or.inr (Or.inr rfl))) (nomark _))) (fun _ _ _ _ _ _ => pd_tup (zaB (zaA (i := 9) rfl (by first | exact Or.inl rfl | exact Or.inr (Or.inl rfl) | exact Or.inr (Or.inr rfl))) (zaB (zaA (i := 10) rfl (by first | exact Or.inl rfl | exact Or.inr (Or.inl rfl) | exact Or.inr (Or.inr rfl))) (zaE)))))))))) (zaD (pds_setLc (i := 3) (t := .tup [9, 10]) (own := [("_law_steps", 9), ("_law_queue", 10)]) rfl sc__law_all.nd rfl rfl (by decide) (sw_true rfl rfl rfl (by decide +kernel)) (pdi_lst (zaA (i := 5) rfl (by first | exact Or.inl rfl | exact Or.inr (Or.inl rfl) | exact Or.inr (Or.inr rfl)))) (blkOk_by (N := N__law_all) (sc := defScope s__law_all) (by decide +kernel)) rfl rfl (fun _ _ _ _ _ => pgh_tup rfl (pgh_cons (i := 9) sc__law_all.nd rfl (by first | exact Or.inl rfl | exact Or.inr rfl) (pgh_cons (i := 10) sc__law_all.nd rfl (by first | exact Or.inl rfl | exact Or.inr rfl) (pgh_nil)))) (fun _ _ _ _ _ _ => pdts_one (pdt_cmp (op_eqA hr.units) ok_eq (zaA (i := 10) rfl (by first | exact Or.inl rfl | exact Or.inr (Or.inl rfl) | exact Or.inr (Or.inr rfl))) (zaA (i := 1) rfl (by first | exact Or.inl rfl | exact Or.inr (Or.inl rfl) | exact Or.inr (Or.inr rfl))) (nomark _))) (fun _ _ _ _ _ _ => zaA (i := 9) rfl (by first | exact Or.inl rfl | exact Or.inr (Or.inl rfl) | exact Or.inr (Or.inr rfl)))) (zaF (pds_ret (pd_srtH (k := 1) hr.units (hr.mono (by decide)) rfl ⟨TB, hcd.symm.trans hco, TM, TO⟩ rfl Z.z_sorted (NdefX.nscope_by (by decide +kernel)) rfl (fun _ _ _ _ => rfl) rfl rfl rfl rfl (fun _ _ _ _ _ => rfl) (zaA (i := 3) rfl (by first | exact Or.inl rfl | exact Or.inr (Or.inl rfl) | exact Or.inr (Or.inr rfl)))))))))) p__law_all
theorem d_law (FF : Fun K "law" "law" s_law fa fd) (Z : Zs K mg ) (g__law_hand : Cal P w K mg base T "_law_hand" 2 ["_law_script", "_law_k"] [] C__law_hand) (g__law_two : Cal P w K mg base T "_law_two" 4 ["_law_pool"] [0] C__law_two) (g__law_overlaps : Cal P w K mg base T "_law_overlaps" 2 ["_law_one", "_law_other"] [] C__law_overlaps) (g__law_fewest : Cal P w K mg base T "_law_fewest" 3 ["_law_one", "_law_other"] [] C__law_fewest) (g_overlaps : Cal P w K mg base T "overlaps" 6 ["one", "other"] [] C_overlaps) (g_distance : Cal P w K mg base T "distance" 7 ["start", "goal"] [] C_distance) (g_shortest_route : Cal P w K mg base T "shortest_route" 8 ["start", "goal"] [] C_shortest_route) (g_is_route : Cal P w K mg base T "is_route" 6 ["start", "goal", "value"] [] C_is_route) (g_all_shortest_routes : Cal P w K mg base T "all_shortest_routes" 260 ["start", "goal"] [] C_all_shortest_routes) (g__law_all : Cal P w K mg base T "_law_all" 5 ["_law_one", "_law_other", "_law_size"] [] C__law_all) (g__law_long : Cal P w K mg base T "_law_long" 9 ["_law_pool"] [0] C__law_long) : Def P w K mg base T 261 fa fd ["_law_script"] [] lawCon :=
  fnD (k := 260) FF sc_law rfl (fun cdv hcd A outer s H E B W hr tk po hB => zaD (pds_for po rfl (pdi_rng1 rfl Z.z_range (pd_callB ok_max (call_maxA rfl) rfl Z.z_max (by rfl) (zaB (zaJ) (zaB (pd_callB ok_min (call_minA rfl) rfl Z.z_min (by rfl) (zaB (pd_callB ok_len call_lenA rfl Z.z_len (by rfl) (zaB (zaA (i := 0) rfl (by first | exact Or.inl rfl | exact Or.inr (Or.inl rfl) | exact Or.inr (Or.inr rfl))) (zaE))) (zaB (zaJ) (zaE)))) (zaE))))) (pdg_name (i := 1) sc_law.nd rfl (by first | exact Or.inl rfl | exact Or.inr rfl) (by decide)) (zaD (pds_setO (i := 2) sc_law.nd rfl (by first | exact Or.inl rfl | exact Or.inr rfl) (by decide) (zaH g__law_hand (hr.mono (by decide)) tk rfl (pav_v (zaA (i := 0) rfl (by first | exact Or.inl rfl | exact Or.inr (Or.inl rfl) | exact Or.inr (Or.inr rfl))) (pav_v (zaA (i := 1) rfl (by first | exact Or.inl rfl | exact Or.inr (Or.inl rfl) | exact Or.inr (Or.inr rfl))) (pav_nil))))) (zaD (pds_asg (zaH g__law_two (hr.mono (by decide)) tk rfl (pav_m (i := 2) rfl (by first | exact Or.inl rfl | exact Or.inr (Or.inl rfl) | exact Or.inr (Or.inr rfl)) (pav_nil))) (pdg_tup rfl (pdgs_cons (i := 6) sc_law.nd rfl (by first | exact Or.inl rfl | exact Or.inr rfl) (by decide) (pdgs_cons (i := 7) sc_law.nd rfl (by first | exact Or.inl rfl | exact Or.inr rfl) (by decide) (pdgs_nil))))) (zaD (pds_set (i := 3) sc_law.nd rfl (by first | exact Or.inl rfl | exact Or.inr rfl) (by decide) (zaH g__law_overlaps (hr.mono (by decide)) tk rfl (pav_v (zaA (i := 6) rfl (by first | exact Or.inl rfl | exact Or.inr (Or.inl rfl) | exact Or.inr (Or.inr rfl))) (pav_v (zaA (i := 7) rfl (by first | exact Or.inl rfl | exact Or.inr (Or.inl rfl) | exact Or.inr (Or.inr rfl))) (pav_nil))))) (zaD (pds_set (i := 4) sc_law.nd rfl (by first | exact Or.inl rfl | exact Or.inr rfl) (by decide) (zaH g__law_fewest (hr.mono (by decide)) tk rfl (pav_v (zaA (i := 6) rfl (by first | exact Or.inl rfl | exact Or.inr (Or.inl rfl) | exact Or.inr (Or.inr rfl))) (pav_v (zaA (i := 7) rfl (by first | exact Or.inl rfl | exact Or.inr (Or.inl rfl) | exact Or.inr (Or.inr rfl))) (pav_nil))))) (zaD (pds_if (pdt_cmp (op_neA hr.units) ok_ne (pd_callB ok_repr (call_reprA hr.un0 hr.gd) rfl Z.z_repr (by rfl) (zaB (zaH g_overlaps (hr.mono (by decide)) tk rfl (pav_v (zaA (i := 6) rfl (by first | exact Or.inl rfl | exact Or.inr (Or.inl rfl) | exact Or.inr (Or.inr rfl))) (pav_v (zaA (i := 7) rfl (by first | exact Or.inl rfl | exact Or.inr (Or.inl rfl) | exact Or.inr (Or.inr rfl))) (pav_nil)))) (zaE))) (pd_callB ok_repr (call_reprA hr.un0 hr.gd) rfl Z.z_repr (by rfl) (zaB (zaA (i := 3) rfl (by first | exact Or.inl rfl | exact Or.inr (Or.inl rfl) | exact Or.inr (Or.inr rfl))) (zaE))) (nomark _)) (zaF (pds_ret (pd_bl))) (pds_nil)) (zaD (pds_if (pdt_cmp (op_neA hr.units) ok_ne (pd_callB ok_repr (call_reprA hr.un0 hr.gd) rfl Z.z_repr (by rfl) (zaB (zaH g_distance (hr.mono (by decide)) tk rfl (pav_v (zaA (i := 6) rfl (by first | exact Or.inl rfl | exact Or.inr (Or.inl rfl) | exact Or.inr (Or.inr rfl))) (pav_v (zaA (i := 7) rfl (by first | exact Or.inl rfl | exact Or.inr (Or.inl rfl) | exact Or.inr (Or.inr rfl))) (pav_nil)))) (zaE))) (pd_callB ok_repr (call_reprA hr.un0 hr.gd) rfl Z.z_repr (by rfl) (zaB (zaA (i := 4) rfl (by first | exact Or.inl rfl | exact Or.inr (Or.inl rfl) | exact Or.inr (Or.inr rfl))) (zaE))) (nomark _)) (zaF (pds_ret (pd_bl))) (pds_nil)) (zaD (pds_if (pdt_cmp (op_neA hr.units) ok_ne (pd_op op_sub ok_sub (pd_op op_addA ok_add (pd_callB ok_len call_lenA rfl Z.z_len (by rfl) (zaB (zaA (i := 6) rfl (by first | exact Or.inl rfl | exact Or.inr (Or.inl rfl) | exact Or.inr (Or.inr rfl))) (zaE))) (pd_callB ok_len call_lenA rfl Z.z_len (by rfl) (zaB (zaA (i := 7) rfl (by first | exact Or.inl rfl | exact Or.inr (Or.inl rfl) | exact Or.inr (Or.inr rfl))) (zaE)))) (pd_op op_mulA ok_mul (zaJ) (pd_ix (zaA (i := 3) rfl (by first | exact Or.inl rfl | exact Or.inr (Or.inl rfl) | exact Or.inr (Or.inr rfl))) (pd_un un_neg ok_neg (zaJ))))) (zaA (i := 4) rfl (by first | exact Or.inl rfl | exact Or.inr (Or.inl rfl) | exact Or.inr (Or.inr rfl))) (nomark _)) (zaF (pds_ret (pd_bl))) (pds_nil)) (zaD (pds_par (i := 8) (j := 9) rfl sc_law.nd rfl rfl (by decide) (by decide) (by decide) rfl rfl (zaB (pd_op op_sub ok_sub (pd_callB ok_len call_lenA rfl Z.z_len (by rfl) (zaB (zaA (i := 6) rfl (by first | exact Or.inl rfl | exact Or.inr (Or.inl rfl) | exact Or.inr (Or.inr rfl))) (zaE))) (pd_ix (zaA (i := 3) rfl (by first | exact Or.inl rfl | exact Or.inr (Or.inl rfl) | exact Or.inr (Or.inr rfl))) (pd_un un_neg ok_neg (zaJ)))) (zaB (pd_sl (zaA (i := 7) rfl (by first | exact Or.inl rfl | exact Or.inr (Or.inl rfl) | exact Or.inr (Or.inr rfl))) (pdo_some (pd_ix (zaA (i := 3) rfl (by first | exact Or.inl rfl | exact Or.inr (Or.inl rfl) | exact Or.inr (Or.inr rfl))) (pd_un un_neg ok_neg (zaJ)))) pdo_none) zaE))) (zaD (pds_set (i := 5) sc_law.nd rfl (by first | exact Or.inl rfl | exact Or.inr rfl) (by decide) (pd_op op_addA ok_add (pd_lc (t := .one 11) (own := [("_law_item", 11)]) rfl sc_law.nd (pdi_str (pd_sl (zaA (i := 6) rfl (by first | exact Or.inl rfl | exact Or.inr (Or.inl rfl) | exact Or.inr (Or.inr rfl))) pdo_none (pdo_some (zaA (i := 8) rfl (by first | exact Or.inl rfl | exact Or.inr (Or.inl rfl) | exact Or.inr (Or.inr rfl)))))) (blkOk_by (N := N_law) (sc := defScope s_law) (by decide +kernel)) rfl rfl (fun _ _ _ _ _ => pgh_one (i := 11) sc_law.nd rfl (by first | exact Or.inl rfl | exact Or.inr rfl)) (fun _ _ _ _ _ _ => pdts_nil) (fun _ _ _ _ _ _ => pd_op op_addA ok_add (pd_str (l := [45]) rfl (by decide)) (zaA (i := 11) rfl (by first | exact Or.inl rfl | exact Or.inr (Or.inl rfl) | exact Or.inr (Or.inr rfl))))) (pd_lc (t := .one 11) (own := [("_law_item", 11)]) rfl sc_law.nd (pdi_str (zaA (i := 9) rfl (by first | exact Or.inl rfl | exact Or.inr (Or.inl rfl) | exact Or.inr (Or.inr rfl)))) (blkOk_by (N := N_law) (sc := defScope s_law) (by decide +kernel)) rfl rfl (fun _ _ _ _ _ => pgh_one (i := 11) sc_law.nd rfl (by first | exact Or.inl rfl | exact Or.inr rfl)) (fun _ _ _ _ _ _ => pdts_nil) (fun _ _ _ _ _ _ => pd_op op_addA ok_add (pd_str (l := [43]) rfl (by decide)) (zaA (i := 11) rfl (by first | exact Or.inl rfl | exact Or.inr (Or.inl rfl) | exact Or.inr (Or.inr rfl))))))) (zaD (pds_if (pdt_w (pdw_or (pdt_cmp (op_neA hr.units) ok_ne (zaH g_shortest_route (hr.mono (by decide)) tk rfl (pav_v (zaA (i := 6) rfl (by first | exact Or.inl rfl | exact Or.inr (Or.inl rfl) | exact Or.inr (Or.inr rfl))) (pav_v (zaA (i := 7) rfl (by first | exact Or.inl rfl | exact Or.inr (Or.inl rfl) | exact Or.inr (Or.inr rfl))) (pav_nil)))) (zaA (i := 5) rfl (by first | exact Or.inl rfl | exact Or.inr (Or.inl rfl) | exact Or.inr (Or.inr rfl))) (nomark _)) (pdw_or1 (pdt_cmp op_notBl ok_notB (zaH g_is_route (hr.mono (by decide)) tk rfl (pav_v (zaA (i := 6) rfl (by first | exact Or.inl rfl | exact Or.inr (Or.inl rfl) | exact Or.inr (Or.inr rfl))) (pav_v (zaA (i := 7) rfl (by first | exact Or.inl rfl | exact Or.inr (Or.inl rfl) | exact Or.inr (Or.inr rfl))) (pav_v (zaA (i := 5) rfl (by first | exact Or.inl rfl | exact Or.inr (Or.inl rfl) | exact Or.inr (Or.inr rfl))) (pav_nil))))) (pd_bl) (by rfl))))) (zaF (pds_ret (pd_bl))) (pds_nil)) (zaD (pds_if (pdt_cmp op_lt ok_lt (zaA (i := 4) rfl (by first | exact Or.inl rfl | exact Or.inr (Or.inl rfl) | exact Or.inr (Or.inr rfl))) (zaJ) (nomark _)) (zaD (pds_setO (i := 10) sc_law.nd rfl (by first | exact Or.inl rfl | exact Or.inr rfl) (by decide) (zaH g_all_shortest_routes (hr.mono (by decide)) tk rfl (pav_v (zaA (i := 6) rfl (by first | exact Or.inl rfl | exact Or.inr (Or.inl rfl) | exact Or.inr (Or.inr rfl))) (pav_v (zaA (i := 7) rfl (by first | exact Or.inl rfl | exact Or.inr (Or.inl rfl) | exact Or.inr (Or.inr rfl))) (pav_nil))))) (zaD (pds_if (pdt_look (pdt_cmpN (i := 10) (op_neA hr.units) ok_ne rfl (by first | exact Or.inl rfl | exact Or.inr (Or.inl rfl) | exact Or.inr (Or.inr rfl)) (zaH g__law_all (hr.mono (by decide)) takes_no rfl (pav_v (zaA (i := 6) rfl (by first | exact Or.inl rfl | exact Or.inr (Or.inl rfl) | exact Or.inr (Or.inr rfl))) (pav_v (zaA (i := 7) rfl (by first | exact Or.inl rfl | exact Or.inr (Or.inl rfl) | exact Or.inr (Or.inr rfl))) (pav_v (zaA (i := 4) rfl (by first | exact Or.inl rfl | exact Or.inr (Or.inl rfl) | exact Or.inr (Or.inr rfl))) (pav_nil))))) (nomark _))) (zaF (pds_ret (pd_bl))) (pds_nil)) (zaD (pds_if (pdt_look (pdt_cmp (op_neA hr.units) ok_ne (pd_lc (t := .one 12) (own := [("_law_steps", 12)]) rfl sc_law.nd (pdi_lst (zaA (i := 10) rfl (by first | exact Or.inl rfl | exact Or.inr (Or.inl rfl) | exact Or.inr (Or.inr rfl)))) (blkOk_by (N := N_law) (sc := defScope s_law) (by decide +kernel)) rfl rfl (fun _ _ _ _ _ => pgh_one (i := 12) sc_law.nd rfl (by first | exact Or.inl rfl | exact Or.inr rfl)) (fun _ _ _ _ _ _ => pdts_one (pdt_not (pdt_val (zaH g_is_route (hr.mono (by decide)) takes_no rfl (pav_v (zaA (i := 6) rfl (by first | exact Or.inl rfl | exact Or.inr (Or.inl rfl) | exact Or.inr (Or.inr rfl))) (pav_v (zaA (i := 7) rfl (by first | exact Or.inl rfl | exact Or.inr (Or.inl rfl) | exact Or.inr (Or.inr rfl))) (pav_v (zaA (i := 12) rfl (by first | exact Or.inl rfl | exact Or.inr (Or.inl rfl) | exact Or.inr (Or.inr rfl))) (pav_nil)))))))) (fun _ _ _ _ _ _ => zaA (i := 12) rfl (by first | exact Or.inl rfl | exact Or.inr (Or.inl rfl) | exact Or.inr (Or.inr rfl)))) (pd_lst zaE) (nomark _))) (zaF (pds_ret (pd_bl))) (pds_nil)) (zaD (pds_appAt (i := 10) rfl (by first | exact Or.inl rfl | exact Or.inr (Or.inl rfl) | exact Or.inr (Or.inr rfl)) (zaJ) (pd_str (l := [43, 97]) rfl (by decide))) (zaD (pds_appP (i := 10) rfl (by first | exact Or.inl rfl | exact Or.inr (Or.inl rfl) | exact Or.inr (Or.inr rfl)) (pd_non)) (zaF (pds_if (pdt_cmp (op_neA hr.units) ok_ne (zaH g_all_shortest_routes (hr.mono (by decide)) tk rfl (pav_v (zaA (i := 6) rfl (by first | exact Or.inl rfl | exact Or.inr (Or.inl rfl) | exact Or.inr (Or.inr rfl))) (pav_v (zaA (i := 7) rfl (by first | exact Or.inl rfl | exact Or.inr (Or.inl rfl) | exact Or.inr (Or.inr rfl))) (pav_nil)))) (zaH g__law_all (hr.mono (by decide)) tk rfl (pav_v (zaA (i := 6) rfl (by first | exact Or.inl rfl | exact Or.inr (Or.inl rfl) | exact Or.inr (Or.inr rfl))) (pav_v (zaA (i := 7) rfl (by first | exact Or.inl rfl | exact Or.inr (Or.inl rfl) | exact Or.inr (Or.inr rfl))) (pav_v (zaA (i := 4) rfl (by first | exact Or.inl rfl | exact Or.inr (Or.inl rfl) | exact Or.inr (Or.inr rfl))) (pav_nil))))) (nomark _)) (zaF (pds_ret (pd_bl))) (pds_nil)))))))) (pds_nil)) (zaF (pds_if (pdt_not (pdt_val (zaH g__law_long (hr.mono (by decide)) tk rfl (pav_m (i := 2) rfl (by first | exact Or.inl rfl | exact Or.inr (Or.inl rfl) | exact Or.inr (Or.inr rfl)) (pav_nil))))) (zaF (pds_ret (pd_bl))) (pds_nil))))))))))))))) (zaF (pds_ret (pd_bl)))) p_law
end
def mkT (e_InvalidQueue : Addr) (e_LimitExceeded : Addr) (tabs : List (Addr × Str)) : Tb := ⟨fun n =>  none, fun n => if n = 0 then some ⟨e_InvalidQueue, "value"⟩ else if n = 10 then some ⟨e_LimitExceeded, "limit"⟩ else none, tabs⟩
theorem all_mk {l : PySem.W.OpenLaw} {w : World} {K : PySem.W.Frag} {h : Heap} {mg : Str → Option Value} {fa : Addr} (X : K.In h) (G : h.Ns mainGlobals mg) (hfa : mg "law" = some (.ref fa))
    {f__law_hand : Addr} {oc__law_hand dc__law_hand pm__law_hand ct__law_hand kV__law_hand cd__law_hand : Value} {od__law_hand an__law_hand : Option Addr} {sl__law_hand : Array (Option Value)}
    {f__law_draw : Addr} {oc__law_draw dc__law_draw pm__law_draw ct__law_draw kV__law_draw cd__law_draw : Value} {od__law_draw an__law_draw : Option Addr} {sl__law_draw : Array (Option Value)}
    {f__law_word : Addr} {oc__law_word dc__law_word pm__law_word ct__law_word kV__law_word cd__law_word : Value} {od__law_word an__law_word : Option Addr} {sl__law_word : Array (Option Value)}
    {f__law_two : Addr} {oc__law_two dc__law_two pm__law_two ct__law_two kV__law_two cd__law_two : Value} {od__law_two an__law_two : Option Addr} {sl__law_two : Array (Option Value)}
    {f__law_overlaps : Addr} {oc__law_overlaps dc__law_overlaps pm__law_overlaps ct__law_overlaps kV__law_overlaps cd__law_overlaps : Value} {od__law_overlaps an__law_overlaps : Option Addr} {sl__law_overlaps : Array (Option Value)}
    {f__law_moves : Addr} {oc__law_moves dc__law_moves pm__law_moves ct__law_moves kV__law_moves cd__law_moves : Value} {od__law_moves an__law_moves : Option Addr} {sl__law_moves : Array (Option Value)}
    {f__law_fewest : Addr} {oc__law_fewest dc__law_fewest pm__law_fewest ct__law_fewest kV__law_fewest cd__law_fewest : Value} {od__law_fewest an__law_fewest : Option Addr} {sl__law_fewest : Array (Option Value)}
    {f_is_word : Addr} {oc_is_word dc_is_word pm_is_word ct_is_word kV_is_word cd_is_word : Value} {od_is_word an_is_word : Option Addr} {sl_is_word : Array (Option Value)}
    {f_is_queue : Addr} {oc_is_queue dc_is_queue pm_is_queue ct_is_queue kV_is_queue cd_is_queue : Value} {od_is_queue an_is_queue : Option Addr} {sl_is_queue : Array (Option Value)}
    {f_check_queue : Addr} {oc_check_queue dc_check_queue pm_check_queue ct_check_queue kV_check_queue cd_check_queue : Value} {od_check_queue an_check_queue : Option Addr} {sl_check_queue : Array (Option Value)}
    {f_check_queues : Addr} {oc_check_queues dc_check_queues pm_check_queues ct_check_queues kV_check_queues cd_check_queues : Value} {od_check_queues an_check_queues : Option Addr} {sl_check_queues : Array (Option Value)}
    {f_overlaps : Addr} {oc_overlaps dc_overlaps pm_overlaps ct_overlaps kV_overlaps cd_overlaps : Value} {od_overlaps an_overlaps : Option Addr} {sl_overlaps : Array (Option Value)}
    {f_distance : Addr} {oc_distance dc_distance pm_distance ct_distance kV_distance cd_distance : Value} {od_distance an_distance : Option Addr} {sl_distance : Array (Option Value)}
    {f_shortest_route : Addr} {oc_shortest_route dc_shortest_route pm_shortest_route ct_shortest_route kV_shortest_route cd_shortest_route : Value} {od_shortest_route an_shortest_route : Option Addr} {sl_shortest_route : Array (Option Value)}
    {f_binomial : Addr} {oc_binomial dc_binomial pm_binomial ct_binomial kV_binomial cd_binomial : Value} {od_binomial an_binomial : Option Addr} {sl_binomial : Array (Option Value)}
    {f_mixed : Addr} {oc_mixed dc_mixed pm_mixed ct_mixed kV_mixed cd_mixed : Value} {od_mixed an_mixed : Option Addr} {sl_mixed : Array (Option Value)}
    {f_all_shortest_routes : Addr} {oc_all_shortest_routes dc_all_shortest_routes pm_all_shortest_routes ct_all_shortest_routes kV_all_shortest_routes cd_all_shortest_routes : Value} {od_all_shortest_routes an_all_shortest_routes : Option Addr} {sl_all_shortest_routes : Array (Option Value)}
    {f__law_go : Addr} {oc__law_go dc__law_go pm__law_go ct__law_go kV__law_go cd__law_go : Value} {od__law_go an__law_go : Option Addr} {sl__law_go : Array (Option Value)}
    {f__law_long : Addr} {oc__law_long dc__law_long pm__law_long ct__law_long kV__law_long cd__law_long : Value} {od__law_long an__law_long : Option Addr} {sl__law_long : Array (Option Value)}
    {f_is_step : Addr} {oc_is_step dc_is_step pm_is_step ct_is_step kV_is_step cd_is_step : Value} {od_is_step an_is_step : Option Addr} {sl_is_step : Array (Option Value)}
    {f_first_invalid : Addr} {oc_first_invalid dc_first_invalid pm_first_invalid ct_first_invalid kV_first_invalid cd_first_invalid : Value} {od_first_invalid an_first_invalid : Option Addr} {sl_first_invalid : Array (Option Value)}
    {f_is_sequence : Addr} {oc_is_sequence dc_is_sequence pm_is_sequence ct_is_sequence kV_is_sequence cd_is_sequence : Value} {od_is_sequence an_is_sequence : Option Addr} {sl_is_sequence : Array (Option Value)}
    {f_execute : Addr} {oc_execute dc_execute pm_execute ct_execute kV_execute cd_execute : Value} {od_execute an_execute : Option Addr} {sl_execute : Array (Option Value)}
    {f_is_route : Addr} {oc_is_route dc_is_route pm_is_route ct_is_route kV_is_route cd_is_route : Value} {od_is_route an_is_route : Option Addr} {sl_is_route : Array (Option Value)}
    {f__law_all : Addr} {oc__law_all dc__law_all pm__law_all ct__law_all kV__law_all : Value} {od__law_all an__law_all : Option Addr} {sl__law_all : Array (Option Value)}
    {cc__law_all PP__law_all : Addr}
    {tv__law_all : Value} {td__law_all : Option Addr} {ts__law_all : Array (Option Value)} {vv__law_all : Array Value}
    {f_law : Addr} {oc_law dc_law pm_law ct_law kV_law cd_law : Value} {od_law an_law : Option Addr} {sl_law : Array (Option Value)}
    {e_InvalidQueue fI_InvalidQueue : Addr} {nm_InvalidQueue q_InvalidQueue : Str} {N_InvalidQueue : Addr} {bs_InvalidQueue : List Value} {sn_InvalidQueue : List Str} {sub_InvalidQueue : List Value} {ab_InvalidQueue : Bool} {col_InvalidQueue : Option Bool} {dd_InvalidQueue : Option Addr} {m0_InvalidQueue m1_InvalidQueue m2_InvalidQueue m3_InvalidQueue m5_InvalidQueue : Option Value} {oc_InvalidQueue dc_InvalidQueue pm_InvalidQueue cd_InvalidQueue ct_InvalidQueue : Value} {od_InvalidQueue an_InvalidQueue : Option Addr} {sl_InvalidQueue : Array (Option Value)}
    {e_LimitExceeded fI_LimitExceeded : Addr} {nm_LimitExceeded q_LimitExceeded : Str} {N_LimitExceeded : Addr} {bs_LimitExceeded : List Value} {sn_LimitExceeded : List Str} {sub_LimitExceeded : List Value} {ab_LimitExceeded : Bool} {col_LimitExceeded : Option Bool} {dd_LimitExceeded : Option Addr} {m0_LimitExceeded m1_LimitExceeded m2_LimitExceeded m3_LimitExceeded m5_LimitExceeded : Option Value} {oc_LimitExceeded dc_LimitExceeded pm_LimitExceeded cd_LimitExceeded ct_LimitExceeded : Value} {od_LimitExceeded an_LimitExceeded : Option Addr} {sl_LimitExceeded : Array (Option Value)}
    {tk_ITEMS : Tok}
    {tk_MAX_QUEUE : Tok}
    {tk_MAX_STEPS : Tok}
    {tk_MAX_LISTED : Tok}
    (a__law_hand : PySem.W.nsIn K mainGlobals "_law_hand" = some (some (.ref f__law_hand)))
    (l__law_hand : K.lookup f__law_hand = some ⟨oc__law_hand, od__law_hand, .func (PySem.W.fnOf "_law_hand" "_law_hand" (defArgs s__law_hand) (defBody s__law_hand) (defScope s__law_hand) .none kV__law_hand dc__law_hand pm__law_hand an__law_hand cd__law_hand ct__law_hand), sl__law_hand⟩)
    (c__law_hand : PySem.W.codeIn K cd__law_hand "_law_hand" = true)
    (k__law_hand : PySem.W.keepIn K (.ref f__law_hand) = true)
    (a__law_draw : PySem.W.nsIn K mainGlobals "_law_draw" = some (some (.ref f__law_draw)))
    (l__law_draw : K.lookup f__law_draw = some ⟨oc__law_draw, od__law_draw, .func (PySem.W.fnOf "_law_draw" "_law_draw" (defArgs s__law_draw) (defBody s__law_draw) (defScope s__law_draw) .none kV__law_draw dc__law_draw pm__law_draw an__law_draw cd__law_draw ct__law_draw), sl__law_draw⟩)
    (c__law_draw : PySem.W.codeIn K cd__law_draw "_law_draw" = true)
    (k__law_draw : PySem.W.keepIn K (.ref f__law_draw) = true)
    (a__law_word : PySem.W.nsIn K mainGlobals "_law_word" = some (some (.ref f__law_word)))
    (l__law_word : K.lookup f__law_word = some ⟨oc__law_word, od__law_word, .func (PySem.W.fnOf "_law_word" "_law_word" (defArgs s__law_word) (defBody s__law_word) (defScope s__law_word) .none kV__law_word dc__law_word pm__law_word an__law_word cd__law_word ct__law_word), sl__law_word⟩)
    (c__law_word : PySem.W.codeIn K cd__law_word "_law_word" = true)
    (k__law_word : PySem.W.keepIn K (.ref f__law_word) = true)
    (a__law_two : PySem.W.nsIn K mainGlobals "_law_two" = some (some (.ref f__law_two)))
    (l__law_two : K.lookup f__law_two = some ⟨oc__law_two, od__law_two, .func (PySem.W.fnOf "_law_two" "_law_two" (defArgs s__law_two) (defBody s__law_two) (defScope s__law_two) .none kV__law_two dc__law_two pm__law_two an__law_two cd__law_two ct__law_two), sl__law_two⟩)
    (c__law_two : PySem.W.codeIn K cd__law_two "_law_two" = true)
    (k__law_two : PySem.W.keepIn K (.ref f__law_two) = true)
    (a__law_overlaps : PySem.W.nsIn K mainGlobals "_law_overlaps" = some (some (.ref f__law_overlaps)))
    (l__law_overlaps : K.lookup f__law_overlaps = some ⟨oc__law_overlaps, od__law_overlaps, .func (PySem.W.fnOf "_law_overlaps" "_law_overlaps" (defArgs s__law_overlaps) (defBody s__law_overlaps) (defScope s__law_overlaps) .none kV__law_overlaps dc__law_overlaps pm__law_overlaps an__law_overlaps cd__law_overlaps ct__law_overlaps), sl__law_overlaps⟩)
    (c__law_overlaps : PySem.W.codeIn K cd__law_overlaps "_law_overlaps" = true)
    (k__law_overlaps : PySem.W.keepIn K (.ref f__law_overlaps) = true)
    (a__law_moves : PySem.W.nsIn K mainGlobals "_law_moves" = some (some (.ref f__law_moves)))
    (l__law_moves : K.lookup f__law_moves = some ⟨oc__law_moves, od__law_moves, .func (PySem.W.fnOf "_law_moves" "_law_moves" (defArgs s__law_moves) (defBody s__law_moves) (defScope s__law_moves) .none kV__law_moves dc__law_moves pm__law_moves an__law_moves cd__law_moves ct__law_moves), sl__law_moves⟩)
    (c__law_moves : PySem.W.codeIn K cd__law_moves "_law_moves" = true)
    (k__law_moves : PySem.W.keepIn K (.ref f__law_moves) = true)
    (a__law_fewest : PySem.W.nsIn K mainGlobals "_law_fewest" = some (some (.ref f__law_fewest)))
    (l__law_fewest : K.lookup f__law_fewest = some ⟨oc__law_fewest, od__law_fewest, .func (PySem.W.fnOf "_law_fewest" "_law_fewest" (defArgs s__law_fewest) (defBody s__law_fewest) (defScope s__law_fewest) .none kV__law_fewest dc__law_fewest pm__law_fewest an__law_fewest cd__law_fewest ct__law_fewest), sl__law_fewest⟩)
    (c__law_fewest : PySem.W.codeIn K cd__law_fewest "_law_fewest" = true)
    (k__law_fewest : PySem.W.keepIn K (.ref f__law_fewest) = true)
    (a_is_word : PySem.W.nsIn K mainGlobals "is_word" = some (some (.ref f_is_word)))
    (l_is_word : K.lookup f_is_word = some ⟨oc_is_word, od_is_word, .func (PySem.W.fnOf "is_word" "is_word" (defArgs s_is_word) (defBody s_is_word) (defScope s_is_word) .none kV_is_word dc_is_word pm_is_word an_is_word cd_is_word ct_is_word), sl_is_word⟩)
    (c_is_word : PySem.W.codeIn K cd_is_word "is_word" = true)
    (k_is_word : PySem.W.keepIn K (.ref f_is_word) = true)
    (a_is_queue : PySem.W.nsIn K mainGlobals "is_queue" = some (some (.ref f_is_queue)))
    (l_is_queue : K.lookup f_is_queue = some ⟨oc_is_queue, od_is_queue, .func (PySem.W.fnOf "is_queue" "is_queue" (defArgs s_is_queue) (defBody s_is_queue) (defScope s_is_queue) .none kV_is_queue dc_is_queue pm_is_queue an_is_queue cd_is_queue ct_is_queue), sl_is_queue⟩)
    (c_is_queue : PySem.W.codeIn K cd_is_queue "is_queue" = true)
    (k_is_queue : PySem.W.keepIn K (.ref f_is_queue) = true)
    (a_check_queue : PySem.W.nsIn K mainGlobals "check_queue" = some (some (.ref f_check_queue)))
    (l_check_queue : K.lookup f_check_queue = some ⟨oc_check_queue, od_check_queue, .func (PySem.W.fnOf "check_queue" "check_queue" (defArgs s_check_queue) (defBody s_check_queue) (defScope s_check_queue) .none kV_check_queue dc_check_queue pm_check_queue an_check_queue cd_check_queue ct_check_queue), sl_check_queue⟩)
    (c_check_queue : PySem.W.codeIn K cd_check_queue "check_queue" = true)
    (k_check_queue : PySem.W.keepIn K (.ref f_check_queue) = true)
    (a_check_queues : PySem.W.nsIn K mainGlobals "check_queues" = some (some (.ref f_check_queues)))
    (l_check_queues : K.lookup f_check_queues = some ⟨oc_check_queues, od_check_queues, .func (PySem.W.fnOf "check_queues" "check_queues" (defArgs s_check_queues) (defBody s_check_queues) (defScope s_check_queues) .none kV_check_queues dc_check_queues pm_check_queues an_check_queues cd_check_queues ct_check_queues), sl_check_queues⟩)
    (c_check_queues : PySem.W.codeIn K cd_check_queues "check_queues" = true)
    (k_check_queues : PySem.W.keepIn K (.ref f_check_queues) = true)
    (a_overlaps : PySem.W.nsIn K mainGlobals "overlaps" = some (some (.ref f_overlaps)))
    (l_overlaps : K.lookup f_overlaps = some ⟨oc_overlaps, od_overlaps, .func (PySem.W.fnOf "overlaps" "overlaps" (defArgs s_overlaps) (defBody s_overlaps) (defScope s_overlaps) .none kV_overlaps dc_overlaps pm_overlaps an_overlaps cd_overlaps ct_overlaps), sl_overlaps⟩)
    (c_overlaps : PySem.W.codeIn K cd_overlaps "overlaps" = true)
    (k_overlaps : PySem.W.keepIn K (.ref f_overlaps) = true)
    (a_distance : PySem.W.nsIn K mainGlobals "distance" = some (some (.ref f_distance)))
    (l_distance : K.lookup f_distance = some ⟨oc_distance, od_distance, .func (PySem.W.fnOf "distance" "distance" (defArgs s_distance) (defBody s_distance) (defScope s_distance) .none kV_distance dc_distance pm_distance an_distance cd_distance ct_distance), sl_distance⟩)
    (c_distance : PySem.W.codeIn K cd_distance "distance" = true)
    (k_distance : PySem.W.keepIn K (.ref f_distance) = true)
    (a_shortest_route : PySem.W.nsIn K mainGlobals "shortest_route" = some (some (.ref f_shortest_route)))
    (l_shortest_route : K.lookup f_shortest_route = some ⟨oc_shortest_route, od_shortest_route, .func (PySem.W.fnOf "shortest_route" "shortest_route" (defArgs s_shortest_route) (defBody s_shortest_route) (defScope s_shortest_route) .none kV_shortest_route dc_shortest_route pm_shortest_route an_shortest_route cd_shortest_route ct_shortest_route), sl_shortest_route⟩)
    (c_shortest_route : PySem.W.codeIn K cd_shortest_route "shortest_route" = true)
    (k_shortest_route : PySem.W.keepIn K (.ref f_shortest_route) = true)
    (a_binomial : PySem.W.nsIn K mainGlobals "binomial" = some (some (.ref f_binomial)))
    (l_binomial : K.lookup f_binomial = some ⟨oc_binomial, od_binomial, .func (PySem.W.fnOf "binomial" "binomial" (defArgs s_binomial) (defBody s_binomial) (defScope s_binomial) .none kV_binomial dc_binomial pm_binomial an_binomial cd_binomial ct_binomial), sl_binomial⟩)
    (c_binomial : PySem.W.codeIn K cd_binomial "binomial" = true)
    (k_binomial : PySem.W.keepIn K (.ref f_binomial) = true)
    (a_mixed : PySem.W.nsIn K mainGlobals "mixed" = some (some (.ref f_mixed)))
    (l_mixed : K.lookup f_mixed = some ⟨oc_mixed, od_mixed, .func (PySem.W.fnOf "mixed" "mixed" (defArgs s_mixed) (defBody s_mixed) (defScope s_mixed) .none kV_mixed dc_mixed pm_mixed an_mixed cd_mixed ct_mixed), sl_mixed⟩)
    (c_mixed : PySem.W.codeIn K cd_mixed "mixed" = true)
    (k_mixed : PySem.W.keepIn K (.ref f_mixed) = true)
    (a_all_shortest_routes : PySem.W.nsIn K mainGlobals "all_shortest_routes" = some (some (.ref f_all_shortest_routes)))
    (l_all_shortest_routes : K.lookup f_all_shortest_routes = some ⟨oc_all_shortest_routes, od_all_shortest_routes, .func (PySem.W.fnOf "all_shortest_routes" "all_shortest_routes" (defArgs s_all_shortest_routes) (defBody s_all_shortest_routes) (defScope s_all_shortest_routes) .none kV_all_shortest_routes dc_all_shortest_routes pm_all_shortest_routes an_all_shortest_routes cd_all_shortest_routes ct_all_shortest_routes), sl_all_shortest_routes⟩)
    (c_all_shortest_routes : PySem.W.codeIn K cd_all_shortest_routes "all_shortest_routes" = true)
    (k_all_shortest_routes : PySem.W.keepIn K (.ref f_all_shortest_routes) = true)
    (a__law_go : PySem.W.nsIn K mainGlobals "_law_go" = some (some (.ref f__law_go)))
    (l__law_go : K.lookup f__law_go = some ⟨oc__law_go, od__law_go, .func (PySem.W.fnOf "_law_go" "_law_go" (defArgs s__law_go) (defBody s__law_go) (defScope s__law_go) .none kV__law_go dc__law_go pm__law_go an__law_go cd__law_go ct__law_go), sl__law_go⟩)
    (c__law_go : PySem.W.codeIn K cd__law_go "_law_go" = true)
    (k__law_go : PySem.W.keepIn K (.ref f__law_go) = true)
    (a__law_long : PySem.W.nsIn K mainGlobals "_law_long" = some (some (.ref f__law_long)))
    (l__law_long : K.lookup f__law_long = some ⟨oc__law_long, od__law_long, .func (PySem.W.fnOf "_law_long" "_law_long" (defArgs s__law_long) (defBody s__law_long) (defScope s__law_long) .none kV__law_long dc__law_long pm__law_long an__law_long cd__law_long ct__law_long), sl__law_long⟩)
    (c__law_long : PySem.W.codeIn K cd__law_long "_law_long" = true)
    (k__law_long : PySem.W.keepIn K (.ref f__law_long) = true)
    (a_is_step : PySem.W.nsIn K mainGlobals "is_step" = some (some (.ref f_is_step)))
    (l_is_step : K.lookup f_is_step = some ⟨oc_is_step, od_is_step, .func (PySem.W.fnOf "is_step" "is_step" (defArgs s_is_step) (defBody s_is_step) (defScope s_is_step) .none kV_is_step dc_is_step pm_is_step an_is_step cd_is_step ct_is_step), sl_is_step⟩)
    (c_is_step : PySem.W.codeIn K cd_is_step "is_step" = true)
    (k_is_step : PySem.W.keepIn K (.ref f_is_step) = true)
    (a_first_invalid : PySem.W.nsIn K mainGlobals "first_invalid" = some (some (.ref f_first_invalid)))
    (l_first_invalid : K.lookup f_first_invalid = some ⟨oc_first_invalid, od_first_invalid, .func (PySem.W.fnOf "first_invalid" "first_invalid" (defArgs s_first_invalid) (defBody s_first_invalid) (defScope s_first_invalid) .none kV_first_invalid dc_first_invalid pm_first_invalid an_first_invalid cd_first_invalid ct_first_invalid), sl_first_invalid⟩)
    (c_first_invalid : PySem.W.codeIn K cd_first_invalid "first_invalid" = true)
    (k_first_invalid : PySem.W.keepIn K (.ref f_first_invalid) = true)
    (a_is_sequence : PySem.W.nsIn K mainGlobals "is_sequence" = some (some (.ref f_is_sequence)))
    (l_is_sequence : K.lookup f_is_sequence = some ⟨oc_is_sequence, od_is_sequence, .func (PySem.W.fnOf "is_sequence" "is_sequence" (defArgs s_is_sequence) (defBody s_is_sequence) (defScope s_is_sequence) .none kV_is_sequence dc_is_sequence pm_is_sequence an_is_sequence cd_is_sequence ct_is_sequence), sl_is_sequence⟩)
    (c_is_sequence : PySem.W.codeIn K cd_is_sequence "is_sequence" = true)
    (k_is_sequence : PySem.W.keepIn K (.ref f_is_sequence) = true)
    (a_execute : PySem.W.nsIn K mainGlobals "execute" = some (some (.ref f_execute)))
    (l_execute : K.lookup f_execute = some ⟨oc_execute, od_execute, .func (PySem.W.fnOf "execute" "execute" (defArgs s_execute) (defBody s_execute) (defScope s_execute) .none kV_execute dc_execute pm_execute an_execute cd_execute ct_execute), sl_execute⟩)
    (c_execute : PySem.W.codeIn K cd_execute "execute" = true)
    (k_execute : PySem.W.keepIn K (.ref f_execute) = true)
    (a_is_route : PySem.W.nsIn K mainGlobals "is_route" = some (some (.ref f_is_route)))
    (l_is_route : K.lookup f_is_route = some ⟨oc_is_route, od_is_route, .func (PySem.W.fnOf "is_route" "is_route" (defArgs s_is_route) (defBody s_is_route) (defScope s_is_route) .none kV_is_route dc_is_route pm_is_route an_is_route cd_is_route ct_is_route), sl_is_route⟩)
    (c_is_route : PySem.W.codeIn K cd_is_route "is_route" = true)
    (k_is_route : PySem.W.keepIn K (.ref f_is_route) = true)
    (a__law_all : PySem.W.nsIn K mainGlobals "_law_all" = some (some (.ref f__law_all)))
    (l__law_all : K.lookup f__law_all = some ⟨oc__law_all, od__law_all, .func (PySem.W.fnOf "_law_all" "_law_all" (defArgs s__law_all) (defBody s__law_all) (defScope s__law_all) .none kV__law_all dc__law_all pm__law_all an__law_all (.ref cc__law_all) ct__law_all), sl__law_all⟩)
    (c__law_all : PySem.W.codeIn K (.ref cc__law_all) "_law_all" = true)
    (tb__law_all : K.lookup cc__law_all = some ⟨tv__law_all, td__law_all, .fields vv__law_all, ts__law_all⟩)
    (tp__law_all : vv__law_all[11]? = some (.ref PP__law_all))
    (aw__law_all : K.lookup PP__law_all = none)
    (k__law_all : PySem.W.keepIn K (.ref f__law_all) = true)
    (a_law : PySem.W.nsIn K mainGlobals "law" = some (some (.ref f_law)))
    (l_law : K.lookup f_law = some ⟨oc_law, od_law, .func (PySem.W.fnOf "law" "law" (defArgs s_law) (defBody s_law) (defScope s_law) .none kV_law dc_law pm_law an_law cd_law ct_law), sl_law⟩)
    (c_law : PySem.W.codeIn K cd_law "law" = true)
    (k_law : PySem.W.keepIn K (.ref f_law) = true)
    (aC_InvalidQueue : PySem.W.nsIn K mainGlobals "InvalidQueue" = some (some (.ref e_InvalidQueue)))
    (xL_InvalidQueue : K.lookup e_InvalidQueue = some (excClassObj nm_InvalidQueue q_InvalidQueue e_InvalidQueue N_InvalidQueue bs_InvalidQueue [.type "ValueError", .type "Exception", .type "BaseException", .type "object"] true sn_InvalidQueue sub_InvalidQueue ab_InvalidQueue col_InvalidQueue dd_InvalidQueue m0_InvalidQueue m1_InvalidQueue m2_InvalidQueue m3_InvalidQueue m5_InvalidQueue "ValueError.__new__"))
    (sa_InvalidQueue : PySem.W.findIn K (.ref e_InvalidQueue) "__setattr__" = some (some (.builtin "object.__setattr__")))
    (ga_InvalidQueue : PySem.W.findIn K (.ref e_InvalidQueue) "__getattribute__" = some (some (.builtin "BaseException.__getattribute__")))
    (gg_InvalidQueue : PySem.W.findIn K (.ref e_InvalidQueue) "__getattr__" = some none)
    (nf_InvalidQueue : PySem.W.findIn K (.ref e_InvalidQueue) "value" = some none)
    (iC_InvalidQueue : PySem.W.findIn K (.ref e_InvalidQueue) "__init__" = some (some (.ref fI_InvalidQueue)))
    (tC_InvalidQueue : PySem.W.typeIn K (.ref fI_InvalidQueue) = some (.type "function"))
    (l_InvalidQueue : K.lookup fI_InvalidQueue = some ⟨oc_InvalidQueue, od_InvalidQueue, .func (PySem.W.fnOf "__init__" "InvalidQueue.__init__" (DLE.iA "value" ⟨4, 17, 4, 21⟩ ⟨4, 23, 4, 28⟩) (DLE.iB "value" ⟨5, 8, 5, 12⟩ ⟨5, 8, 5, 18⟩ ⟨5, 21, 5, 26⟩ ⟨5, 8, 5, 26⟩) (DLE.iS "value") .none .none dc_InvalidQueue pm_InvalidQueue an_InvalidQueue cd_InvalidQueue ct_InvalidQueue), sl_InvalidQueue⟩)
    (cd_InvalidQueue : PySem.W.codeIn K cd_InvalidQueue "InvalidQueue.__init__" = true)
    (kC_InvalidQueue : PySem.W.keepIn K (.ref e_InvalidQueue) = true)
    (eC_InvalidQueue : PySem.W.subIn K (.ref e_InvalidQueue) (.type "BaseException") = some true)
    (tt_InvalidQueue : PySem.W.typeIn K (.ref e_InvalidQueue) = some (.type "type"))
    (hC_InvalidQueue : PySem.W.hasDictIn K e_InvalidQueue = true)
    (aC_LimitExceeded : PySem.W.nsIn K mainGlobals "LimitExceeded" = some (some (.ref e_LimitExceeded)))
    (xL_LimitExceeded : K.lookup e_LimitExceeded = some (excClassObj nm_LimitExceeded q_LimitExceeded e_LimitExceeded N_LimitExceeded bs_LimitExceeded [.type "OverflowError", .type "ArithmeticError", .type "Exception", .type "BaseException", .type "object"] true sn_LimitExceeded sub_LimitExceeded ab_LimitExceeded col_LimitExceeded dd_LimitExceeded m0_LimitExceeded m1_LimitExceeded m2_LimitExceeded m3_LimitExceeded m5_LimitExceeded "OverflowError.__new__"))
    (sa_LimitExceeded : PySem.W.findIn K (.ref e_LimitExceeded) "__setattr__" = some (some (.builtin "object.__setattr__")))
    (ga_LimitExceeded : PySem.W.findIn K (.ref e_LimitExceeded) "__getattribute__" = some (some (.builtin "BaseException.__getattribute__")))
    (gg_LimitExceeded : PySem.W.findIn K (.ref e_LimitExceeded) "__getattr__" = some none)
    (nf_LimitExceeded : PySem.W.findIn K (.ref e_LimitExceeded) "limit" = some none)
    (iC_LimitExceeded : PySem.W.findIn K (.ref e_LimitExceeded) "__init__" = some (some (.ref fI_LimitExceeded)))
    (tC_LimitExceeded : PySem.W.typeIn K (.ref fI_LimitExceeded) = some (.type "function"))
    (l_LimitExceeded : K.lookup fI_LimitExceeded = some ⟨oc_LimitExceeded, od_LimitExceeded, .func (PySem.W.fnOf "__init__" "LimitExceeded.__init__" (DLE.iA "limit" ⟨8, 17, 8, 21⟩ ⟨8, 23, 8, 28⟩) (DLE.iB "limit" ⟨9, 8, 9, 12⟩ ⟨9, 8, 9, 18⟩ ⟨9, 21, 9, 26⟩ ⟨9, 8, 9, 26⟩) (DLE.iS "limit") .none .none dc_LimitExceeded pm_LimitExceeded an_LimitExceeded cd_LimitExceeded ct_LimitExceeded), sl_LimitExceeded⟩)
    (cd_LimitExceeded : PySem.W.codeIn K cd_LimitExceeded "LimitExceeded.__init__" = true)
    (kC_LimitExceeded : PySem.W.keepIn K (.ref e_LimitExceeded) = true)
    (eC_LimitExceeded : PySem.W.subIn K (.ref e_LimitExceeded) (.type "BaseException") = some true)
    (tt_LimitExceeded : PySem.W.typeIn K (.ref e_LimitExceeded) = some (.type "type"))
    (hC_LimitExceeded : PySem.W.hasDictIn K e_LimitExceeded = true)
    (v_ITEMS : PySem.W.nsIn K mainGlobals "ITEMS" = some (some (.str "abcdefgh" tk_ITEMS)))
    (v_MAX_QUEUE : PySem.W.nsIn K mainGlobals "MAX_QUEUE" = some (some (.int 2100 tk_MAX_QUEUE)))
    (v_MAX_STEPS : PySem.W.nsIn K mainGlobals "MAX_STEPS" = some (some (.int 400 tk_MAX_STEPS)))
    (v_MAX_LISTED : PySem.W.nsIn K mainGlobals "MAX_LISTED" = some (some (.int 256 tk_MAX_LISTED)))
    (z_int : PySem.W.nsIn K mainGlobals "int" = some none)
    (z_range : PySem.W.nsIn K mainGlobals "range" = some none)
    (z_len : PySem.W.nsIn K mainGlobals "len" = some none)
    (z_min : PySem.W.nsIn K mainGlobals "min" = some none)
    (z_isinstance : PySem.W.nsIn K mainGlobals "isinstance" = some none)
    (z_str : PySem.W.nsIn K mainGlobals "str" = some none)
    (z_all : PySem.W.nsIn K mainGlobals "all" = some none)
    (z_enumerate : PySem.W.nsIn K mainGlobals "enumerate" = some none)
    (z_list : PySem.W.nsIn K mainGlobals "list" = some none)
    (z_abs : PySem.W.nsIn K mainGlobals "abs" = some none)
    (z_sorted : PySem.W.nsIn K mainGlobals "sorted" = some none)
    (z_max : PySem.W.nsIn K mainGlobals "max" = some none)
    (z_repr : PySem.W.nsIn K mainGlobals "repr" = some none)
    : ∃ (fd : FuncData) (cs : List (Addr × Addr)) (L : List (Addr × Str)), (∀ z ∈ cs, ∃ y ∈ (["_law_all"] : List Str), PySem.W.tabIn K y = some z) ∧ (∀ z ∈ cs, K.lookup z.2 = none) ∧ (∀ z ∈ L, z.1 ∈ cs.map (·.2)) ∧
      (∀ (s : Shared) (v : Value), BindsTo s fd ⟨[v], []⟩ [("_law_script", v)]) ∧ ∀ base : Heap, K.In base → base.Ns mainGlobals mg → (∀ z ∈ cs, LamX.TabB base mg z.1 z.2) → FnG l.prog w K mg base (CZ K l.prog w) 261 fa fd ["_law_script"] (spLaw K L) := by
  have e := hfa.symm.trans (PySem.W.mg_of X G a_law)
  cases e
  let T : Tb := mkT e_InvalidQueue e_LimitExceeded [(PP__law_all, (("_law_all" ++ ".<locals>.") ++ "<lambda>" : Str))]
  have Z : Zs K mg  := ⟨trivial, PySem.W.mg_none_of X G z_int, PySem.W.mg_none_of X G z_range, PySem.W.mg_none_of X G z_len, PySem.W.mg_none_of X G z_min, PySem.W.mg_none_of X G z_isinstance, PySem.W.mg_none_of X G z_str, PySem.W.mg_none_of X G z_all, PySem.W.mg_none_of X G z_enumerate, PySem.W.mg_none_of X G z_list, PySem.W.mg_none_of X G z_abs, PySem.W.mg_none_of X G z_sorted, PySem.W.mg_none_of X G z_max, PySem.W.mg_none_of X G z_repr, ⟨_, PySem.W.mg_of X G v_ITEMS⟩, ⟨_, PySem.W.mg_of X G v_MAX_QUEUE⟩, ⟨_, PySem.W.mg_of X G v_MAX_STEPS⟩, ⟨_, PySem.W.mg_of X G v_MAX_LISTED⟩⟩
  have X_InvalidQueue : ErrX K mg T "InvalidQueue" 0 := ⟨"value", _, _, _, _, e_InvalidQueue, fI_InvalidQueue, { eb := DLE.eb_ValueError, fne := by decide, bd := fun _ _ _ _ _ _ _ _ _ _ _ _ _ _ => rfl, cls := ⟨_, _, _, _, _, _, _, _, _, _, _, _, _, _, xL_InvalidQueue⟩, sa := sa_InvalidQueue, ga := ga_InvalidQueue, gg := gg_InvalidQueue, noN := nf_InvalidQueue, iC := iC_InvalidQueue, tC := tC_InvalidQueue, kC := kC_InvalidQueue, exC := eC_InvalidQueue, tyC := tt_InvalidQueue, hdC := hC_InvalidQueue, fn := ⟨_, _, _, _, _, _, _, _, _, _, _, _, _, _, _, l_InvalidQueue, cd_InvalidQueue⟩ }, rfl, PySem.W.mg_of X G aC_InvalidQueue⟩
  have X_LimitExceeded : ErrX K mg T "LimitExceeded" 10 := ⟨"limit", _, _, _, _, e_LimitExceeded, fI_LimitExceeded, { eb := DLE.eb_OverflowError, fne := by decide, bd := fun _ _ _ _ _ _ _ _ _ _ _ _ _ _ => rfl, cls := ⟨_, _, _, _, _, _, _, _, _, _, _, _, _, _, xL_LimitExceeded⟩, sa := sa_LimitExceeded, ga := ga_LimitExceeded, gg := gg_LimitExceeded, noN := nf_LimitExceeded, iC := iC_LimitExceeded, tC := tC_LimitExceeded, kC := kC_LimitExceeded, exC := eC_LimitExceeded, tyC := tt_LimitExceeded, hdC := hC_LimitExceeded, fn := ⟨_, _, _, _, _, _, _, _, _, _, _, _, _, _, _, l_LimitExceeded, cd_LimitExceeded⟩ }, rfl, PySem.W.mg_of X G aC_LimitExceeded⟩
  have F__law_hand := fun_mk (st := s__law_hand) l__law_hand c__law_hand k__law_hand
  have b__law_hand := F__law_hand.binds (ps := ["_law_script", "_law_k"]) fun _ _ _ _ _ _ us hl => match us, hl with | [_, _], _ => rfl
  have F__law_draw := fun_mk (st := s__law_draw) l__law_draw c__law_draw k__law_draw
  have b__law_draw := F__law_draw.binds (ps := ["_law_pool", "_law_size"]) fun _ _ _ _ _ _ us hl => match us, hl with | [_, _], _ => rfl
  have F__law_word := fun_mk (st := s__law_word) l__law_word c__law_word k__law_word
  have b__law_word := F__law_word.binds (ps := ["_law_pool", "_law_letters", "_law_most"]) fun _ _ _ _ _ _ us hl => match us, hl with | [_, _, _], _ => rfl
  have F__law_two := fun_mk (st := s__law_two) l__law_two c__law_two k__law_two
  have b__law_two := F__law_two.binds (ps := ["_law_pool"]) fun _ _ _ _ _ _ us hl => match us, hl with | [_], _ => rfl
  have F__law_overlaps := fun_mk (st := s__law_overlaps) l__law_overlaps c__law_overlaps k__law_overlaps
  have b__law_overlaps := F__law_overlaps.binds (ps := ["_law_one", "_law_other"]) fun _ _ _ _ _ _ us hl => match us, hl with | [_, _], _ => rfl
  have F__law_moves := fun_mk (st := s__law_moves) l__law_moves c__law_moves k__law_moves
  have b__law_moves := F__law_moves.binds (ps := ["_law_queue", "_law_letters"]) fun _ _ _ _ _ _ us hl => match us, hl with | [_, _], _ => rfl
  have F__law_fewest := fun_mk (st := s__law_fewest) l__law_fewest c__law_fewest k__law_fewest
  have b__law_fewest := F__law_fewest.binds (ps := ["_law_one", "_law_other"]) fun _ _ _ _ _ _ us hl => match us, hl with | [_, _], _ => rfl
  have F_is_word := fun_mk (st := s_is_word) l_is_word c_is_word k_is_word
  have b_is_word := F_is_word.binds (ps := ["value", "most"]) fun _ _ _ _ _ _ us hl => match us, hl with | [_, _], _ => rfl
  have F_is_queue := fun_mk (st := s_is_queue) l_is_queue c_is_queue k_is_queue
  have b_is_queue := F_is_queue.binds (ps := ["value"]) fun _ _ _ _ _ _ us hl => match us, hl with | [_], _ => rfl
  have F_check_queue := fun_mk (st := s_check_queue) l_check_queue c_check_queue k_check_queue
  have b_check_queue := F_check_queue.binds (ps := ["queue"]) fun _ _ _ _ _ _ us hl => match us, hl with | [_], _ => rfl
  have F_check_queues := fun_mk (st := s_check_queues) l_check_queues c_check_queues k_check_queues
  have b_check_queues := F_check_queues.binds (ps := ["one", "other"]) fun _ _ _ _ _ _ us hl => match us, hl with | [_, _], _ => rfl
  have F_overlaps := fun_mk (st := s_overlaps) l_overlaps c_overlaps k_overlaps
  have b_overlaps := F_overlaps.binds (ps := ["one", "other"]) fun _ _ _ _ _ _ us hl => match us, hl with | [_, _], _ => rfl
  have F_distance := fun_mk (st := s_distance) l_distance c_distance k_distance
  have b_distance := F_distance.binds (ps := ["start", "goal"]) fun _ _ _ _ _ _ us hl => match us, hl with | [_, _], _ => rfl
  have F_shortest_route := fun_mk (st := s_shortest_route) l_shortest_route c_shortest_route k_shortest_route
  have b_shortest_route := F_shortest_route.binds (ps := ["start", "goal"]) fun _ _ _ _ _ _ us hl => match us, hl with | [_, _], _ => rfl
  have F_binomial := fun_mk (st := s_binomial) l_binomial c_binomial k_binomial
  have b_binomial := F_binomial.binds (ps := ["size", "chosen"]) fun _ _ _ _ _ _ us hl => match us, hl with | [_, _], _ => rfl
  have F_mixed := fun_mk (st := s_mixed) l_mixed c_mixed k_mixed
  have b_mixed := F_mixed.binds (ps := ["takes", "puts"]) fun _ _ _ _ _ _ us hl => match us, hl with | [_, _], _ => rfl
  have F_all_shortest_routes := fun_mk (st := s_all_shortest_routes) l_all_shortest_routes c_all_shortest_routes k_all_shortest_routes
  have b_all_shortest_routes := F_all_shortest_routes.binds (ps := ["start", "goal"]) fun _ _ _ _ _ _ us hl => match us, hl with | [_, _], _ => rfl
  have F__law_go := fun_mk (st := s__law_go) l__law_go c__law_go k__law_go
  have b__law_go := F__law_go.binds (ps := ["_law_queue", "_law_steps"]) fun _ _ _ _ _ _ us hl => match us, hl with | [_, _], _ => rfl
  have F__law_long := fun_mk (st := s__law_long) l__law_long c__law_long k__law_long
  have b__law_long := F__law_long.binds (ps := ["_law_pool"]) fun _ _ _ _ _ _ us hl => match us, hl with | [_], _ => rfl
  have F_is_step := fun_mk (st := s_is_step) l_is_step c_is_step k_is_step
  have b_is_step := F_is_step.binds (ps := ["value"]) fun _ _ _ _ _ _ us hl => match us, hl with | [_], _ => rfl
  have F_first_invalid := fun_mk (st := s_first_invalid) l_first_invalid c_first_invalid k_first_invalid
  have b_first_invalid := F_first_invalid.binds (ps := ["value"]) fun _ _ _ _ _ _ us hl => match us, hl with | [_], _ => rfl
  have F_is_sequence := fun_mk (st := s_is_sequence) l_is_sequence c_is_sequence k_is_sequence
  have b_is_sequence := F_is_sequence.binds (ps := ["value"]) fun _ _ _ _ _ _ us hl => match us, hl with | [_], _ => rfl
  have F_execute := fun_mk (st := s_execute) l_execute c_execute k_execute
  have b_execute := F_execute.binds (ps := ["queue", "steps"]) fun _ _ _ _ _ _ us hl => match us, hl with | [_, _], _ => rfl
  have F_is_route := fun_mk (st := s_is_route) l_is_route c_is_route k_is_route
  have b_is_route := F_is_route.binds (ps := ["start", "goal", "value"]) fun _ _ _ _ _ _ us hl => match us, hl with | [_, _, _], _ => rfl
  have F__law_all := fun_mk (st := s__law_all) l__law_all c__law_all k__law_all
  have b__law_all := F__law_all.binds (ps := ["_law_one", "_law_other", "_law_size"]) fun _ _ _ _ _ _ us hl => match us, hl with | [_, _, _], _ => rfl
  have F_law := fun_mk (st := s_law) l_law c_law k_law
  have b_law := F_law.binds (ps := ["_law_script"]) fun _ _ _ _ _ _ us hl => match us, hl with | [_], _ => rfl
  refine ⟨PySem.W.fnOf "law" "law" (defArgs s_law) (defBody s_law) (defScope s_law) .none kV_law dc_law pm_law an_law cd_law ct_law, [(cc__law_all, PP__law_all)], [(PP__law_all, (("_law_all" ++ ".<locals>.") ++ "<lambda>" : Str))], fun z hz => ?_, fun z hz => ?_, fun z hz => ?_, fun s v => .of_eq rfl, fun base _ _ TBs => ?_⟩
  · simp only [List.mem_cons, List.not_mem_nil, or_false] at hz
    rcases hz with rfl
    · exact ⟨"_law_all", by simp, tabIn_of a__law_all l__law_all rfl tb__law_all tp__law_all⟩
  · simp only [List.mem_cons, List.not_mem_nil, or_false] at hz
    rcases hz with rfl
    · exact aw__law_all
  · simp only [List.mem_cons, List.not_mem_nil, or_false] at hz
    rcases hz with rfl
    · simp
  have TB__law_all := TBs (cc__law_all, PP__law_all) (by simp)
  have TM__law_all : (PP__law_all, (("_law_all" ++ ".<locals>.") ++ "<lambda>" : Str)) ∈ T.tabs := by show _ ∈ ([(PP__law_all, (("_law_all" ++ ".<locals>.") ++ "<lambda>" : Str))] : List (Addr × Str)); simp
  have TO__law_all : ∀ z ∈ T.tabs, z.1 = PP__law_all → z.2 = (("_law_all" ++ ".<locals>.") ++ "<lambda>" : Str) := fun z hz e => by
    have hz : z ∈ ([(PP__law_all, (("_law_all" ++ ".<locals>.") ++ "<lambda>" : Str))] : List (Addr × Str)) := hz
    simp only [List.mem_cons, List.not_mem_nil, or_false] at hz
    rcases hz with rfl
    · rfl
  let P := l.prog
  have g__law_hand : Cal l.prog w K mg base T "_law_hand" 2 ["_law_script", "_law_k"] [] C__law_hand := ⟨_, _, d__law_hand F__law_hand Z, b__law_hand, PySem.W.mg_of X G a__law_hand⟩
  have g__law_draw : Cal l.prog w K mg base T "_law_draw" 2 ["_law_pool", "_law_size"] [0] C__law_draw := ⟨_, _, d__law_draw F__law_draw Z, b__law_draw, PySem.W.mg_of X G a__law_draw⟩
  have g__law_word : Cal l.prog w K mg base T "_law_word" 3 ["_law_pool", "_law_letters", "_law_most"] [0] C__law_word := ⟨_, _, d__law_word F__law_word Z g__law_draw, b__law_word, PySem.W.mg_of X G a__law_word⟩
  have g__law_two : Cal l.prog w K mg base T "_law_two" 4 ["_law_pool"] [0] C__law_two := ⟨_, _, d__law_two F__law_two Z g__law_draw g__law_word, b__law_two, PySem.W.mg_of X G a__law_two⟩
  have g__law_overlaps : Cal l.prog w K mg base T "_law_overlaps" 2 ["_law_one", "_law_other"] [] C__law_overlaps := ⟨_, _, d__law_overlaps F__law_overlaps Z, b__law_overlaps, PySem.W.mg_of X G a__law_overlaps⟩
  have g__law_moves : Cal l.prog w K mg base T "_law_moves" 2 ["_law_queue", "_law_letters"] [] C__law_moves := ⟨_, _, d__law_moves F__law_moves Z, b__law_moves, PySem.W.mg_of X G a__law_moves⟩
  have g__law_fewest : Cal l.prog w K mg base T "_law_fewest" 3 ["_law_one", "_law_other"] [] C__law_fewest := ⟨_, _, d__law_fewest F__law_fewest Z g__law_moves, b__law_fewest, PySem.W.mg_of X G a__law_fewest⟩
  have g_is_word : Cal l.prog w K mg base T "is_word" 2 ["value", "most"] [] C_is_word := ⟨_, _, d_is_word F_is_word Z, b_is_word, PySem.W.mg_of X G a_is_word⟩
  have g_is_queue : Cal l.prog w K mg base T "is_queue" 3 ["value"] [] C_is_queue := ⟨_, _, d_is_queue F_is_queue Z g_is_word, b_is_queue, PySem.W.mg_of X G a_is_queue⟩
  have g_check_queue : Cal l.prog w K mg base T "check_queue" 4 ["queue"] [] C_check_queue := ⟨_, _, d_check_queue F_check_queue Z X_InvalidQueue g_is_queue, b_check_queue, PySem.W.mg_of X G a_check_queue⟩
  have g_check_queues : Cal l.prog w K mg base T "check_queues" 5 ["one", "other"] [] C_check_queues := ⟨_, _, d_check_queues F_check_queues Z g_check_queue, b_check_queues, PySem.W.mg_of X G a_check_queues⟩
  have g_overlaps : Cal l.prog w K mg base T "overlaps" 6 ["one", "other"] [] C_overlaps := ⟨_, _, d_overlaps F_overlaps Z g_check_queues, b_overlaps, PySem.W.mg_of X G a_overlaps⟩
  have g_distance : Cal l.prog w K mg base T "distance" 7 ["start", "goal"] [] C_distance := ⟨_, _, d_distance F_distance Z g_overlaps, b_distance, PySem.W.mg_of X G a_distance⟩
  have g_shortest_route : Cal l.prog w K mg base T "shortest_route" 8 ["start", "goal"] [] C_shortest_route := ⟨_, _, d_shortest_route F_shortest_route Z X_LimitExceeded g_distance g_overlaps, b_shortest_route, PySem.W.mg_of X G a_shortest_route⟩
  have g_binomial : Cal l.prog w K mg base T "binomial" 2 ["size", "chosen"] [] C_binomial := ⟨_, _, d_binomial F_binomial Z, b_binomial, PySem.W.mg_of X G a_binomial⟩
  have G_mixed : ∀ n, Cal l.prog w K mg base T "mixed" (1 + n) ["takes", "puts"] [] (R_mixed n) := fun n => by
    induction n with
    | zero => exact ⟨_, _, def_never F_mixed p0_mixed, b_mixed, PySem.W.mg_of X G a_mixed⟩
    | succ n ih => exact ⟨_, _, d_mixed n F_mixed Z ih, b_mixed, PySem.W.mg_of X G a_mixed⟩
  have g_mixed : Cal l.prog w K mg base T "mixed" 259 ["takes", "puts"] [] C_mixed := G_mixed 258
  have g_all_shortest_routes : Cal l.prog w K mg base T "all_shortest_routes" 260 ["start", "goal"] [] C_all_shortest_routes := ⟨_, _, d_all_shortest_routes F_all_shortest_routes Z X_LimitExceeded g_shortest_route g_binomial g_mixed, b_all_shortest_routes, PySem.W.mg_of X G a_all_shortest_routes⟩
  have g__law_go : Cal l.prog w K mg base T "_law_go" 2 ["_law_queue", "_law_steps"] [] C__law_go := ⟨_, _, d__law_go F__law_go Z, b__law_go, PySem.W.mg_of X G a__law_go⟩
  have g__law_long : Cal l.prog w K mg base T "_law_long" 9 ["_law_pool"] [0] C__law_long := ⟨_, _, d__law_long F__law_long Z g__law_word g__law_overlaps g_overlaps g_distance g_shortest_route g__law_go, b__law_long, PySem.W.mg_of X G a__law_long⟩
  have g_is_step : Cal l.prog w K mg base T "is_step" 2 ["value"] [] C_is_step := ⟨_, _, d_is_step F_is_step Z, b_is_step, PySem.W.mg_of X G a_is_step⟩
  have g_first_invalid : Cal l.prog w K mg base T "first_invalid" 3 ["value"] [] C_first_invalid := ⟨_, _, d_first_invalid F_first_invalid Z g_is_step, b_first_invalid, PySem.W.mg_of X G a_first_invalid⟩
  have g_is_sequence : Cal l.prog w K mg base T "is_sequence" 4 ["value"] [] C_is_sequence := ⟨_, _, d_is_sequence F_is_sequence Z g_first_invalid, b_is_sequence, PySem.W.mg_of X G a_is_sequence⟩
  have g_execute : Cal l.prog w K mg base T "execute" 2 ["queue", "steps"] [] C_execute := ⟨_, _, d_execute F_execute Z, b_execute, PySem.W.mg_of X G a_execute⟩
  have g_is_route : Cal l.prog w K mg base T "is_route" 6 ["start", "goal", "value"] [] C_is_route := ⟨_, _, d_is_route F_is_route Z g_check_queues g_is_sequence g_execute, b_is_route, PySem.W.mg_of X G a_is_route⟩
  have g__law_all : Cal l.prog w K mg base T "_law_all" 5 ["_law_one", "_law_other", "_law_size"] [] C__law_all := ⟨_, _, d__law_all F__law_all Z TB__law_all (show FuncData.code (PySem.W.fnOf "_law_all" "_law_all" (defArgs s__law_all) (defBody s__law_all) (defScope s__law_all) .none kV__law_all dc__law_all pm__law_all an__law_all (.ref cc__law_all) ct__law_all) = .ref cc__law_all from rfl) TM__law_all TO__law_all, b__law_all, PySem.W.mg_of X G a__law_all⟩
  exact lawFn (d_law F_law Z g__law_hand g__law_two g__law_overlaps g__law_fewest g_overlaps g_distance g_shortest_route g_is_route g_all_shortest_routes g__law_all g__law_long)
end Wk56
open PySem PySem.W PyProof.Rows
set_option maxRecDepth 100000 in
set_option maxHeartbeats 0 in
theorem PySem.Challenge.cw_queueeffect_k56_shortest_routes_holds : PySem.Challenge.rw_queueeffect_k56_shortest_routes.Holds := by
  w_on; o_law; k_head; (case hw => w_witness2)
  k_fill
  refine DL.walkT (l := PySem.Challenge.rw_queueeffect_k56_shortest_routes) (k := 261) (x := "_law_script") (names := ["_law_all"]) rfl rfl ⟨rfl, by decide, by decide⟩ (by decide +kernel) (fun w h Y => by first | exact PySem.W.kIn_of Y | exact PySem.W.km_in_of Y) ?F
  case F =>
    intro w mg fa h KX G hmg
    refine' Wk56.all_mk KX G hmg ?a__law_hand ?l__law_hand ?c__law_hand ?k__law_hand ?a__law_draw ?l__law_draw ?c__law_draw ?k__law_draw ?a__law_word ?l__law_word ?c__law_word ?k__law_word ?a__law_two ?l__law_two ?c__law_two ?k__law_two ?a__law_overlaps ?l__law_overlaps ?c__law_overlaps ?k__law_overlaps ?a__law_moves ?l__law_moves ?c__law_moves ?k__law_moves ?a__law_fewest ?l__law_fewest ?c__law_fewest ?k__law_fewest ?a_is_word ?l_is_word ?c_is_word ?k_is_word ?a_is_queue ?l_is_queue ?c_is_queue ?k_is_queue ?a_check_queue ?l_check_queue ?c_check_queue ?k_check_queue ?a_check_queues ?l_check_queues ?c_check_queues ?k_check_queues ?a_overlaps ?l_overlaps ?c_overlaps ?k_overlaps ?a_distance ?l_distance ?c_distance ?k_distance ?a_shortest_route ?l_shortest_route ?c_shortest_route ?k_shortest_route ?a_binomial ?l_binomial ?c_binomial ?k_binomial ?a_mixed ?l_mixed ?c_mixed ?k_mixed ?a_all_shortest_routes ?l_all_shortest_routes ?c_all_shortest_routes ?k_all_shortest_routes ?a__law_go ?l__law_go ?c__law_go ?k__law_go ?a__law_long ?l__law_long ?c__law_long ?k__law_long ?a_is_step ?l_is_step ?c_is_step ?k_is_step ?a_first_invalid ?l_first_invalid ?c_first_invalid ?k_first_invalid ?a_is_sequence ?l_is_sequence ?c_is_sequence ?k_is_sequence ?a_execute ?l_execute ?c_execute ?k_execute ?a_is_route ?l_is_route ?c_is_route ?k_is_route ?a__law_all ?l__law_all ?c__law_all ?tb__law_all ?tp__law_all ?aw__law_all ?k__law_all ?a_law ?l_law ?c_law ?k_law ?aC_InvalidQueue ?xL_InvalidQueue ?sa_InvalidQueue ?ga_InvalidQueue ?gg_InvalidQueue ?nf_InvalidQueue ?iC_InvalidQueue ?tC_InvalidQueue ?l_InvalidQueue ?cd_InvalidQueue ?kC_InvalidQueue ?eC_InvalidQueue ?tt_InvalidQueue ?hC_InvalidQueue ?aC_LimitExceeded ?xL_LimitExceeded ?sa_LimitExceeded ?ga_LimitExceeded ?gg_LimitExceeded ?nf_LimitExceeded ?iC_LimitExceeded ?tC_LimitExceeded ?l_LimitExceeded ?cd_LimitExceeded ?kC_LimitExceeded ?eC_LimitExceeded ?tt_LimitExceeded ?hC_LimitExceeded ?v_ITEMS ?v_MAX_QUEUE ?v_MAX_STEPS ?v_MAX_LISTED ?z_int ?z_range ?z_len ?z_min ?z_isinstance ?z_str ?z_all ?z_enumerate ?z_list ?z_abs ?z_sorted ?z_max ?z_repr
    (case a__law_hand => k_is)
    (case l__law_hand => k_is)
    (case c__law_hand => k_is)
    (case k__law_hand => k_is)
    (case a__law_draw => k_is)
    (case l__law_draw => k_is)
    (case c__law_draw => k_is)
    (case k__law_draw => k_is)
    (case a__law_word => k_is)
    (case l__law_word => k_is)
    (case c__law_word => k_is)
    (case k__law_word => k_is)
    (case a__law_two => k_is)
    (case l__law_two => k_is)
    (case c__law_two => k_is)
    (case k__law_two => k_is)
    (case a__law_overlaps => k_is)
    (case l__law_overlaps => k_is)
    (case c__law_overlaps => k_is)
    (case k__law_overlaps => k_is)
    (case a__law_moves => k_is)
    (case l__law_moves => k_is)
    (case c__law_moves => k_is)
    (case k__law_moves => k_is)
    (case a__law_fewest => k_is)
    (case l__law_fewest => k_is)
    (case c__law_fewest => k_is)
    (case k__law_fewest => k_is)
    (case a_is_word => k_is)
    (case l_is_word => k_is)
    (case c_is_word => k_is)
    (case k_is_word => k_is)
    (case a_is_queue => k_is)
    (case l_is_queue => k_is)
    (case c_is_queue => k_is)
    (case k_is_queue => k_is)
    (case a_check_queue => k_is)
    (case l_check_queue => k_is)
    (case c_check_queue => k_is)
    (case k_check_queue => k_is)
    (case a_check_queues => k_is)
    (case l_check_queues => k_is)
    (case c_check_queues => k_is)
    (case k_check_queues => k_is)
    (case a_overlaps => k_is)
    (case l_overlaps => k_is)
    (case c_overlaps => k_is)
    (case k_overlaps => k_is)
    (case a_distance => k_is)
    (case l_distance => k_is)
    (case c_distance => k_is)
    (case k_distance => k_is)
    (case a_shortest_route => k_is)
    (case l_shortest_route => k_is)
    (case c_shortest_route => k_is)
    (case k_shortest_route => k_is)
    (case a_binomial => k_is)
    (case l_binomial => k_is)
    (case c_binomial => k_is)
    (case k_binomial => k_is)
    (case a_mixed => k_is)
    (case l_mixed => k_is)
    (case c_mixed => k_is)
    (case k_mixed => k_is)
    (case a_all_shortest_routes => k_is)
    (case l_all_shortest_routes => k_is)
    (case c_all_shortest_routes => k_is)
    (case k_all_shortest_routes => k_is)
    (case a__law_go => k_is)
    (case l__law_go => k_is)
    (case c__law_go => k_is)
    (case k__law_go => k_is)
    (case a__law_long => k_is)
    (case l__law_long => k_is)
    (case c__law_long => k_is)
    (case k__law_long => k_is)
    (case a_is_step => k_is)
    (case l_is_step => k_is)
    (case c_is_step => k_is)
    (case k_is_step => k_is)
    (case a_first_invalid => k_is)
    (case l_first_invalid => k_is)
    (case c_first_invalid => k_is)
    (case k_first_invalid => k_is)
    (case a_is_sequence => k_is)
    (case l_is_sequence => k_is)
    (case c_is_sequence => k_is)
    (case k_is_sequence => k_is)
    (case a_execute => k_is)
    (case l_execute => k_is)
    (case c_execute => k_is)
    (case k_execute => k_is)
    (case a_is_route => k_is)
    (case l_is_route => k_is)
    (case c_is_route => k_is)
    (case k_is_route => k_is)
    (case a__law_all => k_is)
    (case l__law_all => k_is)
    (case c__law_all => k_is)
    (case tb__law_all => k_is)
    (case tp__law_all => first | rfl | decide)
    (case aw__law_all => first | k_is | rfl | decide)
    (case k__law_all => k_is)
    (case a_law => k_is)
    (case l_law => k_is)
    (case c_law => k_is)
    (case k_law => k_is)
    (case aC_InvalidQueue => k_is)
    (case xL_InvalidQueue => k_is)
    (case sa_InvalidQueue => k_is)
    (case ga_InvalidQueue => k_is)
    (case gg_InvalidQueue => k_is)
    (case nf_InvalidQueue => k_is)
    (case iC_InvalidQueue => k_is)
    (case tC_InvalidQueue => k_is)
    (case l_InvalidQueue => k_is)
    (case cd_InvalidQueue => k_is)
    (case kC_InvalidQueue => k_is)
    (case eC_InvalidQueue => k_is)
    (case tt_InvalidQueue => k_is)
    (case hC_InvalidQueue => k_is)
    (case aC_LimitExceeded => k_is)
    (case xL_LimitExceeded => k_is)
    (case sa_LimitExceeded => k_is)
    (case ga_LimitExceeded => k_is)
    (case gg_LimitExceeded => k_is)
    (case nf_LimitExceeded => k_is)
    (case iC_LimitExceeded => k_is)
    (case tC_LimitExceeded => k_is)
    (case l_LimitExceeded => k_is)
    (case cd_LimitExceeded => k_is)
    (case kC_LimitExceeded => k_is)
    (case eC_LimitExceeded => k_is)
    (case tt_LimitExceeded => k_is)
    (case hC_LimitExceeded => k_is)
    (case v_ITEMS => k_is)
    (case v_MAX_QUEUE => k_is)
    (case v_MAX_STEPS => k_is)
    (case v_MAX_LISTED => k_is)
    (case z_int => k_is)
    (case z_range => k_is)
    (case z_len => k_is)
    (case z_min => k_is)
    (case z_isinstance => k_is)
    (case z_str => k_is)
    (case z_all => k_is)
    (case z_enumerate => k_is)
    (case z_list => k_is)
    (case z_abs => k_is)
    (case z_sorted => k_is)
    (case z_max => k_is)
    (case z_repr => k_is)
