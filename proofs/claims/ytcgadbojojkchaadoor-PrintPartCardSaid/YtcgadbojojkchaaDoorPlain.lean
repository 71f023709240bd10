/- The plain data of the program: rules, schemas, levels, configurations, as Lean structures. No program and no memory here. -/
import Derived.Laws.StructEq
import Derived.Laws.Strings
import Derived.Lib.Join
import Derived.Lib.ItoaNum
namespace Go.Proofs.YtcgadbojojkchaaDoor.U
theorem bytes_data {a b : ByteArray} (h : a.data.toList = b.data.toList) : a = b := by
  cases a with | mk x => cases b with | mk y => exact congrArg ByteArray.mk (Array.toList_inj.1 h)
instance : LawfulBEq ByteArray where
  eq_of_beq {a b} h := by
    rw [beq_toListBytes] at h
    have := eq_of_beq h
    rw [ByteArray.toList_eq, ByteArray.toList_eq] at this
    exact bytes_data this
  rfl {a} := by rw [beq_toListBytes]; exact beq_self_eq_true _
structure Rule where
  users : (List ByteArray)
  groups : (List ByteArray)
  verbs : (List ByteArray)
  resources : (List ByteArray)
  spaces : (List ByteArray)
  deriving DecidableEq
def zRule : Rule := ⟨([] : List ByteArray), ([] : List ByteArray), ([] : List ByteArray), ([] : List ByteArray), ([] : List ByteArray)⟩
structure Schema where
  name : ByteArray
  level : ByteArray
  rank : Int
  tells : Int
  rules : (List Rule)
  deriving DecidableEq
def zSchema : Schema := ⟨(⟨#[]⟩ : ByteArray), (⟨#[]⟩ : ByteArray), (0 : Int), (0 : Int), ([] : List Rule)⟩
structure Level where
  name : ByteArray
  kind : Int
  shares : Int
  lend : Int
  borrow : Int
  queues : Int
  hand : Int
  length : Int
  wait : Int
  guess : Int
  deriving DecidableEq
def zLevel : Level := ⟨(⟨#[]⟩ : ByteArray), (0 : Int), (0 : Int), (0 : Int), (0 : Int), (0 : Int), (0 : Int), (0 : Int), (0 : Int), (0 : Int)⟩
structure Config where
  total : Int
  period : Int
  perSeat : Int
  most : Int
  levels : (List Level)
  schemas : (List Schema)
  deriving DecidableEq
def zConfig : Config := ⟨(0 : Int), (0 : Int), (0 : Int), (0 : Int), ([] : List Level), ([] : List Schema)⟩

/-- Byte number i of a text, 0 behind its end. -/
def byteAt (s : ByteArray) (i : Int) : Int := if h : i.toNat < s.size then ((s[i.toNat]'h).toNat : Int) else 0
/-- A small letter or a digit. -/
def plainB (c : Int) : Bool := (decide (97 ≤ c) && decide (c ≤ 122)) || (decide (48 ≤ c) && decide (c ≤ 57))
def nameC (c : Int) : Bool := plainB c || decide (c = 45)
/-- Is a text a name? -/
def nameB (s : ByteArray) : Bool := decide (1 ≤ s.size) && decide (s.size ≤ 32) && decide (97 ≤ byteAt s 0) && decide (byteAt s 0 ≤ 122) && decide (∀ i : Nat, i < s.size → nameC (byteAt s i) = true)
/-- A byte of a word. -/
def wordC (c : Int) : Bool := plainB c || (decide (65 ≤ c) && decide (c ≤ 90)) || decide (c = 46) || decide (c = 95) || decide (c = 58) || decide (c = 47) || decide (c = 64) || decide (c = 45)
/-- Is a text a word? -/
def wordB (s : ByteArray) : Bool := decide (1 ≤ s.size) && decide (s.size ≤ 64) && decide (s ≠ ⟨#[45]⟩) && decide (∀ i : Nat, i < s.size → wordC (byteAt s i) = true)
/-- Are these the words of a list? -/
def goodB (l : List ByteArray) : Bool := decide (l = [⟨#[42]⟩]) || (decide (l.length ≤ 8) && decide (∀ x ∈ l, wordB x = true) && decide l.Nodup)
def within (n a b : Int) : Bool := decide (a ≤ n) && decide (n ≤ b)
/-- A level's numbers that each kind but Exempt has. -/
def shareB (l : Level) : Bool := within l.shares 0 10000 && within l.lend 0 100 && within l.borrow (-1) 1000
/-- May a line tell this level? -/
def levelB (l : Level) : Bool := nameB l.name &&
  (if l.kind = 1 then decide (l.shares = 0 ∧ l.lend = 0 ∧ l.borrow = 0 ∧ l.queues = 0 ∧ l.hand = 0 ∧ l.length = 0 ∧ l.wait = 0 ∧ l.guess = 0)
   else if l.kind = 2 then decide (l.queues = 0 ∧ l.hand = 0 ∧ l.length = 0 ∧ l.wait = 0 ∧ l.guess = 0) && shareB l
   else if l.kind = 3 then within l.queues 1 64 && within l.hand 1 8 && within l.length 1 64 && within l.wait 1 1000 && within l.guess 1 1000 && shareB l
   else false)
/-- The digits of a number, 0 for what is below it. -/
def digitsT (n : Int) : ByteArray := ⟨(Lib.itoa (if n < 0 then 0 else n)).toArray⟩
/-- Words as a list. -/
def joinT (l : List ByteArray) : ByteArray := if goodB l then (if l = [] then ⟨#[45]⟩ else ⟨(Lib.join (l.map (·.data.toList)) [44]).toArray⟩) else ⟨#[]⟩
def ruleB (r : Rule) : Bool := goodB r.users && goodB r.groups && goodB r.verbs && goodB r.resources && goodB r.spaces
/-- May lines tell this schema? -/
def schemaB (s : Schema) : Bool := nameB s.name && nameB s.level && within s.rank 1 10000 && within s.tells 0 2 && decide (s.rules.length ≤ 8) && s.rules.all ruleB
/-- May a text tell this configuration? -/
def formedB (c : Config) : Bool := within c.total 0 4096 && within c.period 0 1000 && within c.perSeat 0 1048576 && within c.most 0 16 &&
  (decide (c.perSeat = 0) == decide (c.most = 0)) && decide (c.levels.length ≤ 16) && decide (c.schemas.length ≤ 32) &&
  c.levels.all levelB && decide (c.levels.map (·.name)).Nodup && c.schemas.all schemaB && decide (c.schemas.map (·.name)).Nodup
/-- A line of words. -/
def lineT (xs : List ByteArray) : List UInt8 := Lib.join (xs.map (·.data.toList)) [32] ++ [10]
/-- The word for how much a level may borrow. -/
def borrowW (n : Int) : ByteArray := if 0 ≤ n then digitsT n else ⟨#[97, 108, 108]⟩
/-- The words of a level's line. -/
def levelW (l : Level) : List ByteArray := if l.kind = 1 then [⟨#[108, 101, 118, 101, 108]⟩, l.name, ⟨#[101, 120, 101, 109, 112, 116]⟩]
  else [⟨#[108, 101, 118, 101, 108]⟩, l.name, digitsT l.shares, digitsT l.lend, borrowW l.borrow] ++ (if l.kind = 2 then [⟨#[114, 101, 106, 101, 99, 116]⟩]
    else [⟨#[113, 117, 101, 117, 101]⟩, digitsT l.queues, digitsT l.hand, digitsT l.length, digitsT l.wait, digitsT l.guess])
/-- The word for how flows are told apart. -/
def byW (n : Int) : ByteArray := if n = 1 then ⟨#[117, 115, 101, 114]⟩ else if n = 2 then ⟨#[115, 112, 97, 99, 101]⟩ else ⟨#[110, 111, 110, 101]⟩
def totalT (c : Config) : List UInt8 := if c.total > 0 then lineT [⟨#[116, 111, 116, 97, 108]⟩, digitsT c.total] else []
def periodT (c : Config) : List UInt8 := if c.period > 0 then lineT [⟨#[112, 101, 114, 105, 111, 100]⟩, digitsT c.period] else []
def seatsT (c : Config) : List UInt8 := if c.perSeat > 0 then lineT [⟨#[115, 101, 97, 116, 115]⟩, digitsT c.perSeat, digitsT c.most] else []
def ruleW (r : Rule) : List ByteArray := [⟨#[114, 117, 108, 101]⟩, joinT r.users, joinT r.groups, joinT r.verbs, joinT r.resources, joinT r.spaces]
def rulesT (l : List Rule) : List UInt8 := (l.map fun r => lineT (ruleW r)).flatten
def schemaW (s : Schema) : List ByteArray := [⟨#[115, 99, 104, 101, 109, 97]⟩, s.name, s.level, digitsT s.rank, byW s.tells]
def schemasT (l : List Schema) : List UInt8 := (l.map fun s => lineT (schemaW s) ++ rulesT s.rules).flatten
def levelsT (l : List Level) : List UInt8 := (l.map fun l => lineT (levelW l)).flatten
/-- A configuration's text, of whatever length. -/
def textT (c : Config) : List UInt8 := totalT c ++ periodT c ++ seatsT c ++ levelsT c.levels ++ schemasT c.schemas
/-- What Print answers. -/
def printT (c : Config) : ByteArray × Int := if formedB c = false then (⟨#[]⟩, 2) else if (textT c).length > 65536 then (⟨#[]⟩, 3) else (⟨(textT c).toArray⟩, 0)
end Go.Proofs.YtcgadbojojkchaaDoor.U
